/- HmZB: part of an evaluator of Go code over abstract states, proved sound over the model; used by the proof of the claimed statement. Conditions: none. -/
import Derived.Test.YtppjennamodfdaaGreatHmZA
set_option maxRecDepth 100000
set_option maxHeartbeats 2000000
set_option linter.unusedSimpArgs false
set_option linter.unusedVariables false
set_option linter.unusedSimpArgs false
set_option linter.unusedVariables false
namespace Go.Hl
open Go Go.RowKit
theorem X69 {α β:Type} (f:α→β) (n:Nat) (x:α):∀l:List (Nat×α),WW f (ins n x l)=ins n (f x) (WW f l)
 |[]=>rfl
 | (k,y)::l=>by
   simp only[ins,WW];split
   · rfl
   split
   · rfl
   simp only[WW,X69 f n x l]
theorem X3o {α β:Type} {f:α→β} {p:Nat×β}:∀{l:List (Nat×α)},p∈WW f l→∃x,(p.1,x)∈l∧p.2=f x
 |[],h=>by cases h
 | (k,y)::l,h=>by
   simp only[WW]at h;rcases List.mem_cons.1 h with rfl|h
   · exact⟨y,by simp,rfl⟩
   obtain⟨x,h1,h2⟩:=X3o h;exact⟨x,by simp[h1],h2⟩
theorem X7x {α β:Type} (f:α→β):∀{l:List (Nat×α)},QE l=true→QE (WW f l)=true
 |[],_=>rfl
 | (k,y)::l,h=>by
   simp only[WW];refine X0I (X7x f (ZY h)) fun p hp=>?_;obtain⟨x,h1,_⟩:=X3o hp;exact X1e h _ h1
theorem CV.menB_frz {d n:Nat} {c:CD} {x:CV} (h:(x.frz n c).menB d=true):x.menB d=true:=by
 induction x with
 |gd b x ih=>exact ih h
 |any=>exact h
 |c e=>exact h
 | own m=>
   simp only[CV.frz]at h;split at h
   · simp[CV.menB]at h
   exact h
 | at_ m off=>
   simp only[CV.frz]at h;split at h
   · split at h<;>simp[CV.menB]at h
   exact h
 | el m s' i off=>
   simp only[CV.frz]at h;split at h
   · simp[CV.menB]at h
   exact h
 | sub m i=>
   simp only[CV.frz]at h;split at h
   · simp[CV.menB]at h
   exact h
 | el2 m s' i j off=>
   simp only[CV.frz]at h;split at h
   · simp[CV.menB]at h
   exact h
 | fn f caps=>
   simp only[CV.frz]at h;split at h
   · simp[CV.menB]at h
   exact h
theorem TV.menB_frz {d n:Nat} {c:CD} {x:TV} (h:(x.frz n c).menB d=true):x.menB d=true:=by
 cases x with
 |one x=>exact CV.menB_frz h
 | agg xs=>
   simp only[TV.frz,TV.menB,List.any_map,List.any_eq_true,Function.comp]at h⊢;obtain⟨y,h1,h2⟩:=h;exact⟨y,h1,CV.menB_frz h2⟩
theorem RV.menB_frz {d n:Nat} {c:CD} {x:RV} (h:(x.frz n c).menB d=true):x.menB d=true:=by
 cases x with
 |v x=>exact TV.menB_frz h
 | tup xs=>
   simp only[RV.frz,RV.menB,List.any_map,List.any_eq_true,Function.comp]at h⊢;obtain⟨y,h1,h2⟩:=h;exact⟨y,h1,TV.menB_frz h2⟩
theorem Ob.menB_frz {d n:Nat} {c:CD} {x:Ob} (h:(x.frz n c).menB d=true):x.menB d=true:=by
 cases x with
 | box xs=>
   simp only[Ob.frz,Ob.menB,List.any_map,List.any_eq_true,Function.comp]at h⊢;obtain⟨y,h1,h2⟩:=h;exact⟨y,h1,CV.menB_frz h2⟩
 |row _ _ _=>exact h
 |mp _=>exact h
 |mat _ _ _ _=>exact h
 |refs _ _=>exact h
 |mps _ _=>exact h
 |it _ _=>exact h
theorem unm_frz {d n:Nat} {c:CD} {x:HS} (h:W6 d x=true):W6 d (x.frz n c)=true:=by
 unfold W6 at*;simp only[Bool.and_eq_true,List.all_eq_true,decide_eq_true_eq,Bool.not_eq_true',bne_iff_ne,ne_eq,HS.frz]at h⊢;obtain⟨⟨h1,h2⟩,h3,h4⟩:=h;refine⟨⟨h1,X7x _ (Z7 h2)⟩,fun p hp=>?_,fun p hp=>?_⟩
 · obtain⟨r,hr,e⟩:=X3o hp;rw[e];have:=h3 _ hr;cases hm:(RV.frz n c r).menB d with
   |false=>rfl
   |true=>rw[RV.menB_frz hm]at this;cases this
 obtain⟨o,ho,e⟩:=X3o hp;have:=h4 _ (X1J ho);refine⟨this.1,?_⟩;rw[e];cases hm:(Ob.frz n c o).menB d with
 |false=>rfl
 |true=>rw[Ob.menB_frz hm]at this;cases this.2
theorem X15 {n:Nat} {c:CD} {x:HS} {o:Oper} (h:Qf x o):Qf (x.frz n c) o:=fun hn d hd=>unm_frz (h hn d hd)
def X2M (o:Oper):Bool:=o.guard.isNone&&(match o.op with| .alloc _=>true|_=>false)
section
variable {P:Program} {ops:Array Oper}
theorem Xah (n:Nat) (c:CD):∀l:List Value,(l.map fun v=>CV.c (.lit v)).map (CV.frz n c)=l.map fun v=>CV.c (.lit v)
 |[]=>rfl
 |v::l=>by simp[CV.frz,Xah n c l]
theorem Xbb {o:Oper} {n:Nat} {c:CD} {ob:Ob} {t u:HS} (he:X2M o=true) (h:Stp P ops o (t.frz n c) u) (hn:Qf t o) (hl:lkp t.objs n=some ob):∃t1,Stp P ops o t t1∧lkp t1.objs n=some ob∧t1.frz n c=u:=by
 obtain⟨odst,oop,oty,opos,oaft,ogd⟩:=o;unfold X2M at he;simp only[Bool.and_eq_true,Option.isNone_iff_eq_none]at he;obtain⟨hg,ho⟩:=he;subst hg;split at ho
 · rename_i e;obtain⟨hok,b,hb,h⟩:=h
   have hb1:b=true:=by
    rw[X5r rfl]at hb;simpa using hb.symm
   subst hb1;rcases h with⟨h0,_⟩|⟨_,r,objs',q,st,fin,hw,hE,rfl⟩
   · cases h0
   cases hE with
   |neutral hc _=>simp[Q7]at hc
   |read hc _=>simp[Q7]at hc
   |write hc _=>simp[Q7]at hc
   |call hc _ _ _ _ _ _ _=>simp[Q7]at hc
   | alloc hc hd hev=>
     rename_i d ob';simp only at hd;subst hd;rcases hw with⟨_,rfl,rfl⟩|⟨hq,_⟩
     · have hun:=hn rfl d rfl;have hne:n≠d:=(Zr hun n ob (XG hl)).1
       have hsort:QE t.objs=true:=by
        unfold W6 at hun;simp only[Bool.and_eq_true]at hun;exact hun.1.2
       simp only[evA]at hev;split at hev
       · rename_i ti hti;simp only[Option.some.injEq,Prod.mk.injEq]at hev;obtain⟨rfl,rfl⟩:=hev;refine⟨{t with regs:=W3 (some d) (.v (.one (.at_ d 0))) t.regs,objs:=ins d (.box (ti.zero.map fun v=>.c (.lit v))) t.objs},⟨hok,true,X5r rfl,.inr ⟨hn,_,_,false,id,id,.inl ⟨rfl,rfl,rfl⟩,.alloc rfl rfl (by simp only[evA,hti]),rfl⟩⟩,?_,?_⟩
         · simp only;rw[Xz hne];exact hl
         simp only[HS.frz,W3];rw[X69,X12 hne _ hsort,X69]
         have e1:RV.frz n c (.v (.one (.at_ d 0)))=.v (.one (.at_ d 0)):=by
          simp only[RV.frz,TV.frz,CV.frz,if_neg (Ne.symm hne)]
         have e2:Ob.frz n c (.box (ti.zero.map fun v=>.c (.lit v)))=.box (ti.zero.map fun v=>.c (.lit v)):=by
          simp only[Ob.frz,Xah]
         rw[e1,e2];rfl
       cases hev
     cases hq
 cases ho
theorem X2T {hs:List (Nat×Nat)} {K K':HS→Prop}:∀(l:List Oper) (s:HS),(∀t,K t→K' t)→WI P ops hs l s K→WI P ops hs l s K'
 |[],s,hk,h=>hk s h
 |o::l,s,hk,⟨s1,h1,h2,h3⟩=>⟨s1,h1,h2,X2T l s1 hk h3⟩
theorem X4i {hs:List (Nat×Nat)} {K:HS→Prop}:∀(l m:List Oper) (s:HS),WI P ops hs (l++m) s K↔WI P ops hs l s fun t=>WI P ops hs m t K
 |[],m,s=>Iff.rfl
 | o::l,m,s=>by
   constructor
   · rintro⟨s1,h1,h2,h3⟩;exact⟨s1,h1,h2,(X4i l m s1).1 h3⟩
   rintro⟨s1,h1,h2,h3⟩;exact⟨s1,h1,h2,(X4i l m s1).2 h3⟩
theorem X1o {hs:List (Nat×Nat)} {K:HS→Prop} {m:List Oper}:∀(l:List Oper) (s:HS),(∀a∈l,∀o∈m,Qs a o=false)→(∀o∈m,Qf s o)→WI P ops hs l s K→WI P ops hs l s fun t=>K t∧∀o∈m,Qf t o
 |[],s,_,hn,h=>⟨h,hn⟩
 |a::l,s,hc,hn,⟨s1,h1,h2,h3⟩=>⟨s1,h1,h2,X1o l s1 (fun b hb=>hc b (by simp[hb])) (fun o ho=>QQ h1 (hc a (by simp) o ho) (hn o ho)) h3⟩
theorem XcB {hs:List (Nat×Nat)} {o:Oper} {s:HS} (he:X2M o=true):X6q hs o s:=by
 unfold X2M at he;simp only[Bool.and_eq_true]at he;obtain⟨_,ho⟩:=he;split at ho
 · rename_i e heq;refine⟨fun k n hh=>?_,fun hd x hx=>?_⟩
   · have:=X3V hh;rw[heq]at this;simp[XZ]at this
   rw[heq]at hx;simp[XZ]at hx
 cases ho
def X38 (P:Program) (ops:Array Oper) (hs:List (Nat×Nat)) (n:Nat) (c:CD) (ob:Ob) (l1 l2:List Oper) (s:HS) (K:HS→Prop):Prop:=
 WI P ops hs l1 s fun t=>lkp t.objs n=some ob∧WI P ops hs l2 (t.frz n c) K
theorem pullW {hs:List (Nat×Nat)} {n:Nat} {c:CD} {ob:Ob} {oi:Oper} {l1 a b:List Oper} {s:HS} {K:HS→Prop} (he:X2M oi=true)
  (hx1:∀j∈l1,X14 hs ops j oi=true) (hx2:∀j∈a,X14 hs ops j oi=true)
  (hc1:∀j∈l1++a,Qs oi j=false∧Qs j oi=false) (hc2:∀j∈b,Qs oi j=false) (hpw:(l1++(a++b)).Pairwise (fun a b=>Qs a b=false))
  (hni:Qf s oi) (hn:∀o∈l1++(a++b),Qf s o) (h:X38 P ops hs n c ob l1 (a++oi::b) s K):
  ∃s',Stp P ops oi s s'∧X38 P ops hs n c ob l1 (a++b) s' K∧∀o∈l1++(a++b),Qf s' o:=by
 obtain⟨p1,p2,p3⟩:=List.pairwise_append.1 hpw
 have hm:=X1o (m:=oi::(a++b)) l1 s (fun x hx o ho=>by
  rcases List.mem_cons.1 ho with rfl|ho
  · exact(hc1 x (by simp[hx])).2
  · exact p3 x hx o ho) (fun o ho=>by
  rcases List.mem_cons.1 ho with rfl|ho
  · exact hni
  exact hn o (List.mem_append_right _ ho)) h
 have hm2:WI P ops hs (l1++[oi]) s fun t1=>lkp t1.objs n=some ob∧WI P ops hs (a++b) (t1.frz n c) K:=by
  refine(X4i l1 [oi] s).2 (X2T l1 s (fun t ht=>?_) hm);obtain⟨⟨hl,hr⟩,hnm⟩:=ht;obtain⟨u,hu,_,hr2,_⟩:=pull (P:=P) (ops:=ops) (hs:=hs) (oi:=oi) (l2:=b) a (t.frz n c) hx2 (fun j hj=>hc1 j (by simp[hj])) hc2 p2 (X15 (hnm oi (by simp))) (fun o ho=>X15 (hnm o (List.mem_cons_of_mem _ ho))) hr;obtain⟨t1,ht1,hl1,rfl⟩:=Xbb he hu (hnm oi (by simp)) hl;exact⟨t1,ht1,XcB he,hl1,hr2⟩
 obtain⟨s',hs',_,hr3,hn3⟩:=pull (P:=P) (ops:=ops) (hs:=hs) (oi:=oi) (l2:=[]) l1 s hx1 (fun j hj=>hc1 j (by simp[hj])) (by simp) (by simpa using p1) hni (fun o ho=>hn o (by
  rw[List.append_nil]at ho
  exact List.mem_append_left _ ho)) hm2
 rw[List.append_nil]at hr3 hn3;refine⟨s',hs',hr3,fun o ho=>?_⟩;rcases List.mem_append.1 ho with h1|h2
 · exact hn3 o h1
 refine QQ hs' ?_ (hn o ho);rcases List.mem_append.1 h2 with h2|h2
 · exact(hc1 o (by simp[h2])).1
 exact hc2 o h2
theorem X3n {l:List Nat} {i:Nat} (hs:l.Pairwise (· < ·)) (hi:i∈l):∃a b,l=a++i::b∧l.filter (fun j=>decide (j≠i))=a++b∧(∀j∈a,j<i)∧∀j∈b,i<j:=by
 obtain⟨a,b,rfl⟩:=List.append_of_mem hi;obtain⟨h1,h2,h3⟩:=List.pairwise_append.1 hs;have h2':=(List.pairwise_cons.1 h2).1;have h3':∀j∈a,j<i:=fun j hj=>h3 j hj i (by simp);refine⟨a,b,rfl,?_,h3',h2'⟩;rw[List.filter_append,List.filter_cons];simp only[ne_eq,not_true_eq_false,decide_false,Bool.false_eq_true,if_false];rw[List.filter_eq_self.2 fun j hj=>by simp;exact Nat.ne_of_lt (h3' j hj),List.filter_eq_self.2 fun j hj=>by simp;exact Nat.ne_of_gt (h2' j hj)]
theorem X9D {listed:Array Bool} {i:Nat} (hsz:listed.size=ops.size) (hi:i∈Xt ops listed):Xt ops (listed.setIfInBounds i true)=(Xt ops listed).filter (fun j=>decide (j≠i)):=by
 have hii:i<listed.size:=by rw[hsz];exact(Qu.1 hi).1
 unfold Xt;rw[List.filter_filter];apply List.filter_congr;intro j hj;by_cases e:j=i
 · subst e;simp[hii]
 simp only[Array.getD_eq_getD_getElem?,Array.getElem?_setIfInBounds_ne (Ne.symm e)];simp[e]
theorem X1i (p:Nat):∀{l:List Nat},l.Pairwise (· < ·)→l=l.filter (fun j=>decide (j<p))++l.filter (fun j=>decide (p≤j))
 |[],_=>rfl
 | x::l,h=>by
   have h':=List.pairwise_cons.1 h;by_cases hx:x<p
   · rw[List.filter_cons_of_pos (by simpa using hx),List.filter_cons_of_neg (by simpa using hx),List.cons_append];exact congrArg _ (X1i p h'.2)
   have e1:l.filter (fun j=>decide (j<p))=[]:=by
    rw[List.filter_eq_nil_iff];intro j hj;have:=h'.1 j hj;simp only[decide_eq_true_eq];omega
   have e2:l.filter (fun j=>decide (p≤j))=l:=by
    rw[List.filter_eq_self];intro j hj;have:=h'.1 j hj;simp only[decide_eq_true_eq];omega
   rw[List.filter_cons_of_neg (by simpa using hx),List.filter_cons_of_pos (by simp only[decide_eq_true_eq];omega),e1,e2,List.nil_append]
def X8p (ops:Array Oper) (p:Nat):Bool:=
 (List.range ops.size).all fun i=>decide (i<p)||((List.range p).all fun j=>X6f ops ops.size i j)||match ops[i]? with
  |some o=>X2M o
  |none=>true
theorem Xb7 {hs : List (Nat×Nat)} {w0:World} {B:Nat→Prop} {π:Nat→Option Value} {K:HS→Prop} {Q:Exit→Act→World→Prop} (p n:Nat) (e:TypeId) (sz:Nat) (rows:List (List CD)) (hd:X2t hs ops=true) (hb:X8p ops p=true):∀(fuel:Nat) (listed:Array Bool) (s:HS) (F:Nat→Prop) (γ:Nat→Value) (a:Act) (w:World),
  listed.size=ops.size→(∀i o,ops[i]? =some o→listed.getD i false=true→∀e∈o.after,Region.binds .any e=true→listed.getD e.on false=true)→
  (Xt ops listed).length≤fuel→(∀o∈Q5 ops (Xt ops listed),Qf s o)→Rel w0 B π F γ s a w→
  X38 P ops hs n (.sl sz rows) (.row e sz rows) (Q5 ops ((Xt ops listed).filter fun j=>decide (j<p))) (Q5 ops ((Xt ops listed).filter fun j=>decide (p≤j))) s K→
  (∀s' F' γ' a' w',K s'→(∀b,F b→F' b)→(∀b,F' b→F b∨¬B b)→Rel w0 B π F' γ' s' a' w'→Q .normal a' w')→wpAny P .any ops Q fuel listed a w:=by
 -- nothing left before the cut: the row is frozen, and the Xt runs as0 it did
 have fin:∀(fuel:Nat) (listed:Array Bool) (s:HS) (F:Nat→Prop) (γ:Nat→Value) (a:Act) (w:World),
  listed.size=ops.size→(∀i o,ops[i]? =some o→listed.getD i false=true→∀e∈o.after,Region.binds .any e=true→listed.getD e.on false=true)→
  (Xt ops listed).length≤fuel→(∀o∈Q5 ops (Xt ops listed),Qf s o)→Rel w0 B π F γ s a w→
  X38 P ops hs n (.sl sz rows) (.row e sz rows) (Q5 ops ((Xt ops listed).filter fun j=>decide (j<p))) (Q5 ops ((Xt ops listed).filter fun j=>decide (p≤j))) s K→
  (Xt ops listed).filter (fun j=>decide (j<p))=[]→
  (∀s' F' γ' a' w',K s'→(∀b,F b→F' b)→(∀b,F' b→F b∨¬B b)→Rel w0 B π F' γ' s' a' w'→Q .normal a' w')→wpAny P .any ops Q fuel listed a w:=by
  intro fuel listed s F γ a w hsz hdc hlen hn hr hw h0 hK;have hcut:=X1i p (Qn (ops:=ops) listed);rw[h0,List.nil_append]at hcut;unfold X38 at hw;rw[h0,←hcut]at hw;have hw:lkp s.objs n=some (.row e sz rows)∧WI P ops hs (Q5 ops (Xt ops listed)) (s.frz n (.sl sz rows)) K:=hw;obtain⟨F1,γ1,h1,h2,hr1⟩:=XJ n hw.1 w0 B π F γ a w hr;exact X6T hd fuel listed _ F1 γ1 a w hsz hdc hlen (fun o ho=>X15 (hn o ho)) hr1 hw.2 fun s' F' γ' a' w' hk h3 h4 h5=>hK s' F' γ' a' w' hk (fun b hb=>h3 b (h1 b hb)) (fun b hb=>(h4 b hb).elim (h2 b) .inr) h5
 intro fuel
 induction fuel with
 | zero=>
   intro listed s F γ a w hsz hdc hlen hn hr hw hK;have h0:Xt ops listed=[]:=List.eq_nil_of_length_eq_zero (by omega);exact fin 0 listed s F γ a w hsz hdc hlen hn hr hw (by rw[h0];rfl) hK
 | succ fuel ih=>
   intro listed s F γ a w hsz hdc hlen hn hr hw hK;by_cases hl1:(Xt ops listed).filter (fun j=>decide (j<p))=[]
   · exact fin _ listed s F γ a w hsz hdc hlen hn hr hw hl1 hK
   obtain⟨j0,hj0⟩:=List.exists_mem_of_ne_nil _ hl1;have hj0':=List.mem_filter.1 hj0;have hj0p:j0<p:=by simpa using hj0'.2
   obtain⟨hj0s,hj0u⟩:=Qu.1 hj0'.1
   have unl:∀j,j∈Xt ops listed→¬listed.getD j false=true:=by
    intro j hj hjl;have hjun:=(Qu.1 hj).2;have hjs:j<listed.size:=by rw[hsz];exact(Qu.1 hj).1
    rw[Array.getD_eq_getD_getElem?,Array.getElem?_eq_getElem hjs]at hjl hjun;simp only[Option.getD_some]at hjl hjun;rw[hjl]at hjun;cases hjun
   refine⟨fun h0=>?_,fun i hi=>?_⟩
   · -- something can always come up
     exfalso;have hne:Xt ops listed≠[]:=fun h=>by rw[h]at hj0';cases hj0'.1
     cases hres:Xt ops listed with
     |nil=>exact hne hres
     | cons i l=>
       have hi:i∈Xt ops listed:=by rw[hres];simp
       obtain⟨hlt,hun⟩:=Qu.1 hi
       have:i∈Region.ready .any ops listed:=by
        refine WY.2 ⟨hlt,hun,ops[i],by simp[hlt],fun e he hb=>?_⟩;have hon:=(ZB hd (i:=i) (o:=ops[i]) (by simp[hlt])).1 e he hb
        have hnot:e.on∉Xt ops listed:=by
         intro hm;have hs:=Qn (ops:=ops) listed;rw[hres]at hs hm;rcases List.mem_cons.1 hm with e'|hm
         · omega
         have:=(List.pairwise_cons.1 hs).1 _ hm;omega
        rw[Qu]at hnot;have hel:e.on<listed.size:=by omega
        rw[Array.getD_eq_getD_getElem?,Array.getElem?_eq_getElem hel]at hnot⊢;simp only[Option.getD_some,not_and,Bool.not_eq_false]at hnot⊢;exact hnot (by omega)
       rw[h0]at this;cases this
   obtain⟨hlt,hun,o,ho,hpre⟩:=WY.1 hi;have hir:i∈Xt ops listed:=Qu.2 ⟨hlt,hun⟩;have hset:=X9D hsz hir
   -- what is before i and still to come is independent of it
   have hx:∀k∈Xt ops listed,k<i→∀q,ops[k]? =some q→X14 hs ops q o=true:=by
    intro k hk hki q hq;refine((ZB hd ho).2 k q hki hq).1.resolve_left fun hpd=>?_;exact unl k hk (X0u hdc ops.size i k o ho hpre hpd)
   have hcl:∀k q,k≠i→ops[k]? =some q→Qs o q=false∧Qs q o=false:=by
    intro k q hki hq;rcases Nat.lt_or_gt_of_ne hki with h|h
    · have:=((ZB hd ho).2 k q h hq).2;exact⟨this.2,this.1⟩
    exact((ZB hd hq).2 i o h ho).2
   have hcut:=X1i p (Qn (ops:=ops) (listed.setIfInBounds i true));have hpwall:(Q5 ops (Xt ops (listed.setIfInBounds i true))).Pairwise (fun a b=>Qs a b=false):=W9 hd _ (Qn _)
   suffices hst:∃s',Stp P ops o s s'∧X38 P ops hs n (.sl sz rows) (.row e sz rows) (Q5 ops ((Xt ops (listed.setIfInBounds i true)).filter fun j=>decide (j<p))) (Q5 ops ((Xt ops (listed.setIfInBounds i true)).filter fun j=>decide (p≤j))) s' K∧∀o∈Q5 ops (Xt ops (listed.setIfInBounds i true)),Qf s' o by
    obtain⟨s',hst,hw',hn'⟩:=hst;refine X4L ho hr hst fun F' γ' a' w' h3 h4 hr2=>?_;refine ih (listed.setIfInBounds i true) s' F' γ' a' w' (by simpa using hsz) ?_ ?_ hn' hr2 hw' fun s3 F3 γ3 a3 w3 hk3 h5 h6 hr3=>?_
    · intro k q hq hk e' hee hb
      have hmono:∀x,listed.getD x false=true→(listed.setIfInBounds i true).getD x false=true:=by
       intro x hx';by_cases ex:x=i
       · subst ex;simp[hsz,hlt]
       rw[Array.getD_eq_getD_getElem?,Array.getElem?_setIfInBounds_ne (Ne.symm ex),←Array.getD_eq_getD_getElem?];exact hx'
      by_cases ek:k=i
      · subst ek;rw[ho]at hq;cases hq;exact hmono _ (hpre e' hee hb)
      rw[Array.getD_eq_getD_getElem?,Array.getElem?_setIfInBounds_ne (Ne.symm ek),←Array.getD_eq_getD_getElem?]at hk;exact hmono _ (hdc k q hq hk e' hee hb)
    · obtain⟨x,y,e1,e2,_,_⟩:=X3n (Qn (ops:=ops) listed) hir;rw[hset,e2];rw[e1]at hlen;simp only[List.length_append,List.length_cons]at hlen⊢;omega
    exact hK s3 F3 γ3 a3 w3 hk3 (fun b hb=>h5 b (h3 b hb)) (fun b hb=>(h6 b hb).elim (h4 b) .inr) hr3
   have hnsub:∀q∈Q5 ops (Xt ops (listed.setIfInBounds i true)),Qf s q:=by
    intro q hq;obtain⟨k,hk,hkq⟩:=Wq.1 hq;rw[hset]at hk;exact hn q (Wq.2 ⟨k,(List.mem_filter.1 hk).1,hkq⟩)
   have hno:Qf s o:=hn o (Wq.2 ⟨i,hir,ho⟩)
   have clq:∀q∈Q5 ops (Xt ops (listed.setIfInBounds i true)),Qs o q=false∧Qs q o=false:=by
    intro q hq;obtain⟨k,hk,hkq⟩:=Wq.1 hq;rw[hset]at hk;exact hcl k q (by simpa using(List.mem_filter.1 hk).2) hkq
   have swapf:∀f:Nat→Bool,(Xt ops (listed.setIfInBounds i true)).filter f=((Xt ops listed).filter f).filter (fun j=>decide (j≠i)):=by
    intro f;rw[hset,List.filter_filter,List.filter_filter];exact List.filter_congr fun j _=>Bool.and_comm _ _
   by_cases hip:i<p
   · -- before the cut
     have hi1:i∈(Xt ops listed).filter (fun j=>decide (j<p)):=List.mem_filter.2 ⟨hir,by simpa using hip⟩;obtain⟨x,y,e1,e2,hxl,_⟩:=X3n (List.Pairwise.filter _ (Qn (ops:=ops) listed)) hi1;have e3:(Xt ops (listed.setIfInBounds i true)).filter (fun j=>decide (j<p))=x++y:=by rw[swapf,e2]
     have e4:(Xt ops (listed.setIfInBounds i true)).filter (fun j=>decide (p≤j))=(Xt ops listed).filter (fun j=>decide (p≤j)):=by
      rw[swapf];refine List.filter_eq_self.2 fun j hj=>?_;have:p≤j:=by simpa using(List.mem_filter.1 hj).2
      simp only[ne_eq,decide_eq_true_eq];omega
     unfold X38 at hw;rw[e1,XN,X1c ho]at hw;rw[hcut,e3,e4,XN,XN]at hpwall hnsub clq
     have hm:=X1o (m:=Q5 ops ((Xt ops listed).filter fun j=>decide (p≤j))) (Q5 ops x++o::Q5 ops y) s (fun q hq z hz=>by
      obtain⟨pa,pb,pc⟩:=List.pairwise_append.1 hpwall;rcases List.mem_append.1 hq with h|h
      · exact pc q (by simp[h]) z hz
      rcases List.mem_cons.1 h with rfl|h
      · exact(clq z (by simp[hz])).1
      exact pc q (by simp[h]) z hz) (fun z hz=>hnsub z (by simp[hz])) hw
     obtain⟨s',h1,_,h2,h3⟩:=pull (P:=P) (ops:=ops) (hs:=hs) (oi:=o) (l2:=Q5 ops y) (Q5 ops x) s (fun q hq=>by
       obtain⟨k,hk,hkq⟩:=Wq.1 hq;have:k∈(Xt ops listed).filter (fun j=>decide (j<p)):=by rw[e1];simp[hk]
       exact hx k (List.mem_filter.1 this).1 (hxl k hk) q hkq) (fun q hq=>clq q (by simp[hq])) (fun q hq=>(clq q (by simp[hq])).1) (List.pairwise_append.1 hpwall).1 hno (fun q hq=>hnsub q (List.mem_append_left _ hq)) hw
     refine⟨s',h1,?_,fun q hq=>?_⟩
     · unfold X38;rw[e3,e4,XN];exact h2
     rw[hcut,e3,e4,XN]at hq;exact QQ h1 (clq q (by rw[←XN];exact hq)).1 (hnsub q (by rw[←XN];exact hq))
   -- behind it: a new block
   have hearly:X2M o=true:=by
    unfold X8p at hb;rw[List.all_eq_true]at hb;have:=hb i (by simpa using hlt);simp only[ho,Bool.or_eq_true,decide_eq_true_eq,List.all_eq_true]at this;rcases this with(h|h)|h
    · exact absurd h hip
    · exfalso;exact unl j0 hj0'.1 (X0u hdc ops.size i j0 o ho hpre (h j0 (by simpa using hj0p)))
    exact h
   have hi2:i∈(Xt ops listed).filter (fun j=>decide (p≤j)):=List.mem_filter.2 ⟨hir,by simp only[decide_eq_true_eq];omega⟩;obtain⟨x,y,e1,e2,hxl,_⟩:=X3n (List.Pairwise.filter _ (Qn (ops:=ops) listed)) hi2;have e3:(Xt ops (listed.setIfInBounds i true)).filter (fun j=>decide (p≤j))=x++y:=by rw[swapf,e2]
   have e4:(Xt ops (listed.setIfInBounds i true)).filter (fun j=>decide (j<p))=(Xt ops listed).filter (fun j=>decide (j<p)):=by
    rw[swapf];refine List.filter_eq_self.2 fun j hj=>?_;have:j<p:=by simpa using(List.mem_filter.1 hj).2
    simp only[ne_eq,decide_eq_true_eq];omega
   rw[e1,XN,X1c ho]at hw;rw[hcut,e3,e4,XN,XN]at hpwall hnsub clq
   obtain ⟨s', h1, h2, h3⟩:=pullW (P:=P) (ops:=ops) (hs:=hs) hearly (fun q hq=>by
     obtain⟨k,hk,hkq⟩:=Wq.1 hq;have hk':=List.mem_filter.1 hk
     exact hx k hk'.1 (by have:k<p:=by simpa using hk'.2
                          omega) q hkq) (fun q hq=>by
     obtain⟨k,hk,hkq⟩:=Wq.1 hq;have:k∈(Xt ops listed).filter (fun j=>decide (p≤j)):=by rw[e1];simp[hk]
     exact hx k (List.mem_filter.1 this).1 (hxl k hk) q hkq) (fun q hq=>clq q (by
     rcases List.mem_append.1 hq with h|h
     · simp[h]
     simp[h])) (fun q hq=>(clq q (by simp[hq])).1) hpwall hno hnsub hw
   refine⟨s',h1,?_,fun q hq=>?_⟩
   · rw[e3,e4,XN];exact h2
   rw[hcut,e3,e4,XN,XN]at hq;exact h3 q hq
theorem XcE {id:Nat} (hs:List (Nat×Nat)) (p n:Nat) (cs1 cs2:List CR) {e:TypeId} {sz:Nat} {rows:List (List CD)} {s t s':HS} {p1 p2:Prop} {Q:Exit→HS→Prop} (hm:P.follows .mixedOrders=true) (hd:X2t hs ops=true) (hb:X8p ops p=true) (hc:X0z ops.toList s=true)
  (h1:X4d P ops hs (ops.toList.take p) s cs1=some (t,p1)) (hp1:p1) (hl:lkp t.objs n=some (.row e sz rows)) (h2:X4d P ops hs (ops.toList.drop p) (t.frz n (.sl sz rows)) cs2=some (s',p2)) (hp2:p2) (hq:Q .normal s'):HT P (.region id ops true) s Q:=by
 intro w0 B π F γ a w hr
 have hrest:Xt ops (Array.replicate ops.size false)=List.range ops.size:=by
  unfold Xt;refine List.filter_eq_self.2 fun i hi=>?_;have:i<ops.size:=by simpa using hi
  simp[this]
 have hopers:Q5 ops (List.range ops.size)=ops.toList:=by
  unfold Q5;have:=X4h ops.toList;simpa using this
 have hok:∀o∈ops.toList,Qf s o:=by
  intro o ho hn d hdd;unfold X0z at hc;rw[List.all_eq_true]at hc;have:=hc o ho;simpa[hn,hdd]using this
 have hpw:ops.toList.Pairwise (fun a b=>Qs a b=false):=by
  rw[←hopers];exact W9 hd _ List.pairwise_lt_range
 have hcut:ops.toList.take p++ops.toList.drop p=ops.toList:=List.take_append_drop p _;have hpw2:=hpw;rw[←hcut]at hpw2;obtain⟨q1,q2,q3⟩:=List.pairwise_append.1 hpw2
 have e1:Q5 ops ((List.range ops.size).filter fun j=>decide (j<p))=ops.toList.take p:=by
  have:(List.range ops.size).filter (fun j=>decide (j<p))=(List.range ops.size).take p:=by
   have hr:∀m,(List.range m).filter (fun j=>decide (j<p))=(List.range m).take p:=by
    intro m
    induction m with
    |zero=>simp
    | succ m ih=>
      rw[List.range_succ,List.filter_append,ih,List.take_append];simp only[List.length_range];congr 1;by_cases hmp:m<p
      · rw[List.filter_cons_of_pos (by simpa using hmp)];simp only[List.filter_nil];rw[List.take_of_length_le (by simp;omega)]
      rw[List.filter_cons_of_neg (by simpa using hmp)];simp only[List.filter_nil];rw[show p - m=0 by omega,List.take_zero]
   exact hr _
  have h4:∀(l:List Nat),Q5 ops l=l.filterMap (ops[·]?):=fun l=>rfl;rw[this]
  have hlen:∀k,k≤ops.size→Q5 ops ((List.range ops.size).take k)=ops.toList.take k:=by
   intro k
   induction k with
   |zero=>intro _;simp[Q5]
   | succ k ih=>
     intro hk;have hk':k<ops.size:=hk;rw[List.take_add_one,XN,ih (by omega),List.take_add_one];simp[Q5,hk']
  by_cases hps:p≤ops.size
  · exact hlen p hps
  rw[List.take_of_length_le (by simp;omega),List.take_of_length_le (by simp;omega),hopers]
 have e2:Q5 ops ((List.range ops.size).filter fun j=>decide (p≤j))=ops.toList.drop p:=by
  have h5:=X1i p (l:=List.range ops.size) List.pairwise_lt_range
  have h6:Q5 ops (List.range ops.size)=Q5 ops ((List.range ops.size).filter fun j=>decide (j<p))++Q5 ops ((List.range ops.size).filter fun j=>decide (p≤j)):=by
   rw[←XN,←h5]
  rw[hopers,e1]at h6;exact(List.append_cancel_left (hcut.trans h6)).symm
 have hok1:∀o∈ops.toList.take p,Qf s o:=fun o ho=>hok o (List.mem_of_mem_take ho)
 have hruns:X38 P ops hs n (.sl sz rows) (.row e sz rows) (ops.toList.take p) (ops.toList.drop p) s (Q .normal):=by
  have ha:=ZO (K:=fun u=>u=t) (ops.toList.take p) s t cs1 p1 q1 hok1 h1 hp1 rfl;have hb:=X1o (m:=ops.toList.drop p) _ s (fun a ha o ho=>q3 a ha o ho) (fun o ho=>hok o (List.mem_of_mem_drop ho)) ha;refine X2T _ s (fun u hu=>?_) hb;obtain⟨rfl,hnu⟩:=hu;exact⟨hl,ZO _ _ _ cs2 p2 q2 (fun o ho=>X15 (hnu o ho)) h2 hp2 hq⟩
 refine wp_region_any hm (Xb7 (P:=P) (ops:=ops) (hs:=hs) (w0:=w0) (B:=B) (π:=π) (K:=Q .normal) p n e sz rows hd hb ops.size (Array.replicate ops.size false) s F γ a {w with drawn:=w.drawn+1} (by simp) ?_ ?_ ?_ ?_ ?_ fun s' F' γ' a' w' hk h1 h2 h3=>⟨s',F',γ',hk,h1,h2,h3⟩)
 · intro i o ho hl;have hi:i<ops.size:=(Array.getElem?_eq_some_iff.1 ho).1;simp[hi]at hl
 · rw[hrest];simp
 · rw[hrest,hopers];exact hok
 · exact⟨hr.heap.drew,hr.defers,hr.nt,fun k r hk=>(hr.regs k r hk).mono (w:=w) (w':={w with drawn:=w.drawn+1}) (fun _ h=>h) fun _ _=>rfl⟩
 rw[hrest,e1,e2];exact hruns
end
end Go.Hl
