/- Part 13: contracts of functions of the program and of the reference, and plain facts about what they compute; used by the proof of the claimed statement. Conditions: as each theorem states. -/
import Derived.Test.YtppjennamodfdaaGreatK12
import Derived.Test.YtppjennamodfdaaGreatK11
import Derived.Test.YtppjennamodfdaaGreatK8
import Derived.Test.YtppjennamodfdaaGreatHmZM
import Derived.Test.YtppjennamodfdaaGreatRows
set_option linter.unusedSimpArgs false
set_option linter.unusedVariables false
set_option linter.unnecessarySimpa false
set_option maxRecDepth 100000
set_option maxHeartbeats 2000000
namespace Go.Proofs.YtppjennamodfdaaGreat
open Go Go.Hl
def d0B (L:List St) (ar:List Int) (rd:List (List Nat)) (t s:Nat):Bool:=
 decide (s=t)||(match L[t]?,ar[t]?,rd[t]? with
  | some q,some a,some r=>decide (a=(s:Int))||(match L[s]? with
    |some w=>((decide (w.do_=0)||decide (w.do_=5))&&rvB w.var q.term)&&decide ((s:Int)∈r.map Int.ofNat)
    |none=>false)
  |_,_,_=>false)
noncomputable def d0F (f:Fl):Nat→Nat→Bool:=d0B (flL f.body) (arL f.body (-1) 0) (rdT f)
theorem rc_asg {N:List Nd} {steps:List St} {nv to d:Nat} (h:Rc N steps nv to d):∀w,steps[d]? =some w→w.do_=0∨w.do_=5:=by
 induction h with
 | entry _ _ _ hv=>
   intro w hw;have:=(List.getElem?_eq_some_iff.1 hw).1;omega
 |pass _ _ _ _ _ ih=>exact ih
 | gen hx h0 ht ha=>
   intro w hw;unfold Ql at ha;rw[hw]at ha;simpa using(by simpa using ha:_∧_).2
theorem rdT_asg {f:Fl}:∀r∈rdT f,∀d∈r,∀w,(flL f.body)[d]? =some w→w.do_=0∨w.do_=5:=by
 have key:=Xbu (P:=fun r=>∀d∈r,∀w,(flL f.body)[d]? =some w→w.do_=0∨w.do_=5) (fun d hd=>by cases hd) (szL f.body) ((grN f.body).zip (rcL (grN f.body) (flL f.body) f.vars.length)) (fun p hp=>by
  have h2:=(List.of_mem_zip hp).2;simp only[rcL,List.mem_map]at h2;obtain⟨to,_,h3⟩:=h2;intro d hd;rw[←h3]at hd;have:=(List.mem_filter.1 hd).2
  exact rc_asg (N:=grN f.body) (steps:=flL f.body) (nv:=f.vars.length) (to:=to) (by simpa using this))
 exact key
theorem form_at {f:Fl} (h0:Qf f=0) {t:Nat} {q:St} (h:(flL f.body)[t]? =some q) (hb:Wj f.body=true):W3 f.vars false q.term=true:=by
 have hw:=(Xbd hb h0).1
 have key:∀l:List St,wfL f.vars f.hats.length l=true→∀q∈flL l,W3 f.vars false q.term=true:=by
  apply St.lind
  · intro _ q hq;simp[flL]at hq
  intro d c v n t a b bs l ia ib il hw q hq;simp only[wfL,wfS,Bool.and_eq_true]at hw;simp only[flL,flS,List.cons_append,List.mem_cons,List.mem_append]at hq;rcases hq with rfl|(hq|hq)|hq
  · exact hw.1.1
  · exact ia hw.1.2.2.2.2.2.1 q hq
  · exact ib hw.1.2.2.2.2.2.2 q hq
  exact il hw.2 q hq
 exact key _ hw q (List.mem_of_getElem? h)
theorem Xay {f:Fl} (h:Sm f) (h0:Qf f=0) (t s:Nat):d0F f t s=true↔s=t∨s∈(Q3 f)[t]?.getD []:=by
 have hlen:=XT f.body;have har:=Z7 f.body (-1) 0;have hrl:(rdT f).length=szL f.body:=X3J _ _;unfold d0F d0B;by_cases ht:t<szL f.body
 · have e1:(flL f.body)[t]? =some ((flL f.body)[t]'(by omega)):=List.getElem?_eq_getElem _;have e2:(arL f.body (-1) 0)[t]? =some ((arL f.body (-1) 0)[t]'(by omega)):=List.getElem?_eq_getElem _;have e3:(rdT f)[t]? =some ((rdT f)[t]'(by omega)):=List.getElem?_eq_getElem _;have hf:=form_at h0 e1 h.bnd;have hasg:=rdT_asg (f:=f) _ (List.mem_of_getElem? e3);rw[dir_mem e1 e2 e3];simp only[e1,e2,e3];obtain⟨q,hq⟩:∃x,(flL f.body)[t]'(by omega)=x:=⟨_,rfl⟩;obtain⟨a,ha⟩:∃x,(arL f.body (-1) 0)[t]'(by omega)=x:=⟨_,rfl⟩;obtain⟨r,hr⟩:∃x,(rdT f)[t]'(by omega)=x:=⟨_,rfl⟩;simp only[hq,ha,hr]at hf hasg⊢;have hbnd:=X60 f.body (-1) 0 (by omega) a (by rw[←ha];exact List.getElem_mem _)
   have hmr:((s:Int)∈r.map Int.ofNat)↔s∈r:=by
    rw[List.mem_map];constructor
    · rintro⟨x,hx,he⟩;have:x=s:=Int.ofNat.inj he
      rwa [←this]
    exact fun hx=>⟨s,hx,rfl⟩
   simp only[Bool.or_eq_true,decide_eq_true_eq];refine or_congr Iff.rfl (or_congr ⟨fun h=>⟨by omega,by omega⟩,fun⟨h1,h2⟩=>by omega⟩ ?_);by_cases hs:s<szL f.body
   · have e4:(flL f.body)[s]? =some ((flL f.body)[s]'(by omega)):=List.getElem?_eq_getElem _;obtain⟨w,hw⟩:∃x,(flL f.body)[s]'(by omega)=x:=⟨_,rfl⟩;rw[hw]at e4;have hvo:QF (flL f.body) s=w.var:=by unfold QF;rw[e4]
     rw[e4,hvo];simp only[Bool.and_eq_true,Bool.or_eq_true,decide_eq_true_eq];rw[Xbc w.var q.term hf,hmr];exact⟨fun⟨⟨_,h2⟩,h3⟩=>⟨by omega,h3,h2⟩,fun⟨_,h3,h2⟩=>⟨⟨hasg s h3 w e4,h2⟩,h3⟩⟩
   rw[List.getElem?_eq_none (by omega)];simp only[Bool.false_eq_true,false_iff,not_and];intro h1;omega
 rw[List.getElem?_eq_none (by omega),List.getElem?_eq_none (l:=Q3 f) (by rw[QL];omega)];simp
theorem cl_one {L:List (List Nat)} (l:List Nat) (d:Nat):Cl L l d↔∃t,t∈l∧Cl L [t] d:=by
 constructor
 · intro h
   induction h with
   |base h=>exact⟨_,h,.base (by simp)⟩
   | step _ h2 ih=>
     obtain⟨t,h3,h4⟩:=ih;exact⟨t,h3,.step h4 h2⟩
 rintro⟨t,h1,h2⟩;exact Cl.mono (fun d hd=>by rw[List.mem_singleton.1 hd];exact .base h1) h2
theorem X58 {f:Fl} (h:Sm f) (h0:Qf f=0) {t s:Nat} (ht:t<szL f.body) (hs:s<szL f.body):fwM (szL f.body) (d0F f) (szL f.body) t s=true↔Cl (Q3 f) [t] s:=by
 have hn:(Q3 f).length=szL f.body:=by rw[QL,XT]
 constructor
 · intro hm;refine X6O (Q:=fun a b=>Cl (Q3 f) [a] b) (fun a b c h1 h2=>Cl.mono (fun d hd=>by rw[List.mem_singleton.1 hd];exact h1) h2) (fun a b hab=>?_) _ t s hm;rcases(Xay h h0 a b).1 hab with rfl|hab
   · exact .base (by simp)
   exact .step (.base (by simp)) hab
 intro hc
 have key:∀s,Cl (Q3 f) [t] s→s<szL f.body∧fwM (szL f.body) (d0F f) (szL f.body) t s=true:=by
  intro s hc
  induction hc with
  | base hb=>
    rw[List.mem_singleton.1 hb];exact⟨ht,X5Z _ _ _ _ _ ((Xay h h0 t t).2 (.inl rfl))⟩
  | step _ h2 ih=>
    rename_i d x _;obtain⟨i1,i2⟩:=ih
    have hx:x<szL f.body:=by
     have e:(Q3 f)[d]? =some ((Q3 f)[d]'(by omega)):=List.getElem?_eq_getElem _;rw[e]at h2;have:=(Za h _ (List.mem_of_getElem? e)).2 x h2;omega
    exact⟨hx,X7p _ _ _ (Nat.le_refl _) t x d ht hx i1 i2 (X5Z _ _ _ _ _ ((Xay h h0 d x).2 (.inr h2)))⟩
 exact(key s hc).2
theorem X4z (n:Nat) (p:Nat→Bool) (t:List Nat) (h:∀d,d<n→(p d=true↔d∈t)):(List.range n).filter p=X40 n t:=by
 unfold X40;refine List.filter_congr fun d hd=>?_;rw[Bool.eq_iff_iff,decide_eq_true_eq];exact h d (List.mem_range.1 hd)
theorem back_eq {f:Fl} (h:Sm f) (h0:Qf f=0) {q:List Int} (hq:okQ (szL f.body) q):((List.range (szL f.body)).filter fun s=>q.any fun t=>fwM (szL f.body) (d0F f) (szL f.body) t.toNat s)=bwL f q:=by
 have hn:(Q3 f).length=szL f.body:=by rw[QL,XT]
 unfold bwL;rw[hn];refine X4z _ _ _ fun d hd=>?_;have hc:=(WJ (X44 h) (l0:=QT q) (by rw[hn];exact hq.nat)).2 d;rw[hc,cl_one,List.any_eq_true];constructor
 · rintro⟨t,h1,h2⟩;have:=hq t h1;exact⟨t.toNat,List.mem_map.2 ⟨t,h1,rfl⟩,(X58 h h0 (by omega) hd).1 h2⟩
 rintro⟨t,h1,h2⟩;obtain⟨x,hx,rfl⟩:=List.mem_map.1 h1;have:=hq x hx;exact⟨x,hx,(X58 h h0 (by omega) hd).2 h2⟩
theorem forw_eq {f:Fl} (h:Sm f) (h0:Qf f=0) {q:List Int} (hq:okQ (szL f.body) q):((List.range (szL f.body)).filter fun t=>q.any fun s=>fwM (szL f.body) (d0F f) (szL f.body) t s.toNat)=fwL f q:=by
 have hn:(Q3 f).length=szL f.body:=by rw[QL,XT]
 have hl:=lk_fw h;have hr:∀x y:Nat,y∈(X0R (Q3 f))[x]?.getD []↔x∈(Q3 f)[y]?.getD []:=fun x y=>X6f (fun l hl=>(Za h l hl).2) x y;unfold fwL;rw[hn];refine X4z _ _ _ fun d hd=>?_;have hc:=(WJ hl.ok (l0:=QT q) (by rw[hl.len,hn];exact hq.nat)).2 d;rw[hc,cl_one,List.any_eq_true];constructor
 · rintro⟨s,h1,h2⟩;have:=hq s h1;exact⟨s.toNat,List.mem_map.2 ⟨s,h1,rfl⟩,Cl.rev hr ((X58 h h0 hd (by omega)).1 h2)⟩
 rintro⟨s,h1,h2⟩;obtain⟨x,hx,rfl⟩:=List.mem_map.1 h1;have:=hq x hx;exact⟨x,hx,(X58 h h0 hd (by omega)).2 (Cl.rev (fun x y=>(hr y x).symm) h2)⟩
end Go.Proofs.YtppjennamodfdaaGreat

namespace Go.Proofs.YtppjennamodfdaaGreat
open Go Go.Hl
theorem X9K {n t:Nat} {M:Nat→Nat→Bool} (h:t<n):((List.range n).map fun a=>[CD.sl 1 (Wv n M a)])[t]? =some [.sl 1 (Wv n M t)]:=by simp[h]
theorem X6x (p:Nat→Bool) (k:Nat):XB ((List.range (k+1)).filter p)=XB ((List.range k).filter p)++(if p k=true then [[iC k]] else []):=by
 rw[List.range_succ,List.filter_append];simp only[List.filter_cons,List.filter_nil];split<;>simp[XB]
theorem X99 (p:Nat→Bool) (k:Nat):(XB ((List.range k).filter p)).length≤k:=by
 rw[len_encD];exact Nat.le_trans (List.length_filter_le _ _) (by simp)
theorem Xc5 (n:Nat) (M:Nat→Nat→Bool) (t s:Nat) (ht:t<n) (hs:s<n) (d:Nat):Con Tryz.prog 50 true [li t,.one (.c (.ptr [X4c n M])),.one (.c (.ptr [iC s]))] (.v (lb (M t s))) none d:=by
 have h1:=@X9K n t M ht;have h2:=@X3y n M t s hs;unfold X4c;obtain⟨MR,hMR⟩:∃x,((List.range n).map fun a=>[CD.sl 1 (Wv n M a)])=x:=⟨_,rfl⟩;rw[hMR]at h1⊢;obtain⟨RW,hRW⟩:∃x,Wv n M t=x:=⟨_,rfl⟩;rw[hRW]at h1 h2;clear hMR hRW ht hs;refine X5 Tryz.func50 ?_;simp only[Tryz.f50];refine X2 ?_;refine X0<|(Q4 (by kernel_rfl) (by kernel_rfl) (by rfl) (by simp[*];rfl) ?_);exact Xe
theorem XbT (n:Nat) (M:Nat→Nat→Bool) (t s:Nat) (ht:t<n) (hs:s<n) (d:Nat):Con Tryz.prog 51 true [li s,.one (.c (.ptr [X4c n M])),.one (.c (.ptr [iC t]))] (.v (lb (M t s))) none d:=by
 have h1:=@X9K n t M ht;have h2:=@X3y n M t s hs;unfold X4c;obtain⟨MR,hMR⟩:∃x,((List.range n).map fun a=>[CD.sl 1 (Wv n M a)])=x:=⟨_,rfl⟩;rw[hMR]at h1⊢;obtain⟨RW,hRW⟩:∃x,Wv n M t=x:=⟨_,rfl⟩;rw[hRW]at h1 h2;clear hMR hRW ht hs;refine X5 Tryz.func51 ?_;simp only[Tryz.f51];refine X2 ?_;refine X2 ?_;exact Xe
set_option maxHeartbeats 8000000 in
theorem X5j (f:Fl) (h:Sm f) (M:Nat→Nat→Bool) (hD:∀d,Con Tryz.prog 49 false [aF f] (.v (.one (.c (X4c (szL f.body) M)))) none d) (q:List Int) (hq:okQ (szL f.body) q) (hql:q.length≤1000000) (d:Nat):
  Con Tryz.prog 16 false [aF f,lI q] (.v (.one (.c (.sl 1 (XB ((List.range (szL f.body)).filter fun s=>q.any fun t=>M t.toNat s)))))) none d:=by
 have cs:=QO f.body (by have:=h.nodes;omega);have hnl:szL f.body≤1000:=by have:=Qu f.body;have:=h.nodes;omega
 obtain⟨n,hn⟩:∃x,szL f.body=x:=⟨_,rfl⟩;rw[hn]at cs hnl hq hD⊢
 have cI:=fun(s:Nat) (hs:s<n)=>X6k q 50 [.ptr [X4c n M],.ptr [iC s]] (fun t=>M t.toNat s) (by omega) (fun v hv d=>by
  obtain⟨v0,v1⟩:=hq v hv;have:=Xc5 n M v.toNat s (by omega) hs d
  rwa [show((v.toNat:Nat):Int)=v by omega]at this)
 obtain⟨P,hP⟩:∃p:Nat→Bool,p=fun s=>q.any fun t=>M t.toNat s:=⟨_,rfl⟩;have hPs:∀s,(q.any fun t=>M t.toNat s)=P s:=fun s=>by rw[hP]
 simp only[hPs]at cI⊢;unfold X4c at hD cI;obtain⟨MR,hMR⟩:∃x,((List.range n).map fun a=>[CD.sl 1 (Wv n M a)])=x:=⟨_,rfl⟩;simp only[hMR]at hD cI;obtain⟨vars,hats,body⟩:=f;simp only at cs;clear h hn hq hql hP hPs hMR;simp only[aF,Fl.enc,List.map_cons,List.map_nil]at hD⊢;have hz0:XB ((List.range 0).filter P)=[]:=rfl;refine X5 Tryz.func16 ?_;simp only[Tryz.f16];refine X2 ?_;refine X2 ?_;refine Xh [⟨false,.v (.one (.c (.sl 1 MR))),none⟩] ?_ ?_
 · first|exact hD _|exact trivial|simpa[*]using hD _
 refine X0<|X0<|(Xm [⟨true,.v (li n),none⟩] ?_ ?_)
 · first|exact cs _|exact trivial|simpa[*]using cs _
 refine X3<|(Xb [1,6,12] (fun(k:Nat)=>[(5,.v (.one (.own 1003))),(13,.v (li k))]) (fun k=>[(6,.box [.c (.sl 1 MR)]),(1003,.row 3 1 (XB ((List.range k).filter P)))]) (fun k=>k≤n) (fun k=>n - k) (0:Nat) (Nat.zero_le _) ?_ ?_)
 · exact X4 (fun n=>n) [1003]
 rintro k hk;simp only[upS,X6,Xw]
 try simp only[X6,KN,Nat.reduceBEq,if_true,if_false,ins,Nat.reduceLT]
 refine X2 ?_;refine X0<|(X7 rfl (fun h6=>X9 ?_) (fun h6=>?_))
 · (try simp only[BN]at h6);have hlt:k<n:=by first|omega|simpa using h6
   have hw1:IntKind.i64.wrap ((k:Int)+1)=(k:Int)+1:=Xa (by omega) (by omega);have hk1:k+1≤n:=hlt;have cIk:=cI k hlt;have hsn:=X6x P k;have hlk:=X99 P k;obtain⟨E,hE⟩:∃x,XB ((List.range k).filter P)=x:=⟨_,rfl⟩;rw[hE]at hsn hlk⊢;have hroom:Q9 (E.length+1) 8:=Xv (by omega) (by decide);obtain⟨G,hG⟩:∃x,P k=x:=⟨_,rfl⟩;rw[hG]at cIk hsn;clear hlt h6 hE hG cI;refine X0<|X3<|X0<|X1 ?_;refine Xh [⟨true,.v (lb G),none⟩] ?_ ?_
   · first|exact cIk _|exact trivial|simpa[*]using cIk _
   refine(Xc rfl (fun h9=>?_) fun h9=>?_)
   · (try simp only[BN]at h9);have hGt:G=true:=by simpa using h9
     rw[if_pos hGt]at hsn;refine X1 ?_;refine X1 ?_;exact⟨k+1,hk1,by omega,X4 (fun n=>if n=1003 then 22 else n) []⟩
   (try simp only[BN]at h9);have hGf:¬G=true:=by simpa using h9
   rw[if_neg hGf,List.append_nil]at hsn;refine X1 ?_;exact⟨k+1,hk1,by omega,X4 (fun n=>n) []⟩
 (try simp only[BN]at h6);have hkl:k=n:=by first|omega|(have:¬k<n:=by simpa using h6;omega)
 subst hkl;clear h6;refine(Xf ?_);refine X2 ?_;exact XR ⟨.inr rfl,_,XO 1003 rfl,⟨⟨_,by simp;rfl,by simp[XK]⟩,by simp,fun h=>by cases h⟩⟩
set_option maxHeartbeats 8000000 in
theorem X6n (f:Fl) (h:Sm f) (M:Nat→Nat→Bool) (hD:∀d,Con Tryz.prog 49 false [aF f] (.v (.one (.c (X4c (szL f.body) M)))) none d) (q:List Int) (hq:okQ (szL f.body) q) (hql:q.length≤1000000) (d:Nat):
  Con Tryz.prog 17 false [aF f,lI q] (.v (.one (.c (.sl 1 (XB ((List.range (szL f.body)).filter fun s=>q.any fun t=>M s t.toNat)))))) none d:=by
 have cs:=QO f.body (by have:=h.nodes;omega);have hnl:szL f.body≤1000:=by have:=Qu f.body;have:=h.nodes;omega
 obtain⟨n,hn⟩:∃x,szL f.body=x:=⟨_,rfl⟩;rw[hn]at cs hnl hq hD⊢
 have cI:=fun(s:Nat) (hs:s<n)=>X6k q 51 [.ptr [X4c n M],.ptr [iC s]] (fun t=>M s t.toNat) (by omega) (fun v hv d=>by
  obtain⟨v0,v1⟩:=hq v hv;have:=XbT n M s v.toNat hs (by omega) d
  rwa [show((v.toNat:Nat):Int)=v by omega]at this)
 obtain⟨P,hP⟩:∃p:Nat→Bool,p=fun s=>q.any fun t=>M s t.toNat:=⟨_,rfl⟩;have hPs:∀s,(q.any fun t=>M s t.toNat)=P s:=fun s=>by rw[hP]
 simp only[hPs]at cI⊢;unfold X4c at hD cI;obtain⟨MR,hMR⟩:∃x,((List.range n).map fun a=>[CD.sl 1 (Wv n M a)])=x:=⟨_,rfl⟩;simp only[hMR]at hD cI;obtain⟨vars,hats,body⟩:=f;simp only at cs;clear h hn hq hql hP hPs hMR;simp only[aF,Fl.enc,List.map_cons,List.map_nil]at hD⊢;have hz0:XB ((List.range 0).filter P)=[]:=rfl;refine X5 Tryz.func17 ?_;simp only[Tryz.f17];refine X2 ?_;refine X2 ?_;refine Xh [⟨false,.v (.one (.c (.sl 1 MR))),none⟩] ?_ ?_
 · first|exact hD _|exact trivial|simpa[*]using hD _
 refine X0<|X0<|(Xm [⟨true,.v (li n),none⟩] ?_ ?_)
 · first|exact cs _|exact trivial|simpa[*]using cs _
 refine X3<|(Xb [1,6,12] (fun(k:Nat)=>[(5,.v (.one (.own 1003))),(13,.v (li k))]) (fun k=>[(6,.box [.c (.sl 1 MR)]),(1003,.row 3 1 (XB ((List.range k).filter P)))]) (fun k=>k≤n) (fun k=>n - k) (0:Nat) (Nat.zero_le _) ?_ ?_)
 · exact X4 (fun n=>n) [1003]
 rintro k hk;simp only[upS,X6,Xw]
 try simp only[X6,KN,Nat.reduceBEq,if_true,if_false,ins,Nat.reduceLT]
 refine X2 ?_;refine X0<|(X7 rfl (fun h6=>X9 ?_) (fun h6=>?_))
 · (try simp only[BN]at h6);have hlt:k<n:=by first|omega|simpa using h6
   have hw1:IntKind.i64.wrap ((k:Int)+1)=(k:Int)+1:=Xa (by omega) (by omega);have hk1:k+1≤n:=hlt;have cIk:=cI k hlt;have hsn:=X6x P k;have hlk:=X99 P k;obtain⟨E,hE⟩:∃x,XB ((List.range k).filter P)=x:=⟨_,rfl⟩;rw[hE]at hsn hlk⊢;have hroom:Q9 (E.length+1) 8:=Xv (by omega) (by decide);obtain⟨G,hG⟩:∃x,P k=x:=⟨_,rfl⟩;rw[hG]at cIk hsn;clear hlt h6 hE hG cI;refine X0<|X3<|X0<|X1 ?_;refine Xh [⟨true,.v (lb G),none⟩] ?_ ?_
   · first|exact cIk _|exact trivial|simpa[*]using cIk _
   refine(Xc rfl (fun h9=>?_) fun h9=>?_)
   · (try simp only[BN]at h9);have hGt:G=true:=by simpa using h9
     rw[if_pos hGt]at hsn;refine X1 ?_;refine X1 ?_;exact⟨k+1,hk1,by omega,X4 (fun n=>if n=1003 then 22 else n) []⟩
   (try simp only[BN]at h9);have hGf:¬G=true:=by simpa using h9
   rw[if_neg hGf,List.append_nil]at hsn;refine X1 ?_;exact⟨k+1,hk1,by omega,X4 (fun n=>n) []⟩
 (try simp only[BN]at h6);have hkl:k=n:=by first|omega|(have:¬k<n:=by simpa using h6;omega)
 subst hkl;clear h6;refine(Xf ?_);refine X2 ?_;exact XR ⟨.inr rfl,_,XO 1003 rfl,⟨⟨_,by simp;rfl,by simp[XK]⟩,by simp,fun h=>by cases h⟩⟩
end Go.Proofs.YtppjennamodfdaaGreat

namespace Go.Proofs.YtppjennamodfdaaGreat
open Go Go.Hl
def cutM (D:Nat→Nat→Bool) (b:Nat):Nat→Nat→Bool:=fun x y=>if y<b then D x y else false
def X2B (n:Nat) (D:Nat→Nat→Bool) (k b:Nat):List (List CD):=Wv n (cutM D b) k
def X0c (n:Nat) (D:Nat→Nat→Bool) (k:Nat):List (Option (List (List CD))):=(List.range n).map fun a=>if a<k then some (Wv n D a)else none
theorem X9v (n:Nat) (D:Nat→Nat→Bool) (k b:Nat):(X2B n D k b).length=n:=X5E _ _ _
theorem XcM (n:Nat) (D:Nat→Nat→Bool) (k:Nat):List.replicate n [bC false]=X2B n D k 0:=by
 apply List.ext_getElem?;intro i;by_cases h:i<n<;>simp[X2B,Wv,cutM,List.getElem?_replicate,h]
theorem rowH_set {n k b:Nat} {D:Nat→Nat→Bool} (h:b<n):(X2B n D k b).set b [bC (D k b)]=X2B n D k (b+1):=by
 apply List.ext_getElem?;intro i;rw[List.getElem?_set,X9v];by_cases e:b=i
 · subst e;simp[X2B,Wv,cutM,h]
 rw[if_neg e];by_cases hi:i<n
 · have:(i<b+1)↔(i<b):=by omega
   simp[X2B,Wv,cutM,hi,this]
 simp[X2B,Wv,hi]
theorem XcU {n k:Nat} {D:Nat→Nat→Bool}:X2B n D k n=Wv n D k:=by
 apply List.ext_getElem?;intro i;by_cases hi:i<n<;>simp[X2B,Wv,cutM,hi]
theorem X6U (n:Nat) (D:Nat→Nat→Bool) (k:Nat):(X0c n D k).length=n:=by simp[X0c]
theorem Xau (n:Nat) (D:Nat→Nat→Bool):X0c n D 0=List.replicate n none:=by
 apply List.ext_getElem?;intro i;by_cases h:i<n<;>simp[X0c,List.getElem?_replicate,h]
theorem X9X (n:Nat) (D:Nat→Nat→Bool):X0c n D n=Z9 n D:=by
 apply List.ext_getElem?;intro i;by_cases h:i<n<;>simp[X0c,Z9,h]
theorem XaH {n k:Nat} {D:Nat→Nat→Bool} (h:k<n):ZH (X0c n D k) k=true:=by simp[ZH,X0c,h]
theorem XcQ {n k:Nat} {D:Nat→Nat→Bool} (h:k<n):(X0c n D k).set k (some (Wv n D k))=X0c n D (k+1):=by
 apply List.ext_getElem?;intro i;rw[List.getElem?_set,X6U];by_cases e:k=i
 · subst e;simp[X0c,h]
 rw[if_neg e];by_cases hi:i<n
 · have e2:(i<k)↔(i<k+1):=by omega
   simp[X0c,hi,e2]
 simp[X0c,hi]
set_option maxHeartbeats 64000000 in
theorem X4I (f:Fl) (h:Sm f) (h0:Qf f=0) (hR:∀d,Con Tryz.prog 86 false [aF f] (.v (.one (.c (.sl 1 (Qa (rcL (grN f.body) (flL f.body) f.vars.length)))))) none d) (d:Nat):
  Con Tryz.prog 49 false [aF f] (.v (.one (.c (X4c (szL f.body) (fwM (szL f.body) (d0F f) (szL f.body)))))) none d:=by
 have hg:=(Xcg h h0).g;have cst:=X9B f (by have:=h.nodes;omega);have cre:=X6o f h hg hR;have car:=XaD f.body (by have:=h.nodes;omega) 0 (-1) (by have:=h.nodes;have:=Qu f.body;omega);have hnl:szL f.body≤1000:=by have:=Qu f.body;have:=h.nodes;omega
 have hLl:=XT f.body;have hAl:=Z7 f.body (-1) 0;have hRl:(rdT f).length=szL f.body:=X3J _ _;have hrow:∀r∈rdT f,r.length≤5000:=fun r hr=>((WP h).rdl r hr).1;have hnod:∀q∈flL f.body,q.term.nodes≤1000000:=(WP h).nod;have hd0:∀t s,d0F f t s=d0B (flL f.body) (arL f.body (-1) 0) (rdT f) t s:=fun _ _=>rfl;obtain⟨D,hD⟩:∃x,d0F f=x:=⟨_,rfl⟩;rw[hD]at hd0⊢;obtain⟨RD,hRD⟩:∃x,rdT f=x:=⟨_,rfl⟩;rw[hRD]at cre hRl hrow hd0;obtain⟨vars,hats,body⟩:=f;simp only at car hnl hLl hAl hRl hnod hd0 cst⊢;obtain⟨n,hn⟩:∃x,szL body=x:=⟨_,rfl⟩;obtain⟨L,hL⟩:∃x,flL body=x:=⟨_,rfl⟩;obtain⟨AR,hAR⟩:∃x,arL body (-1) 0=x:=⟨_,rfl⟩;have e0:((0:Nat):Int)=0:=rfl;rw[hAR,e0]at car;rw[hn]at hnl hLl hAl hRl⊢;rw[hL]at hLl hnod cst hd0;rw[hAR]at hAl hd0;clear h h0 hR hg hD hRD hn hL hAR e0;simp only[aF,Fl.enc,List.map_cons,List.map_nil]at cst cre⊢;have hmx:n≤maxLen:=by unfold maxLen;omega
 have hmx2:(n:Int)≤maxLen:=by unfold maxLen;omega
 have hbig:(24:Int)*n≤281474976710656:=by omega
 have hbig2:(n:Int)≤281474976710656:=by omega
 have hz:=Xau n D;refine X5 Tryz.func49 ?_;simp only[Tryz.f49];refine X2 ?_;refine X0<|(Zu [(18,1)] [⟨false,.v (lS L),none⟩,⟨false,.v (.one (.c (.sl 1 (Qa RD)))),none⟩,⟨false,.v (lI AR),none⟩] (by kernel_rfl) (by kernel_rfl) (by rfl) (by simp[X3X,X2w,Qo, *];first|exact⟨rfl,Iff.rfl⟩|exact⟨rfl,trivial⟩|rfl) ?_ ?_)
 · first|exact⟨cst _,cre _,car _⟩|exact trivial|(repeat' first|exact trivial|exact cst _|exact cre _|exact car _|apply And.intro)
 refine X2 ?_;refine X2 ?_;refine Xz (X5x (k:=n) 24 4 1 (by decide) (by decide) (by simp;rfl) (by simp[RV.menA,TV.menA,CV.menA]) (by simp[Ob.menA,CV.menA])) ?_;refine X0<|X0<|X1 ?_;refine X3<|(Xb [3,4,5,6,7,25] (fun(k:Nat)=>[(26,.v (li k))]) (fun k=>[(24,.mat 92 4 1 (X0c n D k))]) (fun k=>k≤n) (fun k=>n - k) (0:Nat) (Nat.zero_le _) ?_ ?_)
 · exact X4 (fun n=>n) []
 rintro k hk;simp only[upS,X6,Xw]
 try simp only[X6,KN,Nat.reduceBEq,if_true,if_false,ins,Nat.reduceLT]
 refine X2 ?_;refine X0<|(X7 rfl (fun h7=>X9 ?_) (fun h7=>?_))
 · (try simp only[BN]at h7);have hlt:k<n:=by first|omega|simpa using h7
   have hw1:IntKind.i64.wrap ((k:Int)+1)=(k:Int)+1:=Xa (by omega) (by omega);have hk1:k+1≤n:=hlt;have hKl:=X6U n D k;have hKf:=@XaH n k D hlt;have hH0:=XcM n D k;have hHf:=@XcU n k D;have hKs:=@XcQ n k D hlt;have hbc:∀x:Bool,(CD.lit (.bool x))=bC x:=fun _=>rfl;obtain⟨KM,hKM⟩:∃x,X0c n D k=x:=⟨_,rfl⟩;rw[hKM]at hKl hKf hKs⊢;clear h7 hKM hz;refine X0<|X3<|X0<|X1 ?_;refine X2 ?_;refine X2 ?_;refine X3<|(Xb [3,4,5,6,7,8,25,26,34] (fun(b:Nat)=>[(35,.v (li b))]) (fun b=>[(24,.mat 92 4 1 (KM.set k (some (X2B n D k b))))]) (fun b=>b≤n) (fun b=>n - b) (0:Nat) (Nat.zero_le _) ?_ ?_)
   · exact X4 (fun n=>n) []
   rintro b hb;simp only[upS,X6,Xw]
   try simp only[X6,KN,Nat.reduceBEq,if_true,if_false,ins,Nat.reduceLT]
   refine X2 ?_;refine X0<|(X7 rfl (fun h13=>X9 ?_) (fun h13=>?_))
   · (try simp only[BN]at h13);have hltb:b<n:=by first|omega|simpa using h13
     have hwb:IntKind.i64.wrap ((b:Int)+1)=(b:Int)+1:=Xa (by omega) (by omega);have hb1:b+1≤n:=hltb;obtain⟨w,hew,_⟩:=Xo (show b<L.length by omega);obtain⟨q,heq,_⟩:=Xo (show k<L.length by omega);obtain⟨ark,hea,_⟩:=Xo (show k<AR.length by omega);obtain⟨r,her,_⟩:=Xo (show k<RD.length by omega);have hew':=XX hew;have heq':=XX heq;have hea':=X23 hea;have her':=Z3 her;have crd:=XbQ w.var q.term (by have:=hnod q (List.mem_of_getElem? heq);omega);have chd:=hasD_con r b (by have:=hrow r (List.mem_of_getElem? her);omega);have hdv:=hd0 k b;unfold d0B at hdv;rw[heq,hea,her]at hdv;simp only at hdv;rw[hew]at hdv;simp only[X9b]at hdv;have hset:=@rowH_set n k b D hltb;have hRHl:=X9v n D k b;obtain⟨RH,hRH,hRt⟩:∃x,X2B n D k b=x∧∀h:b<x.length,(x[b]'h).tail=[]:=⟨_,rfl,fun h=>by simp[X2B]⟩;rw[hRH]at hset hRHl;have hK2l:(KM.set k (some RH)).length=n:=by rw[List.length_set];exact hKl
     have hK2g:(KM.set k (some RH))[k]? =some (some RH):=by rw[List.getElem?_set_self (by omega)]
     have hK2s:(KM.set k (some RH)).set k (some (X2B n D k (b+1)))=KM.set k (some (X2B n D k (b+1))):=List.set_set ..;rw[hRH];obtain⟨K2,hK2⟩:∃x,KM.set k (some RH)=x:=⟨_,rfl⟩;rw[hK2]at hK2l hK2g hK2s⊢;have hK2e:∀h:k<K2.length,K2[k]'h=some RH:=fun h=>by rw[List.getElem?_eq_getElem h]at hK2g;exact Option.some.inj hK2g
     obtain⟨wd,wc,wv,wn,⟨wo,wtn,wks⟩,wa,wb,wbs⟩:=w;obtain⟨qd,qc,qv,qn,⟨qo,qtn,qks⟩,qa,qb,qbs⟩:=q;simp only[St.enc,Tm.enc,List.cons_append,List.nil_append]at hew' heq';simp only[St.var,St.term,St.do_,aT,Tm.enc,List.map_cons,List.map_nil]at crd hdv;obtain⟨R,hR⟩:∃x,rvB wv (.mk qo qtn qks)=x:=⟨_,rfl⟩;rw[hR]at crd hdv;obtain⟨G,hG⟩:∃x,decide (b∈r)=x:=⟨_,rfl⟩;rw[hG]at chd hdv;have hdv:D k b=(decide (b=k)||(decide (ark=(b:Int))||(((decide (wd=0)||decide (wd=5))&&R)&&G))):=hdv;clear h13 hew heq hea her hRH hK2 hR hG hKf hH0 hHf hKs hKl hd0 hnod hrow hLl hAl hRl;refine X0<|X3<|X0<|X1 ?_;refine XL [3,4,5,6,7,8,9,25,26,34,35] (fun(W:Bool)=>[(10,.v (lb W))]) (fun(W:Bool)=>[(24,.mat 92 4 1 K2)]) (fun(W:Bool)=>W=(decide (wd=0)||decide (wd=5))) ?_ ?_
     · refine Xl (by simp[*];rfl) ?_;exact⟨_,rfl,Xu (fun n=>n) [] rfl (by simp[upS,X6]<;>rfl) (by simp[upS]) (by simp[upS])⟩
     rintro W hW;simp only[upS,X6,Xw]
     try simp only[X6,KN,Nat.reduceBEq,if_true,if_false,ins,Nat.reduceLT]
     rw[←hW]at hdv;clear hW;rcases W with _|_
     · by_cases hbk:b=k
       · subst hbk;rw[decide_eq_true rfl,Bool.true_or]at hdv;rw[hdv]at hset;refine(WH [none,none] (by kernel_rfl) (by kernel_rfl) (by rfl) (by simp[*];first|exact⟨rfl,Iff.rfl⟩|exact⟨rfl,trivial⟩|rfl) ?_ ?_)
         · first|exact trivial|simp
         refine X1 ?_;exact⟨b+1,hb1,by omega,X4 (fun n=>n) []⟩
       by_cases hab:ark=(b:Int)
       · have hbi:¬(b:Int)=(k:Int):=by omega
         rw[decide_eq_true hab,Bool.true_or,Bool.or_true]at hdv;rw[hdv]at hset;refine(WH [none,none] (by kernel_rfl) (by kernel_rfl) (by rfl) (by simp[*];first|exact⟨rfl,Iff.rfl⟩|exact⟨rfl,trivial⟩|rfl) ?_ ?_)
         · first|exact trivial|simp
         refine X1 ?_;exact⟨b+1,hb1,by omega,X4 (fun n=>n) []⟩
       have hbi:¬(b:Int)=(k:Int):=by omega
       rw[decide_eq_false hbk,decide_eq_false hab,Bool.false_or,Bool.false_or,Bool.false_and,Bool.false_and]at hdv;rw[hdv]at hset;refine(WH [none,none] (by kernel_rfl) (by kernel_rfl) (by rfl) (by simp[*];first|exact⟨rfl,Iff.rfl⟩|exact⟨rfl,trivial⟩|rfl) ?_ ?_)
       · first|exact trivial|simp
       refine X1 ?_;exact⟨b+1,hb1,by omega,X4 (fun n=>n) []⟩
     by_cases hbk:b=k
     · subst hbk;rw[decide_eq_true rfl,Bool.true_or]at hdv;rw[hdv]at hset;refine(WH [none,none] (by kernel_rfl) (by kernel_rfl) (by rfl) (by simp[*];first|exact⟨rfl,Iff.rfl⟩|exact⟨rfl,trivial⟩|rfl) ?_ ?_)
       · first|exact trivial|simp
       refine X1 ?_;exact⟨b+1,hb1,by omega,X4 (fun n=>n) []⟩
     by_cases hab:ark=(b:Int)
     · have hbi:¬(b:Int)=(k:Int):=by omega
       rw[decide_eq_true hab,Bool.true_or,Bool.or_true]at hdv;rw[hdv]at hset;refine(WH [none,none] (by kernel_rfl) (by kernel_rfl) (by rfl) (by simp[*];first|exact⟨rfl,Iff.rfl⟩|exact⟨rfl,trivial⟩|rfl) ?_ ?_)
       · first|exact trivial|simp
       refine X1 ?_;exact⟨b+1,hb1,by omega,X4 (fun n=>n) []⟩
     have hbi:¬(b:Int)=(k:Int):=by omega
     rw[decide_eq_false hbk,decide_eq_false hab,Bool.false_or,Bool.false_or,Bool.true_and]at hdv;rcases R with _|_
     · rw[Bool.false_and]at hdv;rw[hdv]at hset;refine(WH [some ⟨true,.v (lb false),none⟩,none] (by kernel_rfl) (by kernel_rfl) (by rfl) (by simp[*];first|exact⟨rfl,Iff.rfl⟩|exact⟨rfl,trivial⟩|rfl) ?_ ?_)
       · first|exact crd _|simpa using crd _
       refine X1 ?_;exact⟨b+1,hb1,by omega,X4 (fun n=>n) []⟩
     rw[Bool.true_and]at hdv;rw[hdv]at hset;refine(WH [some ⟨true,.v (lb true),none⟩,some ⟨true,.v (lb G),none⟩] (by kernel_rfl) (by kernel_rfl) (by rfl) (by simp[*];first|exact⟨rfl,Iff.rfl⟩|exact⟨rfl,trivial⟩|rfl) ?_ ?_)
     · first|exact⟨crd _,chd _⟩|simpa using⟨crd _,chd _⟩
     refine X1 ?_;exact⟨b+1,hb1,by omega,X4 (fun n=>n) []⟩
   (try simp only[BN]at h13);have hbn:b=n:=by first|omega|(have:¬b<n:=by simpa using h13;omega)
   subst hbn;rw[hHf,hKs];clear h13;refine(Xf ?_);refine X1 ?_;exact⟨k+1,hk1,by omega,X4 (fun n=>n) []⟩
 (try simp only[BN]at h7);have hkn:k=n:=by first|omega|(have:¬k<n:=by simpa using h7;omega)
 subst hkn;rw[X9X];clear h7 hz;refine(Xf ?_);refine X0<|X0<|X1 ?_;refine X3<|(Xb [6,7,95] (fun(m:Nat)=>[(96,.v (li m))]) (fun m=>[(24,.mat 92 4 1 (Z9 k (fwM k D m)))]) (fun m=>m≤k) (fun m=>k - m) (0:Nat) (Nat.zero_le _) ?_ ?_)
 · exact Xu (fun n=>n) [] rfl (by simp[*,upS,X6]) (by simp[*,upS,fwM]) (by simp[upS])
 rintro m hm;simp only[upS,X6,Xw]
 try simp only[X6,KN,Nat.reduceBEq,if_true,if_false,ins,Nat.reduceLT]
 refine X2 ?_;refine X0<|(X7 rfl (fun h24=>X9 ?_) (fun h24=>?_))
 · (try simp only[BN]at h24);have hltm:m<k:=by first|omega|simpa using h24
   have hwm:IntKind.i64.wrap ((m:Int)+1)=(m:Int)+1:=Xa (by omega) (by omega);have hm1:m+1≤k:=hltm;have hsm:=X3t k D m;obtain⟨M1,hM1⟩:∃x,fwM k D m=x:=⟨_,rfl⟩;rw[hM1]at hsm⊢;clear h24 hM1;refine X0<|X3<|X0<|X1 ?_;refine X2 ?_;refine X3<|(Xb [6,7,11,95,96,99] (fun(a:Nat)=>[(100,.v (li a))]) (fun a=>[(24,.mat 92 4 1 (Z9 k (fwA k M1 m a)))]) (fun a=>a≤k) (fun a=>k - a) (0:Nat) (Nat.zero_le _) ?_ ?_)
   · exact Xu (fun n=>n) [] rfl (by simp[*,upS,X6]) (by simp[*,upS,fwA]) (by simp[upS])
   rintro a ha;simp only[upS,X6,Xw]
   try simp only[X6,KN,Nat.reduceBEq,if_true,if_false,ins,Nat.reduceLT]
   refine X2 ?_;refine X0<|(X7 rfl (fun h29=>X9 ?_) (fun h29=>?_))
   · (try simp only[BN]at h29);have hlta:a<k:=by first|omega|simpa using h29
     have hwa:IntKind.i64.wrap ((a:Int)+1)=(a:Int)+1:=Xa (by omega) (by omega);have ha1:a+1≤k:=hlta;have hsa:=X9z k M1 m a;obtain⟨M2,hM2⟩:∃x,fwA k M1 m a=x:=⟨_,rfl⟩;rw[hM2]at hsa⊢;clear h29 hM2;refine X0<|X3<|X0<|X1 ?_;refine X2 ?_;refine X3<|(Xb [6,7,11,12,95,96,99,100,103] (fun(b:Nat)=>[(104,.v (li b))]) (fun b=>[(24,.mat 92 4 1 (Z9 k (fwB M2 m a b)))]) (fun b=>b≤k) (fun b=>k - b) (0:Nat) (Nat.zero_le _) ?_ ?_)
     · exact Xu (fun n=>n) [] rfl (by simp[*,upS,X6]) (by simp[*,upS,fwB]) (by simp[upS])
     rintro b hb;simp only[upS,X6,Xw]
     try simp only[X6,KN,Nat.reduceBEq,if_true,if_false,ins,Nat.reduceLT]
     refine X2 ?_;refine X0<|(X7 rfl (fun h34=>X9 ?_) (fun h34=>?_))
     · (try simp only[BN]at h34);have hltb:b<k:=by first|omega|simpa using h34
       have hwb:IntKind.i64.wrap ((b:Int)+1)=(b:Int)+1:=Xa (by omega) (by omega);have hb1:b+1≤k:=hltb;have hsb:=X8r M2 m a b;obtain⟨M3,hM3⟩:∃x,fwB M2 m a b=x:=⟨_,rfl⟩;rw[hM3]at hsb⊢;have hst:stM M3 m a b=up M3 a b (M3 a b||(M3 a m&&M3 m b)):=rfl;rw[hst]at hsb;have hset:=@rowB_set k a b M3 (M3 a b||(M3 a m&&M3 m b));have hsr:=@XcH k a b M3 (M3 a b||(M3 a m&&M3 m b));clear h34 hM3;refine X0<|X3<|X0<|X1 ?_;refine(Q4 (by kernel_rfl) (by kernel_rfl) (by rfl) (by simp[*,X6I,X7r hlta,X7r hltm,X5E,X3y hltb,X3y hltm];rfl) ?_);refine X1 ?_;exact⟨b+1,hb1,by omega,X4 (fun n=>n) []⟩
     (try simp only[BN]at h34);have hbk:b=k:=by first|omega|(have:¬b<k:=by simpa using h34;omega)
     subst hbk;rw[←hsa];clear h34;refine(Xf ?_);refine X1 ?_;exact⟨a+1,ha1,by omega,X4 (fun n=>n) []⟩
   (try simp only[BN]at h29);have hak:a=k:=by first|omega|(have:¬a<k:=by simpa using h29;omega)
   subst hak;rw[←hsm];clear h29;refine(Xf ?_);refine X1 ?_;exact⟨m+1,hm1,by omega,X4 (fun n=>n) []⟩
 (try simp only[BN]at h24);have hmk:m=k:=by first|omega|(have:¬m<k:=by simpa using h24;omega)
 subst hmk;clear h24;refine(Xf ?_);refine X2 ?_;exact XR ⟨.inr rfl,_,le_frzM 24 rfl,⟨⟨_,by simp;rfl,by simp[XK,←XcG]⟩,by simp,fun h=>by cases h⟩⟩
end Go.Proofs.YtppjennamodfdaaGreat

namespace Go.Proofs.YtppjennamodfdaaGreat
open Go Go.Hl
theorem Xaf (n:Nat) (L:List (List Nat)) (q:List Int):(toI (slF n L q)).length≤n:=by rw[toI_len];exact X97 _ _
structure Cut (f:Fl) (n:Nat) (g:FuncId) (L:List (List Nat)):Prop where
 lk:Lk n L
 con:∀q:List Int,q.length≤100000→okQ n q→∀d,Con Tryz.prog g false [aF f,lI q] (.tup [lI (toI (slF n L q)),li 0]) none d
end Go.Proofs.YtppjennamodfdaaGreat

namespace Go.Proofs.YtppjennamodfdaaGreat
open Go Go.Hl
attribute [simp] Ob.flat
structure Un (f:Fl) (g:FuncId) (A B X Y Z:List Int):Prop where
 cX:∀d,Con Tryz.prog g false [aF f,lI A] (.tup [lI X,li 0]) none d
 cY:∀d,Con Tryz.prog g false [aF f,lI B] (.tup [lI Y,li 0]) none d
 cZ:∀d,Con Tryz.prog g false [aF f,.one (.c (.sl 1 (Xi A++Xi B)))] (.tup [lI Z,li 0]) none d
 cW:∀d,Con Tryz.prog g false [aF f,lI X] (.tup [lI X,li 0]) none d
 un:Lib.compact ((X++Y).mergeSort fun x y=>decide (x≤y))=Z
 has:A.any (fun s=> !decide (s∈X))=false
 lX:X.length≤1000
 lY:Y.length≤1000
 lZ:Z.length≤1000
end Go.Proofs.YtppjennamodfdaaGreat

namespace Go.Proofs.YtppjennamodfdaaGreat
open Go Go.Hl
def RcC:Prop:=∀f:Fl,Sm f→Qf f=0→∀d,Con Tryz.prog 86 false [aF f] (.v (.one (.c (.sl 1 (Qa (rcL (grN f.body) (flL f.body) f.vars.length)))))) none d
theorem bk_con (hR:RcC) (f:Fl) (h:Sm f) (h0:Qf f=0) (q:List Int) (hq:okQ (szL f.body) q) (hql:q.length≤1000000) (d:Nat):Con Tryz.prog 16 false [aF f,lI q] (.v (lI (toI (bwL f q)))) none d:=by
 have:=X5j f h _ (X4I f h h0 (hR f h h0)) q hq hql d;rw[back_eq h h0 hq,X64]at this;exact this
theorem fk_con (hR:RcC) (f:Fl) (h:Sm f) (h0:Qf f=0) (q:List Int) (hq:okQ (szL f.body) q) (hql:q.length≤1000000) (d:Nat):Con Tryz.prog 17 false [aF f,lI q] (.v (lI (toI (fwL f q)))) none d:=by
 have:=X6n f h _ (X4I f h h0 (hR f h h0)) q hq hql d;rw[forw_eq h h0 hq,X64]at this;exact this
theorem X0n {f:Fl} {qs:List (List Int)} (h:Wk f qs=0):Qf f=0∧∀q∈qs,okQ (szL f.body) q:=by
 obtain⟨h1,h2⟩:=X5i h;refine⟨h1,fun q hq x hx=>?_⟩;have:=h2 q hq x hx
 rwa [XT]at this
theorem ask_two {f:Fl} {a b:List Int} (h:Wk f [a,b]=0):Wk f [a]=0:=ask_ok (X0n h).1 ((X0n h).2 a (by simp))
theorem chop_eq {f:Fl} (a b:List Int):toI (chL f a b)=(toI (fwL f a)).filter fun s=>decide (s∈toI (bwL f b)):=by
 unfold chL toI;rw[List.filter_map];congr 1;refine List.filter_congr fun d hd=>?_;rw[Bool.eq_iff_iff,decide_eq_true_eq];simp only[Function.comp,decide_eq_true_eq]
 have h1:d<(Q3 f).length:=by
  unfold fwL at hd;exact((X3j _ _ _).1 hd).1
 have h2:(Int.ofNat d∈(bwL f b).map Int.ofNat)↔d∈bwL f b:=by
  rw[List.mem_map];exact⟨fun⟨x,hx,he⟩=>Int.ofNat.inj he▸hx,fun hx=>⟨d,hx,rfl⟩⟩
 rw[h2,bwL,X3j];exact⟨fun h=>⟨h1,h⟩,fun h=>h.2⟩
theorem Xca {l:List Int} {k:Nat} {x:Int} (p:Int→Bool) (h:l[k]? =some x):Xi ((l.take (k+1)).filter p)=Xi ((l.take k).filter p)++(if p x=true then [[iC x]] else []):=by
 rw[List.take_add_one,h,List.filter_append];simp only[Option.toList_some,List.filter_cons,List.filter_nil];split<;>simp[Xi]
set_option maxHeartbeats 32000000 in
theorem Xc7 (hR:RcC) (f:Fl) (a b:List Int) (d:Nat):Con Tryz.prog 3 true [aF f,lI a,lI b] (.v (lb true)) none d:=by
 have ck:=Xcu;have cf:=fit_con f [a,b] (by simp);obtain⟨FQ,hFQ⟩:∃x,fitQ f [a,b]=x:=⟨_,rfl⟩;rw[hFQ]at cf;have hsm:=fun h:FQ=true=>few_sm (X5m (hFQ.trans h)).1;have hla:=fun h:FQ=true=>(X5m (hFQ.trans h)).2 a (by simp);have hlb:=fun h:FQ=true=>(X5m (hFQ.trans h)).2 b (by simp);have cb1:=fun h:FQ=true=>X34 f (hsm h) a (by have:=hla h;omega);have cf1:=fun h:FQ=true=>X4P f (hsm h) a (by have:=hla h;omega);have cch:=fun h:FQ=true=>X9J f (hsm h) a b (by have:=hla h;omega) (by have:=hlb h;omega);have ca1:=fun h:FQ=true=>X4G f (hsm h) [a] (by simp) (fun q' hq'=>by rw[List.mem_singleton.1 hq'];have:=hla h;omega)
 have ca2:=fun h:FQ=true=>X4G f (hsm h) [a,b] (by simp) (fun q' hq'=>by
  have h1:=hla h;have h2:=hlb h;simp only[List.mem_cons,List.not_mem_nil,or_false]at hq'
  rcases hq' with rfl|rfl<;>omega)
 have hC12:=@ask_two f a b;have kb:=fun(h:FQ=true) (h0:Wk f [a]=0)=>bk_con hR f (hsm h) (X0n h0).1 a ((X0n h0).2 a (by simp)) (by have:=hla h;omega);have kf:=fun(h:FQ=true) (h0:Wk f [a]=0)=>fk_con hR f (hsm h) (X0n h0).1 a ((X0n h0).2 a (by simp)) (by have:=hla h;omega);have kb2:=fun(h:FQ=true) (h0:Wk f [a,b]=0)=>bk_con hR f (hsm h) (X0n h0).1 b ((X0n h0).2 b (by simp)) (by have:=hlb h;omega);have hnl:=fun h:FQ=true=>(by have:=(hsm h).nodes;have:=Qu f.body;rw[QL,XT];omega:(Q3 f).length≤1000);have lX:=Xaf (Q3 f).length (Q3 f) a;have lY:=Xaf (Q3 f).length (X0R (Q3 f)) a;have lB:=Xaf (Q3 f).length (Q3 f) b;rw[←bwL_sl]at lX lB;rw[←fwL_sl]at lY;have hch:=chop_eq (f:=f) a b;obtain⟨C1,hC1⟩:∃x,Wk f [a]=x:=⟨_,rfl⟩;obtain⟨C2,hC2⟩:∃x,Wk f [a,b]=x:=⟨_,rfl⟩;rw[hC1]at cb1 cf1 ca1 kb kf hC12;rw[hC2]at cch ca2 kb2 hC12;unfold slR at cb1 cf1 cch;rw[X64]at cb1 cf1 cch;obtain⟨X,hX⟩:∃x,toI (bwL f a)=x:=⟨_,rfl⟩;obtain⟨Y,hY⟩:∃x,toI (fwL f a)=x:=⟨_,rfl⟩;obtain⟨Z,hZ⟩:∃x,toI (chL f a b)=x:=⟨_,rfl⟩;obtain⟨BB,hBB⟩:∃x,toI (bwL f b)=x:=⟨_,rfl⟩;rw[hX]at cb1 kb lX;rw[hY]at cf1 kf lY hch;rw[hZ]at cch hch;rw[hBB]at kb2 lB hch;simp only[lQ,X3O,List.map_cons,List.map_nil]at cf ca1 ca2;clear hsm hla hlb hFQ hC1 hC2 hX hY hZ hBB hR;obtain⟨vars,hats,body⟩:=f;simp only[aF,Fl.enc,List.map_cons,List.map_nil]at cf cb1 cf1 cch ca1 ca2 kb kf kb2⊢;have wz:IntKind.i64.wrap 0=0:=by decide
 have hz0:Xi []=[]:=rfl;refine X5 Tryz.func3 ?_;simp only[Tryz.f3];refine X2 ?_;refine X0<|X0<|(Xm [⟨false,.v (lb true),none⟩] ?_ ?_)
 · first|exact ck _|exact trivial|simpa[*]using ck _
 refine(Xc rfl (fun h2=>?_) fun h2=>?_)
 · exact absurd h2 (by simp)
 (try simp only[BN]at h2);refine X0<|X0<|(Xm [⟨true,.v (lb FQ),none⟩] ?_ ?_)
 · first|exact cf _|exact trivial|simpa[*]using cf _
 refine(Xc rfl (fun h6=>?_) fun h6=>?_)
 · (try simp only[BN]at h6);refine X2 ?_;exact Xe
 (try simp only[BN]at h6);have hF:FQ=true:=by simpa using h6
 have cb1:=cb1 hF;have cf1:=cf1 hF;have cch:=cch hF;have ca1:=ca1 hF;have ca2:=ca2 hF;have kb:=kb hF;have kf:=kf hF;have kb2:=kb2 hF;have hnl:=hnl hF;have eX:=X0E X X (by omega) (by omega);have eY:=X0E Y Y (by omega) (by omega);have hZl:Z.length≤1000:=by rw[hch];exact Nat.le_trans (List.length_filter_le _ _) (by omega)
 have eZ:=X0E Z Z (by omega) (by omega);have chB:=fun x=>X55 BB x (by omega);rw[decide_eq_true rfl]at eX eY eZ;clear h6 cf ck;by_cases hz:C1=0
 · rw [if_pos hz]at cb1 cf1;have kb:=kb hz;have kf:=kf hz;subst hz;by_cases hz2:C2=0
   · rw [if_pos hz2]at cch;have kb2:=kb2 hz2;subst hz2;clear hC12;refine Xh [⟨false,.tup [lI X,li 0],none⟩] ?_ ?_
     · first|exact cb1 _|exact trivial|simpa[*]using cb1 _
     refine Xh [⟨false,.tup [lI Y,li 0],none⟩] ?_ ?_
     · first|exact cf1 _|exact trivial|simpa[*]using cf1 _
     refine Xh [⟨false,.tup [lI Z,li 0],none⟩] ?_ ?_
     · first|exact cch _|exact trivial|simpa[*]using cch _
     refine X0<|(Q7 [⟨true,.v (li 0),none⟩,⟨true,.v (li 0),none⟩] (by kernel_rfl) (by kernel_rfl) (by rfl) (by simp[*];first|exact⟨rfl,Iff.rfl⟩|exact⟨rfl,trivial⟩|rfl) ?_ ?_)
     · first|exact⟨ca1 _,ca2 _⟩|exact trivial|(repeat' first|exact trivial|exact ca1 _|exact ca2 _|apply And.intro)
     refine X0<|X0<|X1 ?_;refine(Xc rfl (fun h14=>?_) fun h14=>?_)
     · exact absurd h14 (by simp)
     (try simp only[BN]at h14);refine X0<|X0<|X1 ?_;refine(Xc rfl (fun h18=>?_) fun h18=>?_)
     · exact absurd h18 (by simp)
     (try simp only[BN]at h18);refine(XL [1,3,7,9,11,14] (fun(z:Unit)=>[]) (fun(z:Unit)=>[(3,.box [.c (.sl 5 (Xr vars)),.c (.sl 6 (Xs hats)),.c (.sl 10 (X8 body))])]) (fun(z:Unit)=>True) ?_ ?_)
     ·
      refine X2 ?_;refine(Xc rfl (fun h23=>?_) fun h23=>?_)
      · (try simp only[BN]at h23);refine X2 ?_;refine Xh [⟨false,.v (lI BB),none⟩] ?_ ?_
        · first|exact kb2 _|exact trivial|simpa[*]using kb2 _
        refine X0<|X0<|(Xm [⟨false,.v (lI Y),none⟩] ?_ ?_)
        · first|exact kf _|exact trivial|simpa[*]using kf _
        refine X3<|(Xb [1,3,7,9,11,14,16,86,87] (fun(k:Nat)=>[(15,.v (.one (.own 1003))),(88,.v (li k))]) (fun k=>[(3,.box [.c (.sl 5 (Xr vars)),.c (.sl 6 (Xs hats)),.c (.sl 10 (X8 body))]),(1003,.row 3 1 (Xi ((Y.take k).filter fun s=>decide (s∈BB))))]) (fun k=>k≤Y.length) (fun k=>Y.length - k) (0:Nat) (Nat.zero_le _) ?_ ?_)
        · exact X4 (fun n=>n) [1003]
        rintro k hk;simp only[upS,X6,Xw]
        try simp only[X6,KN,Nat.reduceBEq,if_true,if_false,ins,Nat.reduceLT]
        refine X2 ?_;refine X0<|(X7 rfl (fun h29=>X9 ?_) (fun h29=>?_))
        · (try simp only[BN]at h29);have hlt:k<Y.length:=by first|omega|simpa using h29
          obtain⟨x,he,hd⟩:=Xo hlt;have he2:=X23 he;have hw1:=Xy hlt (by omega);have hk1:k+1≤Y.length:=hlt;have hft:=Xca (fun s=>decide (s∈BB)) he;have hfl:((Y.take k).filter fun s=>decide (s∈BB)).length≤k:=Nat.le_trans (List.length_filter_le _ _) (by rw[List.length_take];omega);have cx:=chB x;obtain⟨m,hm⟩:∃m,(Y.take k).filter (fun s=>decide (s∈BB))=m:=⟨_,rfl⟩;rw[hm]at hft hfl⊢;obtain⟨G,hG⟩:∃g,decide (x∈BB)=g:=⟨_,rfl⟩;rw[hG]at cx hft;have hroom:Q9 (m.length+1) 8:=Xv (by omega) (by decide);clear hlt h29 he hd hm hG hch chB;refine X0<|X3<|X0<|X1 ?_;refine Xh [⟨true,.v (lb G),none⟩] ?_ ?_
          · first|exact cx _|exact trivial|simpa[*]using cx _
          refine(Xc rfl (fun h32=>?_) fun h32=>?_)
          · (try simp only[BN]at h32);have hGt:G=true:=by simpa using h32
            rw[if_pos hGt]at hft;refine X1 ?_;refine X1 ?_;exact⟨k+1,hk1,by omega,X4 (fun n=>if n=1003 then 98 else n) []⟩
          (try simp only[BN]at h32);have hGf:¬G=true:=by simpa using h32
          rw[if_neg hGf,List.append_nil]at hft;refine X1 ?_;exact⟨k+1,hk1,by omega,X4 (fun n=>n) []⟩
        (try simp only[BN]at h29);have hkl:k=Y.length:=by first|omega|(have:¬k<Y.length:=by simpa using h29;omega)
        subst hkl;rw[List.take_length,←hch];clear h29;refine(Xf ?_);refine Xh [⟨true,.v (lb true),none⟩] ?_ ?_
        · first|exact eZ _|exact trivial|simpa[*]using eZ _
        refine(Xc rfl (fun h39=>?_) fun h39=>?_)
        · exact absurd h39 (by simp)
        (try simp only[BN]at h39);exact⟨(),trivial,X4 (fun n=>n) []⟩
      exact absurd h23 (by simp)
     rintro⟨⟩ hz;simp only[upS,X6,Xw]
     try simp only[X6,KN,Nat.reduceBEq,if_true,if_false,ins,Nat.reduceLT]
     refine Xh [⟨false,.v (lI X),none⟩,⟨true,.v (lb true),none⟩,⟨false,.v (lI Y),none⟩,⟨true,.v (lb true),none⟩] ?_ ?_
     · first|exact⟨kb _,eX _,kf _,eY _⟩|exact trivial|(repeat' first|exact trivial|exact kb _|exact eX _|exact kf _|exact eY _|apply And.intro)
     exact Xe
   rw[if_neg hz2]at cch;clear hC12 kb2;refine Xh [⟨false,.tup [lI X,li 0],none⟩] ?_ ?_
   · first|exact cb1 _|exact trivial|simpa[*]using cb1 _
   refine Xh [⟨false,.tup [lI Y,li 0],none⟩] ?_ ?_
   · first|exact cf1 _|exact trivial|simpa[*]using cf1 _
   refine Xh [⟨false,.tup [.one (.c (.lit XU)),li C2],none⟩] ?_ ?_
   · first|exact cch _|exact trivial|simpa[*]using cch _
   refine X0<|(Q7 [⟨true,.v (li 0),none⟩,⟨true,.v (li C2),none⟩] (by kernel_rfl) (by kernel_rfl) (by rfl) (by simp[*];first|exact⟨rfl,Iff.rfl⟩|exact⟨rfl,trivial⟩|rfl) ?_ ?_)
   · first|exact⟨ca1 _,ca2 _⟩|exact trivial|(repeat' first|exact trivial|exact ca1 _|exact ca2 _|apply And.intro)
   refine X0<|X0<|X1 ?_;refine(Xc rfl (fun h14=>?_) fun h14=>?_)
   · exact absurd h14 (by simp)
   (try simp only[BN]at h14);refine X0<|X0<|X1 ?_;refine(Xc rfl (fun h18=>?_) fun h18=>?_)
   · exact absurd h18 (by simp)
   (try simp only[BN]at h18);refine(XL [1,3,7,9,11,14] (fun(z:Unit)=>[]) (fun(z:Unit)=>[(3,.box [.c (.sl 5 (Xr vars)),.c (.sl 6 (Xs hats)),.c (.sl 10 (X8 body))])]) (fun(z:Unit)=>True) ?_ ?_)
   ·
    refine X2 ?_;refine(Xc rfl (fun h23=>?_) fun h23=>?_)
    · exact absurd h23 (by simpa using hz2)
    (try simp only[BN]at h23);exact⟨(),trivial,X4 (fun n=>n) []⟩
   rintro⟨⟩ hz;simp only[upS,X6,Xw]
   try simp only[X6,KN,Nat.reduceBEq,if_true,if_false,ins,Nat.reduceLT]
   refine Xh [⟨false,.v (lI X),none⟩,⟨true,.v (lb true),none⟩,⟨false,.v (lI Y),none⟩,⟨true,.v (lb true),none⟩] ?_ ?_
   · first|exact⟨kb _,eX _,kf _,eY _⟩|exact trivial|(repeat' first|exact trivial|exact kb _|exact eX _|exact kf _|exact eY _|apply And.intro)
   exact Xe
 have hz2:¬C2=0:=fun h=>hz (hC12 h);rw[if_neg hz]at cb1 cf1;rw[if_neg hz2]at cch;clear hC12 kb kf kb2;refine Xh [⟨false,.tup [.one (.c (.lit XU)),li C1],none⟩] ?_ ?_
 · first|exact cb1 _|exact trivial|simpa[*]using cb1 _
 refine Xh [⟨false,.tup [.one (.c (.lit XU)),li C1],none⟩] ?_ ?_
 · first|exact cf1 _|exact trivial|simpa[*]using cf1 _
 refine Xh [⟨false,.tup [.one (.c (.lit XU)),li C2],none⟩] ?_ ?_
 · first|exact cch _|exact trivial|simpa[*]using cch _
 refine X0<|(Q7 [⟨true,.v (li C1),none⟩,⟨true,.v (li C2),none⟩] (by kernel_rfl) (by kernel_rfl) (by rfl) (by simp[*];first|exact⟨rfl,Iff.rfl⟩|exact⟨rfl,trivial⟩|rfl) ?_ ?_)
 · first|exact⟨ca1 _,ca2 _⟩|exact trivial|(repeat' first|exact trivial|exact ca1 _|exact ca2 _|apply And.intro)
 refine X0<|X0<|X1 ?_;refine(Xc rfl (fun h14=>?_) fun h14=>?_)
 · exact absurd h14 (by simp)
 (try simp only[BN]at h14);refine X0<|X0<|X1 ?_;refine(Xc rfl (fun h18=>?_) fun h18=>?_)
 · (try simp only[BN]at h18);refine X2 ?_;exact Xe
 exact absurd h18 (by simpa using hz)
end Go.Proofs.YtppjennamodfdaaGreat

namespace Go.Proofs.YtppjennamodfdaaGreat
open Go Go.Hl
def X2v (S:List (List Nat)) (y:Nat):List (Option (List (List CD))):=((S.take y).map fun l=>some (Xi (srtN l)))++((S.drop y).map fun l=>some (XB l))
theorem X6e (S:List (List Nat)) (y:Nat):(X2v S y).length=S.length:=by simp[X2v];omega
theorem XcK (S:List (List Nat)):X2v S 0=Wx S:=by simp[X2v,Wx]
theorem X8J {S:List (List Nat)} {y:Nat} {l:List Nat} (h:S[y]? =some l):(X2v S y)[y]? =some (some (XB l)):=by
 have hlt:=(List.getElem?_eq_some_iff.1 h).1;unfold X2v;rw[List.getElem?_append_right (by simp;omega)];simp[Nat.min_eq_left (Nat.le_of_lt hlt),h]
theorem X8M {S:List (List Nat)} {y:Nat} {l:List Nat} (h:S[y]? =some l):(X2v S y).set y (some (Xi (srtN l)))=X2v S (y+1):=by
 have hlt:=(List.getElem?_eq_some_iff.1 h).1;unfold X2v;have hl:((S.take y).map fun l=>some (Xi (srtN l))).length=y:=by simp;omega
 rw[List.set_append,if_neg (by omega),hl,Nat.sub_self,List.take_add_one,h];obtain⟨l',h1,h2⟩:=Xo hlt;rw[h]at h1;cases h1;rw[h2];simp
theorem rowM_nil {S:List (List Nat)} {y:Nat} (h:S[y]? =some []):X2v S y=X2v S (y+1):=by
 rw[←X8M h];apply List.ext_getElem?;intro k;rw[List.getElem?_set];split
 · rename_i e;subst e;rw[if_pos (by rw[X6e];exact(List.getElem?_eq_some_iff.1 h).1),X8J h];simp[srtN,Xi]
 rfl
theorem rowM_end {S R:List (List Nat)} (hl:R.length=S.length) (h:∀(to:Nat) l,S[to]? =some l→∃r,R[to]? =some r∧Xi (srtN l)=XB r):(X2v S S.length).map (fun r=>[CD.sl 1 (r.getD [])])=Qa R:=by
 unfold X2v Qa;rw[List.take_length,List.drop_length];simp only[List.map_nil,List.append_nil,List.map_map];apply List.ext_getElem?;intro k;rw[List.getElem?_map,List.getElem?_map];cases hk:S[k]? with
 | none=>
   have:=List.getElem?_eq_none_iff.1 hk;rw[List.getElem?_eq_none (by omega)];rfl
 | some l=>
   obtain⟨r,h1,h2⟩:=h k l hk;rw[h1];simp[h2]
theorem XcA:ConE Tryz.prog 35:=⟨by kernel_rfl,fun w p cap=>by
 refine(Any.slices_Sort_int_none sortL p cap w).mono ?_;rintro e w' ⟨rfl,rfl⟩
 exact⟨rfl,rfl⟩⟩
set_option maxHeartbeats 32000000 in
theorem X5k (f:Fl) (h:Sm f) (h0:Qf f=0) (d:Nat):Con Tryz.prog 125 false [aF f,.agg [.c (grC f.body)]] (.v (.one (.c (.sl 1 (Qa (rcL (grN f.body) (flL f.body) f.vars.length)))))) none d:=by
 have hg:=X1C h0;have csz:=QO f.body (by have:=h.nodes;omega);have hok:=X5U hg;have hlen:=X3i hg;have hsl:=XT f.body;have hsz:=h.sz;have hwd:=X2q f.body;have hv:=h.vars;have hss:ssC f.vars f.hats.length f.body true=0:=(Wz h0).2.2.2.1
 have hvar:∀q∈flL f.body,q.do_=0∨q.do_=5→0≤q.var:=by
  intro q hq hd;obtain⟨last,hsh⟩:=X5R f.body true hss q hq;unfold shB at hsh;rcases hd with hd|hd
  · rw[if_pos hd]at hsh;simp only[Bool.and_eq_true]at hsh;have:=hsh.1.1.2;unfold QR at this;simp only[Bool.and_eq_true,decide_eq_true_eq]at this;omega
  rw[hd]at hsh;simp only[Bool.and_eq_true,reduceCtorEq,if_false,if_true,Int.reduceEq]at hsh;have:=hsh.1.1.1.1.2;unfold QR at this;simp only[Bool.and_eq_true,decide_eq_true_eq]at this;omega
 have g:=grN_w hg hvar;have hnodes:=h.nodes;obtain⟨vars,hats,body⟩:=f;simp only at csz hok hlen hsl hsz hwd hv g hnodes;have hdef:=fun(k:Nat) (x:Nd) (hx:(grN body)[k]? =some x) (ha)=>X4O ⟨vars,hats,body⟩ (by simp only;omega) (grN body) k x hx ha;have hsp:=fun(S:List (List Nat)) (i0 name:Nat) (v:Int)=>XaC vars hats body (grN body) S i0 name v (by omega);simp only at hdef;obtain⟨N,hN⟩:∃x,grN body=x:=⟨_,rfl⟩;obtain⟨steps,hst⟩:∃x,flL body=x:=⟨_,rfl⟩;rw[hN]at hok hlen g;simp only[hN,hst]at hdef hsp;rw[hst]at hsl g;rw[←hsl]at hok csz;simp only[grC,hN,hst];have hN2:N.length≤2002:=by omega
 have hs2:steps.length≤1000:=by omega
 have hat:∀x∈N,x.k=2→∃(a:Nat) (s:St),x.a=a∧a≤1000000∧steps[a]? =some s:=by
  intro x hx hk;obtain⟨a,h1,h2⟩:=(hok x hx).ha.resolve_left fun h=>h.1 hk;exact⟨a,steps[a],h1,by omega,List.getElem?_eq_getElem h2⟩
 have hok3:∀x∈N,X1s N.length x.n∧X1s N.length x.o∧(x.k=2→∃(a:Nat) (s:St),x.a=a∧a≤1000000∧steps[a]? =some s):=fun x hx=>⟨(hok x hx).hn,(hok x hx).ho,hat x hx⟩;have hN0:0<N.length:=by obtain⟨x,hx,_⟩:=g.ent;exact(List.getElem?_eq_some_iff.1 hx).1
 have hsp2:∀(n m:Nat) (S:List (List Nat)),Gq N steps n m S→m≤1000→∀(i0 name:Nat) (v:Int),i0<N.length→_:=fun n m S hS hm i0 name v hi=>hsp S i0 name v (by omega) hS.len (fun l hl=>by have:=hS.llen g hl;omega) hok3 hi;simp only[spO]at hsp2;have hend:=fun(S:List (List Nat)) (hS:Gq N steps N.length vars.length S)=>rowM_end (S:=S) (R:=rcL N steps vars.length) (by rw[X7O,hS.len]) fun to l hl=>hS.done g hl;obtain⟨L,hL⟩:∃x,rcL N steps vars.length=x:=⟨_,rfl⟩;simp only[hL]at hend⊢;clear hL hN hst hlen hwd hsl hsz hsp hss hvar hnodes hg;simp only[aF,Fl.enc,List.map_cons,List.map_nil]at hdef⊢;have hmx:N.length≤maxLen:=by unfold maxLen;omega
 have hbig:(24:Int)*N.length≤281474976710656:=by omega
 have hz0:(List.replicate N.length (none:Option (List (List CD)))).map (fun r=>some (r.getD []))=Wx (List.replicate N.length []):=by simp[Wx]
 refine X5 Tryz.func125 ?_;simp only[Tryz.f125];refine X2 ?_;refine Xh [⟨true,.v (li steps.length),none⟩] ?_ ?_
 · first|exact csz _|exact trivial|simpa[*]using csz _
 refine X2 ?_;refine Xz (X5x 18 3 1 (by decide) (by decide) rfl rfl rfl) ?_;refine Xz (le_matE 18 900001 rfl rfl) ?_;refine Xz (s':=⟨⟨68,none⟩,[(2,.v (.one (.at_ 2 0))),(3,.v (.one (.at_ 3 0))),(5,.v (li steps.length)),(6,.v (.one (.at_ 6 0)))],[(2,.box [.c (.sl 5 (Xr vars)),.c (.sl 6 (Xs hats)),.c (.sl 10 (X8 body))]),(3,.box [.c (.sl 4 (XD N))]),(6,.box [.own 900001]),(900001,.mat 27 3 1 (Wx (List.replicate N.length [])))]⟩) (Xu (fun n=>n) [] rfl (by simp[Wu,RV.mv,TV.mv,CV.mv]) (by simp[Wu,Ob.mv,CV.mv,ins,del,hz0]) (by simp)) ?_;refine X2 ?_;refine X0<|X0<|X1 ?_;refine X3<|(Xb [2,3,5,6,7,22] (fun(u:Nat×List (List Nat))=>[(23,.v (li u.1))]) (fun(u:Nat×List (List Nat))=>[(2,.box [.c (.sl 5 (Xr vars)),.c (.sl 6 (Xs hats)),.c (.sl 10 (X8 body))]),(3,.box [.c (.sl 4 (XD N))]),(6,.box [.own 900001]),(900001,.mat 27 3 1 (Wx u.2))]) (fun(u:Nat×List (List Nat))=>u.1≤N.length∧Gq N steps u.1 0 u.2) (fun(u:Nat×List (List Nat))=>N.length - u.1) (0,List.replicate N.length []) ⟨Nat.zero_le _,Gq.zero⟩ ?_ ?_)
 · exact X4 (fun n=>n) []
 rintro⟨n,S⟩ ⟨hn,hS⟩;simp only[upS,X6,Xw]
 try simp only[X6,KN,Nat.reduceBEq,if_true,if_false,ins,Nat.reduceLT]
 simp only at hn hS;clear hz0;refine X2 ?_;refine X0<|(X7 rfl (fun h7=>X9 ?_) (fun h7=>?_))
 · (try simp only[BN]at h7);have hlt:n<N.length:=by first|omega|simpa using h7
   have hwn:=Xy hlt (by omega);have hn1:n+1≤N.length:=hlt;obtain⟨x,hx,_⟩:=Xo hlt;have hxe:=ZE hx;have hxm:=List.mem_of_getElem? hx;have cd:=hdef n x hx (hat x hxm)
   have hx0:0≤dfN steps x↔Ql steps x=true:=by
    constructor
    · intro h;refine Classical.byContradiction fun hc=>?_;rw[X7U hc]at h;omega
    intro h;rw[X1c h];exact(g.asg x hxm h).2
   have hsk:=fun ha=>hS.skip hx ha;have hnd:=fun(ha:Ql steps x=true)=>(fun a (hxa:x.a=(a:Nat))=>hS.node g hx ha hxa);have hxa:=fun(ha:Ql steps x=true)=>(g.asg x hxm ha).1;have hspn:=hsp2 n 0 S hS (by omega) n;obtain⟨v,hvv⟩:∃v,dfN steps x=v:=⟨_,rfl⟩;rw[hvv]at cd hx0 hnd;obtain⟨xk,xa,xn,xo⟩:=x;simp only[Nd.enc]at hxe;simp only at hxa hnd;clear h7 hlt hx hdef hvv hsp2;refine X0<|X3<|X0<|X1 ?_;refine Xh [⟨true,.v (li v),none⟩] ?_ ?_
   · first|exact cd _|exact trivial|simpa[*]using cd _
   refine X2 ?_;refine(Xc rfl (fun h11=>?_) fun h11=>?_)
   · (try simp only[BN]at h11);have ha:Ql steps ⟨xk,xa,xn,xo⟩=true:=by first|exact hx0.1 (by simpa using h11)|simpa using h11
     obtain⟨a,rfl,ha2⟩:=hxa ha;have hS2:=hnd ha a rfl;have cs:=hspn a v (by omega);obtain⟨S2,hS2e⟩:∃y,Wr (fwT N (dfN steps) v n) a S=y:=⟨_,rfl⟩;rw[hS2e]at hS2 cs;clear h11 hS2e hx0 hsk hnd hxa hspn;refine(XP ?_);refine RunsN.cutE 9 [] (by simp[*];rfl) trivial (le_refl _) ?_;refine RunsN.callA (fun n=>if n=1000001 then 3 else if n=1000002 then 6 else if n=1000003 then 2 else n) (fun n=>if n=1000001 then 3 else if n=1000002 then 6 else if n=1000003 then 2 else if n=900001 then 66 else n) cs fun _ _=>?_;refine RunsN.doneE [] rfl trivial ?_;refine Xz (s':=⟨⟨68,none⟩,[(2,.v (.one (.at_ 2 0))),(3,.v (.one (.at_ 3 0))),(5,.v (li steps.length)),(6,.v (.one (.at_ 6 0))),(7,.v (.one (.fn 151 [(3,0),(6,0),(2,0)]))),(22,.v (li N.length)),(23,.v (li n))],[(2,.box [.c (.sl 5 (Xr vars)),.c (.sl 6 (Xs hats)),.c (.sl 10 (X8 body))]),(3,.box [.c (.sl 4 (XD N))]),(6,.box [.own 900001]),(900001,.mat 27 3 1 (Wx S2))]⟩) (Xu (fun n=>if n=900001 then 66 else n) [] rfl (by simp[Qj,QQ,del,ins,CV.ren,Ob.ren]) (by simp[Qj,QQ,del,ins,CV.ren,Ob.ren]) (by simp)) ?_;refine X1 ?_;exact⟨(n+1,S2),⟨hn1,hS2⟩,by simp only;omega,X4 (fun n=>n) []⟩
   (try simp only[BN]at h11);have ha:¬Ql steps ⟨xk,xa,xn,xo⟩=true:=by first|exact fun h=>absurd (hx0.2 h) (by simpa using h11)|simpa using h11
   have hS2:=hsk ha;clear h11 hx0 hsk hnd hxa hspn;refine X1 ?_;exact⟨(n+1,S),⟨hn1,hS2⟩,by simp only;omega,X4 (fun n=>n) []⟩
 (try simp only[BN]at h7);have hnn:n=N.length:=by omega
 subst hnn;clear h7 hdef;refine(Xf ?_);refine X0<|X0<|X1 ?_;refine X3<|(Xb [5,6,7,45] (fun(u:Nat×List (List Nat))=>[(46,.v (li u.1))]) (fun(u:Nat×List (List Nat))=>[(2,.box [.c (.sl 5 (Xr vars)),.c (.sl 6 (Xs hats)),.c (.sl 10 (X8 body))]),(3,.box [.c (.sl 4 (XD N))]),(6,.box [.own 900001]),(900001,.mat 27 3 1 (Wx u.2))]) (fun(u:Nat×List (List Nat))=>u.1≤vars.length∧Gq N steps N.length u.1 u.2) (fun(u:Nat×List (List Nat))=>vars.length - u.1) (0,S) ⟨Nat.zero_le _,hS⟩ ?_ ?_)
 · exact X4 (fun n=>n) []
 rintro⟨m,S1⟩ ⟨hm,hS1⟩;simp only[upS,X6,Xw]
 try simp only[X6,KN,Nat.reduceBEq,if_true,if_false,ins,Nat.reduceLT]
 simp only at hm hS1;clear hS;refine X2 ?_;refine X0<|(X7 rfl (fun h20=>X9 ?_) (fun h20=>?_))
 · (try simp only[BN]at h20);have hlt:m<vars.length:=by first|omega|simpa using h20
   have hwn:=Xy hlt (by omega);have hws:IntKind.i64.wrap ((steps.length:Int)+m)=(steps.length:Int)+m:=Xa (by omega) (by omega);have hn1:m+1≤vars.length:=hlt;have hS2:=hS1.var g;have cs:=hsp2 N.length m S1 hS1 (by omega) 0 (steps.length+m) m hN0;obtain⟨S2,hS2e⟩:∃y,Wr (fwT N (dfN steps) m 0) (steps.length+m) S1=y:=⟨_,rfl⟩;rw[hS2e]at hS2 cs;have e0:((0:Nat):Int)=0:=rfl;simp only[Int.natCast_add,e0]at cs;clear h20 hlt hS2e hsp2;refine X0<|X3<|X0<|X1 ?_;refine(XP ?_);refine RunsN.cutE 5 [] (by simp[*];rfl) trivial (le_refl _) ?_;refine RunsN.callA (fun n=>if n=1000001 then 3 else if n=1000002 then 6 else if n=1000003 then 2 else n) (fun n=>if n=1000001 then 3 else if n=1000002 then 6 else if n=1000003 then 2 else if n=900001 then 66 else n) cs fun _ _=>?_;refine RunsN.doneE [] rfl trivial ?_;refine Xz (s':=⟨⟨68,none⟩,[(5,.v (li steps.length)),(6,.v (.one (.at_ 6 0))),(7,.v (.one (.fn 151 [(3,0),(6,0),(2,0)]))),(45,.v (li vars.length)),(46,.v (li m))],[(2,.box [.c (.sl 5 (Xr vars)),.c (.sl 6 (Xs hats)),.c (.sl 10 (X8 body))]),(3,.box [.c (.sl 4 (XD N))]),(6,.box [.own 900001]),(900001,.mat 27 3 1 (Wx S2))]⟩) (Xu (fun n=>if n=900001 then 66 else n) [] rfl (by simp[Qj,QQ,del,ins,CV.ren,Ob.ren]) (by simp[Qj,QQ,del,ins,CV.ren,Ob.ren]) (by simp)) ?_;refine X1 ?_;exact⟨(m+1,S2),⟨hn1,hS2⟩,by simp only;omega,X4 (fun n=>n) []⟩
 (try simp only[BN]at h20);have hnn:m=vars.length:=by omega
 subst hnn;have hSl:=hS1.len;have hfin:=hend S1 hS1;rw[hSl]at hfin;have hSb:=fun l hl=>(hS1.llen g (l:=l) hl);clear h20 hsp2 hend;refine(Xf ?_);refine X0<|X0<|X1 ?_;refine X3<|(Xb [6,57] (fun(y:Nat)=>[(58,.v (li y))]) (fun y=>[(6,.box [.own 900001]),(900001,.mat 27 3 1 (X2v S1 y))]) (fun y=>y≤S1.length) (fun y=>S1.length - y) (0:Nat) (Nat.zero_le _) ?_ ?_)
 · exact Xu (fun n=>n) [] rfl (by simp[*,upS,X6]) (by simp[*,upS,XcK]) (by simp[upS])
 rintro y hy;simp only[upS,X6,Xw]
 try simp only[X6,KN,Nat.reduceBEq,if_true,if_false,ins,Nat.reduceLT]
 refine X2 ?_;refine X0<|(X7 rfl (fun h28=>X9 ?_) (fun h28=>?_))
 · (try simp only[BN]at h28);have hlt:y<S1.length:=by first|omega|simpa[X6e]using h28
   have hwn:=Xy hlt (by omega);have hn1:y+1≤S1.length:=hlt;obtain⟨l,hl,_⟩:=Xo hlt;have hlb:=hSb l (List.mem_of_getElem? hl);have hget:=X8J hl;have hset:=X8M hl;have hRl:y+1≤(X2v S1 y).length:=by rw[X6e];exact hn1
   have hnil:=fun h:l=[]=>rowM_nil (by rw[hl,h]:S1[y]? =some []);clear h28 hlt hl;refine X0<|X3<|X0<|X1 ?_;cases l with
   | nil=>
     have hm2:=hnil rfl;simp only[X3q]at hget;refine XP ?_;refine RunsN.cutE 4 [] (by simp[hget,hRl];rfl) trivial (le_refl _) ?_;refine RunsN.subE (by simp[subEP,X37,hget];first|rfl|exact⟨rfl,rfl⟩) XcA ?_;refine RunsN.doneE [] rfl trivial ?_;refine Xl (by simp[hwn];rfl) ?_;exact⟨y+1,hn1,by omega,Xu (fun n=>n) [] rfl (by simp[upS,X6]) (by simp[upS,hm2]) (by simp[upS])⟩
   | cons a o=>
     have cs:=X3Y ((a::o).map Int.ofNat) (by simp) (by simp only[List.length_map];omega);rw[←X2N]at cs;refine XP ?_;refine RunsN.cutE 4 [] (by simp[hget,hRl];rfl) trivial (le_refl _) ?_;refine RunsN.subA (by simp[X9q,X37,hget];exact⟨rfl,rfl,rfl,rfl,rfl⟩) cs ?_;refine RunsN.doneE [] rfl trivial ?_;refine Xl (by simp[hwn];rfl) ?_;exact⟨y+1,hn1,by omega,Xu (fun n=>n) [] rfl (by simp[upS,X6]) (by simp[upS,←hset,srtN]) (by simp[upS])⟩
 (try simp only[BN]at h28);have hyn:y=S1.length:=by omega
 subst hyn;clear h28;refine(Xf ?_);refine Xz (X3G 900001 rfl) ?_;refine X2 ?_;exact XR ⟨.inr rfl,_,le_refl _,⟨_,by simp[HS.frz,Wu,RV.frz,TV.frz,CV.frz];rfl,by simp[XK,hfin]⟩,by simp,fun h=>by cases h⟩
theorem XbM:RcC:=by
 intro f h h0 d;have cb:=X4M f (by have:=h.nodes;omega) (X1C h0);have cr:=X5k f h h0;obtain⟨R,hR⟩:∃x,rcL (grN f.body) (flL f.body) f.vars.length=x:=⟨_,rfl⟩;rw[hR]at cr⊢;obtain⟨vars,hats,body⟩:=f;simp only[grC]at cb cr;obtain⟨G,hG⟩:∃x,XD (grN body)=x:=⟨_,rfl⟩;rw[hG]at cb cr;clear hG hR;simp only[aF,Fl.enc,List.map_cons,List.map_nil]at cb cr⊢;refine X5 Tryz.func86 ?_;simp only[Tryz.f86];refine X2 ?_;refine X0<|(Zu [(3,1),(4,1)] [⟨false,.v (.agg [.c (.sl 4 G)]),none⟩,⟨false,.v (.one (.c (.sl 1 (Qa R)))),none⟩] (by kernel_rfl) (by kernel_rfl) (by rfl) (by simp[X3X,X2w,Qo, *];first|exact⟨rfl,Iff.rfl⟩|exact⟨rfl,trivial⟩|rfl) ?_ ?_)
 · first|exact⟨cb _,cr _⟩|exact trivial|(repeat' first|exact trivial|exact cb _|exact cr _|apply And.intro)
 exact Xe
end Go.Proofs.YtppjennamodfdaaGreat

namespace Go.Proofs.YtppjennamodfdaaGreat
open Go Go.Hl Go.RowKit Go.ChangeShapes Go.Proofs.YtppjennamodfdaaGreat
theorem tiled:X95 Tryz.prog:=tiled_mk (by kernel_rfl)
theorem own:ownKnob Tryz.prog.godebug=none:=by kernel_rfl
theorem laidOut:laidOutB Tryz.prog=true:=by kernel_rfl
section
variable {P:Program} {k:Nat} {t:TypeId} {ds:List CD}
theorem Zq {α:Type} {enc:α→List CD} {e:TypeId} {c:Nat} (hu:P.underlying t=some (.slice e)) (hc:P.cellsOf e=c) (he:∀k',k'<k→∀r,QD P k' e r→∃x,r=enc x) (h:QD P k t ds):∃xs:List α,ds=[.sl c (xs.map enc)]:=by
 cases k with
 |zero=>exact h.elim
 | succ k=>
   unfold QD at h;rw[hu]at h;obtain⟨rows,h1,_,h3⟩:=h;obtain⟨xs,hxs⟩:=X9g (enc:=enc) fun r hr=>he k (Nat.lt_succ_self k) r (h3 r hr).2;subst hxs;exact⟨xs,by rw[h1,hc]⟩
theorem WS {fs:Array Field} {l:List (Nat×Nat×TypeId)} {c:Nat} (hu:P.underlying t=some (.struct fs)) (hl:X8w P fs=l) (hc:P.cellsOf t=c) (h:QD P k t ds):ds.length=c∧∃k',k'<k∧∀x∈l,QD P k' x.2.2 ((ds.drop x.1).take x.2.1):=by
 cases k with
 |zero=>exact h.elim
 | succ k=>
   unfold QD at h;rw[hu]at h;have h':ds.length=P.cellsOf t∧∀x∈X8w P fs,QD P k x.2.2 ((ds.drop x.1).take x.2.1):=h;exact⟨hc▸h'.1,k,Nat.lt_succ_self k,fun x hx=>h'.2 x (hl▸hx)⟩
end
theorem X0I {k:Nat} {t:TypeId} {ds:List CD} (hu:Tryz.prog.underlying t=some (.int .i64)) (h:QD Tryz.prog k t ds):∃n:Int,ds=[iC n]:=by
 obtain⟨n,h1,_⟩:=XcR hu h;exact⟨n,h1⟩
theorem dec_s {k:Nat} {ds:List CD} (h:QD Tryz.prog k 9 ds):∃s:ByteArray,ds=[sC s]:=by
 obtain⟨s,h1,_⟩:=XcI Tryz.underlying9 h;exact⟨s,h1⟩
theorem dec_I {k:Nat} {ds:List CD} (h:QD Tryz.prog k 27 ds):∃l:List Int,ds=[.sl 1 (Xi l)]:=
 Zq (enc:=fun x=>[iC x]) Tryz.underlying27 (by kernel_rfl:Tryz.prog.cellsOf 3=1) (fun _ _ _ hr=>X0I Tryz.underlying3 hr) h
theorem dec_T:∀(k:Nat) (ds:List CD),QD Tryz.prog k 74 ds→∃t:Tm,ds=t.enc:=by
 intro k
 induction k using Nat.strongRecOn with
 | ind k ih=>
   intro ds h;obtain⟨hl,k1,hk1,hx⟩:=WS (l:=[(0,1,71),(1,1,3),(2,1,72)]) Tryz.underlying74 (by kernel_rfl) (by kernel_rfl:Tryz.prog.cellsOf 74=3) h
   match ds,hl with
   | [a,b,c],_=>
     obtain⟨n1,h1⟩:=X0I Tryz.underlying71 (hx (0,1,71) (by simp));obtain⟨n2,h2⟩:=X0I Tryz.underlying3 (hx (1,1,3) (by simp));obtain⟨ks,h3⟩:=Zq (enc:=Tm.enc) Tryz.underlying72 (by kernel_rfl:Tryz.prog.cellsOf 74=3) (fun k' hk' r hr=>ih k' (by omega) r hr) (hx (2,1,72) (by simp));simp only[List.drop,List.take,List.cons.injEq,and_true]at h1 h2 h3;subst h1 h2 h3;exact⟨.mk n1 n2 ks,by simp only[Tm.enc,X0H]⟩
theorem dec_S:∀(k:Nat) (ds:List CD),QD Tryz.prog k 76 ds→∃s:St,ds=s.enc:=by
 intro k
 induction k using Nat.strongRecOn with
 | ind k ih=>
   intro ds h;obtain⟨hl,k1,hk1,hx⟩:=WS (l:=[(0,1,70),(1,1,3),(2,1,3),(3,1,3),(4,3,74),(7,1,24),(8,1,24),(9,1,27)]) Tryz.underlying76 (by kernel_rfl) (by kernel_rfl:Tryz.prog.cellsOf 76=10) h
   match ds,hl with
   | [a0,a1,a2,a3,a4,a5,a6,a7,a8,a9],_=>
     obtain⟨n0,h0⟩:=X0I Tryz.underlying70 (hx (0,1,70) (by simp));obtain⟨n1,h1⟩:=X0I Tryz.underlying3 (hx (1,1,3) (by simp));obtain⟨n2,h2⟩:=X0I Tryz.underlying3 (hx (2,1,3) (by simp));obtain⟨n3,h3⟩:=X0I Tryz.underlying3 (hx (3,1,3) (by simp));obtain⟨t,h4⟩:=dec_T _ _ (hx (4,3,74) (by simp));obtain⟨la,h7⟩:=Zq (enc:=St.enc) Tryz.underlying24 (by kernel_rfl:Tryz.prog.cellsOf 76=10) (fun k' hk' r hr=>ih k' (by omega) r hr) (hx (7,1,24) (by simp));obtain⟨lb',h8⟩:=Zq (enc:=St.enc) Tryz.underlying24 (by kernel_rfl:Tryz.prog.cellsOf 76=10) (fun k' hk' r hr=>ih k' (by omega) r hr) (hx (8,1,24) (by simp));obtain⟨lc,h9⟩:=dec_I (hx (9,1,27) (by simp));simp only[List.drop,List.take,List.cons.injEq,and_true]at h0 h1 h2 h3 h4 h7 h8 h9;subst h0 h1 h2 h3 h7 h8 h9;refine⟨.mk n0 n1 n2 n3 t la lb' lc,?_⟩;simp only[St.enc,QZ,←h4,List.cons_append,List.nil_append]
theorem dec_V {k:Nat} {ds:List CD} (h:QD Tryz.prog k 64 ds):∃v:Vr,ds=v.enc:=by
 obtain⟨hl,k1,_,hx⟩:=WS (l:=[(0,1,9),(1,1,62),(2,1,3),(3,1,3),(4,1,3)]) Tryz.underlying64 (by kernel_rfl) (by kernel_rfl:Tryz.prog.cellsOf 64=5) h
 match ds,hl with
 | [a0,a1,a2,a3,a4],_=>
   obtain⟨n0,h0⟩:=dec_s (hx (0,1,9) (by simp));obtain⟨n1,h1⟩:=X0I Tryz.underlying62 (hx (1,1,62) (by simp));obtain⟨n2,h2⟩:=X0I Tryz.underlying3 (hx (2,1,3) (by simp));obtain⟨n3,h3⟩:=X0I Tryz.underlying3 (hx (3,1,3) (by simp));obtain⟨n4,h4⟩:=X0I Tryz.underlying3 (hx (4,1,3) (by simp));simp only[List.drop,List.take,List.cons.injEq,and_true]at h0 h1 h2 h3 h4;subst h0 h1 h2 h3 h4;exact⟨⟨n0,n1,n2,n3,n4⟩,rfl⟩
theorem dec_H {k:Nat} {ds:List CD} (h:QD Tryz.prog k 99 ds):∃v:Ht,ds=v.enc:=by
 obtain⟨hl,k1,_,hx⟩:=WS (l:=[(0,1,9),(1,1,3),(2,1,3),(3,3,74)]) Tryz.underlying99 (by kernel_rfl) (by kernel_rfl:Tryz.prog.cellsOf 99=6) h
 match ds,hl with
 | [a0,a1,a2,a3,a4,a5],_=>
   obtain⟨n0,h0⟩:=dec_s (hx (0,1,9) (by simp));obtain⟨n1,h1⟩:=X0I Tryz.underlying3 (hx (1,1,3) (by simp));obtain⟨n2,h2⟩:=X0I Tryz.underlying3 (hx (2,1,3) (by simp));obtain⟨t,h3⟩:=dec_T _ _ (hx (3,3,74) (by simp));simp only[List.drop,List.take,List.cons.injEq,and_true]at h0 h1 h2 h3;subst h0 h1 h2;exact⟨⟨n0,n1,n2,t⟩,by simp only[Ht.enc,←h3,List.cons_append,List.nil_append]⟩
theorem dec_F {k:Nat} {ds:List CD} (h:QD Tryz.prog k 26 ds):∃f:Fl,ds=f.enc:=by
 obtain⟨hl,k1,_,hx⟩:=WS (l:=[(0,1,22),(1,1,23),(2,1,24)]) Tryz.underlying26 (by kernel_rfl) (by kernel_rfl:Tryz.prog.cellsOf 26=3) h
 match ds,hl with
 | [a0,a1,a2],_=>
   obtain⟨lv,h0⟩:=Zq (enc:=Vr.enc) Tryz.underlying22 (by kernel_rfl:Tryz.prog.cellsOf 64=5) (fun _ _ _ hr=>dec_V hr) (hx (0,1,22) (by simp));obtain⟨lh,h1⟩:=Zq (enc:=Ht.enc) Tryz.underlying23 (by kernel_rfl:Tryz.prog.cellsOf 99=6) (fun _ _ _ hr=>dec_H hr) (hx (1,1,23) (by simp));obtain⟨ls,h2⟩:=Zq (enc:=St.enc) Tryz.underlying24 (by kernel_rfl:Tryz.prog.cellsOf 76=10) (fun k' _ r hr=>dec_S k' r hr) (hx (2,1,24) (by simp));simp only[List.drop,List.take,List.cons.injEq,and_true]at h0 h1 h2;subst h0 h1 h2;exact⟨⟨lv,lh,ls⟩,by simp only[Fl.enc,Xr,Xs,QZ]⟩
theorem aggF:aggT Tryz.prog 26=true:=by unfold aggT;rw[Tryz.underlying26]
end Go.Proofs.YtppjennamodfdaaGreat
