/- HmN: part of an evaluator of Go code over abstract states, proved sound over the model; used by the proof of the claimed statement. Conditions: none. -/
import Derived.Test.YtdajceakaakdoaaGreatHmM
set_option linter.unusedSimpArgs false
set_option linter.unusedVariables false
namespace Go.Hl
open Go Go.RowKit
def CV.ren (ρ:Nat→Nat) (nils:List Nat):CV→CV
 | .own n=>if nils.contains n then .c (.lit XW)else .own (ρ n)
 | .at_ n off=>if nils.contains n then .at_ n off else .at_ (ρ n) off
 | .el n s i off=>if nils.contains n then .el n s i off else .el (ρ n) s i off
 | .sub n i=>if nils.contains n then .sub n i else .sub (ρ n) i
 | .el2 n s i j off=>if nils.contains n then .el2 n s i j off else .el2 (ρ n) s i j off
 | .fn f caps=>.fn f (caps.map fun p=>(ρ p.1,p.2))
 | .gd b x=>.gd b (x.ren ρ nils)
 |x=>x
def TV.ren (ρ:Nat→Nat) (nils:List Nat):TV→TV
 | .one x=>.one (x.ren ρ nils)
 | .agg xs=>.agg (xs.map (CV.ren ρ nils))
def RV.ren (ρ:Nat→Nat) (nils:List Nat):RV→RV
 | .v t=>.v (t.ren ρ nils)
 | .tup ts=>.tup (ts.map (TV.ren ρ nils))
def Ob.ren (ρ:Nat→Nat) (nils:List Nat):Ob→Ob
 | .box cs=>.box (cs.map (CV.ren ρ nils))
 | .refs e ns=>.refs e (ns.map ρ)
 |o=>o
def CV.okNil (nils:List Nat):CV→Bool
 | .at_ n _=> !nils.contains n
 | .el n _ _ _=> !nils.contains n
 | .sub n _=> !nils.contains n
 | .el2 n _ _ _ _=> !nils.contains n
 | .fn _ caps=>caps.all fun p=> !nils.contains p.1
 | .gd _ x=>x.okNil nils
 |_=>true
def TV.okNil (nils:List Nat):TV→Bool
 | .one x=>x.okNil nils
 | .agg xs=>xs.all (CV.okNil nils)
def RV.okNil (nils:List Nat):RV→Bool
 | .v t=>t.okNil nils
 | .tup ts=>ts.all (TV.okNil nils)
def Ob.okNil (nils:List Nat):Ob→Bool
 | .box cs=>cs.all (CV.okNil nils)
 | .refs _ ns=>ns.all fun n=> !nils.contains n
 |_=>true
def CV.menA (d:Nat):CV→Bool
 | .at_ n _=>n==d
 | .sub n _=>n==d
 | .el2 n _ _ _ _=>n==d
 | .fn _ caps=>caps.any fun p=>p.1==d
 | .gd _ x=>x.menA d
 |_=>false
def TV.menA (d:Nat):TV→Bool
 | .one x=>x.menA d
 | .agg xs=>xs.any (CV.menA d)
def RV.menA (d:Nat):RV→Bool
 | .v t=>t.menA d
 | .tup ts=>ts.any (TV.menA d)
def Ob.menA (d:Nat):Ob→Bool
 | .box cs=>cs.any (CV.menA d)
 |_=>false
def Zb {α:Type} (p:Nat→α→Prop):List (Nat×α)→Prop
 |[]=>True
 |(k,x)::l=>p k x∧Zb p l
theorem WP {α:Type} {p:Nat→α→Prop}:∀{l:List (Nat×α)},Zb p l→∀k x,(k,x)∈l→p k x
 | (k,x)::l,h,k',x',hm=>by
   rcases List.mem_cons.1 hm with e|hm
   · cases e;exact h.1
   exact WP h.2 k' x' hm
section
variable {P:Program} {F:Nat→Prop} {γ γ':Nat→Value} {w w' w0:World} {B:Nat→Prop} {π:Nat→Option Value} {ρ:Nat→Nat} {nils:List Nat}
theorem Xn.ren (h1:∀n,nils.contains n=false→γ' n=γ (ρ n)) (h2:∀n,nils.contains n=true→γ' n=XW) {x:CV} {v:Value} (hk:x.okNil nils=true) (h:Xn F γ w (x.ren ρ nils) v):Xn F γ' w x v:=by
 induction x with
 |gd b x ih=>exact⟨fun hb=>ih hk (h.1 hb),h.2⟩
 |any=>trivial
 |c d=>exact h
 | own n=>
   simp only[CV.ren]at h;split at h
   · rename_i hn;have e:v=XW:=by cases h;rfl
     exact⟨by rw[h2 n hn,e];rfl,by rw[e];rfl⟩
   rename_i hn;simp only[Xn]at*;rw[h1 n (by simpa using hn)];exact h
 | at_ n off=>
   simp only[CV.okNil,Bool.not_eq_true']at hk;simp only[CV.ren,hk,Bool.false_eq_true,if_false]at h;simp only[Xn]at*;rw[h1 n hk];exact h
 | el n s i off=>
   simp only[CV.okNil,Bool.not_eq_true']at hk;simp only[CV.ren,hk,Bool.false_eq_true,if_false]at h;simp only[Xn]at*;rw[h1 n hk];exact h
 | sub n i=>
   simp only[CV.okNil,Bool.not_eq_true']at hk;simp only[CV.ren,hk,Bool.false_eq_true,if_false]at h;simp only[Xn]at*;rw[h1 n hk];exact h
 | el2 n s i j off=>
   simp only[CV.okNil,Bool.not_eq_true']at hk;simp only[CV.ren,hk,Bool.false_eq_true,if_false]at h;simp only[Xn]at*;rw[h1 n hk];exact h
 | fn f caps=>
   simp only[CV.okNil,List.all_eq_true,Bool.not_eq_true']at hk;obtain⟨vs,hv,hl,hc⟩:=h;refine⟨vs,hv,by simpa using hl,fun j p u hp hu=>?_⟩;rw[h1 p.1 (hk p (List.mem_of_getElem? hp))];exact hc j (ρ p.1,p.2) u (by simp[hp]) hu
theorem Xk.ren (h1:∀n,nils.contains n=false→γ' n=γ (ρ n)) (h2:∀n,nils.contains n=true→γ' n=XW) {xs:List CV} {vs:Array Value} (hk:xs.all (CV.okNil nils)=true)
  (h:Xk F γ w (xs.map (CV.ren ρ nils)) vs):Xk F γ' w xs vs:=by
 refine⟨by simpa using h.1,fun j x u hx hu=>?_⟩;rw[List.all_eq_true]at hk;exact(h.2 j (x.ren ρ nils) u (by simp[hx]) hu).ren h1 h2 (hk x (List.mem_of_getElem? hx))
theorem XD.ren (h1:∀n,nils.contains n=false→γ' n=γ (ρ n)) (h2:∀n,nils.contains n=true→γ' n=XW) {x:TV} {v:Value} (hk:x.okNil nils=true) (h:XD F γ w (x.ren ρ nils) v):XD F γ' w x v:=by
 cases x with
 |one x=>exact Xn.ren h1 h2 hk h
 |agg xs=>obtain⟨vs,rfl,hc⟩:=h;exact⟨vs,rfl,hc.ren h1 h2 hk⟩
theorem X9.ren (h1:∀n,nils.contains n=false→γ' n=γ (ρ n)) (h2:∀n,nils.contains n=true→γ' n=XW) {x:RV} {v:Value} (hk:x.okNil nils=true) (h:X9 F γ w (x.ren ρ nils) v):X9 F γ' w x v:=by
 cases x with
 |v t=>exact XD.ren h1 h2 hk h
 | tup ts=>
   obtain⟨vs,rfl,hs,hc⟩:=h;refine⟨vs,rfl,by simpa using hs,fun j t u ht hu=>?_⟩;simp only[RV.okNil,List.all_eq_true]at hk;exact(hc j (t.ren ρ nils) u (by simp[ht]) hu).ren h1 h2 (hk t (List.mem_of_getElem? ht))
def X0C (ρ:Nat→Nat) (n:Nat):Nat:=if 1000000≤n then n else ρ n
theorem Xx {s s':HS} (ρ:Nat→Nat) (nils:List Nat) (hn:s'.nt=s.nt)
  (hr:Zb (fun k r=>r.okNil nils=true∧opd s.regs (.tmp k)=r.ren (X0C ρ) nils) s'.regs)
  (ho:Zb (fun n o=>if nils.contains n then(match o with| .row _ sz []=>0<sz|_=>False)else o.okNil nils=true∧lkp s.objs (X0C ρ n)=some (o.ren (X0C ρ) nils)) s'.objs)
  (hi:Zb (fun n _=>Zb (fun m _=>n=m∨X0C ρ n≠X0C ρ m∨nils.contains n=true∨nils.contains m=true) s'.objs) s'.objs)
  (hp:nils.all (fun n=>decide (n<1000000))=true:=by rfl):le s s':=by
 intro w0 B π F γ a w h
 let γ':Nat→Value:=fun n=>if nils.contains n then XW else γ (X0C ρ n)
 have h1:∀n,nils.contains n=false→γ' n=γ (X0C ρ n):=fun n h=>by simp only[γ',h];rfl
 have h2:∀n,nils.contains n=true→γ' n=XW:=fun n h=>by simp only[γ',h,if_true]
 have hobj:∀n o,lkp s'.objs n=some o→(nils.contains n=true∧∃e sz,o=.row e sz []∧0<sz)∨(nils.contains n=false∧o.okNil nils=true∧lkp s.objs (X0C ρ n)=some (o.ren (X0C ρ) nils)):=by
  intro n o hl;have:=WP ho n o (Xy hl);split at this
  · rename_i hc;refine .inl ⟨hc,?_⟩;split at this
    · exact⟨_,_,rfl,this⟩
    exact this.elim
  rename_i hc;exact .inr ⟨by simpa using hc,this⟩
 refine⟨F,γ',fun _ h=>h,fun _ h=>.inl h,⟨⟨h.heap.below,h.heap.hB,h.heap.fsz,?_,?_,?_,?_⟩,h.defers,by rw[hn];exact h.nt,?_⟩⟩
 · intro n o hl;rcases hobj n o hl with⟨hc,e,sz,rfl,hsz⟩|⟨hc,hok,hl'⟩
   · rw[h2 n hc];exact⟨hsz,by simp,[],Qy.nil w B e sz,by simp,by simp[XG]⟩
   have:=h.heap.ob _ _ hl';rw[h1 n hc];cases o with
   | box cs=>
     obtain⟨b,e,vs,hx,hB,hh,hc'⟩:=this;exact⟨b,e,vs,hx,hB,hh,hc'.ren h1 h2 hok⟩
   |row e sz rows=>exact this
   |mp l=>exact this
   |mat e e' sz rows=>exact this
   | refs e ns=>
     obtain⟨b,hx,hB,hh⟩:=this;refine⟨b,by simpa using hx,hB,?_⟩;rw[hh,List.map_map];congr 3;refine List.map_congr_left fun m hm=>?_;simp only[Ob.okNil,List.all_eq_true,Bool.not_eq_true']at hok;simp only[Function.comp];rw[h1 m (hok m hm)]
   |mps e ms=>exact this
   |it l seen=>exact this
 · intro n o hl b hb;rcases hobj n o hl with⟨hc,_⟩|⟨hc,hok,hl'⟩
   · rw[h2 n hc]at hb;cases hb
   rw[h1 n hc]at hb;exact h.heap.apart _ _ hl' b hb
 · intro n m on om hln hlm hne b hbn hbm;rcases hobj n on hln with⟨hc,_⟩|⟨hc,hok,hl'⟩
   · rw[h2 n hc]at hbn;cases hbn
   rcases hobj m om hlm with⟨hc2,_⟩|⟨hc2,hok2,hl2⟩
   · rw[h2 m hc2]at hbm;cases hbm
   rw[h1 n hc]at hbn;rw[h1 m hc2]at hbm;have:=WP (WP hi n on (Xy hln)) m om (Xy hlm);rcases this with h3|h3|h3|h3
   · exact hne h3
   · exact h.heap.sep _ _ _ _ hl' hl2 h3 b hbn hbm
   · rw[hc]at h3;cases h3
   rw[hc2]at h3;cases h3
 · intro n v hv;obtain⟨h3,h4⟩:=h.heap.pin n v hv;refine⟨h3,?_⟩
   have hc:nils.contains n=false:=by
    cases hc:nils.contains n with
    |false=>rfl
    | true=>
      rw[List.all_eq_true]at hp;have:=hp n (by simpa using hc);simp only[decide_eq_true_eq]at this;omega
   rw[h1 n hc];simp only[X0C,if_pos h3];exact h4
 intro k r hl;obtain⟨hok,he⟩:=WP hr k r (Xy hl);have:=h.opd (.tmp k);rw[he]at this;exact this.ren h1 h2 hok
theorem le_trans {s s' s'':HS} (h:le s s') (h':le s' s''):le s s'':=by
 intro w0 B π F γ a w hr;obtain⟨F1,γ1,a1,a2,hr1⟩:=h w0 B π F γ a w hr;obtain⟨F2,γ2,b1,b2,hr2⟩:=h' w0 B π F1 γ1 a w hr1;exact⟨F2,γ2,fun b hb=>b1 b (a1 b hb),fun b hb=>(b2 b hb).elim (a2 b) .inr,hr2⟩
theorem le_refl (s:HS):le s s:=fun _ _ _ F γ _ _ hr=>⟨F,γ,fun _ h=>h,fun _ h=>.inl h,hr⟩
def CV.frz (n:Nat) (d:CD):CV→CV
 | .own m=>if m=n then .c d else .own m
 | .at_ m off=>if m=n then(match d with| .ptr cs=>.c (.ptr (cs.drop off))|_=>.any)else .at_ m off
 | .el m s' i off=>if m=n then .any else .el m s' i off
 | .sub m i=>if m=n then .any else .sub m i
 | .el2 m s i j off=>if m=n then .any else .el2 m s i j off
 | .fn f caps=>if caps.any (fun p=>p.1==n)then .any else .fn f caps
 | .gd b x=>.gd b (x.frz n d)
 |x=>x
def TV.frz (n:Nat) (d:CD):TV→TV
 | .one x=>.one (x.frz n d)
 | .agg xs=>.agg (xs.map (CV.frz n d))
def RV.frz (n:Nat) (d:CD):RV→RV
 | .v t=>.v (t.frz n d)
 | .tup ts=>.tup (ts.map (TV.frz n d))
def Ob.frz (n:Nat) (d:CD):Ob→Ob
 | .box cs=>.box (cs.map (CV.frz n d))
 |o=>o
def Ws {α β:Type} (f:α→β):List (Nat×α)→List (Nat×β)
 |[]=>[]
 |(k,x)::l=>(k,f x)::Ws f l
theorem Zs {α β:Type} (f:α→β) (n:Nat):∀l:List (Nat×α),lkp (Ws f l) n=(lkp l n).map f
 |[]=>rfl
 | (k,x)::l=>by
   simp only[Ws,lkp];split
   · rfl
   exact Zs f n l
def X60 (G:Nat→Prop) (w:World) (x:Value) (d:CD):Prop:=CRel G w d (Hl.hd x)∧∀b,x=.pointer (some ⟨b,0,none⟩)→∀cs,d=.ptr cs→∀off,CRel G w (.ptr (cs.drop off)) (.pointer (some ⟨b,off,none⟩))
theorem Xn.frz {n:Nat} {d:CD} {G:Nat→Prop} (hG:∀b,F b→G b) (hn:X60 G w (γ n) d) {x:CV} {v:Value} (h:Xn F γ w x v):Xn G γ w (x.frz n d) v:=by
 induction x with
 |gd b x ih=>exact⟨fun hb=>ih (h.1 hb),h.2⟩
 |any=>trivial
 |c d=>exact CRel.mono hG (fun _ _=>rfl) h
 | own m=>
   simp only[CV.frz];split
   · rename_i e;subst e;rw[h.1];exact hn.1
   exact h
 | at_ m off=>
   simp only[CV.frz];split
   · rename_i e;subst e;split
     · rename_i cs;obtain⟨b,hb,rfl⟩:=h;exact hn.2 b hb cs rfl off
     trivial
   exact h
 | el m s' i off=>
   simp only[CV.frz];split
   · trivial
   exact h
 | sub m i=>
   simp only[CV.frz];split
   · trivial
   exact h
 | el2 m s' i j off=>
   simp only[CV.frz];split
   · trivial
   exact h
 | fn f caps=>
   simp only[CV.frz];split
   · trivial
   exact h
theorem Xk.frz {n:Nat} {d:CD} {G:Nat→Prop} (hG:∀b,F b→G b) (hn:X60 G w (γ n) d) {xs:List CV} {vs:Array Value} (h:Xk F γ w xs vs):Xk G γ w (xs.map (CV.frz n d)) vs:=by
 refine⟨by simpa using h.1,fun j x u hx hu=>?_⟩;rw[List.getElem?_map]at hx;simp only[Option.map_eq_some_iff]at hx;obtain⟨y,hy,rfl⟩:=hx;exact(h.2 j y u hy hu).frz hG hn
theorem X9.frz {n:Nat} {d:CD} {G:Nat→Prop} (hG:∀b,F b→G b) (hn:X60 G w (γ n) d) {x:RV} {v:Value} (h:X9 F γ w x v):X9 G γ w (x.frz n d) v:=by
 have ht:∀(t:TV) v,XD F γ w t v→XD G γ w (t.frz n d) v:=by
  intro t v h;cases t with
  |one x=>exact Xn.frz hG hn h
  |agg xs=>obtain⟨vs,rfl,hc⟩:=h;exact⟨vs,rfl,hc.frz hG hn⟩
 cases x with
 |v t=>exact ht t v h
 | tup ts=>
   obtain⟨vs,rfl,hs,hc⟩:=h;refine⟨vs,rfl,by simpa using hs,fun j t u htt hu=>?_⟩;rw[List.getElem?_map]at htt;simp only[Option.map_eq_some_iff]at htt;obtain⟨y,hy,rfl⟩:=htt;exact ht _ _ (hc j y u hy hu)
def HS.frz (x:HS) (n:Nat) (d:CD):HS:=
 {x with regs:=Ws (RV.frz n d) x.regs,objs:=Ws (Ob.frz n d) (del n x.objs)}
theorem X3d {x:HS} (n:Nat) {o:Ob} {d:CD} (h:lkp x.objs n=some o)
  (hn:∀{w0:World} {B:Nat→Prop} {π:Nat→Option Value} {F:Nat→Prop} {γ:Nat→Value} {w:World},HeapRel w0 B π F γ x.objs w→X60 (fun b=>F b∨Blk (γ n) b) w (γ n) d):le x (x.frz n d):=by
 intro w0 B π F γ a w hr;have hob:=hr.heap.ob n _ h
 let G:Nat→Prop:=fun b=>F b∨Blk (γ n) b
 have hG:∀b,F b→G b:=fun _ h=>.inl h;have hn':X60 G w (γ n) d:=hn hr.heap
 have hlk:∀m o,lkp (x.frz n d).objs m=some o→m≠n∧∃o0,lkp x.objs m=some o0∧o=o0.frz n d:=by
  intro m o hl;simp only[HS.frz]at hl;rw[Zs]at hl;simp only[Option.map_eq_some_iff]at hl;obtain⟨o0,ho0,rfl⟩:=hl;obtain⟨h1,h2⟩:=Q8 ho0;exact⟨h1,o0,h2,rfl⟩
 refine⟨G,γ,hG,?_,⟨⟨hr.heap.below,hr.heap.hB,?_,?_,?_,?_,hr.heap.pin⟩,hr.defers,hr.nt,?_⟩⟩
 · rintro b (hb|hb)
   · exact .inl hb
   exact .inr (hob.blk_lt hb).1
 · rintro b (hb|hb)
   · exact hr.heap.fsz b hb
   exact(hob.blk_lt hb).2
 · intro m o hl;obtain⟨hne,o0,h0,rfl⟩:=hlk m o hl;have:=(hr.heap.ob m o0 h0).mono (F':=G) (w':=w) hG (fun _ _=>rfl) (fun _ _=>rfl);cases o0 with
   | box cs=>
     obtain⟨b,e',vs,h1,h2,h3,_⟩:=this;obtain⟨b',e2,vs',h1',h2',h3',h4⟩:=hr.heap.ob m _ h0;exact⟨b',e2,vs',h1',h2',h3',h4.frz hG hn'⟩
   |row e' s' rows'=>exact this
   |mp l=>exact this
   |mat e e' s rows=>exact this
   |refs e ns=>exact this
   |mps e ms=>exact this
   |it l seen=>exact this
 · rintro m o hl b hb (hF|hF)
   · obtain⟨hne,o0,h0,rfl⟩:=hlk m o hl;exact hr.heap.apart m o0 h0 b hb hF
   obtain⟨hne,o0,h0,rfl⟩:=hlk m o hl;exact hr.heap.sep m n o0 _ h0 h hne b hb hF
 · intro m k om ok hlm hlk' hne;obtain⟨_,o1,h1,_⟩:=hlk m om hlm;obtain⟨_,o2,h2,_⟩:=hlk k ok hlk';exact hr.heap.sep m k o1 o2 h1 h2 hne
 intro k r hl;simp only[HS.frz]at hl;rw[Zs]at hl;simp only[Option.map_eq_some_iff]at hl;obtain⟨r0,hr0,rfl⟩:=hl;exact(hr.regs k r0 hr0).frz hG hn'
theorem QQ {x:HS} (n:Nat) {e:TypeId} {s:Nat} {rows:List (List CD)} (h:lkp x.objs n=some (.row e s rows)):le x (x.frz n (.sl s rows)):=
 X3d n h fun {_ B _ F γ w} hh=>by
  have hro:Xr F w B e s (γ n) rows:=hh.ob n _ h;refine⟨?_,fun b hb cs e=>by cases e⟩;rw[Zc hro.sl];exact X5p hro (fun _ h=>.inl h) fun b hb=>.inr ((W5 hro.sl).2 hb)
theorem le_frzP {x:HS} (n:Nat) {l:List (Value×CD)} (h:lkp x.objs n=some (.mp l)):le x (x.frz n (.mp l)):=
 X3d n h fun {_ B _ F γ w} hh=>by
  obtain⟨b,es,clock,hγ,hB,hb,hk,hn,hr⟩:=hh.ob n _ h;refine⟨?_,fun b hb cs e=>by cases e⟩;rw[hγ];exact .mp l b es clock (.inr rfl) hb hk hn fun j k d e h1 h2=>(hr j k d e h1 h2).mono (fun _ h=>.inl h) fun _ _=>rfl
theorem le_frzM {x:HS} (n:Nat) {e e':TypeId} {s:Nat} {rows:List (Option (List (List CD)))} (h:lkp x.objs n=some (.mat e e' s rows)):le x (x.frz n (.sl 1 (rows.map fun r=>[X4G s r]))):=
 X3d n h fun {_ B _ F γ w} hh=>⟨X5F (hh.ob n _ h) (fun _ h=>.inl h) fun b hb=>.inr hb,fun b hb cs e=>by cases e⟩
theorem le_frzQ {x:HS} (n:Nat) {e:TypeId} {ms:List (Option (List (Value×CD)))} (h:lkp x.objs n=some (.mps e ms)):le x (x.frz n (.sl 1 (ms.map fun r=>[mpC r]))):=
 X3d n h fun {_ B _ F γ w} hh=>⟨X8k (hh.ob n _ h) (fun _ h=>.inl h) fun b hb=>.inr hb,fun b hb cs e=>by cases e⟩
theorem le_mat {x:HS} (n:Nat) {e:TypeId} {k:Nat} (e':TypeId) (s:Nat) (hs:0<s) (hn6:n<1000000) (hrow:lkp x.objs n=some (.row e 1 (List.replicate k [.lit XW])))
  (hm:(x.regs.all fun p=> !p.2.menA n)=true) (hm2:(x.objs.all fun p=> !p.2.menA n)=true):le x {x with objs:=ins n (.mat e e' s (List.replicate k none)) x.objs}:=by
 intro w0 B π F γ a w hr;have hro:Xr F w B e 1 (γ n) (List.replicate k [.lit XW]):=hr.heap.ob n _ hrow;have hsl:=hro.sl;have hown:=hro;obtain⟨_,_,xs,hown,hx1,hxc⟩:=hown
 let y:Value:=.agg (γ n::List.replicate k undef).toArray
 have hhd:Hl.hd y=γ n:=rfl
 have hB:∀b,Blk y b↔Blk (γ n) b:=by
  intro b;constructor
  · rintro⟨v,hv,hvb⟩;simp only[List.mem_cons,List.mem_replicate]at hv;rcases hv with rfl|⟨_,rfl⟩
    · exact(W5 hsl).2 hvb
    cases hvb
  intro hb;exact⟨γ n,by simp,(W5 hsl).1 hb⟩
 have hcv:∀{z:CV} {v:Value},z.menA n=false→Xn F γ w z v→Xn F (upd γ n y) w z v:=by
  intro z
  induction z with
  |gd b z ih=>intro v hz h;exact⟨fun hb=>ih hz (h.1 hb),h.2⟩
  |any=>intro v hz h;trivial
  |c d=>intro v hz h;exact h
  | own m=>
    intro v hz h;by_cases e:m=n
    · subst e;exact⟨by rw[Xo,hhd,h.1,Zc hsl],h.2⟩
    simp only[Xn]at*;rw[Xd _ e];exact h
  | at_ m off=>
    intro v hz h;simp only[CV.menA,beq_eq_false_iff_ne]at hz;simp only[Xn]at*;rw[Xd _ hz];exact h
  | el m s' i off=>
    intro v hz h;by_cases e:m=n
    · subst e;obtain⟨b,oo,len,cap,h1,h2⟩:=h;refine⟨b,oo,len,cap,?_,h2⟩;rw[Xo,hhd];rw[Zc hsl]at h1;exact h1
    simp only[Xn]at*;rw[Xd _ e];exact h
  | sub m i=>
    intro v hz h;simp only[CV.menA,beq_eq_false_iff_ne]at hz;simp only[Xn]at*;rw[Xd _ hz];exact h
  | el2 m s' i j off=>
    intro v hz h;simp only[CV.menA,beq_eq_false_iff_ne]at hz;simp only[Xn]at*;rw[Xd _ hz];exact h
  | fn f caps=>
    intro v hz h;obtain⟨vs,hv,hl,hc⟩:=h;simp only[CV.menA,List.any_eq_false,beq_iff_eq]at hz;refine⟨vs,hv,hl,fun j p u hp hu=>?_⟩;rw[Xd _ (hz p (List.mem_of_getElem? hp))];exact hc j p u hp hu
 have htv:∀{z:TV} {v:Value},z.menA n=false→XD F γ w z v→XD F (upd γ n y) w z v:=by
  intro z v hz h;cases z with
  |one z=>exact hcv hz h
  | agg zs=>
    obtain⟨vs,rfl,hs,hc⟩:=h;simp only[TV.menA,List.any_eq_false,Bool.not_eq_true]at hz;exact⟨vs,rfl,hs,fun j z u hj hu=>hcv (hz z (List.mem_of_getElem? hj)) (hc j z u hj hu)⟩
 have hrv:∀{z:RV} {v:Value},z.menA n=false→X9 F γ w z v→X9 F (upd γ n y) w z v:=by
  intro z v hz h;cases z with
  |v t=>exact htv hz h
  | tup ts=>
    obtain⟨vs,rfl,hs,hc⟩:=h;simp only[RV.menA,List.any_eq_false,Bool.not_eq_true]at hz;exact⟨vs,rfl,hs,fun j z u hj hu=>htv (hz z (List.mem_of_getElem? hj)) (hc j z u hj hu)⟩
 have hot:∀m o,m≠n→lkp x.objs m=some o→XT F (upd γ n y) w B (γ m) o:=by
  intro m o hne hl;have:=hr.heap.ob m o hl
  have hmo:o.menA n=false:=by
   rw[List.all_eq_true]at hm2;simpa using hm2 _ (Xy hl)
  cases o with
  | box cs=>
    obtain⟨b,e',vs,h1,h2,h3,h4,h5⟩:=this;simp only[Ob.menA,List.any_eq_false,Bool.not_eq_true]at hmo;exact⟨b,e',vs,h1,h2,h3,h4,fun j z u hj hu=>hcv (hmo z (List.mem_of_getElem? hj)) (h5 j z u hj hu)⟩
  |row e' s' rows'=>exact this
  |mp l=>exact this
  |mat e e' s rows=>exact this
  | refs e ns=>
    obtain⟨b,h1,h2,h3⟩:=this;refine⟨b,h1,h2,?_⟩;rw[h3];congr 3;refine List.map_congr_left fun q _=>?_;by_cases e:q=n
    · subst e;rw[Xo,hhd,Zc hsl]
    rw[Xd _ e]
  |mps e ms=>exact this
  |it l seen=>exact this
 refine⟨F,upd γ n y,fun _ h=>h,fun _ h=>.inl h,⟨⟨hr.heap.below,hr.heap.hB,hr.heap.fsz,?_,?_,?_,?_⟩,hr.defers,hr.nt,?_⟩⟩
 · intro m o hl;simp only at hl;rw[XL]at hl;split at hl
   · rename_i e';subst e';cases hl;rw[Xo];refine⟨γ m,List.replicate k undef,rfl,hs,by simp,⟨xs,by simpa using hown,fun i v r hv hr=>?_⟩,fun i v r hv hr=>?_,fun i v b hv hb=>?_,fun i j u v b hu hv hij hb=>?_⟩
     · have hi:i<k:=by have:=(List.getElem?_eq_some_iff.1 hv).1;simpa using this
       rw[List.getElem?_replicate,if_pos hi]at hr;cases hr;obtain⟨u,hu,hcu⟩:=hxc i 0 (.lit XW) (by simp[XG,List.getElem?_replicate,hi]);cases hcu;simpa[ZV]using hu
     · have hi:i<k:=by have:=(List.getElem?_eq_some_iff.1 hv).1;simpa using this
       rw[List.getElem?_replicate,if_pos hi]at hr hv;cases hr;cases hv;rfl
     · have hi:i<k:=by have:=(List.getElem?_eq_some_iff.1 hv).1;simpa using this
       rw[List.getElem?_replicate,if_pos hi]at hv;cases hv;cases hb
     have hi:i<k:=by have:=(List.getElem?_eq_some_iff.1 hu).1;simpa using this
     rw[List.getElem?_replicate,if_pos hi]at hu;cases hu;cases hb
   rename_i hne;rw[Xd _ hne];exact hot m o hne hl
 · intro m o hl b hb;simp only at hl;rw[XL]at hl;split at hl
   · rename_i e';subst e';rw[Xo]at hb;exact hr.heap.apart m _ hrow b ((hB b).1 hb)
   rename_i hne;rw[Xd _ hne]at hb;exact hr.heap.apart m o hl b hb
 · intro m q om oq hlm hlq hmq b hbm hbq;simp only at hlm hlq;rw[XL]at hlm hlq;split at hlm
   · rename_i em;split at hlq
     · rename_i eq;exact hmq (em.trans eq.symm)
     rename_i hq;rw[em,Xo]at hbm;rw[Xd _ hq]at hbq;exact hr.heap.sep n q _ _ hrow hlq (Ne.symm hq) b ((hB b).1 hbm) hbq
   rename_i hm';rw[Xd _ hm']at hbm;split at hlq
   · rename_i eq;rw[eq,Xo]at hbq;exact hr.heap.sep m n _ _ hlm hrow hm' b hbm ((hB b).1 hbq)
   rename_i hq;rw[Xd _ hq]at hbq;exact hr.heap.sep m q _ _ hlm hlq hmq b hbm hbq
 · intro m v hv;obtain⟨h1,h2⟩:=hr.heap.pin m v hv;exact⟨h1,by rw[Xd _ (by omega)];exact h2⟩
 intro q r hl
 have:r.menA n=false:=by
  rw[List.all_eq_true]at hm;simpa using hm _ (Xy hl)
 exact hrv this (hr.regs q r hl)
theorem le_mps {x:HS} (n:Nat) {e:TypeId} {k:Nat} (hn6:n<1000000) (hrow:lkp x.objs n=some (.row e 1 (List.replicate k [.lit (.map none)])))
  (hm:(x.regs.all fun p=> !p.2.menA n)=true) (hm2:(x.objs.all fun p=> !p.2.menA n)=true):le x {x with objs:=ins n (.mps e (List.replicate k none)) x.objs}:=by
 intro w0 B π F γ a w hr;have hro:Xr F w B e 1 (γ n) (List.replicate k [.lit (.map none)]):=hr.heap.ob n _ hrow;have hsl:=hro.sl;have hown:=hro;obtain⟨_,_,xs,hown,hx1,hxc⟩:=hown
 let y:Value:=.agg (γ n::List.replicate k undef).toArray
 have hhd:Hl.hd y=γ n:=rfl
 have hB:∀b,Blk y b↔Blk (γ n) b:=by
  intro b;constructor
  · rintro⟨v,hv,hvb⟩;simp only[List.mem_cons,List.mem_replicate]at hv;rcases hv with rfl|⟨_,rfl⟩
    · exact(W5 hsl).2 hvb
    cases hvb
  intro hb;exact⟨γ n,by simp,(W5 hsl).1 hb⟩
 have hcv:∀{z:CV} {v:Value},z.menA n=false→Xn F γ w z v→Xn F (upd γ n y) w z v:=by
  intro z
  induction z with
  |gd b z ih=>intro v hz h;exact⟨fun hb=>ih hz (h.1 hb),h.2⟩
  |any=>intro v hz h;trivial
  |c d=>intro v hz h;exact h
  | own m=>
    intro v hz h;by_cases e:m=n
    · subst e;exact⟨by rw[Xo,hhd,h.1,Zc hsl],h.2⟩
    simp only[Xn]at*;rw[Xd _ e];exact h
  | at_ m off=>
    intro v hz h;simp only[CV.menA,beq_eq_false_iff_ne]at hz;simp only[Xn]at*;rw[Xd _ hz];exact h
  | el m s' i off=>
    intro v hz h;by_cases e:m=n
    · subst e;obtain⟨b,oo,len,cap,h1,h2⟩:=h;refine⟨b,oo,len,cap,?_,h2⟩;rw[Xo,hhd];rw[Zc hsl]at h1;exact h1
    simp only[Xn]at*;rw[Xd _ e];exact h
  | sub m i=>
    intro v hz h;simp only[CV.menA,beq_eq_false_iff_ne]at hz;simp only[Xn]at*;rw[Xd _ hz];exact h
  | el2 m s' i j off=>
    intro v hz h;simp only[CV.menA,beq_eq_false_iff_ne]at hz;simp only[Xn]at*;rw[Xd _ hz];exact h
  | fn f caps=>
    intro v hz h;obtain⟨vs,hv,hl,hc⟩:=h;simp only[CV.menA,List.any_eq_false,beq_iff_eq]at hz;refine⟨vs,hv,hl,fun j p u hp hu=>?_⟩;rw[Xd _ (hz p (List.mem_of_getElem? hp))];exact hc j p u hp hu
 have htv:∀{z:TV} {v:Value},z.menA n=false→XD F γ w z v→XD F (upd γ n y) w z v:=by
  intro z v hz h;cases z with
  |one z=>exact hcv hz h
  | agg zs=>
    obtain⟨vs,rfl,hs,hc⟩:=h;simp only[TV.menA,List.any_eq_false,Bool.not_eq_true]at hz;exact⟨vs,rfl,hs,fun j z u hj hu=>hcv (hz z (List.mem_of_getElem? hj)) (hc j z u hj hu)⟩
 have hrv:∀{z:RV} {v:Value},z.menA n=false→X9 F γ w z v→X9 F (upd γ n y) w z v:=by
  intro z v hz h;cases z with
  |v t=>exact htv hz h
  | tup ts=>
    obtain⟨vs,rfl,hs,hc⟩:=h;simp only[RV.menA,List.any_eq_false,Bool.not_eq_true]at hz;exact⟨vs,rfl,hs,fun j z u hj hu=>htv (hz z (List.mem_of_getElem? hj)) (hc j z u hj hu)⟩
 have hot:∀m o,m≠n→lkp x.objs m=some o→XT F (upd γ n y) w B (γ m) o:=by
  intro m o hne hl;have:=hr.heap.ob m o hl
  have hmo:o.menA n=false:=by
   rw[List.all_eq_true]at hm2;simpa using hm2 _ (Xy hl)
  cases o with
  | box cs=>
    obtain⟨b,e',vs,h1,h2,h3,h4,h5⟩:=this;simp only[Ob.menA,List.any_eq_false,Bool.not_eq_true]at hmo;exact⟨b,e',vs,h1,h2,h3,h4,fun j z u hj hu=>hcv (hmo z (List.mem_of_getElem? hj)) (h5 j z u hj hu)⟩
  |row e' s' rows'=>exact this
  |mp l=>exact this
  |mat e e' s rows=>exact this
  | refs e ns=>
    obtain⟨b,h1,h2,h3⟩:=this;refine⟨b,h1,h2,?_⟩;rw[h3];congr 3;refine List.map_congr_left fun q _=>?_;by_cases e:q=n
    · subst e;rw[Xo,hhd,Zc hsl]
    rw[Xd _ e]
  |mps e ms=>exact this
  |it l seen=>exact this
 refine⟨F,upd γ n y,fun _ h=>h,fun _ h=>.inl h,⟨⟨hr.heap.below,hr.heap.hB,hr.heap.fsz,?_,?_,?_,?_⟩,hr.defers,hr.nt,?_⟩⟩
 · intro m o hl;simp only at hl;rw[XL]at hl;split at hl
   · rename_i e';subst e';cases hl;rw[Xo];refine⟨γ m,List.replicate k undef,rfl,by simp,⟨xs,by simpa using hown,fun i v r hv hr=>?_⟩,fun i v r hv hr=>?_,fun i v b hv hb=>?_,fun i j u v b hu hv hij hb=>?_⟩
     · have hi:i<k:=by have:=(List.getElem?_eq_some_iff.1 hv).1;simpa using this
       rw[List.getElem?_replicate,if_pos hi]at hr;cases hr;obtain⟨u,hu,hcu⟩:=hxc i 0 (.lit (.map none)) (by simp[XG,List.getElem?_replicate,hi]);cases hcu;simpa[X0s]using hu
     · have hi:i<k:=by have:=(List.getElem?_eq_some_iff.1 hv).1;simpa using this
       rw[List.getElem?_replicate,if_pos hi]at hr hv;cases hr;cases hv;rfl
     · have hi:i<k:=by have:=(List.getElem?_eq_some_iff.1 hv).1;simpa using this
       rw[List.getElem?_replicate,if_pos hi]at hv;cases hv;cases hb
     have hi:i<k:=by have:=(List.getElem?_eq_some_iff.1 hu).1;simpa using this
     rw[List.getElem?_replicate,if_pos hi]at hu;cases hu;cases hb
   rename_i hne;rw[Xd _ hne];exact hot m o hne hl
 · intro m o hl b hb;simp only at hl;rw[XL]at hl;split at hl
   · rename_i e';subst e';rw[Xo]at hb;exact hr.heap.apart m _ hrow b ((hB b).1 hb)
   rename_i hne;rw[Xd _ hne]at hb;exact hr.heap.apart m o hl b hb
 · intro m q om oq hlm hlq hmq b hbm hbq;simp only at hlm hlq;rw[XL]at hlm hlq;split at hlm
   · rename_i em;split at hlq
     · rename_i eq;exact hmq (em.trans eq.symm)
     rename_i hq;rw[em,Xo]at hbm;rw[Xd _ hq]at hbq;exact hr.heap.sep n q _ _ hrow hlq (Ne.symm hq) b ((hB b).1 hbm) hbq
   rename_i hm';rw[Xd _ hm']at hbm;split at hlq
   · rename_i eq;rw[eq,Xo]at hbq;exact hr.heap.sep m n _ _ hlm hrow hm' b hbm ((hB b).1 hbq)
   rename_i hq;rw[Xd _ hq]at hbq;exact hr.heap.sep m q _ _ hlm hlq hmq b hbm hbq
 · intro m v hv;obtain⟨h1,h2⟩:=hr.heap.pin m v hv;exact⟨h1,by rw[Xd _ (by omega)];exact h2⟩
 intro q r hl
 have:r.menA n=false:=by
  rw[List.all_eq_true]at hm;simpa using hm _ (Xy hl)
 exact hrv this (hr.regs q r hl)
end
end Go.Hl
