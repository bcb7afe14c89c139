/- HmH: part of an evaluator of Go code over abstract states, proved sound over the model; used by the proof of the claimed statement. Conditions: none. -/
import Derived.Test.YtdajceakaakdoaaGreatHmG
set_option linter.unusedSimpArgs false
set_option linter.unusedVariables false
namespace Go.Hl
open Go Go.RowKit
section
variable {P:Program} {F:Nat→Prop} {γ:Nat→Value} {w w' w0:World} {B:Nat→Prop} {π:Nat→Option Value}
theorem HeapRel.wrote {objs:List (Nat×Ob)} (h:HeapRel w0 B π F γ objs w) {n b:Nat} {o0 ob:Ob} (hn:lkp objs n=some o0) (hbn:Blk (γ n) b)
  (hb:Kept B w0 w') (hsz:w.heap.size≤w'.heap.size) (hkeep:∀k,k<w.heap.size→k≠b→w'.heap[k]? =w.heap[k]?)
  (hob:XT F γ w' B (γ n) ob):HeapRel w0 B π F γ (ins n ob objs) w':=by
 have hF:∀k,F k→w'.heap[k]? =w.heap[k]? :=fun k hk=>hkeep k (h.fsz k hk) fun e=>h.apart n o0 hn b hbn (e▸hk)
 exact {
  below:=hb
  hB:=fun b hb=>Nat.lt_of_lt_of_le (h.hB b hb) hsz
  fsz:=fun k hk=>Nat.lt_of_lt_of_le (h.fsz k hk) hsz
  ob:=fun m o ho=>by
   rw[XL]at ho;split at ho
   · rename_i hm;cases ho;subst hm;exact hob
   rename_i hm;have h1:=h.ob m o ho;exact h1.mono (fun _ h=>h) hF fun k hk=>hkeep k (h1.blk_lt hk).2 fun e=>h.sep m n o o0 ho hn hm k hk (e▸hbn)
  apart:=fun m o ho=>by
   rw[XL]at ho;split at ho
   · rename_i hm;cases ho;subst hm;exact h.apart _ o0 hn
   exact h.apart m o ho
  sep:=fun m k om ok hm hk hne=>by
   have:∀x ox,lkp (ins n ob objs) x=some ox→∃oy,lkp objs x=some oy:=by
    intro x ox hx;rw[XL]at hx;split at hx
    · rename_i e;subst e;exact⟨o0,hn⟩
    exact⟨ox,hx⟩
   obtain⟨om',hm'⟩:=this m om hm;obtain⟨ok',hk'⟩:=this k ok hk;exact h.sep m k om' ok' hm' hk' hne
  pin:=h.pin}
theorem HeapRel.less {objs objs':List (Nat×Ob)} (h:HeapRel w0 B π F γ objs w) (hs:∀n o,lkp objs' n=some o→lkp objs n=some o):HeapRel w0 B π F γ objs' w where
 below:=h.below
 hB:=h.hB
 fsz:=h.fsz
 ob n o ho:=h.ob n o (hs n o ho)
 apart n o ho:=h.apart n o (hs n o ho)
 sep n m on om hn hm:=h.sep n m on om (hs n on hn) (hs m om hm)
 pin:=h.pin
theorem Q8 {α:Type} {n m:Nat} {l:List (Nat×α)} {o:α} (h:lkp (del n l) m=some o):m≠n∧lkp l m=some o:=by
 rw[X01]at h;split at h
 · cases h
 rename_i hne;exact⟨hne,h⟩
theorem HeapRel.moved {objs objs':List (Nat×Ob)} (h:HeapRel w0 B π F γ objs w) {ns:List Nat} {d:Nat} {ob:Ob} {x:Value} (hns:∀n∈ns,∃o,lkp objs n=some o)
  (hsub:∀m o,lkp objs' m=some o→m∉ns∧lkp objs m=some o)
  (hd:∀n o,lkp objs n=some o→n≠d∧¬o.men d) (hb:Kept B w0 w') (hsz:w.heap.size≤w'.heap.size)
  (hkeep:∀k,k<w.heap.size→(∀n∈ns,¬Blk (γ n) k)→w'.heap[k]? =w.heap[k]?) (hx:∀b,Blk x b→w.heap.size≤b∨∃n∈ns,Blk (γ n) b) (hd6:d<1000000)
  (hob:XT F (upd γ d x) w' B x ob):HeapRel w0 B π F (upd γ d x) (ins d ob objs') w':=by
 have hF:∀k,F k→w'.heap[k]? =w.heap[k]? :=fun k hk=>hkeep k (h.fsz k hk) fun n hn e=>by
  obtain⟨o0,ho0⟩:=hns n hn;exact h.apart n o0 ho0 k e hk
 exact {
  below:=hb
  hB:=fun b hb=>Nat.lt_of_lt_of_le (h.hB b hb) hsz
  fsz:=fun k hk=>Nat.lt_of_lt_of_le (h.fsz k hk) hsz
  ob:=fun m o ho=>by
   rw[XL]at ho;split at ho
   · rename_i hm;cases ho;subst hm;rw[Xo];exact hob
   rename_i hm;obtain⟨hne,ho'⟩:=hsub m o ho;rw[Xd _ hm];have h1:=h.ob m o ho';refine(h1.mono (fun _ h=>h) hF fun k hk=>hkeep k (h1.blk_lt hk).2 fun n hn e=>?_).upd (hd m o ho').2;obtain⟨o0,ho0⟩:=hns n hn;exact h.sep m n o o0 ho' ho0 (fun e'=>hne (e'▸hn)) k hk e
  apart:=fun m o ho b hbk hFb=>by
   rw[XL]at ho;split at ho
   · rename_i hm;rw[hm,Xo]at hbk;rcases hx b hbk with h1|⟨n,hn,h1⟩
     · have:=h.fsz b hFb;omega
     obtain⟨o0,ho0⟩:=hns n hn;exact h.apart n o0 ho0 b h1 hFb
   rename_i hm;obtain⟨hne,ho'⟩:=hsub m o ho;rw[Xd _ hm]at hbk;exact h.apart m o ho' b hbk hFb
  sep:=fun m k om ok hm hk hne b hbm hbk=>by
   rw[XL]at hm hk
   have key:∀y oy,lkp objs' y=some oy→y≠d→Blk x b→Blk (upd γ d x y) b→False:=by
    intro y oy hy hyd hxb hyb;obtain⟨hyn,hy'⟩:=hsub y oy hy;rw[Xd _ hyd]at hyb;rcases hx b hxb with h1|⟨n,hn,h1⟩
    · have:=(h.ob y oy hy').blk_lt hyb;omega
    obtain⟨o0,ho0⟩:=hns n hn;exact h.sep y n oy o0 hy' ho0 (fun e'=>hyn (e'▸hn)) b hyb h1
   split at hm
   · rename_i em;split at hk
     · rename_i ek;exact hne (em.trans ek.symm)
     rename_i ek;rw[em,Xo]at hbm;exact key k ok hk ek hbm hbk
   rename_i em;split at hk
   · rename_i ek;rw[ek,Xo]at hbk;exact key m om hm em hbk hbm
   rename_i ek;rw[Xd _ em]at hbm;rw[Xd _ ek]at hbk;obtain⟨_,hm'⟩:=hsub m om hm;obtain⟨_,hk'⟩:=hsub k ok hk;exact h.sep m k om ok hm' hk' hne b hbm hbk
  pin:=fun n v hv=>by
   obtain⟨h1,h2⟩:=h.pin n v hv
   exact⟨h1,by rw[Xd _ (by omega)];exact h2⟩}
def Grow (a b:Value):Prop:=∃(o:Value) (is js:List Value),a=.agg (o::is).toArray∧b=.agg (o::js).toArray∧∀(k:Nat) v,is[k]? =some v→v≠undef→js[k]? =some v
def Ext (γ γ':Nat→Value) (d:Option Nat):Prop:=∀n,some n≠d→γ' n=γ n∨Grow (γ n) (γ' n)
theorem Grow.hd {a b:Value} (h:Grow a b):Hl.hd b=Hl.hd a:=by
 obtain⟨o,is,js,rfl,rfl,_⟩:=h;rfl
theorem Grow.comp {a b:Value} (h:Grow a b) {vs:Array Value} {k:Nat} {v:Value} (ha:a=.agg vs) (hv:vs[k+1]? =some v) (hu:v≠undef):∃us,b=.agg us∧us[k+1]? =some v:=by
 obtain⟨o,is,js,rfl,rfl,h⟩:=h;cases ha;exact⟨_,rfl,by simpa using h k v (by simpa using hv) hu⟩
theorem Xn.ext {γ':Nat→Value} {d:Option Nat} (he:Ext γ γ' d) {x:CV} {v:Value} (hm:∀e,d=some e→¬x.men e) (h:Xn F γ w x v):Xn F γ' w x v:=by
 have hn:∀n,(∀e,d=some e→¬n=e)→γ' n=γ n∨Grow (γ n) (γ' n):=fun n hn=>he n fun e=>hn n e.symm rfl
 have ptr:∀n b o,(∀e,d=some e→¬n=e)→γ n=.pointer (some ⟨b,o,none⟩)→γ' n=.pointer (some ⟨b,o,none⟩):=by
  intro n b o hne hp;rcases hn n hne with h|h
  · rw[h,hp]
  obtain⟨_,_,_,h1,_⟩:=h;rw[hp]at h1;cases h1
 have hhd:∀n,(∀e,d=some e→¬n=e)→Hl.hd (γ' n)=Hl.hd (γ n):=by
  intro n hne;rcases hn n hne with h|h
  · rw[h]
  exact h.hd
 induction x with
 |gd b x ih=>exact⟨fun hb=>ih hm (h.1 hb),h.2⟩
 |any=>trivial
 |c d=>exact h
 |own n=>exact⟨by rw[hhd n hm];exact h.1,h.2⟩
 |at_ n off=>obtain⟨b,h1,h2⟩:=h;exact⟨b,ptr n _ _ hm h1,h2⟩
 |el n s i off=>obtain⟨b,oo,len,cap,h1,h2⟩:=h;exact⟨b,oo,len,cap,by rw[hhd n hm];exact h1,h2⟩
 | sub n i=>
   obtain⟨vs,h1,h2,h3⟩:=h;rcases hn n hm with h|h
   · exact⟨vs,h.trans h1,h2,h3⟩
   obtain⟨us,h4,h5⟩:=h.comp h1 h2 h3.2;exact⟨us,h4,h5,h3⟩
 | el2 n s i j off=>
   obtain⟨vs,b,oo,len,cap,h1,h2,h3⟩:=h;rcases hn n hm with h|h
   · exact⟨vs,b,oo,len,cap,h.trans h1,h2,h3⟩
   obtain⟨us,h4,h5⟩:=h.comp h1 h2 (by simp[undef]);exact⟨us,b,oo,len,cap,h4,h5,h3⟩
 | fn f caps=>
   obtain⟨vs,hv,hl,hc⟩:=h;refine⟨vs,hv,hl,fun j p u hp hu=>?_⟩;obtain⟨b,h1,h2⟩:=hc j p u hp hu;exact⟨b,ptr p.1 _ _ (fun e he' e2=>hm e he' ⟨p,List.mem_of_getElem? hp,e2⟩) h1,h2⟩
theorem Xk.ext {γ':Nat→Value} {d:Option Nat} (he:Ext γ γ' d) {xs:List CV} {vs:Array Value} (hm:∀e,d=some e→¬ ∃x∈xs,x.men e) (h:Xk F γ w xs vs):Xk F γ' w xs vs:=
 ⟨h.1,fun j x u hx hu=>(h.2 j x u hx hu).ext he fun e he' hd=>hm e he' ⟨x,List.mem_of_getElem? hx,hd⟩⟩
theorem XD.ext {γ':Nat→Value} {d:Option Nat} (he:Ext γ γ' d) {x:TV} {v:Value} (hm:∀e,d=some e→¬x.men e) (h:XD F γ w x v):XD F γ' w x v:=by
 cases x with
 |one x=>exact Xn.ext he hm h
 |agg xs=>obtain⟨vs,rfl,hc⟩:=h;exact⟨vs,rfl,hc.ext he hm⟩
theorem X9.ext {γ':Nat→Value} {d:Option Nat} (he:Ext γ γ' d) {x:RV} {v:Value} (hm:∀e,d=some e→¬x.men e) (h:X9 F γ w x v):X9 F γ' w x v:=by
 cases x with
 |v t=>exact XD.ext he hm h
 | tup ts=>
   obtain⟨vs,rfl,hs,hc⟩:=h;exact⟨vs,rfl,hs,fun j t u ht hu=>(hc j t u ht hu).ext he fun e he' hd=>hm e he' ⟨t,List.mem_of_getElem? ht,hd⟩⟩
theorem XT.ext {γ':Nat→Value} (he:Ext γ γ' none) {x:Value} {o:Ob} (h:XT F γ w B x o):XT F γ' w B x o:=by
 cases o with
 |box cs=>obtain⟨b,e,vs,rfl,hb,hh,hc⟩:=h;exact⟨b,e,vs,rfl,hb,hh,hc.ext he (by simp)⟩
 |row e s rows=>exact h
 |mp l=>exact h
 |mat e e' s rows=>exact h
 | refs e ns=>
   obtain⟨b,rfl,hb,hh⟩:=h;refine⟨b,rfl,hb,?_⟩;rw[hh];congr 3;refine List.map_congr_left fun n _=>?_;rcases he n (by simp)with h|h
   · rw[h]
   exact h.hd.symm
 |mps e ms=>exact h
 |it l seen=>exact h
theorem X7L {n:Nat} {x:Value} (hg:Grow (γ n) x):Ext γ (upd γ n x) none:=by
 intro k _;by_cases e:k=n
 · subst e;rw[Xo];exact .inr hg
 rw[Xd _ e];exact .inl rfl
theorem Zh {γ γ':Nat→Value} {d:Option Nat} (h:∀n,some n≠d→γ' n=γ n):Ext γ γ' d:=fun n hn=>.inl (h n hn)
theorem HeapRel.joined {objs:List (Nat×Ob)} (h:HeapRel w0 B π F γ objs w) {n m:Nat} {on om ob:Ob} {x:Value} (hn:lkp objs n=some on) (hm:lkp objs m=some om) (hne:n≠m) (hg:Grow (γ n) x)
  (hb:Kept B w0 w') (hsz:w.heap.size≤w'.heap.size) (hkeep:∀k,k<w.heap.size→¬Blk (γ n) k→w'.heap[k]? =w.heap[k]?) (hx:∀b,Blk x b→Blk (γ n) b∨Blk (γ m) b) (hn6:n<1000000)
  (hob:XT F (upd γ n x) w' B x ob):HeapRel w0 B π F (upd γ n x) (ins n ob (del m objs)) w':=by
 have hF:∀k,F k→w'.heap[k]? =w.heap[k]? :=fun k hk=>hkeep k (h.fsz k hk) fun e=>h.apart n on hn k e hk
 have hlk:∀k o,lkp (ins n ob (del m objs)) k=some o→k≠n→k≠m∧lkp objs k=some o:=by
  intro k o hk hkn;rw[XL,if_neg hkn]at hk;exact Q8 hk
 have key:∀y oy b,lkp (ins n ob (del m objs)) y=some oy→y≠n→Blk x b→Blk (γ y) b→False:=by
  intro y oy b hy hyn hxb hyb;obtain⟨hym,hy'⟩:=hlk y oy hy hyn;rcases hx b hxb with h1|h1
  · exact h.sep y n oy on hy' hn hyn b hyb h1
  exact h.sep y m oy om hy' hm hym b hyb h1
 exact {
  below:=hb
  hB:=fun b hb=>Nat.lt_of_lt_of_le (h.hB b hb) hsz
  fsz:=fun k hk=>Nat.lt_of_lt_of_le (h.fsz k hk) hsz
  ob:=fun k o ho=>by
   by_cases hk:k=n
   · subst hk;rw[XL,if_pos rfl]at ho;cases ho;rw[Xo];exact hob
   obtain⟨_,ho'⟩:=hlk k o ho hk;rw[Xd _ hk];have h1:=h.ob k o ho';exact(h1.mono (fun _ h=>h) hF fun j hj=>hkeep j (h1.blk_lt hj).2 fun e=>h.sep k n o on ho' hn hk j hj e).ext (X7L hg)
  apart:=fun k o ho b hbk hFb=>by
   by_cases hk:k=n
   · subst hk;rw[Xo]at hbk;rcases hx b hbk with h1|h1
     · exact h.apart _ on hn b h1 hFb
     exact h.apart _ om hm b h1 hFb
   rw[Xd _ hk]at hbk;exact h.apart k o (hlk k o ho hk).2 b hbk hFb
  sep:=fun j k oj ok hj hk hjk b hbj hbk=>by
   by_cases ej:j=n
   · rw[ej,Xo]at hbj;have ek:k≠n:=fun e=>hjk (ej.trans e.symm);rw[Xd _ ek]at hbk;exact key k ok b hk ek hbj hbk
   rw[Xd _ ej]at hbj;by_cases ek:k=n
   · rw[ek,Xo]at hbk;exact key j oj b hj ej hbk hbj
   rw[Xd _ ek]at hbk;exact h.sep j k oj ok (hlk j oj hj ej).2 (hlk k ok hk ek).2 hjk b hbj hbk
  pin:=fun k v hv=>by
   obtain⟨h1,h2⟩:=h.pin k v hv
   exact⟨h1,by rw[Xd _ (by omega)];exact h2⟩}
theorem X6V {g:Nat} (h:Kept B w0 w) (hg:¬B g) (cs:Array Value):Kept B w0 (w.setRow g cs):=
 ⟨h.os,h.tape,h.output,by simpa using h.size,fun k hk=>(setRow_other w g k cs (fun e=>hg (e▸hk))).trans (h.block k hk)⟩
theorem X4L {t:TypeId} {i:TypeInfo} (hi:P.info? t=some i) {v:Value} (hv:v.cells.size=i.size) (h1:∀u∈v.cells.toList,u.oneCell'=true)
  {b off:Nat} {e:TypeId} {cur:Array Value} (hb:w.heap[b]? =some (.cells cur e (0,0))) (hle:off+v.cells.size≤cur.size):
  (storeVar t ⟨b,off,none⟩ v).run P w=.ok () (w.setRow b (cur.toList.take off++v.cells.toList++cur.toList.drop (off+v.cells.toList.length)).toArray):=by
 have:=run_storeCells_at P b off e v.cells.toList 0 cur w hb (by simpa using hle) h1;simp only[Nat.add_zero]at this;simp[storeVar,XA hi,hv,this]
end
end Go.Hl
