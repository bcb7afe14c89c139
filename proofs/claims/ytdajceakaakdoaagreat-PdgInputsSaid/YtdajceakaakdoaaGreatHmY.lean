/- HmY: part of an evaluator of Go code over abstract states, proved sound over the model; used by the proof of the claimed statement. Conditions: none. -/
import Derived.Test.YtdajceakaakdoaaGreatHmX
set_option linter.unusedSimpArgs false
set_option linter.unusedVariables false
namespace Go.Hl
open Go Go.RowKit
def ownB (γ:Nat→Value) (objs:List (Nat×Ob)) (w:World):Nat→Prop:=fun b=>b<w.heap.size∧¬X1P γ objs b
section
variable {P:Program} {F:Nat→Prop} {γ γ':Nat→Value} {w w' w0:World} {B:Nat→Prop} {π:Nat→Option Value}
def Ob.isRow:Ob→Bool
 | .row _ _ _=>true
 |_=>false
theorem row_B {B':Nat→Prop} {e:TypeId} {s:Nat} {x:Value} {rows:List (List CD)} (h:Xr F w B e s x rows) (hB:∀b,blk x=some b→¬B' b):Xr F w B' e s x rows:=by
 obtain⟨h0,hs,xs,⟨hl,hown⟩,h1,hc⟩:=h;refine⟨h0,hs,xs,⟨hl,hown.imp id ?_⟩,h1,hc⟩;rintro⟨g,oo,cap,cur,rfl,_,Xj⟩;exact⟨g,oo,cap,cur,rfl,hB g rfl,Xj⟩
def QP (ns:List Nat) (objs:List (Nat×Ob)):List (Nat×Ob):=
 match ns with
 |[]=>objs
 |n::ns=>QP ns (del n objs)
theorem X4a (m:Nat):∀(ns:List Nat) (objs:List (Nat×Ob)),lkp (QP ns objs) m=if m∈ns then none else lkp objs m
 |[],objs=>by simp[QP]
 | n::ns,objs=>by
   rw[QP,X4a m ns,X01];by_cases h1:m∈ns<;>by_cases h2:m=n<;>simp[h1,h2]
def X1M (g:Operand→RV):List Operand→Option (List TV)
 |[]=>some []
 | x::l=>match g x,X1M g l with
   | .v t,some ts=>some (t::ts)
   |_,_=>none
def gOf (s:HS) (o:Oper):Option (FuncId×List TV×Nat):=
 match o.guard,o.op,o.dst with
 | none,.call {callee:=.value x,args:=args, .. },some d=>match opd s.regs x,X1M (opd s.regs) args.toList with
   | .v (.one (.fn f [])),some ts=>if XJ s (some d)=true then some (f,ts,d)else none
   |_,_=>none
 |_,_,_=>none
theorem X2z {g:Operand→RV}:∀{l:List Operand} {ts:List TV},X1M g l=some ts→ts.length=l.length∧∀(j:Nat) t,ts[j]? =some t→∃x,l[j]? =some x∧g x=.v t
 |[],ts,h=>by cases h;simp
 | x ::l,ts,h=>by
   unfold X1M at h;split at h
   · rename_i t ts' hx hts;cases h;obtain⟨h1,h2⟩:=X2z hts;refine⟨by simp[h1],fun j t' hj=>?_⟩;cases j with
     |zero=>cases hj;exact⟨x,rfl,hx⟩
     |succ j=>exact h2 j t' hj
   cases h
structure Hand (ρ:Nat→Nat) (objs sobjs:List (Nat×Ob)):Prop where
 at_:∀n o,lkp objs n=some o→lkp sobjs (ρ n)=some o
 row:∀n o,lkp objs n=some o→o.isRow=true
 inj:∀n m on om,lkp objs n=some on→lkp objs m=some om→n≠m→ρ n≠ρ m
theorem Hand.heap {ρ:Nat→Nat} {objs sobjs:List (Nat×Ob)} (hd:Hand ρ objs sobjs) (h:HeapRel w0 B π F γ sobjs w):
  HeapRel w (ownB (fun n=>γ (ρ n)) objs w) (fun _=>none) F (fun n=>γ (ρ n)) objs w where
 below:=Kept.refl _ _
 hB b hb:=hb.1
 fsz:=h.fsz
 ob n o ho:=by
  have h1:=h.ob _ _ (hd.at_ n o ho);have h2:=hd.row n o ho;cases o with
  | row e s rows=>
    exact row_B (show Xr F w B e s (γ (ρ n)) rows from h1) fun b hb hx=>hx.2 ⟨n,_,ho,(W5 (Xr.sl (show Xr F w B e s (γ (ρ n)) rows from h1))).2 hb⟩
  |_=>cases h2
 apart n o ho b hb:=h.apart _ _ (hd.at_ n o ho) b hb
 sep n m on om hn hm hne b hb hb':=h.sep _ _ _ _ (hd.at_ n on hn) (hd.at_ m om hm) (hd.inj n m on om hn hm hne) b hb hb'
 pin n v hv:=by cases hv
theorem Hand.after {ρ:Nat→Nat} {objs sobjs:List (Nat×Ob)} (hd:Hand ρ objs sobjs) (h:HeapRel w0 B π F γ sobjs w) (hk:Kept (ownB (fun n=>γ (ρ n)) objs w) w w') {N:Nat→Prop}
  (hN:∀c,N c→¬ownB (fun n=>γ (ρ n)) objs w c∧c<w'.heap.size):
  (∀b,N b→¬B b)∧(∀c,F c→w'.heap[c]? =w.heap[c]?)∧HeapRel w0 B π (fun c=>F c∨N c) γ (QP (objs.map fun p=>ρ p.1) sobjs) w':=by
 have own:∀b,X1P (fun n=>γ (ρ n)) objs b→∃n o,lkp objs n=some o∧lkp sobjs (ρ n)=some o∧Blk (γ (ρ n)) b:=by
  rintro b ⟨n,o,ho,hb⟩;exact⟨n,o,ho,hd.at_ n o ho,hb⟩
 have hNB:∀b,N b→¬B b:=by
  intro b hb hx;refine(hN b hb).1 ⟨h.hB b hx,fun ho=>?_⟩;obtain⟨n,o,_,h1,h2⟩:=own b ho;exact((h.ob _ _ h1).blk_lt h2).1 hx
 have hF:∀c,F c→w'.heap[c]? =w.heap[c]? :=fun c hc=>hk.block c ⟨h.fsz c hc,fun ho=>by
  obtain⟨n,o,_,h1,h2⟩:=own c ho
  exact h.apart _ _ h1 c h2 hc⟩
 have hlk:∀m o,lkp (QP (objs.map fun p=>ρ p.1) sobjs) m=some o→lkp sobjs m=some o∧∀n o',lkp objs n=some o'→ρ n≠m:=by
  intro m o hl;rw[X4a]at hl;split at hl
  · cases hl
  rename_i hm;exact⟨hl,fun n o' ho e=>hm (List.mem_map.2 ⟨(n,o'),Xy ho,e⟩)⟩
 have hsep:∀m o,lkp (QP (objs.map fun p=>ρ p.1) sobjs) m=some o→∀b,Blk (γ m) b→¬X1P (fun n=>γ (ρ n)) objs b:=by
  intro m o hl b hb ho;obtain⟨h1,h2⟩:=hlk m o hl;obtain⟨n,o',h3,h4,h5⟩:=own b ho;exact h.sep _ _ _ _ h1 h4 (Ne.symm (h2 n o' h3)) b hb h5
 refine⟨hNB,hF,?_⟩
 exact {
  below:=h.below.trans ⟨hk.os,hk.tape,hk.output,hk.size,fun c hc=>hk.block c ⟨h.hB c hc,fun ho=>by
   obtain⟨n,o,_,h1,h2⟩:=own c ho
   exact((h.ob _ _ h1).blk_lt h2).1 hc⟩⟩
  hB:=fun c hc=>Nat.lt_of_lt_of_le (h.hB c hc) hk.size
  fsz:=fun c hc=>by
   rcases hc with hc|hc
   · exact Nat.lt_of_lt_of_le (h.fsz c hc) hk.size
   exact(hN c hc).2
  ob:=fun m o hl=>by
   obtain⟨h1,_⟩:=hlk m o hl;have h2:=h.ob m o h1;exact h2.mono (fun _ h=>.inl h) hF fun c hc=>hk.block c ⟨(h2.blk_lt hc).2,hsep m o hl c hc⟩
  apart:=fun m o hl c hc hFc=>by
   obtain⟨h1,_⟩:=hlk m o hl;rcases hFc with hFc|hFc
   · exact h.apart m o h1 c hc hFc
   exact(hN c hFc).1 ⟨((h.ob m o h1).blk_lt hc).2,hsep m o hl c hc⟩
  sep:=fun m k om ok hm hk' hne=>h.sep m k om ok (hlk m om hm).1 (hlk k ok hk').1 hne
  pin:=h.pin}
end
end Go.Hl
