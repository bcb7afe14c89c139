/- HmZH: part of an evaluator of Go code over abstract states, proved sound over the model; used by the proof of the claimed statement. Conditions: none. -/
import Derived.Test.YtdajceakaakdoaaGreatHmZA
import Derived.Laws.Entries
set_option maxRecDepth 100000
set_option maxHeartbeats 2000000
set_option linter.unusedSimpArgs false
set_option linter.unusedVariables false
set_option linter.unusedSimpArgs false
set_option linter.unusedVariables false
namespace Go.Hl
open Go Go.RowKit
inductive RunsC (P:Program) (ops:Array Oper):List Oper→HS→(HS→Prop)→Prop
 |done {l:List Oper} {s:HS} {K:HS→Prop}:wpR P ops l s K→RunsC P ops l s K
 |cut {l:List Oper} {s s1 s2:HS} {K:HS→Prop} (k:Nat):wpR P ops (l.take k) s (fun t=>t=s1)→le s1 s2→RunsC P ops (l.drop k) s2 K→RunsC P ops l s K
 | conv {l:List Oper} {o:Oper} {s:HS} {K:HS→Prop} (sT dT:TypeId) (x:Operand) (k:IntKind) (n:Int):o.guard=none→o.op=.convert sT dT x→Hl.opd s.regs x=Hl.lit (.int k n)→XJ s o.dst=true→(P.underlying sT).isSome=true→
   P.underlying dT=some (.int (P.intKind dT))→RunsC P ops l (s.put o.dst (Hl.lit (.int (P.intKind dT) ((P.intKind dT).wrap n)))) K→RunsC P ops (o::l) s K
section
variable {P:Program} {w0:World} {B:Nat→Prop} {π:Nat→Option Value}
theorem convS {ops:Array Oper} {Q:Exit→Act→World→Prop} {i:Nat} {o:Oper} {s:HS} {a:Act} {w:World} {F:Nat→Prop} {γ:Nat→Value} {Kc:Act→World→Prop} {sT dT:TypeId} {x:Operand} {k:IntKind} {n:Int}
  (hi:ops[i]? =some o) (h:Rel w0 B π F γ s a w) (hg:o.guard=none) (ho:o.op=.convert sT dT x) (hx:Hl.opd s.regs x=Hl.lit (.int k n)) (hok:XJ s o.dst=true) (hs:(P.underlying sT).isSome=true) (hd:P.underlying dT=some (.int (P.intKind dT)))
  (hK:∀a',Rel w0 B π F γ (s.put o.dst (Hl.lit (.int (P.intKind dT) ((P.intKind dT).wrap n)))) a' w→Kc a' w):wpOp P ops Q i Kc a w:=by
 unfold wpOp;rw[hi];simp only;have hwant:Region.wanted o (yielded ops a.tmps)=true:=by unfold Region.wanted;rw[hg]
 rw[hwant];simp only[if_true];refine .inl ?_
 have hv:a.eval x=.int k n:=by
  have:=h.opd x;rw[hx]at this;have h2:CRel F w (.lit (.int k n)) (a.eval x):=this;generalize a.eval x=u at h2;cases h2;rfl
 unfold Oper.wp execOp;simp only[ho,hv,Sem.run_bind,run_convert_int w sT dT k n hs hd,Result.andThen_ok,Sem.run_pure];refine hK _ ?_;exact h.step (dst:=o.dst) (r:=Hl.lit (.int (P.intKind dT) ((P.intKind dT).wrap n))) (v:=.int (P.intKind dT) ((P.intKind dT).wrap n)) (objs':=s.objs) hok h.heap (CRel.lit _) (fun _ _ _ _ h=>h)
theorem Xbb {ops:Array Oper} {K:HS→Prop} {Q:Exit→Act→World→Prop} {l:List Oper} {s:HS} (h:RunsC P ops l s K):∀(Xj:List Nat) (k:Nat) (F:Nat→Prop) (γ:Nat→Value) (a:Act) (w:World),(∀j o,l[j]? =some o→ops[k+j]? =some o)→
  Rel w0 B π F γ s a w→(∀s' F' γ' a' w',K s'→(∀b,F b→F' b)→(∀b,F' b→F b∨¬B b)→Rel w0 B π F' γ' s' a' w'→wpOps P ops Q Xj a' w')→wpOps P ops Q (List.range' k l.length++Xj) a w:=by
 induction h with
 |done hw=>exact fun Xj k F γ a w hd hr hK=>Wz _ k _ F γ a w hd hr hw hK
 | cut n hw hle _ ih=>
   intro Xj k F γ a w hd hr hK;rename_i l s s1 s2 K' _;have hl:l.length=(l.take n).length+(l.drop n).length:=by rw[←List.length_append,List.take_append_drop]
   rw[hl,X29,List.append_assoc];refine Wz (l.take n) k s F γ a w (fun j o hj=>?_) hr hw fun s' F1 γ1 a1 w1 hs' h1 h2 hr1=>?_
   · rw[List.getElem?_take]at hj;split at hj
     · exact hd j o hj
     cases hj
   subst hs';obtain⟨F2,γ2,h3,h4,hr2⟩:=hle w0 B π F1 γ1 a1 w1 hr1;refine ih Xj (k+(l.take n).length) F2 γ2 a1 w1 (fun j o hj=>?_) hr2 fun s3 F3 γ3 a3 w3 hk3 h5 h6 hr3=>?_
   · rw[List.getElem?_drop]at hj;have hlt:n+j<l.length:=(List.getElem?_eq_some_iff.1 hj).1;have:=hd (n+j) o hj;rw[List.length_take,Nat.min_eq_left (by omega),Nat.add_assoc];exact this
   exact hK s3 F3 γ3 a3 w3 hk3 (fun b hb=>h5 b (h3 b (h1 b hb))) (fun b hb=>(h6 b hb).elim (fun hb=>(h4 b hb).elim (h2 b) .inr) .inr) hr3
 | conv sT dT x k' n hg ho hx hok hs hd _ ih=>
   intro Xj k F γ a w hdd hr hK;rename_i l o s K' _;rw[List.length_cons,List.range'_succ,List.cons_append,wpOps_cons];have hi:ops[k]? =some o:=hdd 0 o rfl;refine convS hi hr hg ho hx hok hs hd fun a2 hr2=>?_;exact ih Xj (k+1) F γ a2 w (fun j o' hj=>by have:=hdd (j+1) o' hj;rwa [show k+1+j=k+(j+1) by omega]) hr2 hK
theorem HT_runsC {id:Nat} {ops:Array Oper} {s:HS} {Q:Exit→HS→Prop} (h:RunsC P ops ops.toList s (Q .normal)):HT P (.region id ops false) s Q:=by
 intro w0 B π F γ a w hr;refine wp_region ?_
 have:=Xbb (w0:=w0) (B:=B) (π:=π) (Q:=fun e a' w'=>∃(s':HS) (F':Nat→Prop) (γ':Nat→Value),Q e s'∧(∀b,F b→F' b)∧(∀b,F' b→F b∨¬B b)∧Rel w0 B π F' γ' s' a' w') h [] 0 F γ a w (by simp) hr
  fun s' F' γ' a' w' hk h1 h2 h3=>⟨s',F',γ',hk,h1,h2,h3⟩
 rw[List.range_eq_range'];simpa using this
theorem RunsC.cutE {ops:Array Oper} {l:List Oper} {s s1 s2:HS} {p:Prop} {K:HS→Prop} (k:Nat) (cs:List CR) (h:evc P ops (l.take k) s cs=some (s1,p)) (hp:p) (hle:le s1 s2) (hr:RunsC P ops (l.drop k) s2 K):RunsC P ops l s K:=
 .cut k (QK _ _ _ _ _ h hp rfl) hle hr
theorem RunsC.doneE {ops:Array Oper} {l:List Oper} {s s1:HS} {p:Prop} {K:HS→Prop} (cs:List CR) (h:evc P ops l s cs=some (s1,p)) (hp:p) (hq:K s1):RunsC P ops l s K:=
 .done (QK _ _ _ _ _ h hp hq)
end
end Go.Hl
