/- HmZH: part of an evaluator of Go code over abstract states, proved sound over the model; used by the proof of the claimed statement. Conditions: none. -/
import Derived.Test.YtdajceakaakdoaaGreatHmZA
import Derived.Laws.Entries
set_option maxRecDepth 100000
set_option maxHeartbeats 2000000
set_option linter.unusedSimpArgs false
set_option linter.unusedVariables false
set_option linter.unusedSimpArgs false
set_option linter.unusedVariables false
namespace Go.Hl
open Go Go.RowKit
inductive RunsC (P:Program) (ops:Array Oper):List Oper→HS→(HS→Prop)→Prop
 |done {l:List Oper} {s:HS} {K:HS→Prop}:wpR P ops l s K→RunsC P ops l s K
 |cut {l:List Oper} {s s1 s2:HS} {K:HS→Prop} (k:Nat):wpR P ops (l.take k) s (fun t=>t=s1)→le s1 s2→RunsC P ops (l.drop k) s2 K→RunsC P ops l s K
 | conv {l:List Oper} {o:Oper} {s:HS} {K:HS→Prop} (sT dT:TypeId) (x:Operand) (k:IntKind) (n:Int):o.guard=none→o.op=.convert sT dT x→Hl.opd s.regs x=Hl.lit (.int k n)→XG s o.dst=true→(P.underlying sT).isSome=true→
   P.underlying dT=some (.int (P.intKind dT))→RunsC P ops l (s.put o.dst (Hl.lit (.int (P.intKind dT) ((P.intKind dT).wrap n)))) K→RunsC P ops (o::l) s K
section
variable {P:Program} {w0:World} {B:Nat→Prop} {π:Nat→Option Value}
theorem convS {ops:Array Oper} {Q:Exit→Act→World→Prop} {i:Nat} {o:Oper} {s:HS} {a:Act} {w:World} {F:Nat→Prop} {γ:Nat→Value} {Kc:Act→World→Prop} {sT dT:TypeId} {x:Operand} {k:IntKind} {n:Int}
  (hi:ops[i]? =some o) (h:Rel w0 B π F γ s a w) (hg:o.guard=none) (ho:o.op=.convert sT dT x) (hx:Hl.opd s.regs x=Hl.lit (.int k n)) (hok:XG s o.dst=true) (hs:(P.underlying sT).isSome=true) (hd:P.underlying dT=some (.int (P.intKind dT)))
  (hK:∀a',Rel w0 B π F γ (s.put o.dst (Hl.lit (.int (P.intKind dT) ((P.intKind dT).wrap n)))) a' w→Kc a' w):wpOp P ops Q i Kc a w:=by
 unfold wpOp;rw[hi];simp only;have hwant:Region.wanted o (yielded ops a.tmps)=true:=by unfold Region.wanted;rw[hg]
 rw[hwant];simp only[if_true];refine .inl ?_
 have hv:a.eval x=.int k n:=by
  have:=h.opd x;rw[hx]at this;have h2:CRel F w (.lit (.int k n)) (a.eval x):=this;generalize a.eval x=u at h2;cases h2;rfl
 unfold Oper.wp execOp;simp only[ho,hv,Sem.run_bind,run_convert_int w sT dT k n hs hd,Result.andThen_ok,Sem.run_pure];refine hK _ ?_;exact h.step (dst:=o.dst) (r:=Hl.lit (.int (P.intKind dT) ((P.intKind dT).wrap n))) (v:=.int (P.intKind dT) ((P.intKind dT).wrap n)) (objs':=s.objs) hok h.heap (CRel.lit _) (fun _ _ _ _ h=>h)
theorem RunsC.cutE {ops:Array Oper} {l:List Oper} {s s1 s2:HS} {p:Prop} {K:HS→Prop} (k:Nat) (cs:List CR) (h:evc P ops (l.take k) s cs=some (s1,p)) (hp:p) (hle:le s1 s2) (hr:RunsC P ops (l.drop k) s2 K):RunsC P ops l s K:=
 .cut k (Qz _ _ _ _ _ h hp rfl) hle hr
theorem RunsC.doneE {ops:Array Oper} {l:List Oper} {s s1:HS} {p:Prop} {K:HS→Prop} (cs:List CR) (h:evc P ops l s cs=some (s1,p)) (hp:p) (hq:K s1):RunsC P ops l s K:=
 .done (Qz _ _ _ _ _ h hp hq)
end
end Go.Hl
