/- HmZA: part of an evaluator of Go code over abstract states, proved sound over the model; used by the proof of the claimed statement. Conditions: none. -/
import Derived.Test.YtdajceakaakdoaaGreatHmZ
set_option maxRecDepth 100000
set_option maxHeartbeats 2000000
set_option linter.unusedSimpArgs false
set_option linter.unusedVariables false
set_option linter.unusedSimpArgs false
set_option linter.unusedVariables false
namespace Go.Hl
open Go Go.RowKit
inductive RunsF (P:Program) (ops:Array Oper):List Oper→HS→(HS→Prop)→Prop
 |done {l:List Oper} {s:HS} {K:HS→Prop}:wpR P ops l s K→RunsF P ops l s K
 |cut {l:List Oper} {s s1 s2:HS} {K:HS→Prop} (k:Nat):wpR P ops (l.take k) s (fun t=>t=s1)→le s1 s2→RunsF P ops (l.drop k) s2 K→RunsF P ops l s K
section
variable {P:Program} {w0:World} {B:Nat→Prop} {π:Nat→Option Value}
theorem X29 (k n m:Nat):List.range' k (n+m)=List.range' k n++List.range' (k+n) m:=by
 apply List.ext_getElem?;intro j;by_cases hj:j<n
 · rw[List.getElem?_append_left (by simpa using hj),List.getElem?_range' (by omega),List.getElem?_range' (by omega)]
 rw[List.getElem?_append_right (by simp;omega)];simp only[List.length_range'];by_cases hm:j<n+m
 · rw[List.getElem?_range' (by omega),List.getElem?_range' (by omega)];congr 1;omega
 rw[List.getElem?_eq_none (by simp;omega),List.getElem?_eq_none (by simp;omega)]
theorem RunsF.cutE {ops:Array Oper} {l:List Oper} {s s1 s2:HS} {p:Prop} {K:HS→Prop} (k:Nat) (cs:List CR) (h:evc P ops (l.take k) s cs=some (s1,p)) (hp:p) (hle:le s1 s2) (hr:RunsF P ops (l.drop k) s2 K):RunsF P ops l s K:=
 .cut k (QK _ _ _ _ _ h hp rfl) hle hr
theorem RunsF.doneE {ops:Array Oper} {l:List Oper} {s s1:HS} {p:Prop} {K:HS→Prop} (cs:List CR) (h:evc P ops l s cs=some (s1,p)) (hp:p) (hq:K s1):RunsF P ops l s K:=
 .done (QK _ _ _ _ _ h hp hq)
end
end Go.Hl
