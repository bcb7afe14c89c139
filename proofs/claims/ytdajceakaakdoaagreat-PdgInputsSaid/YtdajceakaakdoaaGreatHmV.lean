/- HmV: part of an evaluator of Go code over abstract states, proved sound over the model; used by the proof of the claimed statement. Conditions: none. -/
import Derived.Test.YtdajceakaakdoaaGreatHmU
set_option linter.unusedSimpArgs false
set_option linter.unusedVariables false
namespace Go.Hl
open Go Go.RowKit
theorem tiled_mk {P:Program} (h:(List.range P.types.size).all (X4d P)=true):X8R P:=by
 intro t ht;rw[List.all_eq_true]at h;exact h t (by simpa using ht)
section
variable {P:Program} {k:Nat} {t:TypeId} {ds:List CD}
theorem X6F {ik:IntKind} (hu:P.underlying t=some (.int ik)) (h:QA P k t ds):∃n,ds=[.lit (.int ik n)]∧(Lit.int ik n).wf=true:=by
 cases k with
 |zero=>exact h.elim
 |succ k=>unfold QA at h;rw[hu]at h;exact h
theorem Xce (hu:P.underlying t=some .string) (h:QA P k t ds):∃s,ds=[.lit (.string s)]∧s.size≤maxLen:=by
 cases k with
 |zero=>exact h.elim
 |succ k=>unfold QA at h;rw[hu]at h;exact h
theorem X93 {α:Type} {enc:α→List CD}:∀{rows:List (List CD)},(∀r∈rows,∃x,r=enc x)→∃xs:List α,rows=xs.map enc
 |[],_=>⟨[],rfl⟩
 | r::rows,h=>by
   obtain⟨x,hx⟩:=h r (by simp);obtain⟨xs,hxs⟩:=X93 fun r hr=>h r (List.mem_cons_of_mem _ hr);exact⟨x::xs,by simp[hx,hxs]⟩
theorem tvOf_one {d:CD} (ha:aggT P t=false):tvOf P t [d]=.one (.c d):=by
 unfold tvOf;rw[if_neg (by simp[ha])]
theorem tvOf_agg (ha:aggT P t=true):tvOf P t ds=.agg (ds.map .c):=by
 unfold tvOf;rw[if_pos ha]
end
end Go.Hl
