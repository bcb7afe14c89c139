/- HlV: part of an evaluator of Go code over abstract states, proved sound over the model; used by the proof of the claimed statement. Conditions: none. -/
import Derived.Test.YtfjidddhehckoaaGreatHlU
set_option linter.unusedSimpArgs false
set_option linter.unusedVariables false
namespace Go.Hl
open Go Go.RowKit
theorem tiled_mk {P:Program} (h:(List.range P.types.size).all (tiledB P)=true):Tiled P:=by
 intro t ht;rw[List.all_eq_true]at h;exact h t (by simpa using ht)
section
variable {P:Program} {k:Nat} {t:TypeId} {ds:List CD}
theorem shape_int {ik:IntKind} (hu:P.underlying t=some (.int ik)) (h:Shape P k t ds):∃n,ds=[.lit (.int ik n)]∧(Lit.int ik n).wf=true:=by
 cases k with
 |zero=>exact h.elim
 |succ k=>unfold Shape at h;rw[hu]at h;exact h
theorem shape_bool (hu:P.underlying t=some .bool) (h:Shape P k t ds):∃b,ds=[.lit (.bool b)]:=by
 cases k with
 |zero=>exact h.elim
 |succ k=>unfold Shape at h;rw[hu]at h;exact h
theorem shape_str (hu:P.underlying t=some .string) (h:Shape P k t ds):∃s,ds=[.lit (.string s)]∧s.size≤maxLen:=by
 cases k with
 |zero=>exact h.elim
 |succ k=>unfold Shape at h;rw[hu]at h;exact h
theorem rows_enc {α:Type} {enc:α→List CD}:∀{rows:List (List CD)},(∀r∈rows,∃x,r=enc x)→∃xs:List α,rows=xs.map enc
 |[],_=>⟨[],rfl⟩
 | r::rows,h=>by
   obtain⟨x,hx⟩:=h r (by simp);obtain⟨xs,hxs⟩:=rows_enc fun r hr=>h r (List.mem_cons_of_mem _ hr);exact⟨x::xs,by simp[hx,hxs]⟩
theorem shape_array {n:Nat} {e:TypeId} {l:List (Nat×Nat×TypeId)} {c:Nat} (hu:P.underlying t=some (.array n e)) (hl:segsA P n e=l) (hc:P.cellsOf t=c) (h:Shape P k t ds):ds.length=c∧∃k,∀x∈l,Shape P k x.2.2 ((ds.drop x.1).take x.2.1):=by
 cases k with
 |zero=>exact h.elim
 | succ k=>
   unfold Shape at h;rw[hu]at h;have h':ds.length=P.cellsOf t∧∀x∈segsA P n e,Shape P k x.2.2 ((ds.drop x.1).take x.2.1):=h;exact⟨hc▸h'.1,k,fun x hx=>h'.2 x (hl▸hx)⟩
theorem tvOf_agg (ha:aggT P t=true):tvOf P t ds=.agg (ds.map .c):=by
 unfold tvOf;rw[if_pos ha]
end
end Go.Hl
