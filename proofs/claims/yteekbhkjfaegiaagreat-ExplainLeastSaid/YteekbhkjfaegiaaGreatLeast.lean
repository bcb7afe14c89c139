/- For every program f and every view v: the result of explain.Least, as ExplainLeast asks it, for every pair of secrets, is the list of the steps that remain after reducing the program, or the code of the first reason; the statement is true at every input and leaves its arguments as they were. No condition. -/
import Derived.Test.YteekbhkjfaegiaaGreatL1
import Derived.Test.YteekbhkjfaegiaaGreatT18
import Derived.Test.YteekbhkjfaegiaaGreatRows
set_option linter.unusedSimpArgs false
set_option linter.unusedVariables false
set_option linter.unnecessarySimpa false
set_option maxRecDepth 100000
set_option maxHeartbeats 2000000
namespace Go.Proofs.YteekbhkjfaegiaaGreat
open Go Go.Hl Go.RowKit Go.ChangeShapes Go.Proofs.YteekbhkjfaegiaaGreat

theorem least_all : ∀ dss, ShapeAll Tryz.prog Tryz.f4.params.toList dss → Con Tryz.prog 4 true (tvsOf Tryz.prog Tryz.f4.params.toList dss) (Hl.lit (.bool true)) none 0 := by
  intro dss h
  rw [Tryz.params4] at *
  match dss, h with
  | [ds0, ds1, ds2], ⟨⟨k0, h0⟩, ⟨k1, h1⟩, ⟨k2, h2⟩, _⟩ =>
    obtain ⟨f, rfl⟩ := dec_F h0
    obtain ⟨v, rfl⟩ := dec_W h1
    obtain ⟨a, b, rfl⟩ := dec_P h2
    have := least_law f v a b 0
    simpa only [tvsOf, tvOf_agg agg26, tvOf_agg agg29, tvOf_agg agg43, Hl.lit, lb, bC, aW, List.map_cons, List.map_nil] using this

theorem least_lifted (os : Os) (started : os.Started) (H : Type) (enc : TypeId × Value → H) :
    ReturnsInHanded {} Tryz.checked os 4 .any (Rows.explainLeastSpec.pre6 enc Tryz.prog Tryz.f4 [] false) (Rows.explainLeastSpec.post enc Tryz.prog Tryz.f4 false true false false) :=
  law_lifted (C := Tryz.checked) own started (by kernel_rfl) Tryz.func4
    (ChangeSpec.witness6 (enc := enc) (C := Tryz.checked) false ⟨#[], #[.agg #[.slice none 0 0, .slice none 0 0, .slice none 0 0], .agg #[.slice none 0 0, .bool false], .agg #[.int .i64 0, .int .i64 0]], []⟩ 8 (by kernel_rfl) (by kernel_rfl) (by kernel_rfl) (by kernel_rfl))
    laidOut tiled (by kernel_rfl) rfl (tb := 4) (by kernel_rfl) Tryz.underlying4
    (fun ds hl => by
      match ds, hl with
      | [d0, d1, d2], _ => exact ⟨rfl, rfl, rfl⟩) least_all

theorem least_holds : Rows.ExplainLeastSaid :=
  OpenClaim.holds_of_wide 4 Tryz.f4 rfl rfl rfl rfl rfl rfl rfl ⟨rfl, rfl, rfl, rfl, rfl⟩ rfl rfl rfl rfl rfl (by kernel_rfl) Tryz.func4 (by kernel_rfl)
    (of_decide_eq_true (by kernel_rfl)) (by unfold Func.isWrapper; first | (rw [if_pos (by decide +kernel)]; kernel_rfl) | (rw [if_neg (by decide +kernel)]; exact ⟨rfl, rfl⟩))
    (fun os started H enc _ => least_lifted os started H enc)
#print axioms least_holds
end Go.Proofs.YteekbhkjfaegiaaGreat
