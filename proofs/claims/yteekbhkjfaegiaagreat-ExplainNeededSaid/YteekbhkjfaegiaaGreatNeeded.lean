/- For every program f and every view v: as ExplainNeeded asks it: if explain.Pair finds two secrets, the steps that explain.Least returns tell them apart by themselves, and without any one of these steps the two have equal observations; the statement is true at every input and leaves its arguments as they were. No condition. -/
import Derived.Test.YteekbhkjfaegiaaGreatT18
import Derived.Test.YteekbhkjfaegiaaGreatT19
import Derived.Test.YteekbhkjfaegiaaGreatRows
set_option linter.unusedSimpArgs false
set_option linter.unusedVariables false
set_option linter.unnecessarySimpa false
set_option maxRecDepth 100000
set_option maxHeartbeats 2000000
namespace Go.Proofs.YteekbhkjfaegiaaGreat
open Go Go.Hl Go.RowKit Go.ChangeShapes Go.Proofs.YteekbhkjfaegiaaGreat

theorem needed_all : ∀ dss, ShapeAll Tryz.prog Tryz.f5.params.toList dss → Con Tryz.prog 5 true (tvsOf Tryz.prog Tryz.f5.params.toList dss) (Hl.lit (.bool true)) none 0 := by
  intro dss h
  rw [Tryz.params5] at *
  match dss, h with
  | [ds0, ds1], ⟨⟨k0, h0⟩, ⟨k1, h1⟩, _⟩ =>
    obtain ⟨f, rfl⟩ := dec_F h0
    obtain ⟨v, rfl⟩ := dec_W h1
    have := needed_law f v 0
    simpa only [tvsOf, tvOf_agg agg26, tvOf_agg agg29, Hl.lit, lb, bC, aW, List.map_cons, List.map_nil] using this

theorem needed_lifted (os : Os) (started : os.Started) (H : Type) (enc : TypeId × Value → H) :
    ReturnsInHanded {} Tryz.checked os 5 .any (Rows.explainNeededSpec.pre6 enc Tryz.prog Tryz.f5 [] false) (Rows.explainNeededSpec.post enc Tryz.prog Tryz.f5 false true false false) :=
  law_lifted (C := Tryz.checked) own started (by kernel_rfl) Tryz.func5
    (ChangeSpec.witness6 (enc := enc) (C := Tryz.checked) false ⟨#[], #[.agg #[.slice none 0 0, .slice none 0 0, .slice none 0 0], .agg #[.slice none 0 0, .bool false]], []⟩ 8 (by kernel_rfl) (by kernel_rfl) (by kernel_rfl) (by kernel_rfl))
    laidOut tiled (by kernel_rfl) rfl (tb := 4) (by kernel_rfl) Tryz.underlying4
    (fun ds hl => by
      match ds, hl with
      | [d0, d1], _ => exact ⟨rfl, rfl, rfl⟩) needed_all

theorem needed_holds : Rows.ExplainNeededSaid :=
  OpenClaim.holds_of_wide 5 Tryz.f5 rfl rfl rfl rfl rfl rfl rfl ⟨rfl, rfl, rfl, rfl, rfl⟩ rfl rfl rfl rfl rfl (by kernel_rfl) Tryz.func5 (by kernel_rfl)
    (of_decide_eq_true (by kernel_rfl)) (by unfold Func.isWrapper; first | (rw [if_pos (by decide +kernel)]; kernel_rfl) | (rw [if_neg (by decide +kernel)]; exact ⟨rfl, rfl⟩))
    (fun os started H enc _ => needed_lifted os started H enc)
#print axioms needed_holds
end Go.Proofs.YteekbhkjfaegiaaGreat
