/- For every program f: the result of rewrite.Even, as RewriteSteady asks it, has the outputs of f, takes one time for all vectors of inputs of a small valid program, and never less than f; the statement is true at every input and leaves its argument as it was. No condition. -/
import Derived.Test.YtfilidjbpomgoaaGreatU2
import Derived.Test.YtfilidjbpomgoaaGreatT15
import Derived.Test.YtfilidjbpomgoaaGreatRows
set_option linter.unusedSimpArgs false
set_option linter.unusedVariables false
set_option linter.unnecessarySimpa false
set_option maxRecDepth 100000
set_option maxHeartbeats 2000000
namespace Go.Proofs.YtfilidjbpomgoaaGreat
open Go Go.Hl Go.RowKit Go.ChangeShapes Go.Proofs.YtfilidjbpomgoaaGreat

theorem steady_all : ∀ dss, ShapeAll Tryz.prog Tryz.f4.params.toList dss → Con Tryz.prog 4 true (tvsOf Tryz.prog Tryz.f4.params.toList dss) (Hl.lit (.bool true)) none 0 := by
  intro dss h
  rw [Tryz.params4] at *
  match dss, h with
  | [ds0], ⟨⟨k0, h0⟩, _⟩ =>
    obtain ⟨f, rfl⟩ := dec_F h0
    have := steady_law f 0
    simpa only [tvsOf, tvOf_agg agg26, Hl.lit, lb, bC] using this

theorem steady_lifted (os : Os) (started : os.Started) (H : Type) (enc : TypeId × Value → H) :
    ReturnsInHanded {} Tryz.checked os 4 .any (Rows.rewriteSteadySpec.pre6 enc Tryz.prog Tryz.f4 [] false) (Rows.rewriteSteadySpec.post enc Tryz.prog Tryz.f4 false true false false) :=
  law_lifted (C := Tryz.checked) own started (by kernel_rfl) Tryz.func4
    (ChangeSpec.witness6 (enc := enc) (C := Tryz.checked) false ⟨#[], #[.agg #[.slice none 0 0, .slice none 0 0, .slice none 0 0]], []⟩ 8 (by kernel_rfl) (by kernel_rfl) (by kernel_rfl) (by kernel_rfl))
    laidOut tiled (by kernel_rfl) rfl (tb := 4) (by kernel_rfl) Tryz.underlying4
    (fun ds hl => by
      match ds, hl with
      | [d0], _ => exact ⟨rfl, rfl, rfl⟩) steady_all

theorem steady_holds : Rows.RewriteSteadySaid :=
  OpenClaim.holds_of_wide 4 Tryz.f4 rfl rfl rfl rfl rfl rfl rfl ⟨rfl, rfl, rfl, rfl, rfl⟩ rfl rfl rfl rfl rfl (by kernel_rfl) Tryz.func4 (by kernel_rfl)
    (of_decide_eq_true (by kernel_rfl)) (by unfold Func.isWrapper; first | (rw [if_pos (by decide +kernel)]; kernel_rfl) | (rw [if_neg (by decide +kernel)]; exact ⟨rfl, rfl⟩))
    (fun os started H enc _ => steady_lifted os started H enc)
#print axioms steady_holds
end Go.Proofs.YtfilidjbpomgoaaGreat
