/- For every program: Build returns the dependence graph that the definitions give, or the specified error, as PdgBuilds asks it. It is true at every input and leaves its arguments as they were. No condition. -/
import Derived.Test.YtdajceakaakdoaaGreatB20
import Derived.Test.YtdajceakaakdoaaGreatB23
import Derived.Test.YtdajceakaakdoaaGreatRows
set_option linter.unusedSimpArgs false
set_option linter.unusedVariables false
set_option linter.unnecessarySimpa false
set_option maxRecDepth 100000
set_option maxHeartbeats 2000000
namespace Go.Proofs.YtdajceakaakdoaaGreat
open Go Go.Hl Go.RowKit Go.ChangeShapes Go.Proofs.YtdajceakaakdoaaGreat

theorem builds_all : ∀ dss, X36 Tryz.prog Tryz.f5.params.toList dss → Con Tryz.prog 5 true (X3S Tryz.prog Tryz.f5.params.toList dss) (Hl.lit (.bool true)) none 0 := by
  intro dss h
  rw [Tryz.params5] at *
  match dss, h with
  | [ds0], ⟨⟨k0, h0⟩, _⟩ =>
    obtain ⟨f, rfl⟩ := dec_F h0
    have := X81 f 0
    simpa only [X3S, tvOf_agg aggF, Hl.lit, lb, bC] using this

theorem builds_lifted (os : Os) (started : os.Started) (H : Type) (enc : TypeId × Value → H) :
    ReturnsInHanded {} Tryz.checked os 5 .any (Rows.pdgBuildsSpec.pre6 enc Tryz.prog Tryz.f5 [] false) (Rows.pdgBuildsSpec.post enc Tryz.prog Tryz.f5 false true false false) :=
  XaP (C := Tryz.checked) own started (by kernel_rfl) Tryz.func5
    (ChangeSpec.witness6 (enc := enc) (C := Tryz.checked) false ⟨#[], #[.agg #[.slice none 0 0, .slice none 0 0, .slice none 0 0]], []⟩ 8 (by kernel_rfl) (by kernel_rfl) (by kernel_rfl) (by kernel_rfl))
    laidOut tiled (by kernel_rfl) rfl (tb := 4) (by kernel_rfl) Tryz.underlying4
    (fun ds hl => by
      match ds, hl with
      | [d0], _ => exact ⟨rfl, rfl, rfl⟩) builds_all

theorem builds_holds : Rows.PdgBuildsSaid :=
  OpenClaim.holds_of_wide 5 Tryz.f5 rfl rfl rfl rfl rfl rfl rfl ⟨rfl, rfl, rfl, rfl, rfl⟩ rfl rfl rfl rfl rfl (by kernel_rfl) Tryz.func5 (by kernel_rfl)
    (of_decide_eq_true (by kernel_rfl)) (by unfold Func.isWrapper; first | (rw [if_pos (by decide +kernel)]; kernel_rfl) | (rw [if_neg (by decide +kernel)]; exact ⟨rfl, rfl⟩))
    (fun os started H enc _ => builds_lifted os started H enc)
#print axioms builds_holds
end Go.Proofs.YtdajceakaakdoaaGreat

