/- For every dependence graph: Check and Graph answer as0 PdgChecks asks it. It is true at every input and leaves its arguments as0 they were. No condition. -/
import Derived.Test.YtdajceakaakdoaaGreatK9
import Derived.Test.YtdajceakaakdoaaGreatK10
import Derived.Test.YtdajceakaakdoaaGreatRows
set_option linter.unusedSimpArgs false
set_option linter.unusedVariables false
set_option linter.unnecessarySimpa false
set_option maxRecDepth 100000
set_option maxHeartbeats 2000000
namespace Go.Proofs.YtdajceakaakdoaaGreat
open Go Go.Hl Go.RowKit Go.ChangeShapes Go.Proofs.YtdajceakaakdoaaGreat

theorem checks_all : ∀ dss, X0w Tryz.prog Tryz.f4.params.toList dss → Con Tryz.prog 4 true (X0o Tryz.prog Tryz.f4.params.toList dss) (Hl.lit (.bool true)) none 0 := by
  intro dss h
  rw [Tryz.params4] at *
  match dss, h with
  | [ds0], ⟨⟨k0, h0⟩, _⟩ =>
    obtain ⟨ns, nv, E, rfl⟩ := X9f h0
    have := X6G ns nv E 0
    simpa only [X0o, X5n aggPd, aPd, lI, Hl.lit, lb, li, bC, iC, List.map_cons, List.map_nil] using this

theorem checks_lifted (os : Os) (started : os.Started) (H : Type) (enc : TypeId × Value → H) :
    ReturnsInHanded {} Tryz.checked os 4 .any (Rows.pdgChecksSpec.pre6 enc Tryz.prog Tryz.f4 [] false) (Rows.pdgChecksSpec.post enc Tryz.prog Tryz.f4 false true false false) :=
  X2e (C := Tryz.checked) own started (by kernel_rfl) Tryz.func4
    (ChangeSpec.witness6 (enc := enc) (C := Tryz.checked) false ⟨#[], #[.agg #[.int .i64 0, .int .i64 0, .slice none 0 0]], []⟩ 8 (by kernel_rfl) (by kernel_rfl) (by kernel_rfl) (by kernel_rfl))
    X73 tiled (by kernel_rfl) rfl (tb := 4) (by kernel_rfl) Tryz.underlying4
    (fun ds hl => by
      match ds, hl with
      | [d0], _ => exact ⟨rfl, rfl, rfl⟩) checks_all

theorem checks_holds : Rows.PdgChecksSaid :=
  OpenClaim.holds_of_wide 4 Tryz.f4 rfl rfl rfl rfl rfl rfl rfl ⟨rfl, rfl, rfl, rfl, rfl⟩ rfl rfl rfl rfl rfl (by kernel_rfl) Tryz.func4 (by kernel_rfl)
    (of_decide_eq_true (by kernel_rfl)) (by unfold Func.isWrapper; first | (rw [if_pos (by decide +kernel)]; kernel_rfl) | (rw [if_neg (by decide +kernel)]; exact ⟨rfl, rfl⟩))
    (fun os started H enc _ => checks_lifted os started H enc)
#print axioms checks_holds
end Go.Proofs.YtdajceakaakdoaaGreat

