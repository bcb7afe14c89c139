/- For every program and node: Sources returns the inputs and the hatches on which a node depends other than through releases, or the specified error, as PdgSources asks it. It is true at every input and leaves its arguments as they were. No condition. -/
import Derived.Test.YtdajceakaakdoaaGreatRows
import Derived.Test.YtdajceakaakdoaaGreatS1
set_option linter.unusedSimpArgs false
set_option linter.unusedVariables false
set_option linter.unnecessarySimpa false
set_option maxRecDepth 100000
set_option maxHeartbeats 2000000
namespace Go.Proofs.YtdajceakaakdoaaGreat
open Go Go.Hl Go.RowKit Go.ChangeShapes Go.Proofs.YtdajceakaakdoaaGreat

theorem sources_all : ∀ dss, X36 Tryz.prog Tryz.f3.params.toList dss → Con Tryz.prog 3 true (X3S Tryz.prog Tryz.f3.params.toList dss) (Hl.lit (.bool true)) none 0 := by
  intro dss h
  rw [Tryz.params3] at *
  match dss, h with
  | [ds0, ds1], ⟨⟨k0, h0⟩, ⟨k1, h1⟩, _⟩ =>
    obtain ⟨f, rfl⟩ := dec_F h0
    obtain ⟨k, rfl⟩ := X0T Tryz.underlying3 h1
    have := sources_law23 f k 0
    simpa only [X3S, tvOf_agg aggF, tvOf_one (by unfold aggT; rw [Tryz.underlying3] : aggT Tryz.prog 3 = false), Hl.lit, lb, li, bC, iC] using this

theorem sources_lifted (os : Os) (started : os.Started) (H : Type) (enc : TypeId × Value → H) :
    ReturnsInHanded {} Tryz.checked os 3 .any (Rows.pdgSourcesSpec.pre6 enc Tryz.prog Tryz.f3 [] false) (Rows.pdgSourcesSpec.post enc Tryz.prog Tryz.f3 false true false false) :=
  XaP (C := Tryz.checked) own started (by kernel_rfl) Tryz.func3
    (ChangeSpec.witness6 (enc := enc) (C := Tryz.checked) false ⟨#[], #[.agg #[.slice none 0 0, .slice none 0 0, .slice none 0 0], .int .i64 0], []⟩ 8 (by kernel_rfl) (by kernel_rfl) (by kernel_rfl) (by kernel_rfl))
    laidOut tiled (by kernel_rfl) rfl (tb := 4) (by kernel_rfl) Tryz.underlying4
    (fun ds hl => by
      match ds, hl with
      | [d0, d1], _ => exact ⟨rfl, rfl, rfl⟩) sources_all

theorem sources_holds : Rows.PdgSourcesSaid :=
  OpenClaim.holds_of_wide 3 Tryz.f3 rfl rfl rfl rfl rfl rfl rfl ⟨rfl, rfl, rfl, rfl, rfl⟩ rfl rfl rfl rfl rfl (by kernel_rfl) Tryz.func3 (by kernel_rfl)
    (of_decide_eq_true (by kernel_rfl)) (by unfold Func.isWrapper; first | (rw [if_pos (by decide +kernel)]; kernel_rfl) | (rw [if_neg (by decide +kernel)]; exact ⟨rfl, rfl⟩))
    (fun os started H enc _ => sources_lifted os started H enc)
#print axioms sources_holds
end Go.Proofs.YtdajceakaakdoaaGreat

