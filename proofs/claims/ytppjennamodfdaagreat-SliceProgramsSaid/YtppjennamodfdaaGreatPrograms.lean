/- For every program and every list of steps: slice.Program, as0 SlicePrograms asks it, returns the program of the steps that are in the list together with all steps around them, which is valid, or the code; of all steps it is the program; the statement is true at every input and leaves its arguments as0 they were. No condition. -/
import Derived.Test.YtppjennamodfdaaGreatK14
import Derived.Test.YtppjennamodfdaaGreatK12
import Derived.Test.YtppjennamodfdaaGreatRows
set_option linter.unusedSimpArgs false
set_option linter.unusedVariables false
set_option linter.unnecessarySimpa false
set_option maxRecDepth 100000
set_option maxHeartbeats 2000000
namespace Go.Proofs.YtppjennamodfdaaGreat
open Go Go.Hl Go.RowKit Go.ChangeShapes Go.Proofs.YtppjennamodfdaaGreat

theorem programs_all : ∀ dss, ShapeAll Tryz.prog Tryz.f6.params.toList dss → Con Tryz.prog 6 true (tvsOf Tryz.prog Tryz.f6.params.toList dss) (Hl.lit (.bool true)) none 0 := by
  intro dss h
  rw [Tryz.params6] at *
  match dss, h with
  | [ds0, ds1], ⟨⟨k0, h0⟩, ⟨k1, h1⟩, _⟩ =>
    obtain ⟨f, rfl⟩ := dec_F h0
    obtain ⟨q, rfl⟩ := dec_I h1
    have := programs_law f q 0
    simpa only [tvsOf, tvOf_agg aggF, tvOf_one (by unfold aggT; rw [Tryz.underlying27] : aggT Tryz.prog 27 = false), Hl.lit, lb, bC] using this

theorem programs_lifted (os : Os) (started : os.Started) (H : Type) (enc : TypeId × Value → H) :
    ReturnsInHanded {} Tryz.checked os 6 .any (Rows.sliceProgramsSpec.pre6 enc Tryz.prog Tryz.f6 [] false) (Rows.sliceProgramsSpec.post enc Tryz.prog Tryz.f6 false true false false) :=
  law_lifted (C := Tryz.checked) own started (by kernel_rfl) Tryz.func6
    (ChangeSpec.witness6 (enc := enc) (C := Tryz.checked) false ⟨#[], #[.agg #[.slice none 0 0, .slice none 0 0, .slice none 0 0], .slice none 0 0], []⟩ 8 (by kernel_rfl) (by kernel_rfl) (by kernel_rfl) (by kernel_rfl))
    laidOut tiled (by kernel_rfl) rfl (tb := 4) (by kernel_rfl) Tryz.underlying4
    (fun ds hl => by
      match ds, hl with
      | [d0, d1], _ => exact ⟨rfl, rfl, rfl⟩) programs_all

theorem programs_holds : Rows.SliceProgramsSaid :=
  OpenClaim.holds_of_wide 6 Tryz.f6 rfl rfl rfl rfl rfl rfl rfl ⟨rfl, rfl, rfl, rfl, rfl⟩ rfl rfl rfl rfl rfl (by kernel_rfl) Tryz.func6 (by kernel_rfl)
    (of_decide_eq_true (by kernel_rfl)) (by unfold Func.isWrapper; first | (rw [if_pos (by decide +kernel)]; kernel_rfl) | (rw [if_neg (by decide +kernel)]; exact ⟨rfl, rfl⟩))
    (fun os started H enc _ => programs_lifted os started H enc)
#print axioms programs_holds
end Go.Proofs.YtppjennamodfdaaGreat

