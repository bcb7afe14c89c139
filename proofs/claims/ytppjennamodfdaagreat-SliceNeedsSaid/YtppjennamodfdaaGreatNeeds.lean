/- For every program and every list of numbers: Needs and Closed return what chapter 24 defines, or the code, as0 SliceNeeds asks it; the statement is true at every input and leaves its arguments as0 they were. No condition. -/
import Derived.Test.YtppjennamodfdaaGreatN14
import Derived.Test.YtppjennamodfdaaGreatN10
import Derived.Test.YtppjennamodfdaaGreatRows
set_option linter.unusedSimpArgs false
set_option linter.unusedVariables false
set_option linter.unnecessarySimpa false
set_option maxRecDepth 100000
set_option maxHeartbeats 2000000
namespace Go.Proofs.YtppjennamodfdaaGreat
open Go Go.Hl Go.RowKit Go.ChangeShapes Go.Proofs.YtppjennamodfdaaGreat

theorem needs_all : ∀ dss, X2X Tryz.prog Tryz.f4.params.toList dss → Con Tryz.prog 4 true (X3D Tryz.prog Tryz.f4.params.toList dss) (Hl.lit (.bool true)) none 0 := by
  intro dss h
  rw [Tryz.params4] at *
  match dss, h with
  | [ds0, ds1], ⟨⟨k0, h0⟩, ⟨k1, h1⟩, _⟩ =>
    obtain ⟨f, rfl⟩ := dec_F h0
    obtain ⟨q, rfl⟩ := dec_I h1
    have := Xci XbS f q 0
    simpa only [X3D, tvOf_agg aggF, tvOf_one (by unfold aggT; rw [Tryz.underlying27] : aggT Tryz.prog 27 = false), Hl.lit, lb, bC] using this

theorem needs_lifted (os : Os) (started : os.Started) (H : Type) (enc : TypeId × Value → H) :
    ReturnsInHanded {} Tryz.checked os 4 .any (Rows.sliceNeedsSpec.pre6 enc Tryz.prog Tryz.f4 [] false) (Rows.sliceNeedsSpec.post enc Tryz.prog Tryz.f4 false true false false) :=
  Xai (C := Tryz.checked) own started (by kernel_rfl) Tryz.func4
    (ChangeSpec.witness6 (enc := enc) (C := Tryz.checked) false ⟨#[], #[.agg #[.slice none 0 0, .slice none 0 0, .slice none 0 0], .slice none 0 0], []⟩ 8 (by kernel_rfl) (by kernel_rfl) (by kernel_rfl) (by kernel_rfl))
    laidOut tiled (by kernel_rfl) rfl (tb := 4) (by kernel_rfl) Tryz.underlying4
    (fun ds hl => by
      match ds, hl with
      | [d0, d1], _ => exact ⟨rfl, rfl, rfl⟩) needs_all

theorem needs_holds : Rows.SliceNeedsSaid :=
  OpenClaim.holds_of_wide 4 Tryz.f4 rfl rfl rfl rfl rfl rfl rfl ⟨rfl, rfl, rfl, rfl, rfl⟩ rfl rfl rfl rfl rfl (by kernel_rfl) Tryz.func4 (by kernel_rfl)
    (of_decide_eq_true (by kernel_rfl)) (by unfold Func.isWrapper; first | (rw [if_pos (by decide +kernel)]; kernel_rfl) | (rw [if_neg (by decide +kernel)]; exact ⟨rfl, rfl⟩))
    (fun os started H enc _ => needs_lifted os started H enc)
#print axioms needs_holds
end Go.Proofs.YtppjennamodfdaaGreat

