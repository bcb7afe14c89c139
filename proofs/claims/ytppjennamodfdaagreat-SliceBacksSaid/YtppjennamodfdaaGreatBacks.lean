/- For every program and two lists of numbers: Backward, Forward and Chop return what chapter 24 defines, or the code, as0 SliceBacks asks it; the statement is true at every input and leaves its arguments as0 they were. No condition. -/
import Derived.Test.YtppjennamodfdaaGreatK13
import Derived.Test.YtppjennamodfdaaGreatRows
set_option linter.unusedSimpArgs false
set_option linter.unusedVariables false
set_option linter.unnecessarySimpa false
set_option maxRecDepth 100000
set_option maxHeartbeats 2000000
namespace Go.Proofs.YtppjennamodfdaaGreat
open Go Go.Hl Go.RowKit Go.ChangeShapes Go.Proofs.YtppjennamodfdaaGreat

theorem backs_all : ∀ dss, X3H Tryz.prog Tryz.f3.params.toList dss → Con Tryz.prog 3 true (X3z Tryz.prog Tryz.f3.params.toList dss) (Hl.lit (.bool true)) none 0 := by
  intro dss h
  rw [Tryz.params3] at *
  match dss, h with
  | [ds0, ds1, ds2], ⟨⟨k0, h0⟩, ⟨k1, h1⟩, ⟨k2, h2⟩, _⟩ =>
    obtain ⟨f, rfl⟩ := dec_F h0
    obtain ⟨q, rfl⟩ := dec_I h1
    obtain ⟨q2, rfl⟩ := dec_I h2
    have := Xc7 XbM f q q2 0
    simpa only [X3z, tvOf_agg aggF, tvOf_one (by unfold aggT; rw [Tryz.underlying27] : aggT Tryz.prog 27 = false), Hl.lit, lb, bC] using this

theorem backs_lifted (os : Os) (started : os.Started) (H : Type) (enc : TypeId × Value → H) :
    ReturnsInHanded {} Tryz.checked os 3 .any (Rows.sliceBacksSpec.pre6 enc Tryz.prog Tryz.f3 [] false) (Rows.sliceBacksSpec.post enc Tryz.prog Tryz.f3 false true false false) :=
  XaJ (C := Tryz.checked) own started (by kernel_rfl) Tryz.func3
    (ChangeSpec.witness6 (enc := enc) (C := Tryz.checked) false ⟨#[], #[.agg #[.slice none 0 0, .slice none 0 0, .slice none 0 0], .slice none 0 0, .slice none 0 0], []⟩ 8 (by kernel_rfl) (by kernel_rfl) (by kernel_rfl) (by kernel_rfl))
    laidOut tiled (by kernel_rfl) rfl (tb := 4) (by kernel_rfl) Tryz.underlying4
    (fun ds hl => by
      match ds, hl with
      | [d0, d1, d2], _ => exact ⟨rfl, rfl, rfl⟩) backs_all

theorem backs_holds : Rows.SliceBacksSaid :=
  OpenClaim.holds_of_wide 3 Tryz.f3 rfl rfl rfl rfl rfl rfl rfl ⟨rfl, rfl, rfl, rfl, rfl⟩ rfl rfl rfl rfl rfl (by kernel_rfl) Tryz.func3 (by kernel_rfl)
    (of_decide_eq_true (by kernel_rfl)) (by unfold Func.isWrapper; first | (rw [if_pos (by decide +kernel)]; kernel_rfl) | (rw [if_neg (by decide +kernel)]; exact ⟨rfl, rfl⟩))
    (fun os started H enc _ => backs_lifted os started H enc)
#print axioms backs_holds
end Go.Proofs.YtppjennamodfdaaGreat

