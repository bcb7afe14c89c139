/- For every program and two lists of numbers: slices contain the given steps, are idempotent and ascending, of two lists together they are the union, and backward slices are closed, as0 SliceUnions asks it; the statement is true at every input and leaves its arguments as0 they were. No condition. -/
import Derived.Test.YtppjennamodfdaaGreatK15
import Derived.Test.YtppjennamodfdaaGreatK14
import Derived.Test.YtppjennamodfdaaGreatRows
set_option linter.unusedSimpArgs false
set_option linter.unusedVariables false
set_option linter.unnecessarySimpa false
set_option maxRecDepth 100000
set_option maxHeartbeats 2000000
namespace Go.Proofs.YtppjennamodfdaaGreat
open Go Go.Hl Go.RowKit Go.ChangeShapes Go.Proofs.YtppjennamodfdaaGreat

theorem unions_all : ∀ dss, X25 Tryz.prog Tryz.f9.params.toList dss → Con Tryz.prog 9 true (X1I Tryz.prog Tryz.f9.params.toList dss) (Hl.lit (.bool true)) none 0 := by
  intro dss h
  rw [Tryz.params9] at *
  match dss, h with
  | [ds0, ds1, ds2], ⟨⟨k0, h0⟩, ⟨k1, h1⟩, ⟨k2, h2⟩, _⟩ =>
    obtain ⟨f, rfl⟩ := dec_F h0
    obtain ⟨q, rfl⟩ := X6A h1
    obtain ⟨q2, rfl⟩ := X6A h2
    have := XaY f q q2 0
    simpa only [X1I, X5z aggF, X9t (by unfold X37; rw [Tryz.underlying27] : X37 Tryz.prog 27 = false), Hl.lit, lb, bC] using this

theorem unions_lifted (os : Os) (started : os.Started) (H : Type) (enc : TypeId × Value → H) :
    ReturnsInHanded {} Tryz.checked os 9 .any (Rows.sliceUnionsSpec.pre6 enc Tryz.prog Tryz.f9 [] false) (Rows.sliceUnionsSpec.post enc Tryz.prog Tryz.f9 false true false false) :=
  X5t (C := Tryz.checked) own started (by kernel_rfl) Tryz.func9
    (ChangeSpec.witness6 (enc := enc) (C := Tryz.checked) false ⟨#[], #[.agg #[.slice none 0 0, .slice none 0 0, .slice none 0 0], .slice none 0 0, .slice none 0 0], []⟩ 8 (by kernel_rfl) (by kernel_rfl) (by kernel_rfl) (by kernel_rfl))
    XbW tiled (by kernel_rfl) rfl (tb := 4) (by kernel_rfl) Tryz.underlying4
    (fun ds hl => by
      match ds, hl with
      | [d0, d1, d2], _ => exact ⟨rfl, rfl, rfl⟩) unions_all

theorem unions_holds : Rows.SliceUnionsSaid :=
  OpenClaim.holds_of_wide 9 Tryz.f9 rfl rfl rfl rfl rfl rfl rfl ⟨rfl, rfl, rfl, rfl, rfl⟩ rfl rfl rfl rfl rfl (by kernel_rfl) Tryz.func9 (by kernel_rfl)
    (of_decide_eq_true (by kernel_rfl)) (by unfold Func.isWrapper; first | (rw [if_pos (by decide +kernel)]; kernel_rfl) | (rw [if_neg (by decide +kernel)]; exact ⟨rfl, rfl⟩))
    (fun os started H enc _ => unions_lifted os started H enc)
#print axioms unions_holds
end Go.Proofs.YtppjennamodfdaaGreat

