/- Top is above and Bottom below every level, and JoinAll is the join of any list of levels. -/
import Derived.Test.YtkechegbfjggcaaT13
import Derived.Test.YtkechegbfjggcaaT21
import Derived.Test.YtkechegbfjggcaaRows
set_option linter.unusedSimpArgs false
set_option linter.unusedVariables false
namespace Go.Proofs.Ytkechegbfjggcaa
open Go Go.Hl Go.RowKit Go.ChangeShapes Go.Proofs.Ytkechegbfjggcaa

theorem ends_law : ∀ dss, ShapeAll Try.prog Try.f8.params.toList dss → Con Try.prog 8 true (tvsOf Try.prog Try.f8.params.toList dss) (Hl.lit (.bool true)) none 0 := by
  intro dss h
  rw [Try.params8] at *
  match dss, h with
  | [ds0, ds1, ds2], ⟨⟨k0, h0⟩, ⟨k1, h1⟩, ⟨k2, h2⟩, _⟩ =>
    obtain ⟨x0, rfl⟩ := dec_names h0
    obtain ⟨x1, rfl⟩ := dec_order h1
    obtain ⟨x2, rfl⟩ := dec_ints h2
    have := ends_con x0 x1 x2 0
    simpa only [tvsOf, tvOf_one agg22, tvOf_one agg23, tvOf_one agg54, lvC, Hl.lit, lb, bC, li, i64, sv, List.map] using this

theorem ends_lifted (os : Os) (started : os.Started) (H : Type) (enc : TypeId × Value → H) :
    ReturnsInHanded {} Try.checked os 8 .any (Rows.latticeEndsSpec.pre6 enc Try.prog Try.f8 [] false) (Rows.latticeEndsSpec.post enc Try.prog Try.f8 false true false false) :=
  law_lifted (C := Try.checked) own started (by kernel_rfl) Try.func8
    (ChangeSpec.witness6 (enc := enc) (C := Try.checked) false ⟨#[], #[.slice none 0 0, .slice none 0 0, .slice none 0 0], []⟩ 8 (by kernel_rfl) (by kernel_rfl) (by kernel_rfl) (by kernel_rfl))
    laidOut tiled (by kernel_rfl) rfl (tb := 4) (by kernel_rfl) Try.underlying4
    (fun ds hl => by
      match ds, hl with
      | [d0, d1, d2], _ => exact ⟨rfl, rfl, rfl⟩) ends_law

theorem ends_holds : Rows.LatticeEndsSaid :=
  OpenClaim.holds_of_wide 8 Try.f8 rfl rfl rfl rfl rfl rfl rfl ⟨rfl, rfl, rfl, rfl, rfl⟩ rfl rfl rfl rfl rfl (by kernel_rfl) Try.func8 (by kernel_rfl)
    (of_decide_eq_true (by kernel_rfl)) (by unfold Func.isWrapper; first | (rw [if_pos (by decide +kernel)]; kernel_rfl) | (rw [if_neg (by decide +kernel)]; exact ⟨rfl, rfl⟩))
    (fun os started H enc _ => ends_lifted os started H enc)
end Go.Proofs.Ytkechegbfjggcaa
