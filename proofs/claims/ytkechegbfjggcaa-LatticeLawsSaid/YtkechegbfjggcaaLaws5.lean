/- Join and Meet obey the laws of lattices and agree with Below. -/
import Derived.Test.YtkechegbfjggcaaT13
import Derived.Test.YtkechegbfjggcaaT19
import Derived.Test.YtkechegbfjggcaaRows
set_option linter.unusedSimpArgs false
set_option linter.unusedVariables false
namespace Go.Proofs.Ytkechegbfjggcaa
open Go Go.Hl Go.RowKit Go.ChangeShapes Go.Proofs.Ytkechegbfjggcaa

theorem laws5_law : ∀ dss, ShapeAll Try.prog Try.f5.params.toList dss → Con Try.prog 5 true (tvsOf Try.prog Try.f5.params.toList dss) (Hl.lit (.bool true)) none 0 := by
  intro dss h
  rw [Try.params5] at *
  match dss, h with
  | [ds0, ds1, ds2], ⟨⟨k0, h0⟩, ⟨k1, h1⟩, ⟨k2, h2⟩, _⟩ =>
    obtain ⟨x0, rfl⟩ := dec_names h0
    obtain ⟨x1, rfl⟩ := dec_order h1
    obtain ⟨x2, y2, z2, rfl⟩ := dec_three h2
    have := laws5_con x0 x1 x2 y2 z2 0
    simpa only [tvsOf, tvOf_agg agg40, tvOf_one agg22, tvOf_one agg23, Hl.lit, lb, bC, li, i64, sv, List.map] using this

theorem laws5_lifted (os : Os) (started : os.Started) (H : Type) (enc : TypeId × Value → H) :
    ReturnsInHanded {} Try.checked os 5 .any (Rows.latticeLawsSpec.pre6 enc Try.prog Try.f5 [] false) (Rows.latticeLawsSpec.post enc Try.prog Try.f5 false true false false) :=
  law_lifted (C := Try.checked) own started (by kernel_rfl) Try.func5
    (ChangeSpec.witness6 (enc := enc) (C := Try.checked) false ⟨#[], #[.slice none 0 0, .slice none 0 0, .agg #[.int .i64 0, .int .i64 0, .int .i64 0]], []⟩ 8 (by kernel_rfl) (by kernel_rfl) (by kernel_rfl) (by kernel_rfl))
    laidOut tiled (by kernel_rfl) rfl (tb := 4) (by kernel_rfl) Try.underlying4
    (fun ds hl => by
      match ds, hl with
      | [d0, d1, d2], _ => exact ⟨rfl, rfl, rfl⟩) laws5_law

theorem laws5_holds : Rows.LatticeLawsSaid :=
  OpenClaim.holds_of_wide 5 Try.f5 rfl rfl rfl rfl rfl rfl rfl ⟨rfl, rfl, rfl, rfl, rfl⟩ rfl rfl rfl rfl rfl (by kernel_rfl) Try.func5 (by kernel_rfl)
    (of_decide_eq_true (by kernel_rfl)) (by unfold Func.isWrapper; first | (rw [if_pos (by decide +kernel)]; kernel_rfl) | (rw [if_neg (by decide +kernel)]; exact ⟨rfl, rfl⟩))
    (fun os started H enc _ => laws5_lifted os started H enc)
end Go.Proofs.Ytkechegbfjggcaa
