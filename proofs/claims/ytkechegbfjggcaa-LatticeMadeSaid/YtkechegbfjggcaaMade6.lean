/- New returns a lattice exactly if the names and pairs make one, otherwise the first reason. -/
import Derived.Test.YtkechegbfjggcaaT13
import Derived.Test.YtkechegbfjggcaaT17
import Derived.Test.YtkechegbfjggcaaRows
set_option linter.unusedSimpArgs false
set_option linter.unusedVariables false
namespace Go.Proofs.Ytkechegbfjggcaa
open Go Go.Hl Go.RowKit Go.ChangeShapes Go.Proofs.Ytkechegbfjggcaa

theorem made6_law : ∀ dss, ShapeAll Try.prog Try.f6.params.toList dss → Con Try.prog 6 true (tvsOf Try.prog Try.f6.params.toList dss) (Hl.lit (.bool true)) none 0 := by
  intro dss h
  rw [Try.params6] at *
  match dss, h with
  | [ds0, ds1], ⟨⟨k0, h0⟩, ⟨k1, h1⟩, _⟩ =>
    obtain ⟨x0, rfl⟩ := dec_names h0
    obtain ⟨x1, rfl⟩ := dec_order h1
    have := made6_con x0 x1 0
    simpa only [tvsOf, tvOf_one agg22, tvOf_one agg23, Hl.lit, lb, bC, li, i64, sv, List.map] using this

theorem made6_lifted (os : Os) (started : os.Started) (H : Type) (enc : TypeId × Value → H) :
    ReturnsInHanded {} Try.checked os 6 .any (Rows.latticeMadeSpec.pre6 enc Try.prog Try.f6 [] false) (Rows.latticeMadeSpec.post enc Try.prog Try.f6 false true false false) :=
  law_lifted (C := Try.checked) own started (by kernel_rfl) Try.func6
    (ChangeSpec.witness6 (enc := enc) (C := Try.checked) false ⟨#[], #[.slice none 0 0, .slice none 0 0], []⟩ 8 (by kernel_rfl) (by kernel_rfl) (by kernel_rfl) (by kernel_rfl))
    laidOut tiled (by kernel_rfl) rfl (tb := 4) (by kernel_rfl) Try.underlying4
    (fun ds hl => by
      match ds, hl with
      | [d0, d1], _ => exact ⟨rfl, rfl, rfl⟩) made6_law

theorem made6_holds : Rows.LatticeMadeSaid :=
  OpenClaim.holds_of_wide 6 Try.f6 rfl rfl rfl rfl rfl rfl rfl ⟨rfl, rfl, rfl, rfl, rfl⟩ rfl rfl rfl rfl rfl (by kernel_rfl) Try.func6 (by kernel_rfl)
    (of_decide_eq_true (by kernel_rfl)) (by unfold Func.isWrapper; first | (rw [if_pos (by decide +kernel)]; kernel_rfl) | (rw [if_neg (by decide +kernel)]; exact ⟨rfl, rfl⟩))
    (fun os started H enc _ => made6_lifted os started H enc)
end Go.Proofs.Ytkechegbfjggcaa
