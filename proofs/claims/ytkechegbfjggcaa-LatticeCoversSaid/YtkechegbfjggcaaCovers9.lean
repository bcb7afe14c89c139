/- Covers lists the pairs that are directly above one another, they make the same lattice again, and Height is the length of a longest chain. -/
import Derived.Test.YtkechegbfjggcaaT13
import Derived.Test.YtkechegbfjggcaaT26
import Derived.Test.YtkechegbfjggcaaRows
set_option linter.unusedSimpArgs false
set_option linter.unusedVariables false
namespace Go.Proofs.Ytkechegbfjggcaa
open Go Go.Hl Go.RowKit Go.ChangeShapes Go.Proofs.Ytkechegbfjggcaa

theorem covers9_law : ∀ dss, ShapeAll Try.prog Try.f9.params.toList dss → Con Try.prog 9 true (tvsOf Try.prog Try.f9.params.toList dss) (Hl.lit (.bool true)) none 0 := by
  intro dss h
  rw [Try.params9] at *
  match dss, h with
  | [ds0, ds1], ⟨⟨k0, h0⟩, ⟨k1, h1⟩, _⟩ =>
    obtain ⟨x0, rfl⟩ := dec_names h0
    obtain ⟨x1, rfl⟩ := dec_order h1
    have := covers9_con x0 x1 0
    simpa only [tvsOf, tvOf_one agg22, tvOf_one agg23, Hl.lit, lb, bC, li, i64, sv, List.map] using this

theorem covers9_lifted (os : Os) (started : os.Started) (H : Type) (enc : TypeId × Value → H) :
    ReturnsInHanded {} Try.checked os 9 .any (Rows.latticeCoversSpec.pre6 enc Try.prog Try.f9 [] false) (Rows.latticeCoversSpec.post enc Try.prog Try.f9 false true false false) :=
  law_lifted (C := Try.checked) own started (by kernel_rfl) Try.func9
    (ChangeSpec.witness6 (enc := enc) (C := Try.checked) false ⟨#[], #[.slice none 0 0, .slice none 0 0], []⟩ 8 (by kernel_rfl) (by kernel_rfl) (by kernel_rfl) (by kernel_rfl))
    laidOut tiled (by kernel_rfl) rfl (tb := 4) (by kernel_rfl) Try.underlying4
    (fun ds hl => by
      match ds, hl with
      | [d0, d1], _ => exact ⟨rfl, rfl, rfl⟩) covers9_law

theorem covers9_holds : Rows.LatticeCoversSaid :=
  OpenClaim.holds_of_wide 9 Try.f9 rfl rfl rfl rfl rfl rfl rfl ⟨rfl, rfl, rfl, rfl, rfl⟩ rfl rfl rfl rfl rfl (by kernel_rfl) Try.func9 (by kernel_rfl)
    (of_decide_eq_true (by kernel_rfl)) (by unfold Func.isWrapper; first | (rw [if_pos (by decide +kernel)]; kernel_rfl) | (rw [if_neg (by decide +kernel)]; exact ⟨rfl, rfl⟩))
    (fun os started H enc _ => covers9_lifted os started H enc)
end Go.Proofs.Ytkechegbfjggcaa
