/- The methods of a nil Lattice return zero values and ErrArgument. -/
import Derived.Test.YtkechegbfjggcaaT13
import Derived.Test.YtkechegbfjggcaaT22
import Derived.Test.YtkechegbfjggcaaRows
set_option linter.unusedSimpArgs false
set_option linter.unusedVariables false
namespace Go.Proofs.Ytkechegbfjggcaa
open Go Go.Hl Go.RowKit Go.ChangeShapes Go.Proofs.Ytkechegbfjggcaa

theorem nil_law : ∀ dss, ShapeAll Try.prog Try.f10.params.toList dss → Con Try.prog 10 true (tvsOf Try.prog Try.f10.params.toList dss) (Hl.lit (.bool true)) none 0 := by
  intro dss h
  rw [Try.params10] at *
  match dss, h with
  | [ds0, ds1, ds2], ⟨⟨k0, h0⟩, ⟨k1, h1⟩, ⟨k2, h2⟩, _⟩ =>
    obtain ⟨x0, rfl⟩ := dec_int h0
    obtain ⟨x1, rfl⟩ := dec_int h1
    obtain ⟨x2, rfl⟩ := dec_str h2
    have := nil_con x0 x1 x2 0
    simpa only [tvsOf, tvOf_one agg3, tvOf_one agg9, Hl.lit, lb, bC, li, i64, sv, List.map] using this

theorem nil_lifted (os : Os) (started : os.Started) (H : Type) (enc : TypeId × Value → H) :
    ReturnsInHanded {} Try.checked os 10 .any (Rows.latticeNilSpec.pre6 enc Try.prog Try.f10 [] false) (Rows.latticeNilSpec.post enc Try.prog Try.f10 false true false false) :=
  law_lifted (C := Try.checked) own started (by kernel_rfl) Try.func10
    (ChangeSpec.witness6 (enc := enc) (C := Try.checked) false ⟨#[], #[.int .i64 0, .int .i64 0, .string ⟨#[]⟩], []⟩ 8 (by kernel_rfl) (by kernel_rfl) (by kernel_rfl) (by kernel_rfl))
    laidOut tiled (by kernel_rfl) rfl (tb := 4) (by kernel_rfl) Try.underlying4
    (fun ds hl => by
      match ds, hl with
      | [d0, d1, d2], _ => exact ⟨rfl, rfl, rfl⟩) nil_law

theorem nil_holds : Rows.LatticeNilSaid :=
  OpenClaim.holds_of_wide 10 Try.f10 rfl rfl rfl rfl rfl rfl rfl ⟨rfl, rfl, rfl, rfl, rfl⟩ rfl rfl rfl rfl rfl (by kernel_rfl) Try.func10 (by kernel_rfl)
    (of_decide_eq_true (by kernel_rfl)) (by unfold Func.isWrapper; first | (rw [if_pos (by decide +kernel)]; kernel_rfl) | (rw [if_neg (by decide +kernel)]; exact ⟨rfl, rfl⟩))
    (fun os started H enc _ => nil_lifted os started H enc)
end Go.Proofs.Ytkechegbfjggcaa
