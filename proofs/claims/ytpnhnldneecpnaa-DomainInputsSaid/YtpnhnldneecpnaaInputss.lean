/- DomainInputs returns true for every input, and its arguments read as they did: Inputs is the reference. Conditions: none. -/
import Derived.Test.YtpnhnldneecpnaaT7
import Derived.Test.YtpnhnldneecpnaaT14
import Derived.Test.YtpnhnldneecpnaaRows
set_option linter.unusedSimpArgs false
set_option linter.unusedVariables false
namespace Go.Proofs.Ytpnhnldneecpnaa
open Go Go.Hl Go.RowKit Go.ChangeShapes Go.Proofs.Ytpnhnldneecpnaa

theorem inputss_law : ∀ dss, ShapeAll Try.prog Try.f9.params.toList dss → Con Try.prog 9 true (tvsOf Try.prog Try.f9.params.toList dss) (Hl.lit (.bool true)) none 0 := by
  intro dss h
  rw [Try.params9] at *
  match dss, h with
  | [ds0, ds1], ⟨⟨k0, h0⟩, ⟨k1, h1⟩, _⟩ =>
    obtain ⟨x0, rfl⟩ := dec_vars h0
    obtain ⟨x1, y1, z1, rfl⟩ := dec_three h1
    have := inputss_con x0 x1 y1 z1 0
    simpa only [tvsOf, tvOf_agg agg41, tvOf_one agg22, encVs, encIs, pr, li, i64, List.map] using this

theorem inputss_lifted (os : Os) (started : os.Started) (H : Type) (enc : TypeId × Value → H) :
    ReturnsInHanded {} Try.checked os 9 .any (Rows.domainInputsSpec.pre6 enc Try.prog Try.f9 [] false) (Rows.domainInputsSpec.post enc Try.prog Try.f9 false true false false) :=
  law_lifted (C := Try.checked) own started (by kernel_rfl) Try.func9
    (ChangeSpec.witness6 (enc := enc) (C := Try.checked) false ⟨#[], #[.slice none 0 0, .agg #[.int .i64 0, .int .i64 0, .int .i64 0]], []⟩ 8 (by kernel_rfl) (by kernel_rfl) (by kernel_rfl) (by kernel_rfl))
    laidOut tiled (by kernel_rfl) rfl (tb := 4) (by kernel_rfl) Try.underlying4
    (fun ds hl => by
      match ds, hl with
      | [d0, d1], _ => exact ⟨rfl, rfl, rfl⟩) inputss_law

theorem inputss_holds : Rows.DomainInputsSaid :=
  OpenClaim.holds_of_wide 9 Try.f9 rfl rfl rfl rfl rfl rfl rfl ⟨rfl, rfl, rfl, rfl, rfl⟩ rfl rfl rfl rfl rfl (by kernel_rfl) Try.func9 (by kernel_rfl)
    (of_decide_eq_true (by kernel_rfl)) (by unfold Func.isWrapper; first | (rw [if_pos (by decide +kernel)]; kernel_rfl) | (rw [if_neg (by decide +kernel)]; exact ⟨rfl, rfl⟩))
    (fun os started H enc _ => inputss_lifted os started H enc)
end Go.Proofs.Ytpnhnldneecpnaa
