/- DomainSpaces returns true for every input, and its arguments read as they did: Space's answer is the reference's. Conditions: none. -/
import Derived.Test.YtpnhnldneecpnaaT7
set_option linter.unusedSimpArgs false
set_option linter.unusedVariables false
namespace Go.Proofs.Ytpnhnldneecpnaa
open Go Go.Hl Go.RowKit Go.ChangeShapes Go.Proofs.Ytpnhnldneecpnaa

theorem spaces_law : ∀ dss, ShapeAll Try.prog Try.f3.params.toList dss → Con Try.prog 3 true (tvsOf Try.prog Try.f3.params.toList dss) (Hl.lit (.bool true)) none 0 := by
  intro dss h
  rw [Try.params3] at *
  match dss, h with
  | [ds1, ds2], ⟨⟨k1, h1⟩, ⟨k2, h2⟩, _⟩ =>
    obtain ⟨vs, rfl⟩ := dec_vars h1
    obtain ⟨n, rfl⟩ := dec_kind h2
    have := spaces_con vs n 0
    simpa only [tvsOf, tvOf_one agg22, tvOf_one agg23, encVs, li, i64] using this

theorem spaces_lifted (os : Os) (started : os.Started) (H : Type) (enc : TypeId × Value → H) :
    ReturnsInHanded {} Try.checked os 3 .any (Rows.domainSpacesSpec.pre6 enc Try.prog Try.f3 [] false) (Rows.domainSpacesSpec.post enc Try.prog Try.f3 false true false false) :=
  law_lifted (C := Try.checked) own started (by kernel_rfl) Try.func3
    (ChangeSpec.witness6 (enc := enc) (C := Try.checked) false ⟨#[], #[.slice none 0 0, .int .i64 0], []⟩ 8 (by kernel_rfl) (by kernel_rfl) (by kernel_rfl) (by kernel_rfl))
    laidOut tiled (by kernel_rfl) rfl (tb := 4) (by kernel_rfl) Try.underlying4
    (fun ds hl => by
      match ds, hl with
      | [d1, d2], _ => exact ⟨rfl, rfl, rfl⟩) spaces_law

theorem spaces_holds : Rows.DomainSpacesSaid :=
  OpenClaim.holds_of_wide 3 Try.f3 rfl rfl rfl rfl rfl rfl rfl ⟨rfl, rfl, rfl, rfl, rfl⟩ rfl rfl rfl rfl rfl (by kernel_rfl) Try.func3 (by kernel_rfl)
    (of_decide_eq_true (by kernel_rfl)) (by unfold Func.isWrapper; first | (rw [if_pos (by decide +kernel)]; kernel_rfl) | (rw [if_neg (by decide +kernel)]; exact ⟨rfl, rfl⟩))
    (fun os started H enc _ => spaces_lifted os started H enc)
end Go.Proofs.Ytpnhnldneecpnaa
