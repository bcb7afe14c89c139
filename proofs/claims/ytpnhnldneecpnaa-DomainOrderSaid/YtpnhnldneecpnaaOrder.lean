/- DomainOrder returns true for every input, and its arguments read as they did: the lexicographically lesser vector has the lesser number. Conditions: none. -/
import Derived.Test.YtpnhnldneecpnaaT7
import Derived.Test.YtpnhnldneecpnaaT12
import Derived.Test.YtpnhnldneecpnaaRows
set_option linter.unusedSimpArgs false
set_option linter.unusedVariables false
namespace Go.Proofs.Ytpnhnldneecpnaa
open Go Go.Hl Go.RowKit Go.ChangeShapes Go.Proofs.Ytpnhnldneecpnaa

theorem order_law : ∀ dss, ShapeAll Try.prog Try.f6.params.toList dss → Con Try.prog 6 true (tvsOf Try.prog Try.f6.params.toList dss) (Hl.lit (.bool true)) none 0 := by
  intro dss h
  rw [Try.params6] at *
  match dss, h with
  | [ds0, ds1, ds2], ⟨⟨k0, h0⟩, ⟨k1, h1⟩, ⟨k2, h2⟩, _⟩ =>
    obtain ⟨x0, rfl⟩ := dec_vars h0
    obtain ⟨x1, rfl⟩ := dec_kind h1
    obtain ⟨x2, y2, rfl⟩ := dec_pair h2
    have := order_con x0 x1 x2 y2 0
    simpa only [tvsOf, tvOf_agg agg36, tvOf_one agg22, tvOf_one agg23, encVs, encIs, pr, li, i64, List.map] using this

theorem order_lifted (os : Os) (started : os.Started) (H : Type) (enc : TypeId × Value → H) :
    ReturnsInHanded {} Try.checked os 6 .any (Rows.domainOrderSpec.pre6 enc Try.prog Try.f6 [] false) (Rows.domainOrderSpec.post enc Try.prog Try.f6 false true false false) :=
  law_lifted (C := Try.checked) own started (by kernel_rfl) Try.func6
    (ChangeSpec.witness6 (enc := enc) (C := Try.checked) false ⟨#[], #[.slice none 0 0, .int .i64 0, .agg #[.int .i64 0, .int .i64 0]], []⟩ 8 (by kernel_rfl) (by kernel_rfl) (by kernel_rfl) (by kernel_rfl))
    laidOut tiled (by kernel_rfl) rfl (tb := 4) (by kernel_rfl) Try.underlying4
    (fun ds hl => by
      match ds, hl with
      | [d0, d1, d2], _ => exact ⟨rfl, rfl, rfl⟩) order_law

theorem order_holds : Rows.DomainOrderSaid :=
  OpenClaim.holds_of_wide 6 Try.f6 rfl rfl rfl rfl rfl rfl rfl ⟨rfl, rfl, rfl, rfl, rfl⟩ rfl rfl rfl rfl rfl (by kernel_rfl) Try.func6 (by kernel_rfl)
    (of_decide_eq_true (by kernel_rfl)) (by unfold Func.isWrapper; first | (rw [if_pos (by decide +kernel)]; kernel_rfl) | (rw [if_neg (by decide +kernel)]; exact ⟨rfl, rfl⟩))
    (fun os started H enc _ => order_lifted os started H enc)
end Go.Proofs.Ytpnhnldneecpnaa
