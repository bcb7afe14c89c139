/- DomainWithin returns true for every input, and its arguments read as they did: Within returns the numbers of the vectors in a box. Conditions: none. -/
import Derived.Test.YtpnhnldneecpnaaT7
import Derived.Test.YtpnhnldneecpnaaT18
import Derived.Test.YtpnhnldneecpnaaRows
set_option linter.unusedSimpArgs false
set_option linter.unusedVariables false
namespace Go.Proofs.Ytpnhnldneecpnaa
open Go Go.Hl Go.RowKit Go.ChangeShapes Go.Proofs.Ytpnhnldneecpnaa

theorem withins_law : ∀ dss, ShapeAll Try.prog Try.f10.params.toList dss → Con Try.prog 10 true (tvsOf Try.prog Try.f10.params.toList dss) (Hl.lit (.bool true)) none 0 := by
  intro dss h
  rw [Try.params10] at *
  match dss, h with
  | [ds0, ds1, ds2], ⟨⟨k0, h0⟩, ⟨k1, h1⟩, ⟨k2, h2⟩, _⟩ =>
    obtain ⟨x0, rfl, hz⟩ := dec_varsB h0
    obtain ⟨x1, rfl⟩ := dec_kind h1
    obtain ⟨x2, y2, rfl⟩ := dec_box h2
    have := withins_con x0 x1 x2 y2 (by simpa only [reachBytes] using hz) 0
    simpa only [tvsOf, tvOf_agg agg47, tvOf_one agg22, tvOf_one agg23, encVs, isC, pr, li, i64, List.map] using this

theorem withins_lifted (os : Os) (started : os.Started) (H : Type) (enc : TypeId × Value → H) :
    ReturnsInHanded {} Try.checked os 10 .any (Rows.domainWithinSpec.pre6 enc Try.prog Try.f10 [] false) (Rows.domainWithinSpec.post enc Try.prog Try.f10 false true false false) :=
  law_lifted (C := Try.checked) own started (by kernel_rfl) Try.func10
    (ChangeSpec.witness6 (enc := enc) (C := Try.checked) false ⟨#[], #[.slice none 0 0, .int .i64 0, .agg #[.slice none 0 0, .slice none 0 0]], []⟩ 8 (by kernel_rfl) (by kernel_rfl) (by kernel_rfl) (by kernel_rfl))
    laidOut tiled (by kernel_rfl) rfl (tb := 4) (by kernel_rfl) Try.underlying4
    (fun ds hl => by
      match ds, hl with
      | [d0, d1, d2], _ => exact ⟨rfl, rfl, rfl⟩) withins_law

theorem withins_holds : Rows.DomainWithinSaid :=
  OpenClaim.holds_of_wide 10 Try.f10 rfl rfl rfl rfl rfl rfl rfl ⟨rfl, rfl, rfl, rfl, rfl⟩ rfl rfl rfl rfl rfl (by kernel_rfl) Try.func10 (by kernel_rfl)
    (of_decide_eq_true (by kernel_rfl)) (by unfold Func.isWrapper; first | (rw [if_pos (by decide +kernel)]; kernel_rfl) | (rw [if_neg (by decide +kernel)]; exact ⟨rfl, rfl⟩))
    (fun os started H enc _ => withins_lifted os started H enc)
end Go.Proofs.Ytpnhnldneecpnaa
