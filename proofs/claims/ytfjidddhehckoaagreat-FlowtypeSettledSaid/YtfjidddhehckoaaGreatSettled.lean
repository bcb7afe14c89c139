/- For every program, policy and number: with a final Settle whose first bound no run exceeds, the level of the time is the lowest one, faults and final levels stay, as0 FlowtypeSettled asks it; the statement is true at every input and leaves its arguments as0 they were. No condition. -/
import Derived.Test.YtfjidddhehckoaaGreatT17
import Derived.Test.YtfjidddhehckoaaGreatT14
import Derived.Test.YtfjidddhehckoaaGreatRows
set_option linter.unusedSimpArgs false
set_option linter.unusedVariables false
set_option linter.unnecessarySimpa false
set_option maxRecDepth 100000
set_option maxHeartbeats 2000000
namespace Go.Proofs.YtfjidddhehckoaaGreat
open Go Go.Hl Go.RowKit Go.ChangeShapes Go.Proofs.YtfjidddhehckoaaGreat

theorem settled_all : ∀ dss, ShapeAll Tryz.prog Tryz.f5.params.toList dss → Con Tryz.prog 5 true (tvsOf Tryz.prog Tryz.f5.params.toList dss) (Hl.lit (.bool true)) none 0 := by
  intro dss h
  rw [Tryz.params5] at *
  match dss, h with
  | [ds0, ds1, ds2], ⟨⟨k0, h0⟩, ⟨k1, h1⟩, ⟨k2, h2⟩, _⟩ =>
    obtain ⟨f, rfl⟩ := dec_F h0
    obtain ⟨p, rfl⟩ := dec_P h1
    obtain ⟨o, rfl, hw⟩ := shape_int Tryz.underlying5 h2
    have hw2 : 0 ≤ o ∧ o ≤ 255 := by
      simp only [Lit.wf, Bool.and_eq_true, decide_eq_true_eq] at hw
      exact hw
    have := settled_law f p o hw2 0
    simpa only [tvsOf, tvOf_agg aggF, tvOf_agg aggP, tvOf_one (by unfold aggT; rw [Tryz.underlying5] : aggT Tryz.prog 5 = false), Hl.lit, lb, bC] using this

theorem settled_lifted (os : Os) (started : os.Started) (H : Type) (enc : TypeId × Value → H) :
    ReturnsInHanded {} Tryz.checked os 5 .any (Rows.flowtypeSettledSpec.pre6 enc Tryz.prog Tryz.f5 [] false) (Rows.flowtypeSettledSpec.post enc Tryz.prog Tryz.f5 false true false false) :=
  law_lifted (C := Tryz.checked) own started (by kernel_rfl) Tryz.func5
    (ChangeSpec.witness6 (enc := enc) (C := Tryz.checked) false ⟨#[], #[.agg #[.slice none 0 0, .slice none 0 0, .slice none 0 0], .agg #[.slice none 0 0, .slice none 0 0, .slice none 0 0, .slice none 0 0, .int .i64 0, .bool false], .int .u8 0], []⟩ 8 (by kernel_rfl) (by kernel_rfl) (by kernel_rfl) (by kernel_rfl))
    laidOut tiled (by kernel_rfl) rfl (tb := 4) (by kernel_rfl) Tryz.underlying4
    (fun ds hl => by
      match ds, hl with
      | [d0, d1, d2], _ => exact ⟨rfl, rfl, rfl⟩) settled_all

theorem settled_holds : Rows.FlowtypeSettledSaid :=
  OpenClaim.holds_of_wide 5 Tryz.f5 rfl rfl rfl rfl rfl rfl rfl ⟨rfl, rfl, rfl, rfl, rfl⟩ rfl rfl rfl rfl rfl (by kernel_rfl) Tryz.func5 (by kernel_rfl)
    (of_decide_eq_true (by kernel_rfl)) (by unfold Func.isWrapper; first | (rw [if_pos (by decide +kernel)]; kernel_rfl) | (rw [if_neg (by decide +kernel)]; exact ⟨rfl, rfl⟩))
    (fun os started H enc _ => settled_lifted os started H enc)
#print axioms settled_holds
end Go.Proofs.YtfjidddhehckoaaGreat

