/- For every program, policy and observer: a higher observer sees no more faults, what is accepted stays accepted, and the highest observer sees none, as0 FlowtypeRaised asks it; the statement is true at every input and leaves its arguments as0 they were. No condition. -/
import Derived.Test.YtfjidddhehckoaaGreatT15
import Derived.Test.YtfjidddhehckoaaGreatT14
import Derived.Test.YtfjidddhehckoaaGreatRows
set_option linter.unusedSimpArgs false
set_option linter.unusedVariables false
set_option linter.unnecessarySimpa false
set_option maxRecDepth 100000
set_option maxHeartbeats 2000000
namespace Go.Proofs.YtfjidddhehckoaaGreat
open Go Go.Hl Go.RowKit Go.ChangeShapes Go.Proofs.YtfjidddhehckoaaGreat

theorem raised_all : ∀ dss, ShapeAll Tryz.prog Tryz.f4.params.toList dss → Con Tryz.prog 4 true (tvsOf Tryz.prog Tryz.f4.params.toList dss) (Hl.lit (.bool true)) none 0 := by
  intro dss h
  rw [Tryz.params4] at *
  match dss, h with
  | [ds0, ds1, ds2], ⟨⟨k0, h0⟩, ⟨k1, h1⟩, ⟨k2, h2⟩, _⟩ =>
    obtain ⟨f, rfl⟩ := dec_F h0
    obtain ⟨p, rfl⟩ := dec_P h1
    obtain ⟨o, rfl⟩ := dec_i Tryz.underlying3 h2
    have := raised_law f p o 0
    simpa only [tvsOf, tvOf_agg aggF, tvOf_agg aggP, tvOf_one (by unfold aggT; rw [Tryz.underlying3] : aggT Tryz.prog 3 = false), Hl.lit, lb, bC] using this

theorem raised_lifted (os : Os) (started : os.Started) (H : Type) (enc : TypeId × Value → H) :
    ReturnsInHanded {} Tryz.checked os 4 .any (Rows.flowtypeRaisedSpec.pre6 enc Tryz.prog Tryz.f4 [] false) (Rows.flowtypeRaisedSpec.post enc Tryz.prog Tryz.f4 false true false false) :=
  law_lifted (C := Tryz.checked) own started (by kernel_rfl) Tryz.func4
    (ChangeSpec.witness6 (enc := enc) (C := Tryz.checked) false ⟨#[], #[.agg #[.slice none 0 0, .slice none 0 0, .slice none 0 0], .agg #[.slice none 0 0, .slice none 0 0, .slice none 0 0, .slice none 0 0, .int .i64 0, .bool false], .int .i64 0], []⟩ 8 (by kernel_rfl) (by kernel_rfl) (by kernel_rfl) (by kernel_rfl))
    laidOut tiled (by kernel_rfl) rfl (tb := 4) (by kernel_rfl) Tryz.underlying4
    (fun ds hl => by
      match ds, hl with
      | [d0, d1, d2], _ => exact ⟨rfl, rfl, rfl⟩) raised_all

theorem raised_holds : Rows.FlowtypeRaisedSaid :=
  OpenClaim.holds_of_wide 4 Tryz.f4 rfl rfl rfl rfl rfl rfl rfl ⟨rfl, rfl, rfl, rfl, rfl⟩ rfl rfl rfl rfl rfl (by kernel_rfl) Tryz.func4 (by kernel_rfl)
    (of_decide_eq_true (by kernel_rfl)) (by unfold Func.isWrapper; first | (rw [if_pos (by decide +kernel)]; kernel_rfl) | (rw [if_neg (by decide +kernel)]; exact ⟨rfl, rfl⟩))
    (fun os started H enc _ => raised_lifted os started H enc)
#print axioms raised_holds
end Go.Proofs.YtfjidddhehckoaaGreat

