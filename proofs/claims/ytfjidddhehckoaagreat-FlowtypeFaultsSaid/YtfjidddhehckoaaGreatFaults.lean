/- For every program and policy: the faults are exactly the outputs whose term or program counter has a level that is not below the observer's, as0 FlowtypeFaults asks it; the statement is true at every input and leaves its arguments as0 they were. No condition. -/
import Derived.Test.YtfjidddhehckoaaGreatT16
import Derived.Test.YtfjidddhehckoaaGreatT14
import Derived.Test.YtfjidddhehckoaaGreatRows
set_option linter.unusedSimpArgs false
set_option linter.unusedVariables false
set_option linter.unnecessarySimpa false
set_option maxRecDepth 100000
set_option maxHeartbeats 2000000
namespace Go.Proofs.YtfjidddhehckoaaGreat
open Go Go.Hl Go.RowKit Go.ChangeShapes Go.Proofs.YtfjidddhehckoaaGreat

theorem faults_all : ∀ dss, ShapeAll Tryz.prog Tryz.f6.params.toList dss → Con Tryz.prog 6 true (tvsOf Tryz.prog Tryz.f6.params.toList dss) (Hl.lit (.bool true)) none 0 := by
  intro dss h
  rw [Tryz.params6] at *
  match dss, h with
  | [ds0, ds1], ⟨⟨k0, h0⟩, ⟨k1, h1⟩, _⟩ =>
    obtain ⟨f, rfl⟩ := dec_F h0
    obtain ⟨p, rfl⟩ := dec_P h1
    have := faults_law f p 0
    simpa only [tvsOf, tvOf_agg aggF, tvOf_agg aggP, Hl.lit, lb, bC] using this

theorem faults_lifted (os : Os) (started : os.Started) (H : Type) (enc : TypeId × Value → H) :
    ReturnsInHanded {} Tryz.checked os 6 .any (Rows.flowtypeFaultsSpec.pre6 enc Tryz.prog Tryz.f6 [] false) (Rows.flowtypeFaultsSpec.post enc Tryz.prog Tryz.f6 false true false false) :=
  law_lifted (C := Tryz.checked) own started (by kernel_rfl) Tryz.func6
    (ChangeSpec.witness6 (enc := enc) (C := Tryz.checked) false ⟨#[], #[.agg #[.slice none 0 0, .slice none 0 0, .slice none 0 0], .agg #[.slice none 0 0, .slice none 0 0, .slice none 0 0, .slice none 0 0, .int .i64 0, .bool false]], []⟩ 8 (by kernel_rfl) (by kernel_rfl) (by kernel_rfl) (by kernel_rfl))
    laidOut tiled (by kernel_rfl) rfl (tb := 4) (by kernel_rfl) Tryz.underlying4
    (fun ds hl => by
      match ds, hl with
      | [d0, d1], _ => exact ⟨rfl, rfl, rfl⟩) faults_all

theorem faults_holds : Rows.FlowtypeFaultsSaid :=
  OpenClaim.holds_of_wide 6 Tryz.f6 rfl rfl rfl rfl rfl rfl rfl ⟨rfl, rfl, rfl, rfl, rfl⟩ rfl rfl rfl rfl rfl (by kernel_rfl) Tryz.func6 (by kernel_rfl)
    (of_decide_eq_true (by kernel_rfl)) (by unfold Func.isWrapper; first | (rw [if_pos (by decide +kernel)]; kernel_rfl) | (rw [if_neg (by decide +kernel)]; exact ⟨rfl, rfl⟩))
    (fun os started H enc _ => faults_lifted os started H enc)
#print axioms faults_holds
end Go.Proofs.YtfjidddhehckoaaGreat

