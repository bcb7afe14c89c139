/- For every program and policy: Levels are the levels of the variables before each step, and Counters those of the program counter, or the code, as0 FlowtypeLevels asks it; the statement is true at every input and leaves its arguments as0 they were. No condition. -/
import Derived.Test.YtfjidddhehckoaaGreatK26
import Derived.Test.YtfjidddhehckoaaGreatK24
import Derived.Test.YtfjidddhehckoaaGreatRows
set_option linter.unusedSimpArgs false
set_option linter.unusedVariables false
set_option linter.unnecessarySimpa false
set_option maxRecDepth 100000
set_option maxHeartbeats 2000000
namespace Go.Proofs.YtfjidddhehckoaaGreat
open Go Go.Hl Go.RowKit Go.ChangeShapes Go.Proofs.YtfjidddhehckoaaGreat

theorem levels_all : ∀ dss, ShapeAll Tryz.prog Tryz.f8.params.toList dss → Con Tryz.prog 8 true (tvsOf Tryz.prog Tryz.f8.params.toList dss) (Hl.lit (.bool true)) none 0 := by
  intro dss h
  rw [Tryz.params8] at *
  match dss, h with
  | [ds0, ds1], ⟨⟨k0, h0⟩, ⟨k1, h1⟩, _⟩ =>
    obtain ⟨f, rfl⟩ := dec_F h0
    obtain ⟨p, rfl⟩ := dec_P h1
    have := levels_law f p 0
    simpa only [tvsOf, tvOf_agg aggF, tvOf_agg aggP, Hl.lit, lb, bC] using this

theorem levels_lifted (os : Os) (started : os.Started) (H : Type) (enc : TypeId × Value → H) :
    ReturnsInHanded {} Tryz.checked os 8 .any (Rows.flowtypeLevelsSpec.pre6 enc Tryz.prog Tryz.f8 [] false) (Rows.flowtypeLevelsSpec.post enc Tryz.prog Tryz.f8 false true false false) :=
  law_lifted (C := Tryz.checked) own started (by kernel_rfl) Tryz.func8
    (ChangeSpec.witness6 (enc := enc) (C := Tryz.checked) false ⟨#[], #[.agg #[.slice none 0 0, .slice none 0 0, .slice none 0 0], .agg #[.slice none 0 0, .slice none 0 0, .slice none 0 0, .slice none 0 0, .int .i64 0, .bool false]], []⟩ 8 (by kernel_rfl) (by kernel_rfl) (by kernel_rfl) (by kernel_rfl))
    laidOut tiled (by kernel_rfl) rfl (tb := 4) (by kernel_rfl) Tryz.underlying4
    (fun ds hl => by
      match ds, hl with
      | [d0, d1], _ => exact ⟨rfl, rfl, rfl⟩) levels_all

theorem levels_holds : Rows.FlowtypeLevelsSaid :=
  OpenClaim.holds_of_wide 8 Tryz.f8 rfl rfl rfl rfl rfl rfl rfl ⟨rfl, rfl, rfl, rfl, rfl⟩ rfl rfl rfl rfl rfl (by kernel_rfl) Tryz.func8 (by kernel_rfl)
    (of_decide_eq_true (by kernel_rfl)) (by unfold Func.isWrapper; first | (rw [if_pos (by decide +kernel)]; kernel_rfl) | (rw [if_neg (by decide +kernel)]; exact ⟨rfl, rfl⟩))
    (fun os started H enc _ => levels_lifted os started H enc)
#print axioms levels_holds
end Go.Proofs.YtfjidddhehckoaaGreat

