/- For every program and two numbers: backward and forward slices are dual, as0 SliceDual asks it; the statement is true at every input and leaves its arguments as0 they were. No condition. -/
import Derived.Test.YtppjennamodfdaaGreatK13
import Derived.Test.YtppjennamodfdaaGreatK12
import Derived.Test.YtppjennamodfdaaGreatRows
set_option linter.unusedSimpArgs false
set_option linter.unusedVariables false
set_option linter.unnecessarySimpa false
set_option maxRecDepth 100000
set_option maxHeartbeats 2000000
namespace Go.Proofs.YtppjennamodfdaaGreat
open Go Go.Hl Go.RowKit Go.ChangeShapes Go.Proofs.YtppjennamodfdaaGreat

theorem dual_all : ∀ dss, ShapeAll Tryz.prog Tryz.f5.params.toList dss → Con Tryz.prog 5 true (tvsOf Tryz.prog Tryz.f5.params.toList dss) (Hl.lit (.bool true)) none 0 := by
  intro dss h
  rw [Tryz.params5] at *
  match dss, h with
  | [ds0, ds1, ds2], ⟨⟨k0, h0⟩, ⟨k1, h1⟩, ⟨k2, h2⟩, _⟩ =>
    obtain ⟨f, rfl⟩ := dec_F h0
    obtain ⟨a, rfl, ha⟩ := shape_int Tryz.underlying5 h1
    obtain ⟨b, rfl, hb⟩ := shape_int Tryz.underlying5 h2
    have ha2 : 0 ≤ a ∧ a ≤ 255 := by
      simp only [Lit.wf, Bool.and_eq_true, decide_eq_true_eq] at ha
      exact ha
    have hb2 : 0 ≤ b ∧ b ≤ 255 := by
      simp only [Lit.wf, Bool.and_eq_true, decide_eq_true_eq] at hb
      exact hb
    obtain ⟨a, rfl⟩ : ∃ n : Nat, a = n := ⟨a.toNat, by omega⟩
    obtain ⟨b, rfl⟩ : ∃ n : Nat, b = n := ⟨b.toNat, by omega⟩
    have := dual_law f a b (by omega) (by omega) 0
    simpa only [tvsOf, tvOf_agg aggF, tvOf_one (by unfold aggT; rw [Tryz.underlying5] : aggT Tryz.prog 5 = false), Hl.lit, lb, bC] using this

theorem dual_lifted (os : Os) (started : os.Started) (H : Type) (enc : TypeId × Value → H) :
    ReturnsInHanded {} Tryz.checked os 5 .any (Rows.sliceDualSpec.pre6 enc Tryz.prog Tryz.f5 [] false) (Rows.sliceDualSpec.post enc Tryz.prog Tryz.f5 false true false false) :=
  law_lifted (C := Tryz.checked) own started (by kernel_rfl) Tryz.func5
    (ChangeSpec.witness6 (enc := enc) (C := Tryz.checked) false ⟨#[], #[.agg #[.slice none 0 0, .slice none 0 0, .slice none 0 0], .int .u8 0, .int .u8 0], []⟩ 8 (by kernel_rfl) (by kernel_rfl) (by kernel_rfl) (by kernel_rfl))
    laidOut tiled (by kernel_rfl) rfl (tb := 4) (by kernel_rfl) Tryz.underlying4
    (fun ds hl => by
      match ds, hl with
      | [d0, d1, d2], _ => exact ⟨rfl, rfl, rfl⟩) dual_all

theorem dual_holds : Rows.SliceDualSaid :=
  OpenClaim.holds_of_wide 5 Tryz.f5 rfl rfl rfl rfl rfl rfl rfl ⟨rfl, rfl, rfl, rfl, rfl⟩ rfl rfl rfl rfl rfl (by kernel_rfl) Tryz.func5 (by kernel_rfl)
    (of_decide_eq_true (by kernel_rfl)) (by unfold Func.isWrapper; first | (rw [if_pos (by decide +kernel)]; kernel_rfl) | (rw [if_neg (by decide +kernel)]; exact ⟨rfl, rfl⟩))
    (fun os started H enc _ => dual_lifted os started H enc)
#print axioms dual_holds
end Go.Proofs.YtppjennamodfdaaGreat

