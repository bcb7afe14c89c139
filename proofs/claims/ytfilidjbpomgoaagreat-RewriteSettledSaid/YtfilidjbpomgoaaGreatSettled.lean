/- For every program f and every list of bounds: rewrite.Settled, as RewriteSettled asks it, returns f with a final settle or the code of the first reason; its outputs are those of f, and its times the least bounds that are not below those of f; the statement is true at every input and leaves its arguments as they were. No condition. -/
import Derived.Test.YtfilidjbpomgoaaGreatR17
import Derived.Test.YtfilidjbpomgoaaGreatRows
set_option linter.unusedSimpArgs false
set_option linter.unusedVariables false
set_option linter.unnecessarySimpa false
set_option maxRecDepth 100000
set_option maxHeartbeats 2000000
namespace Go.Proofs.YtfilidjbpomgoaaGreat
open Go Go.Hl Go.RowKit Go.ChangeShapes Go.Proofs.YtfilidjbpomgoaaGreat

theorem agg39 : aggT Tryz.prog 39 = false := by unfold aggT; rw [Tryz.underlying39]
theorem settled_all : ∀ dss, ShapeAll Tryz.prog Tryz.f5.params.toList dss → Con Tryz.prog 5 true (tvsOf Tryz.prog Tryz.f5.params.toList dss) (Hl.lit (.bool true)) none 0 := by
  intro dss h
  rw [Tryz.params5] at *
  match dss, h with
  | [ds0, ds1], ⟨⟨k0, h0⟩, ⟨k1, h1⟩, _⟩ =>
    obtain ⟨f, rfl⟩ := dec_F h0
    obtain ⟨bs, rfl⟩ := dec_I h1
    have := settled_law f bs 0
    simpa only [tvsOf, tvOf_agg agg26, tvOf_one agg39, Hl.lit, lb, bC] using this

theorem settled_lifted (os : Os) (started : os.Started) (H : Type) (enc : TypeId × Value → H) :
    ReturnsInHanded {} Tryz.checked os 5 .any (Rows.rewriteSettledSpec.pre6 enc Tryz.prog Tryz.f5 [] false) (Rows.rewriteSettledSpec.post enc Tryz.prog Tryz.f5 false true false false) :=
  law_lifted (C := Tryz.checked) own started (by kernel_rfl) Tryz.func5
    (ChangeSpec.witness6 (enc := enc) (C := Tryz.checked) false ⟨#[], #[.agg #[.slice none 0 0, .slice none 0 0, .slice none 0 0], .slice none 0 0], []⟩ 8 (by kernel_rfl) (by kernel_rfl) (by kernel_rfl) (by kernel_rfl))
    laidOut tiled (by kernel_rfl) rfl (tb := 4) (by kernel_rfl) Tryz.underlying4
    (fun ds hl => by
      match ds, hl with
      | [d0, d1], _ => exact ⟨rfl, rfl, rfl⟩) settled_all

theorem settled_holds : Rows.RewriteSettledSaid :=
  OpenClaim.holds_of_wide 5 Tryz.f5 rfl rfl rfl rfl rfl rfl rfl ⟨rfl, rfl, rfl, rfl, rfl⟩ rfl rfl rfl rfl rfl (by kernel_rfl) Tryz.func5 (by kernel_rfl)
    (of_decide_eq_true (by kernel_rfl)) (by unfold Func.isWrapper; first | (rw [if_pos (by decide +kernel)]; kernel_rfl) | (rw [if_neg (by decide +kernel)]; exact ⟨rfl, rfl⟩))
    (fun os started H enc _ => settled_lifted os started H enc)
#print axioms settled_holds
end Go.Proofs.YtfilidjbpomgoaaGreat
