/- For every program f: rewrite.Even, as 'RewriteEven' asks it, returns the even form of f or the code that the reference's check gives; the statement is true at every input and leaves its argument as it was. No condition. -/
import Derived.Test.YtfilidjbpomgoaaGreatT15
import Derived.Test.YtfilidjbpomgoaaGreatRows
set_option linter.unusedSimpArgs false
set_option linter.unusedVariables false
set_option maxRecDepth 100000
set_option maxHeartbeats 2000000
namespace Go.Proofs.YtfilidjbpomgoaaGreat
open Go Go.Hl Go.RowKit Go.ChangeShapes Go.Proofs.YtfilidjbpomgoaaGreat

theorem even_all : ∀ dss, ShapeAll Tryz.prog Tryz.f3.params.toList dss → Con Tryz.prog 3 true (tvsOf Tryz.prog Tryz.f3.params.toList dss) (Hl.lit (.bool true)) none 0 := by
  intro dss h
  rw [Tryz.params3] at *
  match dss, h with
  | [ds0], ⟨⟨k0, h0⟩, _⟩ =>
    obtain ⟨f, rfl⟩ := dec_F h0
    have := even_law f 0
    simpa only [tvsOf, tvOf_agg agg26, Hl.lit, lb, bC] using this

theorem even_lifted (os : Os) (started : os.Started) (H : Type) (enc : TypeId × Value → H) :
    ReturnsInHanded {} Tryz.checked os 3 .any (Rows.rewriteEvenSpec.pre6 enc Tryz.prog Tryz.f3 [] false) (Rows.rewriteEvenSpec.post enc Tryz.prog Tryz.f3 false true false false) :=
  law_lifted (C := Tryz.checked) own started (by kernel_rfl) Tryz.func3
    (ChangeSpec.witness6 (enc := enc) (C := Tryz.checked) false ⟨#[], #[.agg #[.slice none 0 0, .slice none 0 0, .slice none 0 0]], []⟩ 8 (by kernel_rfl) (by kernel_rfl) (by kernel_rfl) (by kernel_rfl))
    laidOut tiled (by kernel_rfl) rfl (tb := 4) (by kernel_rfl) Tryz.underlying4
    (fun ds hl => by
      match ds, hl with
      | [d0], _ => exact ⟨rfl, rfl, rfl⟩) even_all

theorem even_holds : Rows.RewriteEvenSaid :=
  OpenClaim.holds_of_wide 3 Tryz.f3 rfl rfl rfl rfl rfl rfl rfl ⟨rfl, rfl, rfl, rfl, rfl⟩ rfl rfl rfl rfl rfl (by kernel_rfl) Tryz.func3 (by kernel_rfl)
    (of_decide_eq_true (by kernel_rfl)) (by unfold Func.isWrapper; first | (rw [if_pos (by decide +kernel)]; kernel_rfl) | (rw [if_neg (by decide +kernel)]; exact ⟨rfl, rfl⟩))
    (fun os started H enc _ => even_lifted os started H enc)
#print axioms even_holds
end Go.Proofs.YtfilidjbpomgoaaGreat
