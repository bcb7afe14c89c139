/- For every list of steps: flowtype.Even, as0 FlowtypeEven asks it, reports whether the steps have constant time; the statement is true at every input and leaves its argument as0 it was. No condition. -/
import Derived.Test.YtfjidddhehckoaaT13
import Derived.Test.YtfjidddhehckoaaRows
set_option linter.unusedSimpArgs false
set_option linter.unusedVariables false
set_option linter.unnecessarySimpa false
set_option maxRecDepth 100000
set_option maxHeartbeats 2000000
namespace Go.Proofs.Ytfjidddhehckoaa
open Go Go.Hl Go.RowKit Go.ChangeShapes Go.Proofs.Ytfjidddhehckoaa

theorem even_all : ∀ dss, ShapeAll Try.prog Try.f3.params.toList dss → Con Try.prog 3 true (tvsOf Try.prog Try.f3.params.toList dss) (Hl.lit (.bool true)) none 0 := by
  intro dss h
  rw [Try.params3] at *
  match dss, h with
  | [ds0], ⟨⟨k0, h0⟩, _⟩ =>
    obtain ⟨l, rfl⟩ := dec_Ss h0
    have := even_law l 0
    simpa only [tvsOf, tvOf_one (by unfold aggT; rw [Try.underlying22] : aggT Try.prog 22 = false), Hl.lit, lb, bC] using this

theorem even_lifted (os : Os) (started : os.Started) (H : Type) (enc : TypeId × Value → H) :
    ReturnsInHanded {} Try.checked os 3 .any (Rows.flowtypeEvenSpec.pre6 enc Try.prog Try.f3 [] false) (Rows.flowtypeEvenSpec.post enc Try.prog Try.f3 false true false false) :=
  law_lifted (C := Try.checked) own started (by kernel_rfl) Try.func3
    (ChangeSpec.witness6 (enc := enc) (C := Try.checked) false ⟨#[], #[.slice none 0 0], []⟩ 8 (by kernel_rfl) (by kernel_rfl) (by kernel_rfl) (by kernel_rfl))
    laidOut tiled (by kernel_rfl) rfl (tb := 4) (by kernel_rfl) Try.underlying4
    (fun ds hl => by
      match ds, hl with
      | [d0], _ => exact ⟨rfl, rfl, rfl⟩) even_all

theorem even_holds : Rows.FlowtypeEvenSaid :=
  OpenClaim.holds_of_wide 3 Try.f3 rfl rfl rfl rfl rfl rfl rfl ⟨rfl, rfl, rfl, rfl, rfl⟩ rfl rfl rfl rfl rfl (by kernel_rfl) Try.func3 (by kernel_rfl)
    (of_decide_eq_true (by kernel_rfl)) (by unfold Func.isWrapper; first | (rw [if_pos (by decide +kernel)]; kernel_rfl) | (rw [if_neg (by decide +kernel)]; exact ⟨rfl, rfl⟩))
    (fun os started H enc _ => even_lifted os started H enc)
#print axioms even_holds
end Go.Proofs.Ytfjidddhehckoaa

