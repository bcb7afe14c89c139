/- For every program and node: the sources of a node are the inputs on which it depends, as0 PdgInputs asks it. It is true at every input and leaves its arguments as0 they were. No condition. -/
import Derived.Test.YtdajceakaakdoaaGreatI11
import Derived.Test.YtdajceakaakdoaaGreatRows
set_option linter.unusedSimpArgs false
set_option linter.unusedVariables false
set_option linter.unnecessarySimpa false
set_option maxRecDepth 100000
set_option maxHeartbeats 2000000
namespace Go.Proofs.YtdajceakaakdoaaGreat
open Go Go.Hl Go.RowKit Go.ChangeShapes Go.Proofs.YtdajceakaakdoaaGreat

theorem inputs_all : ∀ dss, X38 Tryz.prog Tryz.f10.params.toList dss → Con Tryz.prog 10 true (X3w Tryz.prog Tryz.f10.params.toList dss) (Hl.lit (.bool true)) none 0 := by
  intro dss h
  rw [Tryz.params10] at *
  match dss, h with
  | [ds0, ds1], ⟨⟨k0, h0⟩, ⟨k1, h1⟩, _⟩ =>
    obtain ⟨f, rfl⟩ := dec_F h0
    obtain ⟨a, rfl, ha⟩ := X6F Tryz.underlying5 h1
    have ha2 : 0 ≤ a ∧ a ≤ 255 := by
      simp only [Lit.wf, Bool.and_eq_true, decide_eq_true_eq] at ha
      exact ha
    obtain ⟨a, rfl⟩ : ∃ n : Nat, a = n := ⟨a.toNat, by omega⟩
    have := X7i f a (by omega) 0
    simpa only [X3w, tvOf_agg aggF, tvOf_one (by unfold aggT; rw [Tryz.underlying5] : aggT Tryz.prog 5 = false), Hl.lit, lb, bC] using this

theorem inputs_lifted (os : Os) (started : os.Started) (H : Type) (enc : TypeId × Value → H) :
    ReturnsInHanded {} Tryz.checked os 10 .any (Rows.pdgInputsSpec.pre6 enc Tryz.prog Tryz.f10 [] false) (Rows.pdgInputsSpec.post enc Tryz.prog Tryz.f10 false true false false) :=
  X9X (C := Tryz.checked) own started (by kernel_rfl) Tryz.func10
    (ChangeSpec.witness6 (enc := enc) (C := Tryz.checked) false ⟨#[], #[.agg #[.slice none 0 0, .slice none 0 0, .slice none 0 0], .int .u8 0], []⟩ 8 (by kernel_rfl) (by kernel_rfl) (by kernel_rfl) (by kernel_rfl))
    laidOut tiled (by kernel_rfl) rfl (tb := 4) (by kernel_rfl) Tryz.underlying4
    (fun ds hl => by
      match ds, hl with
      | [d0, d1], _ => exact ⟨rfl, rfl, rfl⟩) inputs_all

theorem inputs_holds : Rows.PdgInputsSaid :=
  OpenClaim.holds_of_wide 10 Tryz.f10 rfl rfl rfl rfl rfl rfl rfl ⟨rfl, rfl, rfl, rfl, rfl⟩ rfl rfl rfl rfl rfl (by kernel_rfl) Tryz.func10 (by kernel_rfl)
    (of_decide_eq_true (by kernel_rfl)) (by unfold Func.isWrapper; first | (rw [if_pos (by decide +kernel)]; kernel_rfl) | (rw [if_neg (by decide +kernel)]; exact ⟨rfl, rfl⟩))
    (fun os started H enc _ => inputs_lifted os started H enc)
#print axioms inputs_holds
end Go.Proofs.YtdajceakaakdoaaGreat

