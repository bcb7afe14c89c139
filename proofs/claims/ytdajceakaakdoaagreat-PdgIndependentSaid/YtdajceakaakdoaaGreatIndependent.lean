/- For every program, two inputs and node: two runs whose inputs differ only where an output does not depend on them give this output equally often and with the same values, as PdgIndependent asks it. It is true at every input and leaves its arguments as they were. No condition. -/
import Derived.Test.YtdajceakaakdoaaGreatRows
import Derived.Test.YtdajceakaakdoaaGreatJ50
import Derived.Test.YtdajceakaakdoaaGreatJ22
set_option linter.unnecessarySimpa false
set_option maxRecDepth 100000
set_option maxHeartbeats 2000000
namespace Go.Proofs.YtdajceakaakdoaaGreat
open Go Go.Hl Go.RowKit Go.ChangeShapes Go.Proofs.YtdajceakaakdoaaGreat
--@ YtxIndependent

theorem independent_all : ∀ dss, X24 Tryz.prog Tryz.f6.params.toList dss → Con Tryz.prog 6 true (X2j Tryz.prog Tryz.f6.params.toList dss) (Hl.lit (.bool true)) none 0 := by
  intro dss h
  rw [Tryz.params6] at *
  match dss, h with
  | [ds0, ds1, ds2], ⟨⟨k0, h0⟩, ⟨k1, h1⟩, ⟨k2, h2⟩, _⟩ =>
    obtain ⟨f, rfl⟩ := dec_F h0
    obtain ⟨i, j, rfl⟩ := Xch h1
    obtain ⟨a, rfl, ha⟩ := X7m Tryz.underlying5 h2
    have ha2 : 0 ≤ a ∧ a ≤ 255 := by
      simp only [Lit.wf, Bool.and_eq_true, decide_eq_true_eq] at ha
      exact ha
    obtain ⟨a, rfl⟩ : ∃ n : Nat, a = n := ⟨a.toNat, by omega⟩
    have := XaH f i j a (by omega) 0
    simp only [X2j, X4u aggF, X4u aggI2, tvOf_one (by unfold X5w; rw [Tryz.underlying5] : X5w Tryz.prog 5 = false), Hl.lit]
    exact this

theorem independent_lifted (os : Os) (started : os.Started) (H : Type) (enc : TypeId × Value → H) :
    ReturnsInHanded {} Tryz.checked os 6 .any (Rows.pdgIndependentSpec.pre6 enc Tryz.prog Tryz.f6 [] false) (Rows.pdgIndependentSpec.post enc Tryz.prog Tryz.f6 false true false false) :=
  X6x (C := Tryz.checked) own started (by kernel_rfl) Tryz.func6
    (ChangeSpec.witness6 (enc := enc) (C := Tryz.checked) false ⟨#[], #[.agg #[.slice none 0 0, .slice none 0 0, .slice none 0 0], .agg #[.slice none 0 0, .slice none 0 0, .slice none 0 0, .slice none 0 0, .slice none 0 0, .slice none 0 0], .int .u8 0], []⟩ 8 (by kernel_rfl) (by kernel_rfl) (by kernel_rfl) (by kernel_rfl))
    Xcy tiled (by kernel_rfl) rfl (tb := 4) (by kernel_rfl) Tryz.underlying4
    (fun ds hl => by
      match ds, hl with
      | [d0, d1, d2], _ => exact ⟨rfl, rfl, rfl⟩) independent_all

theorem independent_holds : Rows.PdgIndependentSaid :=
  OpenClaim.holds_of_wide 6 Tryz.f6 rfl rfl rfl rfl rfl rfl rfl ⟨rfl, rfl, rfl, rfl, rfl⟩ rfl rfl rfl rfl rfl (by kernel_rfl) Tryz.func6 (by kernel_rfl)
    (of_decide_eq_true (by kernel_rfl)) (by unfold Func.isWrapper; first | (rw [if_pos (by decide +kernel)]; kernel_rfl) | (rw [if_neg (by decide +kernel)]; exact ⟨rfl, rfl⟩))
    (fun os started H enc _ => independent_lifted os started H enc)
#print axioms independent_holds
end Go.Proofs.YtdajceakaakdoaaGreat

