/- For every program and two inputs: two runs whose inputs differ only where the time does not depend on them take the same time, as PdgTimes asks it. It is true at every input and leaves its arguments as they were. No condition. -/
import Derived.Test.YtdajceakaakdoaaGreatRows
import Derived.Test.YtdajceakaakdoaaGreatJ51
import Derived.Test.YtdajceakaakdoaaGreatJ22
set_option linter.unnecessarySimpa false
set_option maxRecDepth 100000
set_option maxHeartbeats 2000000
namespace Go.Proofs.YtdajceakaakdoaaGreat
open Go Go.Hl Go.RowKit Go.ChangeShapes Go.Proofs.YtdajceakaakdoaaGreat
--@ YtxTimes

theorem times_all : ∀ dss, X24 Tryz.prog Tryz.f7.params.toList dss → Con Tryz.prog 7 true (X2j Tryz.prog Tryz.f7.params.toList dss) (Hl.lit (.bool true)) none 0 := by
  intro dss h
  rw [Tryz.params7] at *
  match dss, h with
  | [ds0, ds1], ⟨⟨k0, h0⟩, ⟨k1, h1⟩, _⟩ =>
    obtain ⟨f, rfl⟩ := dec_F h0
    obtain ⟨i, j, rfl⟩ := Xch h1
    have := XaK f i j 0
    simp only [X2j, X4u aggF, X4u aggI2, Hl.lit]
    exact this

theorem times_lifted (os : Os) (started : os.Started) (H : Type) (enc : TypeId × Value → H) :
    ReturnsInHanded {} Tryz.checked os 7 .any (Rows.pdgTimesSpec.pre6 enc Tryz.prog Tryz.f7 [] false) (Rows.pdgTimesSpec.post enc Tryz.prog Tryz.f7 false true false false) :=
  X6x (C := Tryz.checked) own started (by kernel_rfl) Tryz.func7
    (ChangeSpec.witness6 (enc := enc) (C := Tryz.checked) false ⟨#[], #[.agg #[.slice none 0 0, .slice none 0 0, .slice none 0 0], .agg #[.slice none 0 0, .slice none 0 0, .slice none 0 0, .slice none 0 0, .slice none 0 0, .slice none 0 0]], []⟩ 8 (by kernel_rfl) (by kernel_rfl) (by kernel_rfl) (by kernel_rfl))
    Xcy tiled (by kernel_rfl) rfl (tb := 4) (by kernel_rfl) Tryz.underlying4
    (fun ds hl => by
      match ds, hl with
      | [d0, d1], _ => exact ⟨rfl, rfl, rfl⟩) times_all

theorem times_holds : Rows.PdgTimesSaid :=
  OpenClaim.holds_of_wide 7 Tryz.f7 rfl rfl rfl rfl rfl rfl rfl ⟨rfl, rfl, rfl, rfl, rfl⟩ rfl rfl rfl rfl rfl (by kernel_rfl) Tryz.func7 (by kernel_rfl)
    (of_decide_eq_true (by kernel_rfl)) (by unfold Func.isWrapper; first | (rw [if_pos (by decide +kernel)]; kernel_rfl) | (rw [if_neg (by decide +kernel)]; exact ⟨rfl, rfl⟩))
    (fun os started H enc _ => times_lifted os started H enc)
#print axioms times_holds
end Go.Proofs.YtdajceakaakdoaaGreat

