/- For every dependence graph and list of nodes: Back and Forth answer as0 PdgWalks asks it. It is true at every input and leaves its arguments as0 they were. No condition. -/
import Derived.Test.YtdajceakaakdoaaGreatK11
import Derived.Test.YtdajceakaakdoaaGreatK10
import Derived.Test.YtdajceakaakdoaaGreatRows
set_option linter.unusedSimpArgs false
set_option linter.unusedVariables false
set_option linter.unnecessarySimpa false
set_option maxRecDepth 100000
set_option maxHeartbeats 2000000
namespace Go.Proofs.YtdajceakaakdoaaGreat
open Go Go.Hl Go.RowKit Go.ChangeShapes Go.Proofs.YtdajceakaakdoaaGreat

theorem walks_all : ∀ dss, X0w Tryz.prog Tryz.f8.params.toList dss → Con Tryz.prog 8 true (X0o Tryz.prog Tryz.f8.params.toList dss) (Hl.lit (.bool true)) none 0 := by
  intro dss h
  rw [Tryz.params8] at *
  match dss, h with
  | [ds0, ds1], ⟨⟨k0, h0⟩, ⟨k1, h1⟩, _⟩ =>
    obtain ⟨ns, nv, E, rfl⟩ := X9f h0
    obtain ⟨l1, rfl⟩ := dec_I h1
    have := X7g ns nv E l1 0
    simpa only [X0o, X5n aggPd, X7y (by unfold X47; rw [Tryz.underlying29] : X47 Tryz.prog 29 = false), aPd, lI, Hl.lit, lb, li, bC, iC, List.map_cons, List.map_nil] using this

theorem walks_lifted (os : Os) (started : os.Started) (H : Type) (enc : TypeId × Value → H) :
    ReturnsInHanded {} Tryz.checked os 8 .any (Rows.pdgWalksSpec.pre6 enc Tryz.prog Tryz.f8 [] false) (Rows.pdgWalksSpec.post enc Tryz.prog Tryz.f8 false true false false) :=
  X2e (C := Tryz.checked) own started (by kernel_rfl) Tryz.func8
    (ChangeSpec.witness6 (enc := enc) (C := Tryz.checked) false ⟨#[], #[.agg #[.int .i64 0, .int .i64 0, .slice none 0 0], .slice none 0 0], []⟩ 8 (by kernel_rfl) (by kernel_rfl) (by kernel_rfl) (by kernel_rfl))
    X73 tiled (by kernel_rfl) rfl (tb := 4) (by kernel_rfl) Tryz.underlying4
    (fun ds hl => by
      match ds, hl with
      | [d0, d1], _ => exact ⟨rfl, rfl, rfl⟩) walks_all

theorem walks_holds : Rows.PdgWalksSaid :=
  OpenClaim.holds_of_wide 8 Tryz.f8 rfl rfl rfl rfl rfl rfl rfl ⟨rfl, rfl, rfl, rfl, rfl⟩ rfl rfl rfl rfl rfl (by kernel_rfl) Tryz.func8 (by kernel_rfl)
    (of_decide_eq_true (by kernel_rfl)) (by unfold Func.isWrapper; first | (rw [if_pos (by decide +kernel)]; kernel_rfl) | (rw [if_neg (by decide +kernel)]; exact ⟨rfl, rfl⟩))
    (fun os started H enc _ => walks_lifted os started H enc)
#print axioms walks_holds
end Go.Proofs.YtdajceakaakdoaaGreat

