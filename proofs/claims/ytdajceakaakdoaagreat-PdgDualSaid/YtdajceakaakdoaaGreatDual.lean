/- For every dependence graph and two numbers: Back and Forth are dual, as0 PdgDual asks it. It is true at every input and leaves its arguments as0 they were. No condition. -/
import Derived.Test.YtdajceakaakdoaaGreatK11
import Derived.Test.YtdajceakaakdoaaGreatK10
import Derived.Test.YtdajceakaakdoaaGreatRows
set_option linter.unusedSimpArgs false
set_option linter.unusedVariables false
set_option linter.unnecessarySimpa false
set_option maxRecDepth 100000
set_option maxHeartbeats 2000000
namespace Go.Proofs.YtdajceakaakdoaaGreat
open Go Go.Hl Go.RowKit Go.ChangeShapes Go.Proofs.YtdajceakaakdoaaGreat

theorem dual_all : ∀ dss, X0w Tryz.prog Tryz.f9.params.toList dss → Con Tryz.prog 9 true (X0o Tryz.prog Tryz.f9.params.toList dss) (Hl.lit (.bool true)) none 0 := by
  intro dss h
  rw [Tryz.params9] at *
  match dss, h with
  | [ds0, ds1, ds2], ⟨⟨k0, h0⟩, ⟨k1, h1⟩, ⟨k2, h2⟩, _⟩ =>
    obtain ⟨ns, nv, E, rfl⟩ := X9f h0
    obtain ⟨n1, rfl⟩ := X3V Tryz.underlying3 h1
    obtain ⟨n2, rfl⟩ := X3V Tryz.underlying3 h2
    have := X98 ns nv E n1 n2 0
    simpa only [X0o, X5n aggPd, X7y (by unfold X47; rw [Tryz.underlying3] : X47 Tryz.prog 3 = false), aPd, lI, Hl.lit, lb, li, bC, iC, List.map_cons, List.map_nil] using this

theorem dual_lifted (os : Os) (started : os.Started) (H : Type) (enc : TypeId × Value → H) :
    ReturnsInHanded {} Tryz.checked os 9 .any (Rows.pdgDualSpec.pre6 enc Tryz.prog Tryz.f9 [] false) (Rows.pdgDualSpec.post enc Tryz.prog Tryz.f9 false true false false) :=
  X2e (C := Tryz.checked) own started (by kernel_rfl) Tryz.func9
    (ChangeSpec.witness6 (enc := enc) (C := Tryz.checked) false ⟨#[], #[.agg #[.int .i64 0, .int .i64 0, .slice none 0 0], .int .i64 0, .int .i64 0], []⟩ 8 (by kernel_rfl) (by kernel_rfl) (by kernel_rfl) (by kernel_rfl))
    X73 tiled (by kernel_rfl) rfl (tb := 4) (by kernel_rfl) Tryz.underlying4
    (fun ds hl => by
      match ds, hl with
      | [d0, d1, d2], _ => exact ⟨rfl, rfl, rfl⟩) dual_all

theorem dual_holds : Rows.PdgDualSaid :=
  OpenClaim.holds_of_wide 9 Tryz.f9 rfl rfl rfl rfl rfl rfl rfl ⟨rfl, rfl, rfl, rfl, rfl⟩ rfl rfl rfl rfl rfl (by kernel_rfl) Tryz.func9 (by kernel_rfl)
    (of_decide_eq_true (by kernel_rfl)) (by unfold Func.isWrapper; first | (rw [if_pos (by decide +kernel)]; kernel_rfl) | (rw [if_neg (by decide +kernel)]; exact ⟨rfl, rfl⟩))
    (fun os started H enc _ => dual_lifted os started H enc)
#print axioms dual_holds
end Go.Proofs.YtdajceakaakdoaaGreat

