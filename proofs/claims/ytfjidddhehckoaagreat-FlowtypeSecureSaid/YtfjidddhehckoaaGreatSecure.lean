/- For every program, policy and two inputs: what flowtype accepts does not leak, as0 FlowtypeSecure asks it: two runs that agree on what the observer sees and on what is let out have equal outputs, and equal times where the time is seen; the statement is true at every input and leaves its arguments as0 they were. No condition. -/
import Derived.Test.YtfjidddhehckoaaGreatS15
import Derived.Test.YtfjidddhehckoaaGreatRows
set_option linter.unusedSimpArgs false
set_option linter.unusedVariables false
set_option linter.unnecessarySimpa false
set_option maxRecDepth 100000
set_option maxHeartbeats 2000000
namespace Go.Proofs.YtfjidddhehckoaaGreat
open Go Go.Hl Go.RowKit Go.ChangeShapes Go.Proofs.YtfjidddhehckoaaGreat

theorem dec_In {k : Nat} {ds : List CD} (h : Shape Tryz.prog k 34 ds) : ∃ i : Inp, ds = [.sl 1 (encIs i.s), .sl 1 (encIs i.p), .sl 1 (encIs i.r)] := by
  obtain ⟨hl, k1, _, hx⟩ := shape_structK (l := [(0, 1, 32), (1, 1, 32), (2, 1, 32)]) Tryz.underlying34 (by kernel_rfl) (by kernel_rfl : Tryz.prog.cellsOf 34 = 3) h
  match ds, hl with
  | [a0, a1, a2], _ =>
    obtain ⟨l0, h0⟩ := dec_I (hx (0, 1, 32) (by simp))
    obtain ⟨l1, h1⟩ := dec_I (hx (1, 1, 32) (by simp))
    obtain ⟨l2, h2⟩ := dec_I (hx (2, 1, 32) (by simp))
    simp only [List.drop, List.take, List.cons.injEq, and_true] at h0 h1 h2
    subst h0 h1 h2
    exact ⟨⟨l0, l1, l2⟩, rfl⟩
theorem dec_In2 {k : Nat} {ds : List CD} (h : Shape Tryz.prog k 35 ds) : ∃ i j : Inp, ds = [.sl 1 (encIs i.s), .sl 1 (encIs i.p), .sl 1 (encIs i.r), .sl 1 (encIs j.s), .sl 1 (encIs j.p), .sl 1 (encIs j.r)] := by
  obtain ⟨hl, k, hx⟩ := shape_array (l := [(0, 3, 34), (3, 3, 34)]) Tryz.underlying35 (by kernel_rfl) (by kernel_rfl : Tryz.prog.cellsOf 35 = 6) h
  match ds, hl with
  | [a0, a1, a2, a3, a4, a5], _ =>
    obtain ⟨i, h0⟩ := dec_In (hx (0, 3, 34) (by simp))
    obtain ⟨j, h1⟩ := dec_In (hx (3, 3, 34) (by simp))
    simp only [List.drop, List.take, List.cons.injEq, and_true] at h0 h1
    obtain ⟨e0, e1, e2⟩ := h0
    obtain ⟨e3, e4, e5⟩ := h1
    subst e0 e1 e2 e3 e4 e5
    exact ⟨i, j, rfl⟩
theorem aggI2 : aggT Tryz.prog 35 = true := by unfold aggT; rw [Tryz.underlying35]
theorem secure_all : ∀ dss, ShapeAll Tryz.prog Tryz.f3.params.toList dss → Con Tryz.prog 3 true (tvsOf Tryz.prog Tryz.f3.params.toList dss) (Hl.lit (.bool true)) none 0 := by
  intro dss h
  rw [Tryz.params3] at *
  match dss, h with
  | [ds0, ds1, ds2], ⟨⟨k0, h0⟩, ⟨k1, h1⟩, ⟨k2, h2⟩, _⟩ =>
    obtain ⟨f, rfl⟩ := dec_F h0
    obtain ⟨p, rfl⟩ := dec_P h1
    obtain ⟨i, j, rfl⟩ := dec_In2 h2
    have := secure_law f p i j 0
    simp only [tvsOf, tvOf_agg aggF, tvOf_agg aggP, tvOf_agg aggI2, Hl.lit]
    exact this

theorem secure_lifted (os : Os) (started : os.Started) (H : Type) (enc : TypeId × Value → H) :
    ReturnsInHanded {} Tryz.checked os 3 .any (Rows.flowtypeSecureSpec.pre6 enc Tryz.prog Tryz.f3 [] false) (Rows.flowtypeSecureSpec.post enc Tryz.prog Tryz.f3 false true false false) :=
  law_lifted (C := Tryz.checked) own started (by kernel_rfl) Tryz.func3
    (ChangeSpec.witness6 (enc := enc) (C := Tryz.checked) false ⟨#[], #[.agg #[.slice none 0 0, .slice none 0 0, .slice none 0 0], .agg #[.slice none 0 0, .slice none 0 0, .slice none 0 0, .slice none 0 0, .int .i64 0, .bool false], .agg #[.slice none 0 0, .slice none 0 0, .slice none 0 0, .slice none 0 0, .slice none 0 0, .slice none 0 0]], []⟩ 8 (by kernel_rfl) (by kernel_rfl) (by kernel_rfl) (by kernel_rfl))
    laidOut tiled (by kernel_rfl) rfl (tb := 4) (by kernel_rfl) Tryz.underlying4
    (fun ds hl => by
      match ds, hl with
      | [d0, d1, d2], _ => exact ⟨rfl, rfl, rfl⟩) secure_all

theorem secure_holds : Rows.FlowtypeSecureSaid :=
  OpenClaim.holds_of_wide 3 Tryz.f3 rfl rfl rfl rfl rfl rfl rfl ⟨rfl, rfl, rfl, rfl, rfl⟩ rfl rfl rfl rfl rfl (by kernel_rfl) Tryz.func3 (by kernel_rfl)
    (of_decide_eq_true (by kernel_rfl)) (by unfold Func.isWrapper; first | (rw [if_pos (by decide +kernel)]; kernel_rfl) | (rw [if_neg (by decide +kernel)]; exact ⟨rfl, rfl⟩))
    (fun os started H enc _ => secure_lifted os started H enc)
#print axioms secure_holds
end Go.Proofs.YtfjidddhehckoaaGreat

