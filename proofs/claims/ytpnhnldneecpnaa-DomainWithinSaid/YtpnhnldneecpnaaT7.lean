/- T7: contracts of functions of the package, used by the proof of the claimed statement. Conditions: as each theorem states. -/
import Derived.Test.YtpnhnldneecpnaaT6
import Derived.Test.YtpnhnldneecpnaaRows
set_option linter.unusedSimpArgs false
set_option linter.unusedVariables false
namespace Go.Proofs.Ytpnhnldneecpnaa
open Go Go.Hl Go.RowKit Go.ChangeShapes Go.Proofs.Ytpnhnldneecpnaa

theorem tiled : Tiled Try.prog := tiled_mk (by kernel_rfl)
theorem own : ownKnob Try.prog.godebug = none := by kernel_rfl
theorem laidOut : laidOutB Try.prog = true := by kernel_rfl
theorem c51 : Try.prog.cellsOf 51 = 5 := by kernel_rfl

theorem dec_var {k : Nat} {ds : List CD} (h : Shape Try.prog k 51 ds) : ∃ v : Var, ds = v.enc := by
  obtain ⟨hl, k, hx⟩ := shape_struct (l := [(0, 1, 9), (1, 1, 23), (2, 1, 3), (3, 1, 3), (4, 1, 3)]) Try.underlying51 (by kernel_rfl) c51 h
  match ds, hl with
  | [a, b, c, d, e], _ =>
    obtain ⟨s, hs, _⟩ := shape_str Try.underlying9 (hx (0, 1, 9) (by simp))
    obtain ⟨n1, h1, _⟩ := shape_int Try.underlying23 (hx (1, 1, 23) (by simp))
    obtain ⟨n2, h2, _⟩ := shape_int Try.underlying3 (hx (2, 1, 3) (by simp))
    obtain ⟨n3, h3, _⟩ := shape_int Try.underlying3 (hx (3, 1, 3) (by simp))
    obtain ⟨n4, h4, _⟩ := shape_int Try.underlying3 (hx (4, 1, 3) (by simp))
    simp only [List.drop, List.take, List.cons.injEq, and_true] at hs h1 h2 h3 h4
    subst hs h1 h2 h3 h4
    exact ⟨⟨s, n1, n2, n3, n4⟩, rfl⟩
theorem dec_vars {k : Nat} {ds : List CD} (h : Shape Try.prog k 22 ds) : ∃ vs : List Var, ds = [.sl 5 (vs.map Var.enc)] := by
  obtain ⟨xs, h1, _⟩ := shape_sl Try.underlying22 c51 (fun k r hr => dec_var hr) h
  exact ⟨xs, h1⟩
theorem dec_varsB {k : Nat} {ds : List CD} (h : Shape Try.prog k 22 ds) : ∃ vs : List Var, ds = [.sl 5 (vs.map Var.enc)] ∧ vs.length * 48 ≤ reachBytes := by
  obtain ⟨xs, h1, _, h3⟩ := shape_sl Try.underlying22 c51 (fun k r hr => dec_var hr) h
  exact ⟨xs, h1, by simpa only [show Try.prog.bytesOf 51 = 48 by kernel_rfl] using h3⟩
theorem dec_int {k : Nat} {ds : List CD} (h : Shape Try.prog k 3 ds) : ∃ n : Int, ds = [i64 n] := by
  obtain ⟨n, h1, _⟩ := shape_int Try.underlying3 h
  exact ⟨n, h1⟩
theorem dec_kind {k : Nat} {ds : List CD} (h : Shape Try.prog k 23 ds) : ∃ n : Int, ds = [i64 n] := by
  obtain ⟨n, h1, _⟩ := shape_int Try.underlying23 h
  exact ⟨n, h1⟩
theorem dec_ints {k : Nat} {ds : List CD} (h : Shape Try.prog k 29 ds) : ∃ vs : List Int, ds = [.sl 1 (vs.map fun x => [i64 x])] := by
  obtain ⟨xs, h1, _⟩ := shape_sl (enc := fun x => [i64 x]) Try.underlying29 (by kernel_rfl : Try.prog.cellsOf 3 = 1) (fun k r hr => dec_int hr) h
  exact ⟨xs, h1⟩

theorem dec_pair {k : Nat} {ds : List CD} (h : Shape Try.prog k 36 ds) : ∃ p q : Int, ds = [i64 p, i64 q] := by
  obtain ⟨hl, k, hx⟩ := shape_array (l := [(0, 1, 3), (1, 1, 3)]) Try.underlying36 (by kernel_rfl) (by kernel_rfl : Try.prog.cellsOf 36 = 2) h
  match ds, hl with
  | [a, b], _ =>
    obtain ⟨n1, h1⟩ := dec_int (hx (0, 1, 3) (by simp))
    obtain ⟨n2, h2⟩ := dec_int (hx (1, 1, 3) (by simp))
    simp only [List.drop, List.take, List.cons.injEq, and_true] at h1 h2
    subst h1 h2
    exact ⟨n1, n2, rfl⟩
theorem dec_three {k : Nat} {ds : List CD} (h : Shape Try.prog k 41 ds) : ∃ p q r : Int, ds = [i64 p, i64 q, i64 r] := by
  obtain ⟨hl, k, hx⟩ := shape_array (l := [(0, 1, 3), (1, 1, 3), (2, 1, 3)]) Try.underlying41 (by kernel_rfl) (by kernel_rfl : Try.prog.cellsOf 41 = 3) h
  match ds, hl with
  | [a, b, c], _ =>
    obtain ⟨n1, h1⟩ := dec_int (hx (0, 1, 3) (by simp))
    obtain ⟨n2, h2⟩ := dec_int (hx (1, 1, 3) (by simp))
    obtain ⟨n3, h3⟩ := dec_int (hx (2, 1, 3) (by simp))
    simp only [List.drop, List.take, List.cons.injEq, and_true] at h1 h2 h3
    subst h1 h2 h3
    exact ⟨n1, n2, n3, rfl⟩
theorem dec_box {k : Nat} {ds : List CD} (h : Shape Try.prog k 47 ds) : ∃ p q : List Int, ds = [.sl 1 (p.map fun x => [i64 x]), .sl 1 (q.map fun x => [i64 x])] := by
  obtain ⟨hl, k, hx⟩ := shape_array (l := [(0, 1, 29), (1, 1, 29)]) Try.underlying47 (by kernel_rfl) (by kernel_rfl : Try.prog.cellsOf 47 = 2) h
  match ds, hl with
  | [a, b], _ =>
    obtain ⟨n1, h1⟩ := dec_ints (hx (0, 1, 29) (by simp))
    obtain ⟨n2, h2⟩ := dec_ints (hx (1, 1, 29) (by simp))
    simp only [List.drop, List.take, List.cons.injEq, and_true] at h1 h2
    subst h1 h2
    exact ⟨n1, n2, rfl⟩

theorem agg36 : aggT Try.prog 36 = true := by unfold aggT; rw [Try.underlying36]
theorem agg41 : aggT Try.prog 41 = true := by unfold aggT; rw [Try.underlying41]
theorem agg47 : aggT Try.prog 47 = true := by unfold aggT; rw [Try.underlying47]
theorem agg22 : aggT Try.prog 22 = false := by unfold aggT; rw [Try.underlying22]
theorem agg23 : aggT Try.prog 23 = false := by unfold aggT; rw [Try.underlying23]
theorem agg29 : aggT Try.prog 29 = false := by unfold aggT; rw [Try.underlying29]
theorem agg3 : aggT Try.prog 3 = false := by unfold aggT; rw [Try.underlying3]

end Go.Proofs.Ytpnhnldneecpnaa
