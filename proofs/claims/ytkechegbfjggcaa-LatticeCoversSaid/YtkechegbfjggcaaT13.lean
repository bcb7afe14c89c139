/- T13: contracts of functions of the package, used by the proof of the claimed statement. Conditions: as each theorem states. -/
import Derived.Test.YtkechegbfjggcaaT12
import Derived.Test.YtkechegbfjggcaaRows
set_option linter.unusedSimpArgs false
set_option linter.unusedVariables false
namespace Go.Proofs.Ytkechegbfjggcaa
open Go Go.Hl Go.RowKit Go.ChangeShapes Go.Proofs.Ytkechegbfjggcaa

theorem tiled : Tiled Try.prog := tiled_mk (by kernel_rfl)
theorem own : ownKnob Try.prog.godebug = none := by kernel_rfl
theorem laidOut : laidOutB Try.prog = true := by kernel_rfl

theorem dec_int {k : Nat} {ds : List CD} (h : Shape Try.prog k 3 ds) : ∃ n : Int, ds = [i64 n] := by
  obtain ⟨n, h1, _⟩ := shape_int Try.underlying3 h
  exact ⟨n, h1⟩
theorem dec_str {k : Nat} {ds : List CD} (h : Shape Try.prog k 9 ds) : ∃ s : ByteArray, ds = [sC s] := by
  obtain ⟨s, h1, _⟩ := shape_str Try.underlying9 h
  exact ⟨s, h1⟩
theorem dec_names {k : Nat} {ds : List CD} (h : Shape Try.prog k 22 ds) : ∃ l : List ByteArray, ds = [nsC l] := by
  obtain ⟨xs, h1, _⟩ := shape_sl (enc := fun x => [sC x]) Try.underlying22 (by kernel_rfl : Try.prog.cellsOf 9 = 1) (fun k r hr => dec_str hr) h
  exact ⟨xs, h1⟩
theorem dec_ints {k : Nat} {ds : List CD} (h : Shape Try.prog k 54 ds) : ∃ l : List Int, ds = [.sl 1 (l.map fun x => [i64 x])] := by
  obtain ⟨xs, h1, _⟩ := shape_sl (enc := fun x => [i64 x]) Try.underlying54 (by kernel_rfl : Try.prog.cellsOf 3 = 1) (fun k r hr => dec_int hr) h
  exact ⟨xs, h1⟩
theorem dec_pair {k : Nat} {ds : List CD} (h : Shape Try.prog k 24 ds) : ∃ p : Int × Int, ds = [i64 p.1, i64 p.2] := by
  obtain ⟨hl, k, hx⟩ := shape_array (l := [(0, 1, 3), (1, 1, 3)]) Try.underlying24 (by kernel_rfl) (by kernel_rfl : Try.prog.cellsOf 24 = 2) h
  match ds, hl with
  | [a, b], _ =>
    obtain ⟨n1, h1⟩ := dec_int (hx (0, 1, 3) (by simp))
    obtain ⟨n2, h2⟩ := dec_int (hx (1, 1, 3) (by simp))
    simp only [List.drop, List.take, List.cons.injEq, and_true] at h1 h2
    subst h1 h2
    exact ⟨(n1, n2), rfl⟩
theorem dec_order {k : Nat} {ds : List CD} (h : Shape Try.prog k 23 ds) : ∃ l : List (Int × Int), ds = [orC l] := by
  obtain ⟨xs, h1, _⟩ := shape_sl (enc := fun p : Int × Int => [i64 p.1, i64 p.2]) Try.underlying23 (by kernel_rfl : Try.prog.cellsOf 24 = 2) (fun k r hr => dec_pair hr) h
  exact ⟨xs, h1⟩
theorem dec_three {k : Nat} {ds : List CD} (h : Shape Try.prog k 40 ds) : ∃ p q r : Int, ds = [i64 p, i64 q, i64 r] := by
  obtain ⟨hl, k, hx⟩ := shape_array (l := [(0, 1, 3), (1, 1, 3), (2, 1, 3)]) Try.underlying40 (by kernel_rfl) (by kernel_rfl : Try.prog.cellsOf 40 = 3) h
  match ds, hl with
  | [a, b, c], _ =>
    obtain ⟨n1, h1⟩ := dec_int (hx (0, 1, 3) (by simp))
    obtain ⟨n2, h2⟩ := dec_int (hx (1, 1, 3) (by simp))
    obtain ⟨n3, h3⟩ := dec_int (hx (2, 1, 3) (by simp))
    simp only [List.drop, List.take, List.cons.injEq, and_true] at h1 h2 h3
    subst h1 h2 h3
    exact ⟨n1, n2, n3, rfl⟩

theorem agg40 : aggT Try.prog 40 = true := by unfold aggT; rw [Try.underlying40]
theorem agg24 : aggT Try.prog 24 = true := by unfold aggT; rw [Try.underlying24]
theorem agg22 : aggT Try.prog 22 = false := by unfold aggT; rw [Try.underlying22]
theorem agg23 : aggT Try.prog 23 = false := by unfold aggT; rw [Try.underlying23]
theorem agg54 : aggT Try.prog 54 = false := by unfold aggT; rw [Try.underlying54]
theorem agg9 : aggT Try.prog 9 = false := by unfold aggT; rw [Try.underlying9]
theorem agg3 : aggT Try.prog 3 = false := by unfold aggT; rw [Try.underlying3]
end Go.Proofs.Ytkechegbfjggcaa
