/- T6: contracts of functions of the package, used by the proof of the claimed statement. Conditions: as each theorem states. -/
import Derived.Test.YtkechegbfjggcaaT5
set_option linter.unusedSimpArgs false
set_option linter.unusedVariables false
namespace Go.Proofs.Ytkechegbfjggcaa
open Go Go.Hl

def hasN (seen : List ByteArray) (s : ByteArray) : Bool := seen.any fun t => decide (t = s)
theorem hasN_iff {l : List ByteArray} {s : ByteArray} : hasN l s = true ↔ s ∈ l := by simp [hasN]
theorem hasN_no {l : List ByteArray} {s : ByteArray} : hasN l s = false ↔ s ∉ l := by rw [← hasN_iff]; simp
def scanN : List ByteArray → List ByteArray → Int
  | _, [] => 0
  | seen, s :: l => if nameB s = false then 7 else if hasN seen s = true then 8 else scanN (seen ++ [s]) l
def ordOk (n : Nat) (order : List (Int × Int)) : Bool := order.all fun p => inB n p.1 && inB n p.2
def antiB (n : Nat) (M : Nat → Nat → Bool) : Bool := (List.range n).all fun a => (List.range a).all fun b => !(M a b && M b a)
/-- the first reason why there is no lattice -/
def newC (names : List ByteArray) (order : List (Int × Int)) : Int :=
  if names.length = 0 ∨ 12 < names.length then 4 else if scanN [] names ≠ 0 then scanN [] names else if ordOk names.length order = false then 3 else
  if antiB names.length (closeM names.length order) = false then 10 else if badRow names.length (closeM names.length order) ≠ names.length then 11 else 0
def latO (names : List ByteArray) (order : List (Int × Int)) : CD :=
  latD names (.mp (idxL names)) (matB names.length (closeM names.length order)) (matI names.length (bndI names.length (closeM names.length order))) (matI names.length (bndI names.length (flp (closeM names.length order))))
def newR (names : List ByteArray) (order : List (Int × Int)) : TV := if newC names order = 0 then .one (.c (latO names order)) else .one (.c (.lit (.pointer none)))

theorem idx_append (l : List ByteArray) (s : ByteArray) : idxL (l ++ [s]) = idxL l ++ [(.string s, i64 l.length)] := by simp [idxL, List.zipIdx_append]
theorem same_str (a b : ByteArray) : Instr.sameNow .string (.string a) (.string b) = some (decide (a = b)) := by
  unfold Instr.sameNow
  simp only [Option.some.injEq]
  obtain ⟨a⟩ := a
  obtain ⟨b⟩ := b
  show (a == b) = decide ((⟨a⟩ : ByteArray) = ⟨b⟩)
  by_cases h : a = b
  · subst h; simp
  · simp [h]
theorem find_zip {s : ByteArray} : ∀ (l : List ByteArray) (k : Nat), (s ∉ l → findM .string (.string s) ((l.zipIdx k).map fun p => (.string p.1, i64 p.2)) = some none) ∧
    ∀ i : Nat, l[i]? = some s → (∀ j : Nat, j < i → l[j]? ≠ some s) → findM .string (.string s) ((l.zipIdx k).map fun p => (.string p.1, i64 p.2)) = some (some (i64 ((k + i : Nat) : Int)))
  | [], k => by simp [findM]
  | x :: l, k => by
    obtain ⟨h1, h2⟩ := find_zip l (k + 1)
    refine ⟨fun h => ?_, fun i hi hj => ?_⟩
    · simp only [List.mem_cons, not_or] at h
      simp only [List.zipIdx_cons, List.map_cons, findM, same_str, decide_eq_false h.1]
      exact h1 h.2
    · cases i with
      | zero =>
        simp only [List.getElem?_cons_zero, Option.some.injEq] at hi
        subst hi
        simp [findM, same_str]
      | succ i =>
        have hx : ¬ s = x := by
          intro e
          exact hj 0 (by omega) (by simp [e])
        simp only [List.zipIdx_cons, List.map_cons, findM, same_str, decide_eq_false hx]
        have := h2 i (by simpa using hi) (fun j hjl => by have := hj (j + 1) (by omega); simpa using this)
        rw [this]
        congr 3; omega
theorem first_at {s : ByteArray} : ∀ {l : List ByteArray}, s ∈ l → ∃ i : Nat, l[i]? = some s ∧ ∀ j : Nat, j < i → l[j]? ≠ some s
  | x :: l, h => by
    by_cases e : x = s
    · exact ⟨0, by simp [e], by simp⟩
    · have hl : s ∈ l := by
        rcases List.mem_cons.1 h with h | h
        · exact absurd h.symm e
        · exact h
      obtain ⟨i, h1, h2⟩ := first_at hl
      refine ⟨i + 1, by simpa using h1, fun j hj => ?_⟩
      cases j with
      | zero => simpa using e
      | succ j => simpa using h2 j (by omega)
theorem find_none {s : ByteArray} {l : List ByteArray} (h : s ∉ l) : findM .string (.string s) (idxL l) = some none := (find_zip l 0).1 h
theorem find_at {s : ByteArray} {l : List ByteArray} {i : Nat} (h : l[i]? = some s) (hf : ∀ j : Nat, j < i → l[j]? ≠ some s) : findM .string (.string s) (idxL l) = some (some (i64 i)) := by
  have := (find_zip l 0).2 i h hf
  simpa [idxL] using this
theorem find_some {s : ByteArray} {l : List ByteArray} (h : s ∈ l) : ∃ i : Nat, findM .string (.string s) (idxL l) = some (some (i64 i)) := by
  obtain ⟨i, h1, h2⟩ := first_at h
  exact ⟨i, find_at h1 h2⟩
theorem scan_step {names : List ByteArray} {k : Nat} {s : ByteArray} (h : names[k]? = some s) : scanN (names.take k) (names.drop k) = if nameB s = false then 7 else if hasN (names.take k) s = true then 8 else scanN (names.take (k + 1)) (names.drop (k + 1)) := by
  have hlt : k < names.length := (List.getElem?_eq_some_iff.1 h).1
  have : names.drop k = s :: names.drop (k + 1) := by
    rw [List.drop_eq_getElem_cons hlt]
    congr 1
    exact (List.getElem?_eq_some_iff.1 h).2
  rw [this, scanN, List.take_add_one, h]
  rfl

def nrow (l : List ByteArray) : List (List CD) := l.map fun s => [sC s]
theorem nrow_len (l : List ByteArray) : (nrow l).length = l.length := by simp [nrow]
theorem nrow_append (l : List ByteArray) (s : ByteArray) : nrow (l ++ [s]) = nrow l ++ [[sC s]] := by simp [nrow]
def nilC : CD := .lit (.slice none 0 0)
def L1 (names : List ByteArray) (order : List (Int × Int)) (k : Nat) : HS :=
  ⟨122, [(0, .v (.one (.c (nsC names)))), (1, .v (.one (.c (orC order)))), (6, .v (.one (.at_ 1006 0))), (26, .v (.one (.c (nsC names)))), (27, .v (li names.length)), (28, .v (li k))],
    [(1000, .row 9 1 (nrow (names.take k))), (1002, .mp (idxL (names.take k))), (1006, .box [.own 1000, .own 1002, .c nilC, .c nilC, .c nilC])]⟩
def L2 (names : List ByteArray) (order : List (Int × Int)) (k : Nat) : HS :=
  ⟨122, [(0, .v (.one (.c (nsC names)))), (1, .v (.one (.c (orC order)))), (6, .v (.one (.at_ 1006 0))), (63, .v (.one (.c (orC order)))), (64, .v (li order.length)), (65, .v (li k))],
    [(1006, .box [.c (nsC names), .c (.mp (idxL names)), .c nilC, .c nilC, .c nilC])]⟩
def L3 (names : List ByteArray) (M : Nat → Nat → Bool) (a : Nat) : HS :=
  ⟨122, [(6, .v (.one (.at_ 1006 0))), (86, .v (li names.length)), (87, .v (li a))],
    [(1006, .box [.c (nsC names), .c (.mp (idxL names)), .c (matB names.length M), .c nilC, .c nilC])]⟩
def L4 (names : List ByteArray) (M : Nat → Nat → Bool) (a b : Nat) : HS :=
  ⟨122, [(6, .v (.one (.at_ 1006 0))), (13, .v (li a)), (86, .v (li names.length)), (87, .v (li a)), (90, .v (li a)), (91, .v (li b))],
    [(1006, .box [.c (nsC names), .c (.mp (idxL names)), .c (matB names.length M), .c nilC, .c nilC])]⟩

set_option maxRecDepth 100000 in
theorem new_con (names : List ByteArray) (order : List (Int × Int)) (hlen : order.length ≤ 200) (d : Nat) :
    Con Try.prog 22 false [.one (.c (nsC names)), .one (.c (orC order))] (.tup [newR names order, li (newC names order)]) none d := by
  have hrf : newC names order = newC names order := rfl
  conv at hrf => rhs; unfold newC
  have hrr : newR names order = newR names order := rfl
  conv at hrr => rhs; unfold newR
  generalize newC names order = code at *
  generalize newR names order = res at *
  refine con_of_HT Try.func22 rfl (by kernel_rfl) (Nat.le_of_ble_eq_true rfl) ?_
  simp only [Try.f22]
  refine HT_seq (HT_run (by simp [evs, evc, evcS, okCall, brw, brwL, brwT, brwA, frzC, frzL, frzP, matC, calleeOf, RV.ownB, CV.ownB, RV.onlyB, TV.onlyB, CV.onlyB, HS.made, impB_self, impB_true, impB_false, impB_one, impB_and, impB_and2, impB_imp, pickB_or, pickB_and, pickB_true, pickB_false, wpR, gdOf, clsOf, stpF, stpG, strip, gdR, ungd_true, litG_ungd, litG_lit, litG_gd, litG_any, litG_sl, litG_ptr, litG_own, litG_at, litG_agg, evOp, evN, evA, evR, evW, evBin, evUn, evStr, evNil, evAgg, intsL, ptrish, nilPtr, capsOf, ownOf, matApp, mapOf, mapRes, cellsOf, opd, lkp, ins, del, HS.put, okDst, unmB, sortB, RV.menB, TV.menB, CV.menB, Ob.menB, CV.cell, CD.cell, Value.oneCell', thenQ, blockQ, loopQ, constRV, fieldOf, elemTy, idxArr, arrOf, partOf, litOf, Hl.lit, rowsOf, dataOf, baseOf, moreOf, setRow, regsOf, nsC, orC, sC, i64]; rfl) ?_)
  refine HT_seq (HT_seq (HT_run (by simp [evs, evc, evcS, okCall, brw, brwL, brwT, brwA, frzC, frzL, frzP, matC, calleeOf, RV.ownB, CV.ownB, RV.onlyB, TV.onlyB, CV.onlyB, HS.made, impB_self, impB_true, impB_false, impB_one, impB_and, impB_and2, impB_imp, pickB_or, pickB_and, pickB_true, pickB_false, wpR, gdOf, clsOf, stpF, stpG, strip, gdR, ungd_true, litG_ungd, litG_lit, litG_gd, litG_any, litG_sl, litG_ptr, litG_own, litG_at, litG_agg, evOp, evN, evA, evR, evW, evBin, evUn, evStr, evNil, evAgg, intsL, ptrish, nilPtr, capsOf, ownOf, matApp, mapOf, mapRes, cellsOf, opd, lkp, ins, del, HS.put, okDst, unmB, sortB, RV.menB, TV.menB, CV.menB, Ob.menB, CV.cell, CD.cell, Value.oneCell', thenQ, blockQ, loopQ, constRV, fieldOf, elemTy, idxArr, arrOf, partOf, litOf, Hl.lit, rowsOf, dataOf, baseOf, moreOf, setRow]; rfl) ?_))
  refine HT_cond rfl (fun h => ?_) (fun hcd => HT_skip ?_)
  · refine HT_seq (HT_run (by simp [evs, evc, evcS, okCall, brw, brwL, brwT, brwA, frzC, frzL, frzP, matC, calleeOf, RV.ownB, CV.ownB, RV.onlyB, TV.onlyB, CV.onlyB, HS.made, impB_self, impB_true, impB_false, impB_one, impB_and, impB_and2, impB_imp, pickB_or, pickB_and, pickB_true, pickB_false, wpR, gdOf, clsOf, stpF, stpG, strip, gdR, ungd_true, litG_ungd, litG_lit, litG_gd, litG_any, litG_sl, litG_ptr, litG_own, litG_at, litG_agg, evOp, evN, evA, evR, evW, evBin, evUn, evStr, evNil, evAgg, intsL, ptrish, nilPtr, capsOf, ownOf, matApp, mapOf, mapRes, cellsOf, opd, lkp, ins, del, HS.put, okDst, unmB, sortB, RV.menB, TV.menB, CV.menB, Ob.menB, CV.cell, CD.cell, Value.oneCell', thenQ, blockQ, loopQ, constRV, fieldOf, elemTy, idxArr, arrOf, partOf, litOf, Hl.lit, rowsOf, dataOf, baseOf, moreOf, setRow]; rfl) ?_)
    have h' : names.length = 0 ∨ 12 < names.length := by
      simp at h
      rcases h with h | h
      · left; rw [h]; rfl
      · right; omega
    rw [if_pos h'] at hrf
    subst hrf
    rw [if_neg (by decide)] at hrr
    rw [hrr]
    exact HT_ret ⟨.inr rfl, _, le_refl _, ⟨_, rfl, rfl⟩, by simp, by simp⟩
  have hn : 1 ≤ names.length ∧ names.length ≤ 12 := by
    simp at hcd
    have : names.length ≠ 0 := by rintro e; exact hcd.1 (List.eq_nil_of_length_eq_zero e)
    omega
  rw [if_neg (show ¬ (names.length = 0 ∨ 12 < names.length) by omega)] at hrf
  refine HT_seq (HT_run (by simp [evs, evc, evcS, okCall, brw, brwL, brwT, brwA, frzC, frzL, frzP, matC, calleeOf, RV.ownB, CV.ownB, RV.onlyB, TV.onlyB, CV.onlyB, HS.made, impB_self, impB_true, impB_false, impB_one, impB_and, impB_and2, impB_imp, pickB_or, pickB_and, pickB_true, pickB_false, wpR, gdOf, clsOf, stpF, stpG, strip, gdR, ungd_true, litG_ungd, litG_lit, litG_gd, litG_any, litG_sl, litG_ptr, litG_own, litG_at, litG_agg, evOp, evN, evA, evR, evW, evBin, evUn, evStr, evNil, evAgg, intsL, ptrish, nilPtr, capsOf, ownOf, matApp, mapOf, mapRes, cellsOf, opd, lkp, ins, del, HS.put, okDst, unmB, sortB, RV.menB, TV.menB, CV.menB, Ob.menB, CV.cell, CD.cell, Value.oneCell', thenQ, blockQ, loopQ, constRV, fieldOf, elemTy, idxArr, arrOf, partOf, litOf, Hl.lit, rowsOf, dataOf, baseOf, moreOf, setRow]; rfl) ?_)
  refine HT_seq (HT_seq (HT_run (by simp [evs, evc, evcS, okCall, brw, brwL, brwT, brwA, frzC, frzL, frzP, matC, calleeOf, RV.ownB, CV.ownB, RV.onlyB, TV.onlyB, CV.onlyB, HS.made, impB_self, impB_true, impB_false, impB_one, impB_and, impB_and2, impB_imp, pickB_or, pickB_and, pickB_true, pickB_false, wpR, gdOf, clsOf, stpF, stpG, strip, gdR, ungd_true, litG_ungd, litG_lit, litG_gd, litG_any, litG_sl, litG_ptr, litG_own, litG_at, litG_agg, evOp, evN, evA, evR, evW, evBin, evUn, evStr, evNil, evAgg, intsL, ptrish, nilPtr, capsOf, ownOf, matApp, mapOf, mapRes, cellsOf, opd, lkp, ins, del, HS.put, okDst, unmB, sortB, RV.menB, TV.menB, CV.menB, Ob.menB, CV.cell, CD.cell, Value.oneCell', thenQ, blockQ, loopQ, constRV, fieldOf, elemTy, idxArr, arrOf, partOf, litOf, Hl.lit, rowsOf, dataOf, baseOf, moreOf, setRow]; rfl) ?_))
  refine HT_block (HT_loop (L1 names order) (fun k => k ≤ names.length ∧ scanN (names.take k) (names.drop k) = scanN [] names) (fun k => names.length - k) 0 ⟨Nat.zero_le _, by simp⟩ ?_ ?_)
  · exact le_mk (fun n => if n = 1002 then 23 else if n = 1006 then 25 else n) [1000] rfl (by simp [allL, ins, RV.okNil, TV.okNil, CV.okNil, Ob.okNil, RV.ren, TV.ren, CV.ren, Ob.ren, pinR, opd, lkp, nilS, CV.frz, TV.frz, RV.frz, Ob.frz, HS.frz, mapL, del, L1, li, i64, nsC, orC, sC]) (by simp [allL, ins, RV.okNil, TV.okNil, CV.okNil, Ob.okNil, RV.ren, TV.ren, CV.ren, Ob.ren, pinR, opd, lkp, nilS, CV.frz, TV.frz, RV.frz, Ob.frz, HS.frz, mapL, del, L1, nilC, idxL, nrow]) (by simp [allL, ins, RV.okNil, TV.okNil, CV.okNil, Ob.okNil, RV.ren, TV.ren, CV.ren, Ob.ren, pinR, opd, lkp, nilS, CV.frz, TV.frz, RV.frz, Ob.frz, HS.frz, mapL, del, L1])
  rintro k ⟨hk, hscan⟩
  simp only [L1]
  refine HT_seq (HT_run (by simp [evs, evc, evcS, okCall, brw, brwL, brwT, brwA, frzC, frzL, frzP, matC, calleeOf, RV.ownB, CV.ownB, RV.onlyB, TV.onlyB, CV.onlyB, HS.made, impB_self, impB_true, impB_false, impB_one, impB_and, impB_and2, impB_imp, pickB_or, pickB_and, pickB_true, pickB_false, wpR, gdOf, clsOf, stpF, stpG, strip, gdR, ungd_true, litG_ungd, litG_lit, litG_gd, litG_any, litG_sl, litG_ptr, litG_own, litG_at, litG_agg, evOp, evN, evA, evR, evW, evBin, evUn, evStr, evNil, evAgg, intsL, ptrish, nilPtr, capsOf, ownOf, matApp, mapOf, mapRes, cellsOf, opd, lkp, ins, del, HS.put, okDst, unmB, sortB, RV.menB, TV.menB, CV.menB, Ob.menB, CV.cell, CD.cell, Value.oneCell', thenQ, blockQ, loopQ, constRV, fieldOf, elemTy, idxArr, arrOf, partOf, litOf, Hl.lit, rowsOf, dataOf, baseOf, moreOf, setRow, li, i64]; rfl) ?_)
  refine HT_seq (HT_cond rfl (fun h => HT_skip ?_) (fun h => HT_exit ?_))
  · have hlt : k < names.length := by simpa using h
    have hw : IntKind.i64.wrap ((k : Int) + 1) = (k : Int) + 1 := wrap_in (by omega) (by omega)
    obtain ⟨s, hs⟩ : ∃ s, names[k]? = some s := ⟨names[k], List.getElem?_eq_getElem hlt⟩
    rw [scan_step hs] at hscan
    have hcn := fun d => isname_con s d
    have htl : (names.take k).length = k := by simp; omega
    have htk : names.take (k + 1) = names.take k ++ [s] := by rw [List.take_add_one, hs]; rfl
    generalize hT : names.take k = T at *
    refine HT_seq (HT_block (HT_seq (HT_run (by simp [evs, evc, evcS, okCall, brw, brwL, brwT, brwA, frzC, frzL, frzP, matC, calleeOf, RV.ownB, CV.ownB, RV.onlyB, TV.onlyB, CV.onlyB, HS.made, impB_self, impB_true, impB_false, impB_one, impB_and, impB_and2, impB_imp, pickB_or, pickB_and, pickB_true, pickB_false, wpR, gdOf, clsOf, stpF, stpG, strip, gdR, ungd_true, litG_ungd, litG_lit, litG_gd, litG_any, litG_sl, litG_ptr, litG_own, litG_at, litG_agg, evOp, evN, evA, evR, evW, evBin, evUn, evStr, evNil, evAgg, intsL, ptrish, nilPtr, capsOf, ownOf, matApp, mapOf, mapRes, cellsOf, opd, lkp, ins, del, HS.put, okDst, unmB, sortB, RV.menB, TV.menB, CV.menB, Ob.menB, CV.cell, CD.cell, Value.oneCell', thenQ, blockQ, loopQ, constRV, fieldOf, elemTy, idxArr, arrOf, partOf, litOf, Hl.lit, rowsOf, dataOf, baseOf, moreOf, setRow, nsC, hs]; rfl) ?_)))
    refine HT_seq (HT_seq (HT_runc [⟨true, .v (lb (nameB s)), none⟩] (by simp [evs, evc, evcS, okCall, brw, brwL, brwT, brwA, frzC, frzL, frzP, matC, calleeOf, RV.ownB, CV.ownB, RV.onlyB, TV.onlyB, CV.onlyB, HS.made, impB_self, impB_true, impB_false, impB_one, impB_and, impB_and2, impB_imp, pickB_or, pickB_and, pickB_true, pickB_false, wpR, gdOf, clsOf, stpF, stpG, strip, gdR, ungd_true, litG_ungd, litG_lit, litG_gd, litG_any, litG_sl, litG_ptr, litG_own, litG_at, litG_agg, evOp, evN, evA, evR, evW, evBin, evUn, evStr, evNil, evAgg, intsL, ptrish, nilPtr, capsOf, ownOf, matApp, mapOf, mapRes, cellsOf, opd, lkp, ins, del, HS.put, okDst, unmB, sortB, RV.menB, TV.menB, CV.menB, Ob.menB, CV.cell, CD.cell, Value.oneCell', thenQ, blockQ, loopQ, constRV, fieldOf, elemTy, idxArr, arrOf, partOf, litOf, Hl.lit, rowsOf, dataOf, baseOf, moreOf, setRow, sC, lb, bC]; first | exact ⟨rfl, Iff.rfl⟩ | rfl) (by simpa only [sC, lb, bC] using hcn _) ?_))
    refine HT_cond rfl (fun h => ?_) (fun hc2 => HT_skip ?_)
    · refine HT_seq (HT_run (by simp [evs, evc, evcS, okCall, brw, brwL, brwT, brwA, frzC, frzL, frzP, matC, calleeOf, RV.ownB, CV.ownB, RV.onlyB, TV.onlyB, CV.onlyB, HS.made, impB_self, impB_true, impB_false, impB_one, impB_and, impB_and2, impB_imp, pickB_or, pickB_and, pickB_true, pickB_false, wpR, gdOf, clsOf, stpF, stpG, strip, gdR, ungd_true, litG_ungd, litG_lit, litG_gd, litG_any, litG_sl, litG_ptr, litG_own, litG_at, litG_agg, evOp, evN, evA, evR, evW, evBin, evUn, evStr, evNil, evAgg, intsL, ptrish, nilPtr, capsOf, ownOf, matApp, mapOf, mapRes, cellsOf, opd, lkp, ins, del, HS.put, okDst, unmB, sortB, RV.menB, TV.menB, CV.menB, Ob.menB, CV.cell, CD.cell, Value.oneCell', thenQ, blockQ, loopQ, constRV, fieldOf, elemTy, idxArr, arrOf, partOf, litOf, Hl.lit, rowsOf, dataOf, baseOf, moreOf, setRow]; rfl) ?_)
      rw [if_pos (by simpa using h)] at hscan
      rw [← hscan, if_pos (by decide)] at hrf
      subst hrf
      rw [if_neg (by decide)] at hrr
      rw [hrr]
      exact HT_ret ⟨.inr rfl, _, le_refl _, ⟨_, rfl, rfl⟩, by simp, by simp⟩
    rw [if_neg (by simpa using hc2)] at hscan
    by_cases hm : s ∈ T
    · obtain ⟨i, hi⟩ := find_some hm
      refine HT_seq (HT_seq (HT_run (by simp [evs, evc, evcS, okCall, brw, brwL, brwT, brwA, frzC, frzL, frzP, matC, calleeOf, RV.ownB, CV.ownB, RV.onlyB, TV.onlyB, CV.onlyB, HS.made, impB_self, impB_true, impB_false, impB_one, impB_and, impB_and2, impB_imp, pickB_or, pickB_and, pickB_true, pickB_false, wpR, gdOf, clsOf, stpF, stpG, strip, gdR, ungd_true, litG_ungd, litG_lit, litG_gd, litG_any, litG_sl, litG_ptr, litG_own, litG_at, litG_agg, evOp, evN, evA, evR, evW, evBin, evUn, evStr, evNil, evAgg, intsL, ptrish, nilPtr, capsOf, ownOf, matApp, mapOf, mapRes, cellsOf, opd, lkp, ins, del, HS.put, okDst, unmB, sortB, RV.menB, TV.menB, CV.menB, Ob.menB, CV.cell, CD.cell, Value.oneCell', thenQ, blockQ, loopQ, constRV, fieldOf, elemTy, idxArr, arrOf, partOf, litOf, Hl.lit, rowsOf, dataOf, baseOf, moreOf, setRow, hi, i64]; rfl) ?_))
      refine HT_seq (HT_run (by simp [evs, evc, evcS, okCall, brw, brwL, brwT, brwA, frzC, frzL, frzP, matC, calleeOf, RV.ownB, CV.ownB, RV.onlyB, TV.onlyB, CV.onlyB, HS.made, impB_self, impB_true, impB_false, impB_one, impB_and, impB_and2, impB_imp, pickB_or, pickB_and, pickB_true, pickB_false, wpR, gdOf, clsOf, stpF, stpG, strip, gdR, ungd_true, litG_ungd, litG_lit, litG_gd, litG_any, litG_sl, litG_ptr, litG_own, litG_at, litG_agg, evOp, evN, evA, evR, evW, evBin, evUn, evStr, evNil, evAgg, intsL, ptrish, nilPtr, capsOf, ownOf, matApp, mapOf, mapRes, cellsOf, opd, lkp, ins, del, HS.put, okDst, unmB, sortB, RV.menB, TV.menB, CV.menB, Ob.menB, CV.cell, CD.cell, Value.oneCell', thenQ, blockQ, loopQ, constRV, fieldOf, elemTy, idxArr, arrOf, partOf, litOf, Hl.lit, rowsOf, dataOf, baseOf, moreOf, setRow]; rfl) ?_)
      refine HT_cond rfl (fun h => ?_) (fun h => by cases h)
      refine HT_seq (HT_run (by simp [evs, evc, evcS, okCall, brw, brwL, brwT, brwA, frzC, frzL, frzP, matC, calleeOf, RV.ownB, CV.ownB, RV.onlyB, TV.onlyB, CV.onlyB, HS.made, impB_self, impB_true, impB_false, impB_one, impB_and, impB_and2, impB_imp, pickB_or, pickB_and, pickB_true, pickB_false, wpR, gdOf, clsOf, stpF, stpG, strip, gdR, ungd_true, litG_ungd, litG_lit, litG_gd, litG_any, litG_sl, litG_ptr, litG_own, litG_at, litG_agg, evOp, evN, evA, evR, evW, evBin, evUn, evStr, evNil, evAgg, intsL, ptrish, nilPtr, capsOf, ownOf, matApp, mapOf, mapRes, cellsOf, opd, lkp, ins, del, HS.put, okDst, unmB, sortB, RV.menB, TV.menB, CV.menB, Ob.menB, CV.cell, CD.cell, Value.oneCell', thenQ, blockQ, loopQ, constRV, fieldOf, elemTy, idxArr, arrOf, partOf, litOf, Hl.lit, rowsOf, dataOf, baseOf, moreOf, setRow]; rfl) ?_)
      rw [if_pos (hasN_iff.2 hm)] at hscan
      rw [← hscan, if_pos (by decide)] at hrf
      subst hrf
      rw [if_neg (by decide)] at hrr
      rw [hrr]
      exact HT_ret ⟨.inr rfl, _, le_refl _, ⟨_, rfl, rfl⟩, by simp, by simp⟩
    · have hi := find_none hm
      rw [if_neg (by rw [hasN_iff]; exact hm)] at hscan
      refine HT_seq (HT_seq (HT_run (by simp [evs, evc, evcS, okCall, brw, brwL, brwT, brwA, frzC, frzL, frzP, matC, calleeOf, RV.ownB, CV.ownB, RV.onlyB, TV.onlyB, CV.onlyB, HS.made, impB_self, impB_true, impB_false, impB_one, impB_and, impB_and2, impB_imp, pickB_or, pickB_and, pickB_true, pickB_false, wpR, gdOf, clsOf, stpF, stpG, strip, gdR, ungd_true, litG_ungd, litG_lit, litG_gd, litG_any, litG_sl, litG_ptr, litG_own, litG_at, litG_agg, evOp, evN, evA, evR, evW, evBin, evUn, evStr, evNil, evAgg, intsL, ptrish, nilPtr, capsOf, ownOf, matApp, mapOf, mapRes, cellsOf, opd, lkp, ins, del, HS.put, okDst, unmB, sortB, RV.menB, TV.menB, CV.menB, Ob.menB, CV.cell, CD.cell, Value.oneCell', thenQ, blockQ, loopQ, constRV, fieldOf, elemTy, idxArr, arrOf, partOf, litOf, Hl.lit, rowsOf, dataOf, baseOf, moreOf, setRow, hi]; rfl) ?_))
      refine HT_seq (HT_run (by simp [evs, evc, evcS, okCall, brw, brwL, brwT, brwA, frzC, frzL, frzP, matC, calleeOf, RV.ownB, CV.ownB, RV.onlyB, TV.onlyB, CV.onlyB, HS.made, impB_self, impB_true, impB_false, impB_one, impB_and, impB_and2, impB_imp, pickB_or, pickB_and, pickB_true, pickB_false, wpR, gdOf, clsOf, stpF, stpG, strip, gdR, ungd_true, litG_ungd, litG_lit, litG_gd, litG_any, litG_sl, litG_ptr, litG_own, litG_at, litG_agg, evOp, evN, evA, evR, evW, evBin, evUn, evStr, evNil, evAgg, intsL, ptrish, nilPtr, capsOf, ownOf, matApp, mapOf, mapRes, cellsOf, opd, lkp, ins, del, HS.put, okDst, unmB, sortB, RV.menB, TV.menB, CV.menB, Ob.menB, CV.cell, CD.cell, Value.oneCell', thenQ, blockQ, loopQ, constRV, fieldOf, elemTy, idxArr, arrOf, partOf, litOf, Hl.lit, rowsOf, dataOf, baseOf, moreOf, setRow]; rfl) ?_)
      refine HT_cond rfl (fun h => by cases h) (fun h => HT_skip ?_)
      refine HT_seq (HT_run (by simp [evs, evc, evcS, okCall, brw, brwL, brwT, brwA, frzC, frzL, frzP, matC, calleeOf, RV.ownB, CV.ownB, RV.onlyB, TV.onlyB, CV.onlyB, HS.made, impB_self, impB_true, impB_false, impB_one, impB_and, impB_and2, impB_imp, pickB_or, pickB_and, pickB_true, pickB_false, wpR, gdOf, clsOf, stpF, stpG, strip, gdR, ungd_true, litG_ungd, litG_lit, litG_gd, litG_any, litG_sl, litG_ptr, litG_own, litG_at, litG_agg, evOp, evN, evA, evR, evW, evBin, evUn, evStr, evNil, evAgg, intsL, ptrish, nilPtr, capsOf, ownOf, matApp, mapOf, mapRes, cellsOf, opd, lkp, ins, del, HS.put, okDst, unmB, sortB, RV.menB, TV.menB, CV.menB, Ob.menB, CV.cell, CD.cell, Value.oneCell', thenQ, blockQ, loopQ, constRV, fieldOf, elemTy, idxArr, arrOf, partOf, litOf, Hl.lit, rowsOf, dataOf, baseOf, moreOf, setRow, hi]; rfl) ?_)
      refine HT_run (by simp [evs, evc, evcS, okCall, brw, brwL, brwT, brwA, frzC, frzL, frzP, matC, calleeOf, RV.ownB, CV.ownB, RV.onlyB, TV.onlyB, CV.onlyB, HS.made, impB_self, impB_true, impB_false, impB_one, impB_and, impB_and2, impB_imp, pickB_or, pickB_and, pickB_true, pickB_false, wpR, gdOf, clsOf, stpF, stpG, strip, gdR, ungd_true, litG_ungd, litG_lit, litG_gd, litG_any, litG_sl, litG_ptr, litG_own, litG_at, litG_agg, evOp, evN, evA, evR, evW, evBin, evUn, evStr, evNil, evAgg, intsL, ptrish, nilPtr, capsOf, ownOf, matApp, mapOf, mapRes, cellsOf, opd, lkp, ins, del, HS.put, okDst, unmB, sortB, RV.menB, TV.menB, CV.menB, Ob.menB, CV.cell, CD.cell, Value.oneCell', thenQ, blockQ, loopQ, constRV, fieldOf, elemTy, idxArr, arrOf, partOf, litOf, Hl.lit, rowsOf, dataOf, baseOf, moreOf, setRow, htl, nrow_len, show room (k + 1) 16 from room_of (by omega) (by omega)]; rfl) ?_
      refine HT_run (by simp [evs, evc, evcS, okCall, brw, brwL, brwT, brwA, frzC, frzL, frzP, matC, calleeOf, RV.ownB, CV.ownB, RV.onlyB, TV.onlyB, CV.onlyB, HS.made, impB_self, impB_true, impB_false, impB_one, impB_and, impB_and2, impB_imp, pickB_or, pickB_and, pickB_true, pickB_false, wpR, gdOf, clsOf, stpF, stpG, strip, gdR, ungd_true, litG_ungd, litG_lit, litG_gd, litG_any, litG_sl, litG_ptr, litG_own, litG_at, litG_agg, evOp, evN, evA, evR, evW, evBin, evUn, evStr, evNil, evAgg, intsL, ptrish, nilPtr, capsOf, ownOf, matApp, mapOf, mapRes, cellsOf, opd, lkp, ins, del, HS.put, okDst, unmB, sortB, RV.menB, TV.menB, CV.menB, Ob.menB, CV.cell, CD.cell, Value.oneCell', thenQ, blockQ, loopQ, constRV, fieldOf, elemTy, idxArr, arrOf, partOf, litOf, Hl.lit, rowsOf, dataOf, baseOf, moreOf, setRow, hw]; rfl) ?_
      refine ⟨k + 1, ⟨hlt, hscan⟩, by omega, ?_⟩
      refine le_mk (fun n => if n = 1000 then 59 else n) [] rfl (by simp [allL, ins, RV.okNil, TV.okNil, CV.okNil, Ob.okNil, RV.ren, TV.ren, CV.ren, Ob.ren, pinR, opd, lkp, nilS, CV.frz, TV.frz, RV.frz, Ob.frz, HS.frz, mapL, del, L1, li, i64, nsC, orC, sC, hw]) ?_ (by simp [allL, ins, RV.okNil, TV.okNil, CV.okNil, Ob.okNil, RV.ren, TV.ren, CV.ren, Ob.ren, pinR, opd, lkp, nilS, CV.frz, TV.frz, RV.frz, Ob.frz, HS.frz, mapL, del, L1])
      simp [allL, ins, RV.okNil, TV.okNil, CV.okNil, Ob.okNil, RV.ren, TV.ren, CV.ren, Ob.ren, pinR, opd, lkp, nilS, CV.frz, TV.frz, RV.frz, Ob.frz, HS.frz, mapL, del, L1, htk, idx_append, nrow_append, sC, i64, htl]
  · have hkn : k = names.length := by simp at h; omega
    subst hkn
    rw [List.drop_length] at hscan
    simp only [scanN] at hscan
    rw [if_neg (by rw [← hscan]; simp)] at hrf
    simp only [List.take_length]
    refine HT_seq (HT_seq (HT_run (by simp [evs, evc, evcS, okCall, brw, brwL, brwT, brwA, frzC, frzL, frzP, matC, calleeOf, RV.ownB, CV.ownB, RV.onlyB, TV.onlyB, CV.onlyB, HS.made, impB_self, impB_true, impB_false, impB_one, impB_and, impB_and2, impB_imp, pickB_or, pickB_and, pickB_true, pickB_false, wpR, gdOf, clsOf, stpF, stpG, strip, gdR, ungd_true, litG_ungd, litG_lit, litG_gd, litG_any, litG_sl, litG_ptr, litG_own, litG_at, litG_agg, evOp, evN, evA, evR, evW, evBin, evUn, evStr, evNil, evAgg, intsL, ptrish, nilPtr, capsOf, ownOf, matApp, mapOf, mapRes, cellsOf, opd, lkp, ins, del, HS.put, okDst, unmB, sortB, RV.menB, TV.menB, CV.menB, Ob.menB, CV.cell, CD.cell, Value.oneCell', thenQ, blockQ, loopQ, constRV, fieldOf, elemTy, idxArr, arrOf, partOf, litOf, Hl.lit, rowsOf, dataOf, baseOf, moreOf, setRow, orC]; rfl) ?_))
    refine HT_block (HT_loop (L2 names order) (fun k => k ≤ order.length ∧ ∀ p ∈ order.take k, (inB names.length p.1 && inB names.length p.2) = true) (fun k => order.length - k) 0 ⟨Nat.zero_le _, by simp⟩ ?_ ?_)
    · refine le_trans (le_frz 1000 rfl) (le_trans (le_frzP 1002 rfl) (le_mk (fun n => n) [] rfl ?_ ?_ ?_))
      · simp [allL, ins, RV.okNil, TV.okNil, CV.okNil, Ob.okNil, RV.ren, TV.ren, CV.ren, Ob.ren, pinR, opd, lkp, nilS, CV.frz, TV.frz, RV.frz, Ob.frz, HS.frz, mapL, del, L2, li, i64, nsC, orC, sC]
      · simp [allL, ins, RV.okNil, TV.okNil, CV.okNil, Ob.okNil, RV.ren, TV.ren, CV.ren, Ob.ren, pinR, opd, lkp, nilS, CV.frz, TV.frz, RV.frz, Ob.frz, HS.frz, mapL, del, L2, nsC, nrow]
      · simp [allL, ins, RV.okNil, TV.okNil, CV.okNil, Ob.okNil, RV.ren, TV.ren, CV.ren, Ob.ren, pinR, opd, lkp, nilS, CV.frz, TV.frz, RV.frz, Ob.frz, HS.frz, mapL, del, L2]
    rintro k ⟨hk2, hall⟩
    simp only [L2]
    refine HT_seq (HT_run (by simp [evs, evc, evcS, okCall, brw, brwL, brwT, brwA, frzC, frzL, frzP, matC, calleeOf, RV.ownB, CV.ownB, RV.onlyB, TV.onlyB, CV.onlyB, HS.made, impB_self, impB_true, impB_false, impB_one, impB_and, impB_and2, impB_imp, pickB_or, pickB_and, pickB_true, pickB_false, wpR, gdOf, clsOf, stpF, stpG, strip, gdR, ungd_true, litG_ungd, litG_lit, litG_gd, litG_any, litG_sl, litG_ptr, litG_own, litG_at, litG_agg, evOp, evN, evA, evR, evW, evBin, evUn, evStr, evNil, evAgg, intsL, ptrish, nilPtr, capsOf, ownOf, matApp, mapOf, mapRes, cellsOf, opd, lkp, ins, del, HS.put, okDst, unmB, sortB, RV.menB, TV.menB, CV.menB, Ob.menB, CV.cell, CD.cell, Value.oneCell', thenQ, blockQ, loopQ, constRV, fieldOf, elemTy, idxArr, arrOf, partOf, litOf, Hl.lit, rowsOf, dataOf, baseOf, moreOf, setRow, li, i64]; rfl) ?_)
    refine HT_seq (HT_cond rfl (fun h => HT_skip ?_) (fun h => HT_exit ?_))
    · have hlt : k < order.length := by simpa using h
      have hw : IntKind.i64.wrap ((k : Int) + 1) = (k : Int) + 1 := wrap_in (by omega) (by omega)
      obtain ⟨p, hp⟩ : ∃ p, order[k]? = some p := ⟨order[k], List.getElem?_eq_getElem hlt⟩
      have hh := fun a d => has_con names (.mp (idxL names)) nilC nilC nilC a d
      refine HT_seq (HT_block (HT_seq (HT_run (by simp [evs, evc, evcS, okCall, brw, brwL, brwT, brwA, frzC, frzL, frzP, matC, calleeOf, RV.ownB, CV.ownB, RV.onlyB, TV.onlyB, CV.onlyB, HS.made, impB_self, impB_true, impB_false, impB_one, impB_and, impB_and2, impB_imp, pickB_or, pickB_and, pickB_true, pickB_false, wpR, gdOf, clsOf, stpF, stpG, strip, gdR, ungd_true, litG_ungd, litG_lit, litG_gd, litG_any, litG_sl, litG_ptr, litG_own, litG_at, litG_agg, evOp, evN, evA, evR, evW, evBin, evUn, evStr, evNil, evAgg, intsL, ptrish, nilPtr, capsOf, ownOf, matApp, mapOf, mapRes, cellsOf, opd, lkp, ins, del, HS.put, okDst, unmB, sortB, RV.menB, TV.menB, CV.menB, Ob.menB, CV.cell, CD.cell, Value.oneCell', thenQ, blockQ, loopQ, constRV, fieldOf, elemTy, idxArr, arrOf, partOf, litOf, Hl.lit, rowsOf, dataOf, baseOf, moreOf, setRow, orC, hp, i64]; rfl) ?_)))
      refine HT_seq (HT_runc [⟨true, .v (lb (inB names.length p.1)), none⟩, ⟨true, .v (lb (inB names.length p.2)), none⟩] (by simp [evs, evc, evcS, okCall, brw, brwL, brwT, brwA, frzC, frzL, frzP, matC, calleeOf, RV.ownB, CV.ownB, RV.onlyB, TV.onlyB, CV.onlyB, HS.made, impB_self, impB_true, impB_false, impB_one, impB_and, impB_and2, impB_imp, pickB_or, pickB_and, pickB_true, pickB_false, wpR, gdOf, clsOf, stpF, stpG, strip, gdR, ungd_true, litG_ungd, litG_lit, litG_gd, litG_any, litG_sl, litG_ptr, litG_own, litG_at, litG_agg, evOp, evN, evA, evR, evW, evBin, evUn, evStr, evNil, evAgg, intsL, ptrish, nilPtr, capsOf, ownOf, matApp, mapOf, mapRes, cellsOf, opd, lkp, ins, del, HS.put, okDst, unmB, sortB, RV.menB, TV.menB, CV.menB, Ob.menB, CV.cell, CD.cell, Value.oneCell', thenQ, blockQ, loopQ, constRV, fieldOf, elemTy, idxArr, arrOf, partOf, litOf, Hl.lit, rowsOf, dataOf, baseOf, moreOf, setRow, nsC, nilC, lb, bC]; first | exact ⟨rfl, Iff.rfl⟩ | rfl) ?_ ?_)
      · constructor
        · simpa only [latD, nsC, nilC, li, i64, lb, bC] using hh p.1 _
        · simpa only [latD, nsC, nilC, li, i64, lb, bC] using hh p.2 _
      refine HT_cond rfl (fun h => ?_) (fun hc2 => HT_skip ?_)
      · refine HT_seq (HT_run (by simp [evs, evc, evcS, okCall, brw, brwL, brwT, brwA, frzC, frzL, frzP, matC, calleeOf, RV.ownB, CV.ownB, RV.onlyB, TV.onlyB, CV.onlyB, HS.made, impB_self, impB_true, impB_false, impB_one, impB_and, impB_and2, impB_imp, pickB_or, pickB_and, pickB_true, pickB_false, wpR, gdOf, clsOf, stpF, stpG, strip, gdR, ungd_true, litG_ungd, litG_lit, litG_gd, litG_any, litG_sl, litG_ptr, litG_own, litG_at, litG_agg, evOp, evN, evA, evR, evW, evBin, evUn, evStr, evNil, evAgg, intsL, ptrish, nilPtr, capsOf, ownOf, matApp, mapOf, mapRes, cellsOf, opd, lkp, ins, del, HS.put, okDst, unmB, sortB, RV.menB, TV.menB, CV.menB, Ob.menB, CV.cell, CD.cell, Value.oneCell', thenQ, blockQ, loopQ, constRV, fieldOf, elemTy, idxArr, arrOf, partOf, litOf, Hl.lit, rowsOf, dataOf, baseOf, moreOf, setRow]; rfl) ?_)
        have ho : ordOk names.length order = false := by
          unfold ordOk
          rw [List.all_eq_false]
          refine ⟨p, List.mem_of_getElem? hp, ?_⟩
          cases h3 : inB names.length p.1 <;> cases h4 : inB names.length p.2 <;> simp_all
        rw [if_pos ho] at hrf
        subst hrf
        rw [if_neg (by decide)] at hrr
        rw [hrr]
        exact HT_ret ⟨.inr rfl, _, le_refl _, ⟨_, rfl, rfl⟩, by simp, by simp⟩
      · refine HT_run (by simp [evs, evc, evcS, okCall, brw, brwL, brwT, brwA, frzC, frzL, frzP, matC, calleeOf, RV.ownB, CV.ownB, RV.onlyB, TV.onlyB, CV.onlyB, HS.made, impB_self, impB_true, impB_false, impB_one, impB_and, impB_and2, impB_imp, pickB_or, pickB_and, pickB_true, pickB_false, wpR, gdOf, clsOf, stpF, stpG, strip, gdR, ungd_true, litG_ungd, litG_lit, litG_gd, litG_any, litG_sl, litG_ptr, litG_own, litG_at, litG_agg, evOp, evN, evA, evR, evW, evBin, evUn, evStr, evNil, evAgg, intsL, ptrish, nilPtr, capsOf, ownOf, matApp, mapOf, mapRes, cellsOf, opd, lkp, ins, del, HS.put, okDst, unmB, sortB, RV.menB, TV.menB, CV.menB, Ob.menB, CV.cell, CD.cell, Value.oneCell', thenQ, blockQ, loopQ, constRV, fieldOf, elemTy, idxArr, arrOf, partOf, litOf, Hl.lit, rowsOf, dataOf, baseOf, moreOf, setRow, hw]; rfl) ?_
        refine ⟨k + 1, ⟨hlt, fun q hq => ?_⟩, by omega, ?_⟩
        · rw [List.take_add_one, hp] at hq
          rcases List.mem_append.1 hq with hq | hq
          · exact hall q hq
          · simp only [Option.toList_some, List.mem_singleton] at hq
            subst hq
            cases h3 : inB names.length q.1 <;> cases h4 : inB names.length q.2 <;> simp_all
        · exact le_mk (fun n => n) [] rfl (by simp [allL, ins, RV.okNil, TV.okNil, CV.okNil, Ob.okNil, RV.ren, TV.ren, CV.ren, Ob.ren, pinR, opd, lkp, nilS, CV.frz, TV.frz, RV.frz, Ob.frz, HS.frz, mapL, del, L2, li, i64, nsC, orC, hw]) (by simp [allL, ins, RV.okNil, TV.okNil, CV.okNil, Ob.okNil, RV.ren, TV.ren, CV.ren, Ob.ren, pinR, opd, lkp, nilS, CV.frz, TV.frz, RV.frz, Ob.frz, HS.frz, mapL, del, L2, nsC, nilC]) (by simp [allL, ins, RV.okNil, TV.okNil, CV.okNil, Ob.okNil, RV.ren, TV.ren, CV.ren, Ob.ren, pinR, opd, lkp, nilS, CV.frz, TV.frz, RV.frz, Ob.frz, HS.frz, mapL, del, L2])
    · have hkl : k = order.length := by simp at h; omega
      subst hkl
      rw [List.take_length] at hall
      have ho : ordOk names.length order = true := by
        unfold ordOk
        rw [List.all_eq_true]
        exact hall
      rw [if_neg (by rw [ho]; simp)] at hrf
      have hord : ∀ p ∈ order, (0 ≤ p.1 ∧ p.1 < names.length) ∧ 0 ≤ p.2 ∧ p.2 < names.length := by
        intro p hp
        have := hall p hp
        simpa [inB] using this
      have hcl := close_con names names.length rfl hn.2 order hlen hord (.mp (idxL names)) nilC nilC nilC
      have hbn := bounds_con names names.length rfl hn.2 (closeM names.length order) (idxL names)
      have hlat : latO names order = latD names (.mp (idxL names)) (matB names.length (closeM names.length order)) (.sl 1 (rowsJ names.length (bndI names.length (closeM names.length order)) names.length)) (.sl 1 (rowsJ names.length (bndI names.length (flp (closeM names.length order))) names.length)) := rfl
      rw [hlat] at hrr
      generalize closeM names.length order = M at *
      refine HT_seq (HT_runIO 2 (.tup []) _ rfl (by simp [evs, evc, evcS, okCall, brw, brwL, brwT, brwA, frzC, frzL, frzP, matC, calleeOf, RV.ownB, CV.ownB, RV.onlyB, TV.onlyB, CV.onlyB, HS.made, impB_self, impB_true, impB_false, impB_one, impB_and, impB_and2, impB_imp, pickB_or, pickB_and, pickB_true, pickB_false, wpR, gdOf, clsOf, stpF, stpG, strip, gdR, ungd_true, litG_ungd, litG_lit, litG_gd, litG_any, litG_sl, litG_ptr, litG_own, litG_at, litG_agg, evOp, evN, evA, evR, evW, evBin, evUn, evStr, evNil, evAgg, intsL, ptrish, nilPtr, capsOf, ownOf, matApp, mapOf, mapRes, cellsOf, opd, lkp, ins, del, HS.put, okDst, unmB, sortB, RV.menB, TV.menB, CV.menB, Ob.menB, CV.cell, CD.cell, Value.oneCell', thenQ, blockQ, loopQ, constRV, fieldOf, elemTy, idxArr, arrOf, partOf, litOf, Hl.lit, rowsOf, dataOf, baseOf, moreOf, setRow, orC]; rfl) (by simp [ioOf, evs, evc, evcS, okCall, brw, brwL, brwT, brwA, frzC, frzL, frzP, matC, calleeOf, RV.ownB, CV.ownB, RV.onlyB, TV.onlyB, CV.onlyB, HS.made, impB_self, impB_true, impB_false, impB_one, impB_and, impB_and2, impB_imp, pickB_or, pickB_and, pickB_true, pickB_false, wpR, gdOf, clsOf, stpF, stpG, strip, gdR, ungd_true, litG_ungd, litG_lit, litG_gd, litG_any, litG_sl, litG_ptr, litG_own, litG_at, litG_agg, evOp, evN, evA, evR, evW, evBin, evUn, evStr, evNil, evAgg, intsL, ptrish, nilPtr, capsOf, ownOf, matApp, mapOf, mapRes, cellsOf, opd, lkp, ins, del, HS.put, okDst, unmB, sortB, RV.menB, TV.menB, CV.menB, Ob.menB, CV.cell, CD.cell, Value.oneCell', thenQ, blockQ, loopQ, constRV, fieldOf, elemTy, idxArr, arrOf, partOf, litOf, Hl.lit, rowsOf, dataOf, baseOf, moreOf, setRow, nsC, nilC]; exact ⟨rfl, rfl, rfl, rfl, rfl⟩) (by simpa only [nsC, orC, nilC, i64] using hcl) rfl (by simp [evs, evc, evcS, okCall, brw, brwL, brwT, brwA, frzC, frzL, frzP, matC, calleeOf, RV.ownB, CV.ownB, RV.onlyB, TV.onlyB, CV.onlyB, HS.made, impB_self, impB_true, impB_false, impB_one, impB_and, impB_and2, impB_imp, pickB_or, pickB_and, pickB_true, pickB_false, wpR, gdOf, clsOf, stpF, stpG, strip, gdR, ungd_true, litG_ungd, litG_lit, litG_gd, litG_any, litG_sl, litG_ptr, litG_own, litG_at, litG_agg, evOp, evN, evA, evR, evW, evBin, evUn, evStr, evNil, evAgg, intsL, ptrish, nilPtr, capsOf, ownOf, matApp, mapOf, mapRes, cellsOf, opd, lkp, ins, del, HS.put, okDst, unmB, sortB, RV.menB, TV.menB, CV.menB, Ob.menB, CV.cell, CD.cell, Value.oneCell', thenQ, blockQ, loopQ, constRV, fieldOf, elemTy, idxArr, arrOf, partOf, litOf, Hl.lit, rowsOf, dataOf, baseOf, moreOf, setRow]; rfl) ?_)
      refine HT_seq (HT_seq (HT_run (by simp [evs, evc, evcS, okCall, brw, brwL, brwT, brwA, frzC, frzL, frzP, matC, calleeOf, RV.ownB, CV.ownB, RV.onlyB, TV.onlyB, CV.onlyB, HS.made, impB_self, impB_true, impB_false, impB_one, impB_and, impB_and2, impB_imp, pickB_or, pickB_and, pickB_true, pickB_false, wpR, gdOf, clsOf, stpF, stpG, strip, gdR, ungd_true, litG_ungd, litG_lit, litG_gd, litG_any, litG_sl, litG_ptr, litG_own, litG_at, litG_agg, evOp, evN, evA, evR, evW, evBin, evUn, evStr, evNil, evAgg, intsL, ptrish, nilPtr, capsOf, ownOf, matApp, mapOf, mapRes, cellsOf, opd, lkp, ins, del, HS.put, okDst, unmB, sortB, RV.menB, TV.menB, CV.menB, Ob.menB, CV.cell, CD.cell, Value.oneCell', thenQ, blockQ, loopQ, constRV, fieldOf, elemTy, idxArr, arrOf, partOf, litOf, Hl.lit, rowsOf, dataOf, baseOf, moreOf, setRow, nsC]; rfl) ?_))
      refine HT_block (HT_loop (L3 names M) (fun a => a ≤ names.length ∧ ∀ x, x < a → ((List.range x).all fun b => !(M x b && M b x)) = true) (fun a => names.length - a) 0 ⟨Nat.zero_le _, by simp⟩ ?_ ?_)
      · exact le_mk (fun n => n) [] rfl (by simp [allL, ins, RV.okNil, TV.okNil, CV.okNil, Ob.okNil, RV.ren, TV.ren, CV.ren, Ob.ren, pinR, opd, lkp, nilS, CV.frz, TV.frz, RV.frz, Ob.frz, HS.frz, mapL, del, L3, li, i64]) (by simp [allL, ins, RV.okNil, TV.okNil, CV.okNil, Ob.okNil, RV.ren, TV.ren, CV.ren, Ob.ren, pinR, opd, lkp, nilS, CV.frz, TV.frz, RV.frz, Ob.frz, HS.frz, mapL, del, L3, nsC, nilC]) (by simp [allL, ins, RV.okNil, TV.okNil, CV.okNil, Ob.okNil, RV.ren, TV.ren, CV.ren, Ob.ren, pinR, opd, lkp, nilS, CV.frz, TV.frz, RV.frz, Ob.frz, HS.frz, mapL, del, L3])
      rintro a ⟨ha, han⟩
      simp only [L3]
      refine HT_seq (HT_run (by simp [evs, evc, evcS, okCall, brw, brwL, brwT, brwA, frzC, frzL, frzP, matC, calleeOf, RV.ownB, CV.ownB, RV.onlyB, TV.onlyB, CV.onlyB, HS.made, impB_self, impB_true, impB_false, impB_one, impB_and, impB_and2, impB_imp, pickB_or, pickB_and, pickB_true, pickB_false, wpR, gdOf, clsOf, stpF, stpG, strip, gdR, ungd_true, litG_ungd, litG_lit, litG_gd, litG_any, litG_sl, litG_ptr, litG_own, litG_at, litG_agg, evOp, evN, evA, evR, evW, evBin, evUn, evStr, evNil, evAgg, intsL, ptrish, nilPtr, capsOf, ownOf, matApp, mapOf, mapRes, cellsOf, opd, lkp, ins, del, HS.put, okDst, unmB, sortB, RV.menB, TV.menB, CV.menB, Ob.menB, CV.cell, CD.cell, Value.oneCell', thenQ, blockQ, loopQ, constRV, fieldOf, elemTy, idxArr, arrOf, partOf, litOf, Hl.lit, rowsOf, dataOf, baseOf, moreOf, setRow, li, i64]; rfl) ?_)
      refine HT_seq (HT_cond rfl (fun h => HT_skip ?_) (fun h => HT_exit ?_))
      · have hla : a < names.length := by simpa using h
        have hwa : IntKind.i64.wrap ((a : Int) + 1) = (a : Int) + 1 := wrap_in (by omega) (by omega)
        refine HT_seq (HT_block (HT_seq (HT_run (by simp [evs, evc, evcS, okCall, brw, brwL, brwT, brwA, frzC, frzL, frzP, matC, calleeOf, RV.ownB, CV.ownB, RV.onlyB, TV.onlyB, CV.onlyB, HS.made, impB_self, impB_true, impB_false, impB_one, impB_and, impB_and2, impB_imp, pickB_or, pickB_and, pickB_true, pickB_false, wpR, gdOf, clsOf, stpF, stpG, strip, gdR, ungd_true, litG_ungd, litG_lit, litG_gd, litG_any, litG_sl, litG_ptr, litG_own, litG_at, litG_agg, evOp, evN, evA, evR, evW, evBin, evUn, evStr, evNil, evAgg, intsL, ptrish, nilPtr, capsOf, ownOf, matApp, mapOf, mapRes, cellsOf, opd, lkp, ins, del, HS.put, okDst, unmB, sortB, RV.menB, TV.menB, CV.menB, Ob.menB, CV.cell, CD.cell, Value.oneCell', thenQ, blockQ, loopQ, constRV, fieldOf, elemTy, idxArr, arrOf, partOf, litOf, Hl.lit, rowsOf, dataOf, baseOf, moreOf, setRow]; rfl) ?_)))
        refine HT_seq (HT_run (by simp [evs, evc, evcS, okCall, brw, brwL, brwT, brwA, frzC, frzL, frzP, matC, calleeOf, RV.ownB, CV.ownB, RV.onlyB, TV.onlyB, CV.onlyB, HS.made, impB_self, impB_true, impB_false, impB_one, impB_and, impB_and2, impB_imp, pickB_or, pickB_and, pickB_true, pickB_false, wpR, gdOf, clsOf, stpF, stpG, strip, gdR, ungd_true, litG_ungd, litG_lit, litG_gd, litG_any, litG_sl, litG_ptr, litG_own, litG_at, litG_agg, evOp, evN, evA, evR, evW, evBin, evUn, evStr, evNil, evAgg, intsL, ptrish, nilPtr, capsOf, ownOf, matApp, mapOf, mapRes, cellsOf, opd, lkp, ins, del, HS.put, okDst, unmB, sortB, RV.menB, TV.menB, CV.menB, Ob.menB, CV.cell, CD.cell, Value.oneCell', thenQ, blockQ, loopQ, constRV, fieldOf, elemTy, idxArr, arrOf, partOf, litOf, Hl.lit, rowsOf, dataOf, baseOf, moreOf, setRow]; rfl) ?_)
        refine HT_block (HT_loop (L4 names M a) (fun b => b ≤ a ∧ ∀ x, x < b → (!(M a x && M x a)) = true) (fun b => a - b) 0 ⟨Nat.zero_le _, by simp⟩ ?_ ?_)
        · exact le_mk (fun n => n) [] rfl (by simp [allL, ins, RV.okNil, TV.okNil, CV.okNil, Ob.okNil, RV.ren, TV.ren, CV.ren, Ob.ren, pinR, opd, lkp, nilS, CV.frz, TV.frz, RV.frz, Ob.frz, HS.frz, mapL, del, L4, li, i64]) (by simp [allL, ins, RV.okNil, TV.okNil, CV.okNil, Ob.okNil, RV.ren, TV.ren, CV.ren, Ob.ren, pinR, opd, lkp, nilS, CV.frz, TV.frz, RV.frz, Ob.frz, HS.frz, mapL, del, L4]) (by simp [allL, ins, RV.okNil, TV.okNil, CV.okNil, Ob.okNil, RV.ren, TV.ren, CV.ren, Ob.ren, pinR, opd, lkp, nilS, CV.frz, TV.frz, RV.frz, Ob.frz, HS.frz, mapL, del, L4])
        rintro b ⟨hb, hbn2⟩
        simp only [L4]
        refine HT_seq (HT_run (by simp [evs, evc, evcS, okCall, brw, brwL, brwT, brwA, frzC, frzL, frzP, matC, calleeOf, RV.ownB, CV.ownB, RV.onlyB, TV.onlyB, CV.onlyB, HS.made, impB_self, impB_true, impB_false, impB_one, impB_and, impB_and2, impB_imp, pickB_or, pickB_and, pickB_true, pickB_false, wpR, gdOf, clsOf, stpF, stpG, strip, gdR, ungd_true, litG_ungd, litG_lit, litG_gd, litG_any, litG_sl, litG_ptr, litG_own, litG_at, litG_agg, evOp, evN, evA, evR, evW, evBin, evUn, evStr, evNil, evAgg, intsL, ptrish, nilPtr, capsOf, ownOf, matApp, mapOf, mapRes, cellsOf, opd, lkp, ins, del, HS.put, okDst, unmB, sortB, RV.menB, TV.menB, CV.menB, Ob.menB, CV.cell, CD.cell, Value.oneCell', thenQ, blockQ, loopQ, constRV, fieldOf, elemTy, idxArr, arrOf, partOf, litOf, Hl.lit, rowsOf, dataOf, baseOf, moreOf, setRow, li, i64]; rfl) ?_)
        refine HT_seq (HT_cond rfl (fun h => HT_skip ?_) (fun h => HT_exit ?_))
        · have hlb : b < a := by simpa using h
          have hlb2 : b < names.length := by omega
          have hwb : IntKind.i64.wrap ((b : Int) + 1) = (b : Int) + 1 := wrap_in (by omega) (by omega)
          refine HT_seq (HT_block (HT_seq (HT_run (by simp [evs, evc, evcS, okCall, brw, brwL, brwT, brwA, frzC, frzL, frzP, matC, calleeOf, RV.ownB, CV.ownB, RV.onlyB, TV.onlyB, CV.onlyB, HS.made, impB_self, impB_true, impB_false, impB_one, impB_and, impB_and2, impB_imp, pickB_or, pickB_and, pickB_true, pickB_false, wpR, gdOf, clsOf, stpF, stpG, strip, gdR, ungd_true, litG_ungd, litG_lit, litG_gd, litG_any, litG_sl, litG_ptr, litG_own, litG_at, litG_agg, evOp, evN, evA, evR, evW, evBin, evUn, evStr, evNil, evAgg, intsL, ptrish, nilPtr, capsOf, ownOf, matApp, mapOf, mapRes, cellsOf, opd, lkp, ins, del, HS.put, okDst, unmB, sortB, RV.menB, TV.menB, CV.menB, Ob.menB, CV.cell, CD.cell, Value.oneCell', thenQ, blockQ, loopQ, constRV, fieldOf, elemTy, idxArr, arrOf, partOf, litOf, Hl.lit, rowsOf, dataOf, baseOf, moreOf, setRow]; rfl) ?_)))
          refine HT_seq (HT_run (by simp [evs, evc, evcS, okCall, brw, brwL, brwT, brwA, frzC, frzL, frzP, matC, calleeOf, RV.ownB, CV.ownB, RV.onlyB, TV.onlyB, CV.onlyB, HS.made, impB_self, impB_true, impB_false, impB_one, impB_and, impB_and2, impB_imp, pickB_or, pickB_and, pickB_true, pickB_false, wpR, gdOf, clsOf, stpF, stpG, strip, gdR, ungd_true, litG_ungd, litG_lit, litG_gd, litG_any, litG_sl, litG_ptr, litG_own, litG_at, litG_agg, evOp, evN, evA, evR, evW, evBin, evUn, evStr, evNil, evAgg, intsL, ptrish, nilPtr, capsOf, ownOf, matApp, mapOf, mapRes, cellsOf, opd, lkp, ins, del, HS.put, okDst, unmB, sortB, RV.menB, TV.menB, CV.menB, Ob.menB, CV.cell, CD.cell, Value.oneCell', thenQ, blockQ, loopQ, constRV, fieldOf, elemTy, idxArr, arrOf, partOf, litOf, Hl.lit, rowsOf, dataOf, baseOf, moreOf, setRow, matB, hla, hlb2, rowB_get hla, rowB_get hlb2, bC]; rfl) ?_)
          refine HT_cond rfl (fun h => ?_) (fun hc2 => HT_skip ?_)
          · refine HT_seq (HT_run (by simp [evs, evc, evcS, okCall, brw, brwL, brwT, brwA, frzC, frzL, frzP, matC, calleeOf, RV.ownB, CV.ownB, RV.onlyB, TV.onlyB, CV.onlyB, HS.made, impB_self, impB_true, impB_false, impB_one, impB_and, impB_and2, impB_imp, pickB_or, pickB_and, pickB_true, pickB_false, wpR, gdOf, clsOf, stpF, stpG, strip, gdR, ungd_true, litG_ungd, litG_lit, litG_gd, litG_any, litG_sl, litG_ptr, litG_own, litG_at, litG_agg, evOp, evN, evA, evR, evW, evBin, evUn, evStr, evNil, evAgg, intsL, ptrish, nilPtr, capsOf, ownOf, matApp, mapOf, mapRes, cellsOf, opd, lkp, ins, del, HS.put, okDst, unmB, sortB, RV.menB, TV.menB, CV.menB, Ob.menB, CV.cell, CD.cell, Value.oneCell', thenQ, blockQ, loopQ, constRV, fieldOf, elemTy, idxArr, arrOf, partOf, litOf, Hl.lit, rowsOf, dataOf, baseOf, moreOf, setRow]; rfl) ?_)
            have hx : antiB names.length M = false := by
              unfold antiB
              rw [List.all_eq_false]
              refine ⟨a, by simpa using hla, ?_⟩
              simp only [Bool.not_eq_true, List.all_eq_false]
              refine ⟨b, by simpa using hlb, ?_⟩
              have h' : (M a b && M b a) = true := h
              rw [h']; simp
            rw [if_pos hx] at hrf
            subst hrf
            rw [if_neg (by decide)] at hrr
            rw [hrr]
            exact HT_ret ⟨.inr rfl, _, le_refl _, ⟨_, rfl, rfl⟩, by simp, by simp⟩
          · refine HT_run (by simp [evs, evc, evcS, okCall, brw, brwL, brwT, brwA, frzC, frzL, frzP, matC, calleeOf, RV.ownB, CV.ownB, RV.onlyB, TV.onlyB, CV.onlyB, HS.made, impB_self, impB_true, impB_false, impB_one, impB_and, impB_and2, impB_imp, pickB_or, pickB_and, pickB_true, pickB_false, wpR, gdOf, clsOf, stpF, stpG, strip, gdR, ungd_true, litG_ungd, litG_lit, litG_gd, litG_any, litG_sl, litG_ptr, litG_own, litG_at, litG_agg, evOp, evN, evA, evR, evW, evBin, evUn, evStr, evNil, evAgg, intsL, ptrish, nilPtr, capsOf, ownOf, matApp, mapOf, mapRes, cellsOf, opd, lkp, ins, del, HS.put, okDst, unmB, sortB, RV.menB, TV.menB, CV.menB, Ob.menB, CV.cell, CD.cell, Value.oneCell', thenQ, blockQ, loopQ, constRV, fieldOf, elemTy, idxArr, arrOf, partOf, litOf, Hl.lit, rowsOf, dataOf, baseOf, moreOf, setRow, hwb]; rfl) ?_
            refine ⟨b + 1, ⟨hlb, fun x hx => ?_⟩, by omega, ?_⟩
            · by_cases e : x = b
              · subst e
                have h' : (M a x && M x a) = false := hc2
                rw [h']; rfl
              · exact hbn2 x (by omega)
            · exact le_mk (fun n => n) [] rfl (by simp [allL, ins, RV.okNil, TV.okNil, CV.okNil, Ob.okNil, RV.ren, TV.ren, CV.ren, Ob.ren, pinR, opd, lkp, nilS, CV.frz, TV.frz, RV.frz, Ob.frz, HS.frz, mapL, del, L4, li, i64, hwb]) (by simp [allL, ins, RV.okNil, TV.okNil, CV.okNil, Ob.okNil, RV.ren, TV.ren, CV.ren, Ob.ren, pinR, opd, lkp, nilS, CV.frz, TV.frz, RV.frz, Ob.frz, HS.frz, mapL, del, L4, matB]) (by simp [allL, ins, RV.okNil, TV.okNil, CV.okNil, Ob.okNil, RV.ren, TV.ren, CV.ren, Ob.ren, pinR, opd, lkp, nilS, CV.frz, TV.frz, RV.frz, Ob.frz, HS.frz, mapL, del, L4])
        · have hba : b = a := by simp at h; omega
          subst hba
          refine HT_run (by simp [evs, evc, evcS, okCall, brw, brwL, brwT, brwA, frzC, frzL, frzP, matC, calleeOf, RV.ownB, CV.ownB, RV.onlyB, TV.onlyB, CV.onlyB, HS.made, impB_self, impB_true, impB_false, impB_one, impB_and, impB_and2, impB_imp, pickB_or, pickB_and, pickB_true, pickB_false, wpR, gdOf, clsOf, stpF, stpG, strip, gdR, ungd_true, litG_ungd, litG_lit, litG_gd, litG_any, litG_sl, litG_ptr, litG_own, litG_at, litG_agg, evOp, evN, evA, evR, evW, evBin, evUn, evStr, evNil, evAgg, intsL, ptrish, nilPtr, capsOf, ownOf, matApp, mapOf, mapRes, cellsOf, opd, lkp, ins, del, HS.put, okDst, unmB, sortB, RV.menB, TV.menB, CV.menB, Ob.menB, CV.cell, CD.cell, Value.oneCell', thenQ, blockQ, loopQ, constRV, fieldOf, elemTy, idxArr, arrOf, partOf, litOf, Hl.lit, rowsOf, dataOf, baseOf, moreOf, setRow, hwa]; rfl) ?_
          refine ⟨b + 1, ⟨hla, fun x hx => ?_⟩, by omega, ?_⟩
          · by_cases e : x = b
            · subst e
              rw [List.all_eq_true]
              intro y hy
              exact hbn2 y (by simpa using hy)
            · exact han x (by omega)
          · exact le_mk (fun n => n) [] rfl (by simp [allL, ins, RV.okNil, TV.okNil, CV.okNil, Ob.okNil, RV.ren, TV.ren, CV.ren, Ob.ren, pinR, opd, lkp, nilS, CV.frz, TV.frz, RV.frz, Ob.frz, HS.frz, mapL, del, L3, li, i64, hwa]) (by simp [allL, ins, RV.okNil, TV.okNil, CV.okNil, Ob.okNil, RV.ren, TV.ren, CV.ren, Ob.ren, pinR, opd, lkp, nilS, CV.frz, TV.frz, RV.frz, Ob.frz, HS.frz, mapL, del, L3]) (by simp [allL, ins, RV.okNil, TV.okNil, CV.okNil, Ob.okNil, RV.ren, TV.ren, CV.ren, Ob.ren, pinR, opd, lkp, nilS, CV.frz, TV.frz, RV.frz, Ob.frz, HS.frz, mapL, del, L3])
      · have hak : a = names.length := by simp at h; omega
        subst hak
        have hx : antiB names.length M = true := by
          unfold antiB
          rw [List.all_eq_true]
          intro x hx
          exact han x (by simpa using hx)
        rw [if_neg (by rw [hx]; simp)] at hrf
        refine HT_seq (HT_seq (HT_runIO 1 (.v (lb (decide (badRow names.length M = names.length)))) _ rfl (by simp [evs, evc, evcS, okCall, brw, brwL, brwT, brwA, frzC, frzL, frzP, matC, calleeOf, RV.ownB, CV.ownB, RV.onlyB, TV.onlyB, CV.onlyB, HS.made, impB_self, impB_true, impB_false, impB_one, impB_and, impB_and2, impB_imp, pickB_or, pickB_and, pickB_true, pickB_false, wpR, gdOf, clsOf, stpF, stpG, strip, gdR, ungd_true, litG_ungd, litG_lit, litG_gd, litG_any, litG_sl, litG_ptr, litG_own, litG_at, litG_agg, evOp, evN, evA, evR, evW, evBin, evUn, evStr, evNil, evAgg, intsL, ptrish, nilPtr, capsOf, ownOf, matApp, mapOf, mapRes, cellsOf, opd, lkp, ins, del, HS.put, okDst, unmB, sortB, RV.menB, TV.menB, CV.menB, Ob.menB, CV.cell, CD.cell, Value.oneCell', thenQ, blockQ, loopQ, constRV, fieldOf, elemTy, idxArr, arrOf, partOf, litOf, Hl.lit, rowsOf, dataOf, baseOf, moreOf, setRow]; rfl) (by simp [ioOf, evs, evc, evcS, okCall, brw, brwL, brwT, brwA, frzC, frzL, frzP, matC, calleeOf, RV.ownB, CV.ownB, RV.onlyB, TV.onlyB, CV.onlyB, HS.made, impB_self, impB_true, impB_false, impB_one, impB_and, impB_and2, impB_imp, pickB_or, pickB_and, pickB_true, pickB_false, wpR, gdOf, clsOf, stpF, stpG, strip, gdR, ungd_true, litG_ungd, litG_lit, litG_gd, litG_any, litG_sl, litG_ptr, litG_own, litG_at, litG_agg, evOp, evN, evA, evR, evW, evBin, evUn, evStr, evNil, evAgg, intsL, ptrish, nilPtr, capsOf, ownOf, matApp, mapOf, mapRes, cellsOf, opd, lkp, ins, del, HS.put, okDst, unmB, sortB, RV.menB, TV.menB, CV.menB, Ob.menB, CV.cell, CD.cell, Value.oneCell', thenQ, blockQ, loopQ, constRV, fieldOf, elemTy, idxArr, arrOf, partOf, litOf, Hl.lit, rowsOf, dataOf, baseOf, moreOf, setRow, nsC, nilC]; exact ⟨rfl, rfl, rfl, rfl, rfl⟩) (by simpa only [nsC, nilC, nilS] using hbn) rfl (by simp [evs, evc, evcS, okCall, brw, brwL, brwT, brwA, frzC, frzL, frzP, matC, calleeOf, RV.ownB, CV.ownB, RV.onlyB, TV.onlyB, CV.onlyB, HS.made, impB_self, impB_true, impB_false, impB_one, impB_and, impB_and2, impB_imp, pickB_or, pickB_and, pickB_true, pickB_false, wpR, gdOf, clsOf, stpF, stpG, strip, gdR, ungd_true, litG_ungd, litG_lit, litG_gd, litG_any, litG_sl, litG_ptr, litG_own, litG_at, litG_agg, evOp, evN, evA, evR, evW, evBin, evUn, evStr, evNil, evAgg, intsL, ptrish, nilPtr, capsOf, ownOf, matApp, mapOf, mapRes, cellsOf, opd, lkp, ins, del, HS.put, okDst, unmB, sortB, RV.menB, TV.menB, CV.menB, Ob.menB, CV.cell, CD.cell, Value.oneCell', thenQ, blockQ, loopQ, constRV, fieldOf, elemTy, idxArr, arrOf, partOf, litOf, Hl.lit, rowsOf, dataOf, baseOf, moreOf, setRow, lb, bC]; rfl) ?_))
        refine HT_cond rfl (fun h => ?_) (fun hc2 => HT_skip ?_)
        · refine HT_seq (HT_run (by simp [evs, evc, evcS, okCall, brw, brwL, brwT, brwA, frzC, frzL, frzP, matC, calleeOf, RV.ownB, CV.ownB, RV.onlyB, TV.onlyB, CV.onlyB, HS.made, impB_self, impB_true, impB_false, impB_one, impB_and, impB_and2, impB_imp, pickB_or, pickB_and, pickB_true, pickB_false, wpR, gdOf, clsOf, stpF, stpG, strip, gdR, ungd_true, litG_ungd, litG_lit, litG_gd, litG_any, litG_sl, litG_ptr, litG_own, litG_at, litG_agg, evOp, evN, evA, evR, evW, evBin, evUn, evStr, evNil, evAgg, intsL, ptrish, nilPtr, capsOf, ownOf, matApp, mapOf, mapRes, cellsOf, opd, lkp, ins, del, HS.put, okDst, unmB, sortB, RV.menB, TV.menB, CV.menB, Ob.menB, CV.cell, CD.cell, Value.oneCell', thenQ, blockQ, loopQ, constRV, fieldOf, elemTy, idxArr, arrOf, partOf, litOf, Hl.lit, rowsOf, dataOf, baseOf, moreOf, setRow]; rfl) ?_)
          have h' : badRow names.length M ≠ names.length := by simpa using h
          rw [if_pos h'] at hrf
          subst hrf
          rw [if_neg (by decide)] at hrr
          rw [hrr]
          exact HT_ret ⟨.inr rfl, _, le_refl _, ⟨_, rfl, rfl⟩, by simp, by simp⟩
        · refine HT_seq (HT_run (by simp [evs, evc, evcS, okCall, brw, brwL, brwT, brwA, frzC, frzL, frzP, matC, calleeOf, RV.ownB, CV.ownB, RV.onlyB, TV.onlyB, CV.onlyB, HS.made, impB_self, impB_true, impB_false, impB_one, impB_and, impB_and2, impB_imp, pickB_or, pickB_and, pickB_true, pickB_false, wpR, gdOf, clsOf, stpF, stpG, strip, gdR, ungd_true, litG_ungd, litG_lit, litG_gd, litG_any, litG_sl, litG_ptr, litG_own, litG_at, litG_agg, evOp, evN, evA, evR, evW, evBin, evUn, evStr, evNil, evAgg, intsL, ptrish, nilPtr, capsOf, ownOf, matApp, mapOf, mapRes, cellsOf, opd, lkp, ins, del, HS.put, okDst, unmB, sortB, RV.menB, TV.menB, CV.menB, Ob.menB, CV.cell, CD.cell, Value.oneCell', thenQ, blockQ, loopQ, constRV, fieldOf, elemTy, idxArr, arrOf, partOf, litOf, Hl.lit, rowsOf, dataOf, baseOf, moreOf, setRow]; rfl) ?_)
          have h' : badRow names.length M = names.length := by simpa using hc2
          rw [if_neg (by rw [h']; simp)] at hrf
          subst hrf
          rw [if_pos rfl] at hrr
          rw [hrr, h']
          refine HT_ret ⟨.inr rfl, _, le_frzB 1006 rfl rfl rfl, ⟨_, rfl, ?_⟩, by simp, by simp⟩
          simp [allL, ins, RV.okNil, TV.okNil, CV.okNil, Ob.okNil, RV.ren, TV.ren, CV.ren, Ob.ren, pinR, opd, lkp, nilS, CV.frz, TV.frz, RV.frz, Ob.frz, HS.frz, mapL, del, resR, latD, nsC, li, i64]
end Go.Proofs.Ytkechegbfjggcaa
