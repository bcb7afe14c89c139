/- T9: contracts of functions of the package, used by the proof of the claimed statement. Conditions: as each theorem states. -/
import Derived.Test.YtkechegbfjggcaaT8
set_option linter.unusedSimpArgs false
set_option linter.unusedVariables false
namespace Go.Proofs.Ytkechegbfjggcaa
open Go Go.Hl

def refT (names : List ByteArray) (order : List (Int × Int)) : TV := if newC names order = 0 then latT names (closeM names.length order) else .agg [.c nilC, .c nilC]

theorem badRow_all {n : Nat} {M : Nat → Nat → Bool} (h : badRow n M = n) : ∀ a, a < n → okRow n M a = true := by
  unfold badRow at h
  cases hf : (List.range n).find? fun a => !okRow n M a with
  | none =>
    rw [List.find?_eq_none] at hf
    intro a ha
    simpa using hf a (by simpa using ha)
  | some x =>
    rw [hf] at h
    have := List.mem_of_find?_eq_some hf
    simp at this h
    omega
theorem anti_no {n a b : Nat} {M : Nat → Nat → Bool} (ha : a < n) (hb : b < n) (hne : a ≠ b) (h1 : M a b = true) (h2 : M b a = true) : antiB n M = false := by
  unfold antiB
  rw [List.all_eq_false]
  rcases Nat.lt_or_gt_of_ne hne with h | h
  · refine ⟨b, by simpa using hb, ?_⟩
    simp only [Bool.not_eq_true, List.all_eq_false]
    exact ⟨a, by simpa using h, by rw [h1, h2]; simp⟩
  · refine ⟨a, by simpa using ha, ?_⟩
    simp only [Bool.not_eq_true, List.all_eq_false]
    exact ⟨b, by simpa using h, by rw [h1, h2]; simp⟩
theorem anti_yes {n : Nat} {M : Nat → Nat → Bool} (h : ∀ a b, a < n → b < n → (!decide (a = b) && M a b && M b a) = false) : antiB n M = true := by
  unfold antiB
  rw [List.all_eq_true]
  intro a ha
  rw [List.all_eq_true]
  intro b hb
  simp only [List.mem_range] at ha hb
  have := h a b ha (by omega)
  have hne : ¬ a = b := by omega
  cases h1 : M a b <;> cases h2 : M b a <;> simp_all
theorem bndR_neg {n : Nat} {R : Nat → Nat → Bool} {a b : Nat} : (bndR n R a b < 0) ↔ bndO n R a b = none := by
  unfold bndR
  cases bndO n R a b with
  | none => simp
  | some c => simp

def P1 (names : List ByteArray) (order : List (Int × Int)) (k : Nat) : HS :=
  ⟨145, [(0, .v (.one (.c (nsC names)))), (1, .v (.one (.c (orC order)))), (4, .v (.one (.at_ 1004 0))), (6, .v (li names.length)), (7, .v (li k))], [(1004, .box [.c nilC, .c nilC])]⟩
def P2 (names : List ByteArray) (order : List (Int × Int)) (k j : Nat) : HS :=
  ⟨145, [(0, .v (.one (.c (nsC names)))), (1, .v (.one (.c (orC order)))), (4, .v (.one (.at_ 1004 0))), (6, .v (li names.length)), (7, .v (li k)), (8, .v (li j))], [(1004, .box [.c nilC, .c nilC])]⟩
def P3 (names : List ByteArray) (order : List (Int × Int)) (k : Nat) : HS :=
  ⟨145, [(0, .v (.one (.c (nsC names)))), (1, .v (.one (.c (orC order)))), (4, .v (.one (.at_ 1004 0))), (6, .v (li names.length)), (9, .v (li k))], [(1004, .box [.c nilC, .c nilC])]⟩
def P4 (names : List ByteArray) (order : List (Int × Int)) (k j : Nat) : HS :=
  ⟨145, [(0, .v (.one (.c (nsC names)))), (1, .v (.one (.c (orC order)))), (4, .v (.one (.at_ 1004 0))), (6, .v (li names.length)), (9, .v (li k)), (10, .v (li j))], [(1004, .box [.c nilC, .c nilC])]⟩
def P5 (names : List ByteArray) (M : Nat → Nat → Bool) (a : Nat) : HS :=
  ⟨145, [(4, .v (.one (.at_ 1004 0))), (6, .v (li names.length)), (11, .v (.one (.at_ 1011 0))), (12, .v (li a))], [(1004, .box [.c nilC, .c nilC]), (1011, .box [.c (nsC names), .c (matB names.length M)])]⟩
def P6 (names : List ByteArray) (M : Nat → Nat → Bool) (a b : Nat) : HS :=
  ⟨145, [(4, .v (.one (.at_ 1004 0))), (6, .v (li names.length)), (11, .v (.one (.at_ 1011 0))), (12, .v (li a)), (13, .v (li b))], [(1004, .box [.c nilC, .c nilC]), (1011, .box [.c (nsC names), .c (matB names.length M)])]⟩
def P7 (names : List ByteArray) (M : Nat → Nat → Bool) (a : Nat) : HS :=
  ⟨145, [(4, .v (.one (.at_ 1004 0))), (6, .v (li names.length)), (11, .v (.one (.at_ 1011 0))), (14, .v (li a))], [(1004, .box [.c nilC, .c nilC]), (1011, .box [.c (nsC names), .c (matB names.length M)])]⟩
def P8 (names : List ByteArray) (M : Nat → Nat → Bool) (a b : Nat) : HS :=
  ⟨145, [(4, .v (.one (.at_ 1004 0))), (6, .v (li names.length)), (11, .v (.one (.at_ 1011 0))), (14, .v (li a)), (15, .v (li b))], [(1004, .box [.c nilC, .c nilC]), (1011, .box [.c (nsC names), .c (matB names.length M)])]⟩

set_option maxRecDepth 100000 in
theorem refnew_con (names : List ByteArray) (hnl : names.length ≤ 14) (order : List (Int × Int)) (hlen : order.length ≤ 60) (d : Nat) :
    Con Try.prog 23 false [.one (.c (nsC names)), .one (.c (orC order))] (.tup [refT names order, li (newC names order)]) none d := by
  have hrf : newC names order = newC names order := rfl
  conv at hrf => rhs; unfold newC
  have hrr : refT names order = refT names order := rfl
  conv at hrr => rhs; unfold refT
  generalize newC names order = code at *
  generalize refT names order = res at *
  refine con_of_HT Try.func23 rfl (by kernel_rfl) (Nat.le_of_ble_eq_true rfl) ?_
  simp only [Try.f23]
  refine HT_seq (HT_run (by simp [evs, evc, evcS, okCall, brw, brwL, brwT, brwA, frzC, frzL, frzP, matC, calleeOf, RV.ownB, CV.ownB, RV.onlyB, TV.onlyB, CV.onlyB, HS.made, impB_self, impB_true, impB_false, impB_one, impB_and, impB_and2, impB_imp, pickB_or, pickB_and, pickB_true, pickB_false, wpR, gdOf, clsOf, stpF, stpG, strip, gdR, ungd_true, litG_ungd, litG_lit, litG_gd, litG_any, litG_sl, litG_ptr, litG_own, litG_at, litG_agg, evOp, evN, evA, evR, evW, evBin, evUn, evStr, evNil, evAgg, intsL, ptrish, nilPtr, capsOf, ownOf, matApp, mapOf, mapRes, cellsOf, opd, lkp, ins, del, HS.put, okDst, unmB, sortB, RV.menB, TV.menB, CV.menB, Ob.menB, CV.cell, CD.cell, Value.oneCell', thenQ, blockQ, loopQ, constRV, fieldOf, elemTy, idxArr, arrOf, partOf, litOf, Hl.lit, rowsOf, dataOf, baseOf, moreOf, setRow, regsOf, nsC, orC, sC, i64]; rfl) ?_)
  refine HT_seq (HT_run (by simp [evs, evc, evcS, okCall, brw, brwL, brwT, brwA, frzC, frzL, frzP, matC, calleeOf, RV.ownB, CV.ownB, RV.onlyB, TV.onlyB, CV.onlyB, HS.made, impB_self, impB_true, impB_false, impB_one, impB_and, impB_and2, impB_imp, pickB_or, pickB_and, pickB_true, pickB_false, wpR, gdOf, clsOf, stpF, stpG, strip, gdR, ungd_true, litG_ungd, litG_lit, litG_gd, litG_any, litG_sl, litG_ptr, litG_own, litG_at, litG_agg, evOp, evN, evA, evR, evW, evBin, evUn, evStr, evNil, evAgg, intsL, ptrish, nilPtr, capsOf, ownOf, matApp, mapOf, mapRes, cellsOf, opd, lkp, ins, del, HS.put, okDst, unmB, sortB, RV.menB, TV.menB, CV.menB, Ob.menB, CV.cell, CD.cell, Value.oneCell', thenQ, blockQ, loopQ, constRV, fieldOf, elemTy, idxArr, arrOf, partOf, litOf, Hl.lit, rowsOf, dataOf, baseOf, moreOf, setRow]; rfl) ?_)
  refine HT_seq (HT_seq (HT_run (by simp [evs, evc, evcS, okCall, brw, brwL, brwT, brwA, frzC, frzL, frzP, matC, calleeOf, RV.ownB, CV.ownB, RV.onlyB, TV.onlyB, CV.onlyB, HS.made, impB_self, impB_true, impB_false, impB_one, impB_and, impB_and2, impB_imp, pickB_or, pickB_and, pickB_true, pickB_false, wpR, gdOf, clsOf, stpF, stpG, strip, gdR, ungd_true, litG_ungd, litG_lit, litG_gd, litG_any, litG_sl, litG_ptr, litG_own, litG_at, litG_agg, evOp, evN, evA, evR, evW, evBin, evUn, evStr, evNil, evAgg, intsL, ptrish, nilPtr, capsOf, ownOf, matApp, mapOf, mapRes, cellsOf, opd, lkp, ins, del, HS.put, okDst, unmB, sortB, RV.menB, TV.menB, CV.menB, Ob.menB, CV.cell, CD.cell, Value.oneCell', thenQ, blockQ, loopQ, constRV, fieldOf, elemTy, idxArr, arrOf, partOf, litOf, Hl.lit, rowsOf, dataOf, baseOf, moreOf, setRow]; rfl) ?_))
  refine HT_cond rfl (fun h => ?_) (fun hcd => HT_skip ?_)
  · refine HT_seq (HT_run (by simp [evs, evc, evcS, okCall, brw, brwL, brwT, brwA, frzC, frzL, frzP, matC, calleeOf, RV.ownB, CV.ownB, RV.onlyB, TV.onlyB, CV.onlyB, HS.made, impB_self, impB_true, impB_false, impB_one, impB_and, impB_and2, impB_imp, pickB_or, pickB_and, pickB_true, pickB_false, wpR, gdOf, clsOf, stpF, stpG, strip, gdR, ungd_true, litG_ungd, litG_lit, litG_gd, litG_any, litG_sl, litG_ptr, litG_own, litG_at, litG_agg, evOp, evN, evA, evR, evW, evBin, evUn, evStr, evNil, evAgg, intsL, ptrish, nilPtr, capsOf, ownOf, matApp, mapOf, mapRes, cellsOf, opd, lkp, ins, del, HS.put, okDst, unmB, sortB, RV.menB, TV.menB, CV.menB, Ob.menB, CV.cell, CD.cell, Value.oneCell', thenQ, blockQ, loopQ, constRV, fieldOf, elemTy, idxArr, arrOf, partOf, litOf, Hl.lit, rowsOf, dataOf, baseOf, moreOf, setRow]; rfl) ?_)
    have h' : names.length = 0 ∨ 12 < names.length := by simp at h; omega
    rw [if_pos h'] at hrf
    subst hrf
    rw [if_neg (by decide)] at hrr
    rw [hrr]
    exact HT_ret ⟨.inr rfl, _, le_refl _, ⟨_, by simp [resL, resT, evs, evc, evcS, okCall, brw, brwL, brwT, brwA, frzC, frzL, frzP, matC, calleeOf, RV.ownB, CV.ownB, RV.onlyB, TV.onlyB, CV.onlyB, HS.made, impB_self, impB_true, impB_false, impB_one, impB_and, impB_and2, impB_imp, pickB_or, pickB_and, pickB_true, pickB_false, wpR, gdOf, clsOf, stpF, stpG, strip, gdR, ungd_true, litG_ungd, litG_lit, litG_gd, litG_any, litG_sl, litG_ptr, litG_own, litG_at, litG_agg, evOp, evN, evA, evR, evW, evBin, evUn, evStr, evNil, evAgg, intsL, ptrish, nilPtr, capsOf, ownOf, matApp, mapOf, mapRes, cellsOf, opd, lkp, ins, del, HS.put, okDst, unmB, sortB, RV.menB, TV.menB, CV.menB, Ob.menB, CV.cell, CD.cell, Value.oneCell', thenQ, blockQ, loopQ, constRV, fieldOf, elemTy, idxArr, arrOf, partOf, litOf, Hl.lit, rowsOf, dataOf, baseOf, moreOf, setRow]; rfl, by simp [resR, nilC, li, i64]⟩, by simp, by simp⟩
  have hn : 1 ≤ names.length ∧ names.length ≤ 12 := by simp at hcd; omega
  rw [if_neg (show ¬ (names.length = 0 ∨ 12 < names.length) by omega)] at hrf
  refine HT_seq (HT_seq (HT_run (by simp [evs, evc, evcS, okCall, brw, brwL, brwT, brwA, frzC, frzL, frzP, matC, calleeOf, RV.ownB, CV.ownB, RV.onlyB, TV.onlyB, CV.onlyB, HS.made, impB_self, impB_true, impB_false, impB_one, impB_and, impB_and2, impB_imp, pickB_or, pickB_and, pickB_true, pickB_false, wpR, gdOf, clsOf, stpF, stpG, strip, gdR, ungd_true, litG_ungd, litG_lit, litG_gd, litG_any, litG_sl, litG_ptr, litG_own, litG_at, litG_agg, evOp, evN, evA, evR, evW, evBin, evUn, evStr, evNil, evAgg, intsL, ptrish, nilPtr, capsOf, ownOf, matApp, mapOf, mapRes, cellsOf, opd, lkp, ins, del, HS.put, okDst, unmB, sortB, RV.menB, TV.menB, CV.menB, Ob.menB, CV.cell, CD.cell, Value.oneCell', thenQ, blockQ, loopQ, constRV, fieldOf, elemTy, idxArr, arrOf, partOf, litOf, Hl.lit, rowsOf, dataOf, baseOf, moreOf, setRow]; rfl) ?_))
  refine HT_block (HT_loop (P1 names order) (fun k => k ≤ names.length ∧ scanN (names.take k) (names.drop k) = scanN [] names) (fun k => names.length - k) 0 ⟨Nat.zero_le _, by simp⟩ ?_ ?_)
  · exact le_mk (fun n => 4) [] rfl (by simp [allL, ins, RV.okNil, TV.okNil, CV.okNil, Ob.okNil, RV.ren, TV.ren, CV.ren, Ob.ren, pinR, opd, lkp, nilS, CV.frz, TV.frz, RV.frz, Ob.frz, HS.frz, mapL, del, P1, li, i64, nsC, orC, sC]) (by simp [allL, ins, RV.okNil, TV.okNil, CV.okNil, Ob.okNil, RV.ren, TV.ren, CV.ren, Ob.ren, pinR, opd, lkp, nilS, CV.frz, TV.frz, RV.frz, Ob.frz, HS.frz, mapL, del, P1, nilC]) (by simp [allL, ins, RV.okNil, TV.okNil, CV.okNil, Ob.okNil, RV.ren, TV.ren, CV.ren, Ob.ren, pinR, opd, lkp, nilS, CV.frz, TV.frz, RV.frz, Ob.frz, HS.frz, mapL, del, P1])
  rintro k ⟨hk, hscan⟩
  simp only [P1]
  refine HT_seq (HT_seq (HT_run (by simp [evs, evc, evcS, okCall, brw, brwL, brwT, brwA, frzC, frzL, frzP, matC, calleeOf, RV.ownB, CV.ownB, RV.onlyB, TV.onlyB, CV.onlyB, HS.made, impB_self, impB_true, impB_false, impB_one, impB_and, impB_and2, impB_imp, pickB_or, pickB_and, pickB_true, pickB_false, wpR, gdOf, clsOf, stpF, stpG, strip, gdR, ungd_true, litG_ungd, litG_lit, litG_gd, litG_any, litG_sl, litG_ptr, litG_own, litG_at, litG_agg, evOp, evN, evA, evR, evW, evBin, evUn, evStr, evNil, evAgg, intsL, ptrish, nilPtr, capsOf, ownOf, matApp, mapOf, mapRes, cellsOf, opd, lkp, ins, del, HS.put, okDst, unmB, sortB, RV.menB, TV.menB, CV.menB, Ob.menB, CV.cell, CD.cell, Value.oneCell', thenQ, blockQ, loopQ, constRV, fieldOf, elemTy, idxArr, arrOf, partOf, litOf, Hl.lit, rowsOf, dataOf, baseOf, moreOf, setRow, li, i64]; rfl) ?_))
  refine HT_cond rfl (fun h => HT_skip ?_) (fun h => HT_exit ?_)
  · have hlt : k < names.length := by simpa using h
    have hw : IntKind.i64.wrap ((k : Int) + 1) = (k : Int) + 1 := wrap_in (by omega) (by omega)
    obtain ⟨s, hs⟩ : ∃ s, names[k]? = some s := ⟨names[k], List.getElem?_eq_getElem hlt⟩
    rw [scan_step hs] at hscan
    have hcn := fun d => refname_con s d
    refine HT_seq (HT_block (HT_seq (HT_seq (HT_runc [⟨true, .v (lb (nameB s)), none⟩] (by simp [evs, evc, evcS, okCall, brw, brwL, brwT, brwA, frzC, frzL, frzP, matC, calleeOf, RV.ownB, CV.ownB, RV.onlyB, TV.onlyB, CV.onlyB, HS.made, impB_self, impB_true, impB_false, impB_one, impB_and, impB_and2, impB_imp, pickB_or, pickB_and, pickB_true, pickB_false, wpR, gdOf, clsOf, stpF, stpG, strip, gdR, ungd_true, litG_ungd, litG_lit, litG_gd, litG_any, litG_sl, litG_ptr, litG_own, litG_at, litG_agg, evOp, evN, evA, evR, evW, evBin, evUn, evStr, evNil, evAgg, intsL, ptrish, nilPtr, capsOf, ownOf, matApp, mapOf, mapRes, cellsOf, opd, lkp, ins, del, HS.put, okDst, unmB, sortB, RV.menB, TV.menB, CV.menB, Ob.menB, CV.cell, CD.cell, Value.oneCell', thenQ, blockQ, loopQ, constRV, fieldOf, elemTy, idxArr, arrOf, partOf, litOf, Hl.lit, rowsOf, dataOf, baseOf, moreOf, setRow, nsC, hs, sC, lb, bC]; first | exact ⟨rfl, Iff.rfl⟩ | rfl) (by simpa only [sC, lb, bC] using hcn _) ?_))))
    refine HT_cond rfl (fun h => ?_) (fun hc2 => HT_skip ?_)
    · refine HT_seq (HT_run (by simp [evs, evc, evcS, okCall, brw, brwL, brwT, brwA, frzC, frzL, frzP, matC, calleeOf, RV.ownB, CV.ownB, RV.onlyB, TV.onlyB, CV.onlyB, HS.made, impB_self, impB_true, impB_false, impB_one, impB_and, impB_and2, impB_imp, pickB_or, pickB_and, pickB_true, pickB_false, wpR, gdOf, clsOf, stpF, stpG, strip, gdR, ungd_true, litG_ungd, litG_lit, litG_gd, litG_any, litG_sl, litG_ptr, litG_own, litG_at, litG_agg, evOp, evN, evA, evR, evW, evBin, evUn, evStr, evNil, evAgg, intsL, ptrish, nilPtr, capsOf, ownOf, matApp, mapOf, mapRes, cellsOf, opd, lkp, ins, del, HS.put, okDst, unmB, sortB, RV.menB, TV.menB, CV.menB, Ob.menB, CV.cell, CD.cell, Value.oneCell', thenQ, blockQ, loopQ, constRV, fieldOf, elemTy, idxArr, arrOf, partOf, litOf, Hl.lit, rowsOf, dataOf, baseOf, moreOf, setRow, nilC]; rfl) ?_)
      rw [if_pos (by simpa using h)] at hscan
      rw [← hscan, if_pos (by decide)] at hrf
      subst hrf
      rw [if_neg (by decide)] at hrr
      rw [hrr]
      exact HT_ret ⟨.inr rfl, _, le_refl _, ⟨_, by simp [resL, resT, evs, evc, evcS, okCall, brw, brwL, brwT, brwA, frzC, frzL, frzP, matC, calleeOf, RV.ownB, CV.ownB, RV.onlyB, TV.onlyB, CV.onlyB, HS.made, impB_self, impB_true, impB_false, impB_one, impB_and, impB_and2, impB_imp, pickB_or, pickB_and, pickB_true, pickB_false, wpR, gdOf, clsOf, stpF, stpG, strip, gdR, ungd_true, litG_ungd, litG_lit, litG_gd, litG_any, litG_sl, litG_ptr, litG_own, litG_at, litG_agg, evOp, evN, evA, evR, evW, evBin, evUn, evStr, evNil, evAgg, intsL, ptrish, nilPtr, capsOf, ownOf, matApp, mapOf, mapRes, cellsOf, opd, lkp, ins, del, HS.put, okDst, unmB, sortB, RV.menB, TV.menB, CV.menB, Ob.menB, CV.cell, CD.cell, Value.oneCell', thenQ, blockQ, loopQ, constRV, fieldOf, elemTy, idxArr, arrOf, partOf, litOf, Hl.lit, rowsOf, dataOf, baseOf, moreOf, setRow]; rfl, by simp [resR, nilC, li, i64]⟩, by simp, by simp⟩
    rw [if_neg (by simpa using hc2)] at hscan
    refine HT_seq (HT_run (by simp [evs, evc, evcS, okCall, brw, brwL, brwT, brwA, frzC, frzL, frzP, matC, calleeOf, RV.ownB, CV.ownB, RV.onlyB, TV.onlyB, CV.onlyB, HS.made, impB_self, impB_true, impB_false, impB_one, impB_and, impB_and2, impB_imp, pickB_or, pickB_and, pickB_true, pickB_false, wpR, gdOf, clsOf, stpF, stpG, strip, gdR, ungd_true, litG_ungd, litG_lit, litG_gd, litG_any, litG_sl, litG_ptr, litG_own, litG_at, litG_agg, evOp, evN, evA, evR, evW, evBin, evUn, evStr, evNil, evAgg, intsL, ptrish, nilPtr, capsOf, ownOf, matApp, mapOf, mapRes, cellsOf, opd, lkp, ins, del, HS.put, okDst, unmB, sortB, RV.menB, TV.menB, CV.menB, Ob.menB, CV.cell, CD.cell, Value.oneCell', thenQ, blockQ, loopQ, constRV, fieldOf, elemTy, idxArr, arrOf, partOf, litOf, Hl.lit, rowsOf, dataOf, baseOf, moreOf, setRow]; rfl) ?_)
    refine HT_block (HT_loop (P2 names order k) (fun j => j ≤ k ∧ ∀ i, i < j → names[i]? ≠ some s) (fun j => k - j) 0 ⟨Nat.zero_le _, by simp⟩ ?_ ?_)
    · exact le_mk (fun n => n) [] rfl (by simp [allL, ins, RV.okNil, TV.okNil, CV.okNil, Ob.okNil, RV.ren, TV.ren, CV.ren, Ob.ren, pinR, opd, lkp, nilS, CV.frz, TV.frz, RV.frz, Ob.frz, HS.frz, mapL, del, P2, li, i64, nsC, orC, sC]) (by simp [allL, ins, RV.okNil, TV.okNil, CV.okNil, Ob.okNil, RV.ren, TV.ren, CV.ren, Ob.ren, pinR, opd, lkp, nilS, CV.frz, TV.frz, RV.frz, Ob.frz, HS.frz, mapL, del, P2, nilC]) (by simp [allL, ins, RV.okNil, TV.okNil, CV.okNil, Ob.okNil, RV.ren, TV.ren, CV.ren, Ob.ren, pinR, opd, lkp, nilS, CV.frz, TV.frz, RV.frz, Ob.frz, HS.frz, mapL, del, P2])
    rintro j ⟨hj, hne⟩
    simp only [P2]
    refine HT_seq (HT_seq (HT_run (by simp [evs, evc, evcS, okCall, brw, brwL, brwT, brwA, frzC, frzL, frzP, matC, calleeOf, RV.ownB, CV.ownB, RV.onlyB, TV.onlyB, CV.onlyB, HS.made, impB_self, impB_true, impB_false, impB_one, impB_and, impB_and2, impB_imp, pickB_or, pickB_and, pickB_true, pickB_false, wpR, gdOf, clsOf, stpF, stpG, strip, gdR, ungd_true, litG_ungd, litG_lit, litG_gd, litG_any, litG_sl, litG_ptr, litG_own, litG_at, litG_agg, evOp, evN, evA, evR, evW, evBin, evUn, evStr, evNil, evAgg, intsL, ptrish, nilPtr, capsOf, ownOf, matApp, mapOf, mapRes, cellsOf, opd, lkp, ins, del, HS.put, okDst, unmB, sortB, RV.menB, TV.menB, CV.menB, Ob.menB, CV.cell, CD.cell, Value.oneCell', thenQ, blockQ, loopQ, constRV, fieldOf, elemTy, idxArr, arrOf, partOf, litOf, Hl.lit, rowsOf, dataOf, baseOf, moreOf, setRow, li, i64]; rfl) ?_))
    refine HT_cond rfl (fun h => HT_skip ?_) (fun h => HT_exit ?_)
    · have hlj : j < k := by simpa using h
      have hwj : IntKind.i64.wrap ((j : Int) + 1) = (j : Int) + 1 := wrap_in (by omega) (by omega)
      obtain ⟨t, ht⟩ : ∃ t, names[j]? = some t := ⟨names[j], List.getElem?_eq_getElem (by omega)⟩
      refine HT_seq (HT_block (HT_seq (HT_drun (by kernel_rfl) (by kernel_rfl) (by rfl) (by simp [evs, evc, evcS, okCall, brw, brwL, brwT, brwA, frzC, frzL, frzP, matC, calleeOf, RV.ownB, CV.ownB, RV.onlyB, TV.onlyB, CV.onlyB, HS.made, impB_self, impB_true, impB_false, impB_one, impB_and, impB_and2, impB_imp, pickB_or, pickB_and, pickB_true, pickB_false, wpR, gdOf, clsOf, stpF, stpG, strip, gdR, ungd_true, litG_ungd, litG_lit, litG_gd, litG_any, litG_sl, litG_ptr, litG_own, litG_at, litG_agg, evOp, evN, evA, evR, evW, evBin, evUn, evStr, evNil, evAgg, intsL, ptrish, nilPtr, capsOf, ownOf, matApp, mapOf, mapRes, cellsOf, opd, lkp, ins, del, HS.put, okDst, unmB, sortB, RV.menB, TV.menB, CV.menB, Ob.menB, CV.cell, CD.cell, Value.oneCell', thenQ, blockQ, loopQ, constRV, fieldOf, elemTy, idxArr, arrOf, partOf, litOf, Hl.lit, rowsOf, dataOf, baseOf, moreOf, setRow, nsC, hs, ht, sC]; rfl) ?_)))
      refine HT_cond rfl (fun h => ?_) (fun hc3 => HT_skip ?_)
      · refine HT_seq (HT_run (by simp [evs, evc, evcS, okCall, brw, brwL, brwT, brwA, frzC, frzL, frzP, matC, calleeOf, RV.ownB, CV.ownB, RV.onlyB, TV.onlyB, CV.onlyB, HS.made, impB_self, impB_true, impB_false, impB_one, impB_and, impB_and2, impB_imp, pickB_or, pickB_and, pickB_true, pickB_false, wpR, gdOf, clsOf, stpF, stpG, strip, gdR, ungd_true, litG_ungd, litG_lit, litG_gd, litG_any, litG_sl, litG_ptr, litG_own, litG_at, litG_agg, evOp, evN, evA, evR, evW, evBin, evUn, evStr, evNil, evAgg, intsL, ptrish, nilPtr, capsOf, ownOf, matApp, mapOf, mapRes, cellsOf, opd, lkp, ins, del, HS.put, okDst, unmB, sortB, RV.menB, TV.menB, CV.menB, Ob.menB, CV.cell, CD.cell, Value.oneCell', thenQ, blockQ, loopQ, constRV, fieldOf, elemTy, idxArr, arrOf, partOf, litOf, Hl.lit, rowsOf, dataOf, baseOf, moreOf, setRow, nilC]; rfl) ?_)
        have hts : t = s := by simpa using h
        have hm : hasN (names.take k) s = true := by
          rw [hasN_iff]
          refine List.mem_of_getElem? (i := j) ?_
          rw [List.getElem?_take, if_pos hlj, ht, hts]
        rw [if_pos hm] at hscan
        rw [← hscan, if_pos (by decide)] at hrf
        subst hrf
        rw [if_neg (by decide)] at hrr
        rw [hrr]
        exact HT_ret ⟨.inr rfl, _, le_refl _, ⟨_, by simp [resL, resT, evs, evc, evcS, okCall, brw, brwL, brwT, brwA, frzC, frzL, frzP, matC, calleeOf, RV.ownB, CV.ownB, RV.onlyB, TV.onlyB, CV.onlyB, HS.made, impB_self, impB_true, impB_false, impB_one, impB_and, impB_and2, impB_imp, pickB_or, pickB_and, pickB_true, pickB_false, wpR, gdOf, clsOf, stpF, stpG, strip, gdR, ungd_true, litG_ungd, litG_lit, litG_gd, litG_any, litG_sl, litG_ptr, litG_own, litG_at, litG_agg, evOp, evN, evA, evR, evW, evBin, evUn, evStr, evNil, evAgg, intsL, ptrish, nilPtr, capsOf, ownOf, matApp, mapOf, mapRes, cellsOf, opd, lkp, ins, del, HS.put, okDst, unmB, sortB, RV.menB, TV.menB, CV.menB, Ob.menB, CV.cell, CD.cell, Value.oneCell', thenQ, blockQ, loopQ, constRV, fieldOf, elemTy, idxArr, arrOf, partOf, litOf, Hl.lit, rowsOf, dataOf, baseOf, moreOf, setRow]; rfl, by simp [resR, nilC, li, i64]⟩, by simp, by simp⟩
      · refine HT_run (by simp [evs, evc, evcS, okCall, brw, brwL, brwT, brwA, frzC, frzL, frzP, matC, calleeOf, RV.ownB, CV.ownB, RV.onlyB, TV.onlyB, CV.onlyB, HS.made, impB_self, impB_true, impB_false, impB_one, impB_and, impB_and2, impB_imp, pickB_or, pickB_and, pickB_true, pickB_false, wpR, gdOf, clsOf, stpF, stpG, strip, gdR, ungd_true, litG_ungd, litG_lit, litG_gd, litG_any, litG_sl, litG_ptr, litG_own, litG_at, litG_agg, evOp, evN, evA, evR, evW, evBin, evUn, evStr, evNil, evAgg, intsL, ptrish, nilPtr, capsOf, ownOf, matApp, mapOf, mapRes, cellsOf, opd, lkp, ins, del, HS.put, okDst, unmB, sortB, RV.menB, TV.menB, CV.menB, Ob.menB, CV.cell, CD.cell, Value.oneCell', thenQ, blockQ, loopQ, constRV, fieldOf, elemTy, idxArr, arrOf, partOf, litOf, Hl.lit, rowsOf, dataOf, baseOf, moreOf, setRow, hwj]; rfl) ?_
        refine ⟨j + 1, ⟨hlj, fun i hi => ?_⟩, by omega, ?_⟩
        · by_cases e : i = j
          · subst e
            rw [ht]
            intro e2
            cases e2
            simp at hc3
          · exact hne i (by omega)
        · exact le_mk (fun n => n) [] rfl (by simp [allL, ins, RV.okNil, TV.okNil, CV.okNil, Ob.okNil, RV.ren, TV.ren, CV.ren, Ob.ren, pinR, opd, lkp, nilS, CV.frz, TV.frz, RV.frz, Ob.frz, HS.frz, mapL, del, P2, li, i64, nsC, orC, sC, hwj]) (by simp [allL, ins, RV.okNil, TV.okNil, CV.okNil, Ob.okNil, RV.ren, TV.ren, CV.ren, Ob.ren, pinR, opd, lkp, nilS, CV.frz, TV.frz, RV.frz, Ob.frz, HS.frz, mapL, del, P2]) (by simp [allL, ins, RV.okNil, TV.okNil, CV.okNil, Ob.okNil, RV.ren, TV.ren, CV.ren, Ob.ren, pinR, opd, lkp, nilS, CV.frz, TV.frz, RV.frz, Ob.frz, HS.frz, mapL, del, P2])
    · have hjk : j = k := by simp at h; omega
      subst hjk
      have hm : ¬ hasN (names.take j) s = true := by
        rw [hasN_iff]
        intro hm
        obtain ⟨i, hi⟩ := List.mem_iff_getElem?.1 hm
        rw [List.getElem?_take] at hi
        split at hi
        · exact hne i (by assumption) hi
        · cases hi
      rw [if_neg hm] at hscan
      refine HT_run (by simp [evs, evc, evcS, okCall, brw, brwL, brwT, brwA, frzC, frzL, frzP, matC, calleeOf, RV.ownB, CV.ownB, RV.onlyB, TV.onlyB, CV.onlyB, HS.made, impB_self, impB_true, impB_false, impB_one, impB_and, impB_and2, impB_imp, pickB_or, pickB_and, pickB_true, pickB_false, wpR, gdOf, clsOf, stpF, stpG, strip, gdR, ungd_true, litG_ungd, litG_lit, litG_gd, litG_any, litG_sl, litG_ptr, litG_own, litG_at, litG_agg, evOp, evN, evA, evR, evW, evBin, evUn, evStr, evNil, evAgg, intsL, ptrish, nilPtr, capsOf, ownOf, matApp, mapOf, mapRes, cellsOf, opd, lkp, ins, del, HS.put, okDst, unmB, sortB, RV.menB, TV.menB, CV.menB, Ob.menB, CV.cell, CD.cell, Value.oneCell', thenQ, blockQ, loopQ, constRV, fieldOf, elemTy, idxArr, arrOf, partOf, litOf, Hl.lit, rowsOf, dataOf, baseOf, moreOf, setRow, hw]; rfl) ?_
      refine ⟨j + 1, ⟨hlt, hscan⟩, by omega, ?_⟩
      exact le_mk (fun n => n) [] rfl (by simp [allL, ins, RV.okNil, TV.okNil, CV.okNil, Ob.okNil, RV.ren, TV.ren, CV.ren, Ob.ren, pinR, opd, lkp, nilS, CV.frz, TV.frz, RV.frz, Ob.frz, HS.frz, mapL, del, P1, li, i64, nsC, orC, sC, hw]) (by simp [allL, ins, RV.okNil, TV.okNil, CV.okNil, Ob.okNil, RV.ren, TV.ren, CV.ren, Ob.ren, pinR, opd, lkp, nilS, CV.frz, TV.frz, RV.frz, Ob.frz, HS.frz, mapL, del, P1]) (by simp [allL, ins, RV.okNil, TV.okNil, CV.okNil, Ob.okNil, RV.ren, TV.ren, CV.ren, Ob.ren, pinR, opd, lkp, nilS, CV.frz, TV.frz, RV.frz, Ob.frz, HS.frz, mapL, del, P1])
  · have hkn : k = names.length := by simp at h; omega
    subst hkn
    rw [List.drop_length] at hscan
    simp only [scanN] at hscan
    rw [if_neg (by rw [← hscan]; simp)] at hrf
    refine HT_seq (HT_seq (HT_run (by simp [evs, evc, evcS, okCall, brw, brwL, brwT, brwA, frzC, frzL, frzP, matC, calleeOf, RV.ownB, CV.ownB, RV.onlyB, TV.onlyB, CV.onlyB, HS.made, impB_self, impB_true, impB_false, impB_one, impB_and, impB_and2, impB_imp, pickB_or, pickB_and, pickB_true, pickB_false, wpR, gdOf, clsOf, stpF, stpG, strip, gdR, ungd_true, litG_ungd, litG_lit, litG_gd, litG_any, litG_sl, litG_ptr, litG_own, litG_at, litG_agg, evOp, evN, evA, evR, evW, evBin, evUn, evStr, evNil, evAgg, intsL, ptrish, nilPtr, capsOf, ownOf, matApp, mapOf, mapRes, cellsOf, opd, lkp, ins, del, HS.put, okDst, unmB, sortB, RV.menB, TV.menB, CV.menB, Ob.menB, CV.cell, CD.cell, Value.oneCell', thenQ, blockQ, loopQ, constRV, fieldOf, elemTy, idxArr, arrOf, partOf, litOf, Hl.lit, rowsOf, dataOf, baseOf, moreOf, setRow]; rfl) ?_))
    refine HT_block (HT_loop (P3 names order) (fun k => k ≤ order.length ∧ ∀ p ∈ order.take k, (inB names.length p.1 && inB names.length p.2) = true) (fun k => order.length - k) 0 ⟨Nat.zero_le _, by simp⟩ ?_ ?_)
    · exact le_mk (fun n => n) [] rfl (by simp [allL, ins, RV.okNil, TV.okNil, CV.okNil, Ob.okNil, RV.ren, TV.ren, CV.ren, Ob.ren, pinR, opd, lkp, nilS, CV.frz, TV.frz, RV.frz, Ob.frz, HS.frz, mapL, del, P3, li, i64, nsC, orC, sC]) (by simp [allL, ins, RV.okNil, TV.okNil, CV.okNil, Ob.okNil, RV.ren, TV.ren, CV.ren, Ob.ren, pinR, opd, lkp, nilS, CV.frz, TV.frz, RV.frz, Ob.frz, HS.frz, mapL, del, P3, nilC]) (by simp [allL, ins, RV.okNil, TV.okNil, CV.okNil, Ob.okNil, RV.ren, TV.ren, CV.ren, Ob.ren, pinR, opd, lkp, nilS, CV.frz, TV.frz, RV.frz, Ob.frz, HS.frz, mapL, del, P3])
    rintro k ⟨hk2, hall⟩
    simp only [P3]
    refine HT_seq (HT_seq (HT_run (by simp [evs, evc, evcS, okCall, brw, brwL, brwT, brwA, frzC, frzL, frzP, matC, calleeOf, RV.ownB, CV.ownB, RV.onlyB, TV.onlyB, CV.onlyB, HS.made, impB_self, impB_true, impB_false, impB_one, impB_and, impB_and2, impB_imp, pickB_or, pickB_and, pickB_true, pickB_false, wpR, gdOf, clsOf, stpF, stpG, strip, gdR, ungd_true, litG_ungd, litG_lit, litG_gd, litG_any, litG_sl, litG_ptr, litG_own, litG_at, litG_agg, evOp, evN, evA, evR, evW, evBin, evUn, evStr, evNil, evAgg, intsL, ptrish, nilPtr, capsOf, ownOf, matApp, mapOf, mapRes, cellsOf, opd, lkp, ins, del, HS.put, okDst, unmB, sortB, RV.menB, TV.menB, CV.menB, Ob.menB, CV.cell, CD.cell, Value.oneCell', thenQ, blockQ, loopQ, constRV, fieldOf, elemTy, idxArr, arrOf, partOf, litOf, Hl.lit, rowsOf, dataOf, baseOf, moreOf, setRow, li, i64, orC]; rfl) ?_))
    refine HT_cond rfl (fun h => HT_skip ?_) (fun h => HT_exit ?_)
    · have hlt : k < order.length := by simpa using h
      have hw : IntKind.i64.wrap ((k : Int) + 1) = (k : Int) + 1 := wrap_in (by omega) (by omega)
      obtain ⟨p, hp⟩ : ∃ p, order[k]? = some p := ⟨order[k], List.getElem?_eq_getElem hlt⟩
      have hbad : (inB names.length p.1 && inB names.length p.2) = false → ordOk names.length order = false := by
        intro hx
        unfold ordOk
        rw [List.all_eq_false]
        exact ⟨p, List.mem_of_getElem? hp, by rw [hx]; simp⟩
      refine HT_seq (HT_block (HT_seq (HT_run (by simp [evs, evc, evcS, okCall, brw, brwL, brwT, brwA, frzC, frzL, frzP, matC, calleeOf, RV.ownB, CV.ownB, RV.onlyB, TV.onlyB, CV.onlyB, HS.made, impB_self, impB_true, impB_false, impB_one, impB_and, impB_and2, impB_imp, pickB_or, pickB_and, pickB_true, pickB_false, wpR, gdOf, clsOf, stpF, stpG, strip, gdR, ungd_true, litG_ungd, litG_lit, litG_gd, litG_any, litG_sl, litG_ptr, litG_own, litG_at, litG_agg, evOp, evN, evA, evR, evW, evBin, evUn, evStr, evNil, evAgg, intsL, ptrish, nilPtr, capsOf, ownOf, matApp, mapOf, mapRes, cellsOf, opd, lkp, ins, del, HS.put, okDst, unmB, sortB, RV.menB, TV.menB, CV.menB, Ob.menB, CV.cell, CD.cell, Value.oneCell', thenQ, blockQ, loopQ, constRV, fieldOf, elemTy, idxArr, arrOf, partOf, litOf, Hl.lit, rowsOf, dataOf, baseOf, moreOf, setRow]; rfl) ?_)))
      refine HT_block (HT_loop (P4 names order k) (fun j => j ≤ 2 ∧ (0 < j → inB names.length p.1 = true) ∧ (1 < j → inB names.length p.2 = true)) (fun j => 2 - j) 0 ⟨by omega, by simp, by simp⟩ ?_ ?_)
      · exact le_mk (fun n => n) [] rfl (by simp [allL, ins, RV.okNil, TV.okNil, CV.okNil, Ob.okNil, RV.ren, TV.ren, CV.ren, Ob.ren, pinR, opd, lkp, nilS, CV.frz, TV.frz, RV.frz, Ob.frz, HS.frz, mapL, del, P4, li, i64, nsC, orC, sC]) (by simp [allL, ins, RV.okNil, TV.okNil, CV.okNil, Ob.okNil, RV.ren, TV.ren, CV.ren, Ob.ren, pinR, opd, lkp, nilS, CV.frz, TV.frz, RV.frz, Ob.frz, HS.frz, mapL, del, P4, nilC]) (by simp [allL, ins, RV.okNil, TV.okNil, CV.okNil, Ob.okNil, RV.ren, TV.ren, CV.ren, Ob.ren, pinR, opd, lkp, nilS, CV.frz, TV.frz, RV.frz, Ob.frz, HS.frz, mapL, del, P4])
      rintro j ⟨hj, hj0, hj1⟩
      simp only [P4]
      refine HT_seq (HT_seq (HT_run (by simp [evs, evc, evcS, okCall, brw, brwL, brwT, brwA, frzC, frzL, frzP, matC, calleeOf, RV.ownB, CV.ownB, RV.onlyB, TV.onlyB, CV.onlyB, HS.made, impB_self, impB_true, impB_false, impB_one, impB_and, impB_and2, impB_imp, pickB_or, pickB_and, pickB_true, pickB_false, wpR, gdOf, clsOf, stpF, stpG, strip, gdR, ungd_true, litG_ungd, litG_lit, litG_gd, litG_any, litG_sl, litG_ptr, litG_own, litG_at, litG_agg, evOp, evN, evA, evR, evW, evBin, evUn, evStr, evNil, evAgg, intsL, ptrish, nilPtr, capsOf, ownOf, matApp, mapOf, mapRes, cellsOf, opd, lkp, ins, del, HS.put, okDst, unmB, sortB, RV.menB, TV.menB, CV.menB, Ob.menB, CV.cell, CD.cell, Value.oneCell', thenQ, blockQ, loopQ, constRV, fieldOf, elemTy, idxArr, arrOf, partOf, litOf, Hl.lit, rowsOf, dataOf, baseOf, moreOf, setRow, li, i64, orC]; rfl) ?_))
      refine HT_cond rfl (fun h => HT_skip ?_) (fun h => HT_exit ?_)
      · have hlj : j < 2 := by simp at h; omega
        have hjc : j = 0 ∨ j = 1 := by omega
        rcases hjc with rfl | rfl
        · refine HT_seq (HT_block (HT_seq (HT_run (by simp [evs, evc, evcS, okCall, brw, brwL, brwT, brwA, frzC, frzL, frzP, matC, calleeOf, RV.ownB, CV.ownB, RV.onlyB, TV.onlyB, CV.onlyB, HS.made, impB_self, impB_true, impB_false, impB_one, impB_and, impB_and2, impB_imp, pickB_or, pickB_and, pickB_true, pickB_false, wpR, gdOf, clsOf, stpF, stpG, strip, gdR, ungd_true, litG_ungd, litG_lit, litG_gd, litG_any, litG_sl, litG_ptr, litG_own, litG_at, litG_agg, evOp, evN, evA, evR, evW, evBin, evUn, evStr, evNil, evAgg, intsL, ptrish, nilPtr, capsOf, ownOf, matApp, mapOf, mapRes, cellsOf, opd, lkp, ins, del, HS.put, okDst, unmB, sortB, RV.menB, TV.menB, CV.menB, Ob.menB, CV.cell, CD.cell, Value.oneCell', thenQ, blockQ, loopQ, constRV, fieldOf, elemTy, idxArr, arrOf, partOf, litOf, Hl.lit, rowsOf, dataOf, baseOf, moreOf, setRow, orC, hp, i64]; rfl) ?_)))
          refine HT_cond rfl (fun h => ?_) (fun hc3 => HT_skip ?_)
          · refine HT_seq (HT_run (by simp [evs, evc, evcS, okCall, brw, brwL, brwT, brwA, frzC, frzL, frzP, matC, calleeOf, RV.ownB, CV.ownB, RV.onlyB, TV.onlyB, CV.onlyB, HS.made, impB_self, impB_true, impB_false, impB_one, impB_and, impB_and2, impB_imp, pickB_or, pickB_and, pickB_true, pickB_false, wpR, gdOf, clsOf, stpF, stpG, strip, gdR, ungd_true, litG_ungd, litG_lit, litG_gd, litG_any, litG_sl, litG_ptr, litG_own, litG_at, litG_agg, evOp, evN, evA, evR, evW, evBin, evUn, evStr, evNil, evAgg, intsL, ptrish, nilPtr, capsOf, ownOf, matApp, mapOf, mapRes, cellsOf, opd, lkp, ins, del, HS.put, okDst, unmB, sortB, RV.menB, TV.menB, CV.menB, Ob.menB, CV.cell, CD.cell, Value.oneCell', thenQ, blockQ, loopQ, constRV, fieldOf, elemTy, idxArr, arrOf, partOf, litOf, Hl.lit, rowsOf, dataOf, baseOf, moreOf, setRow, nilC]; rfl) ?_)
            have hx : inB names.length p.1 = false := by
              simp at h
              simp [inB]
              omega
            rw [if_pos (hbad (by rw [hx]; rfl))] at hrf
            subst hrf
            rw [if_neg (by decide)] at hrr
            rw [hrr]
            exact HT_ret ⟨.inr rfl, _, le_refl _, ⟨_, by simp [resL, resT, evs, evc, evcS, okCall, brw, brwL, brwT, brwA, frzC, frzL, frzP, matC, calleeOf, RV.ownB, CV.ownB, RV.onlyB, TV.onlyB, CV.onlyB, HS.made, impB_self, impB_true, impB_false, impB_one, impB_and, impB_and2, impB_imp, pickB_or, pickB_and, pickB_true, pickB_false, wpR, gdOf, clsOf, stpF, stpG, strip, gdR, ungd_true, litG_ungd, litG_lit, litG_gd, litG_any, litG_sl, litG_ptr, litG_own, litG_at, litG_agg, evOp, evN, evA, evR, evW, evBin, evUn, evStr, evNil, evAgg, intsL, ptrish, nilPtr, capsOf, ownOf, matApp, mapOf, mapRes, cellsOf, opd, lkp, ins, del, HS.put, okDst, unmB, sortB, RV.menB, TV.menB, CV.menB, Ob.menB, CV.cell, CD.cell, Value.oneCell', thenQ, blockQ, loopQ, constRV, fieldOf, elemTy, idxArr, arrOf, partOf, litOf, Hl.lit, rowsOf, dataOf, baseOf, moreOf, setRow]; rfl, by simp [resR, nilC, li, i64]⟩, by simp, by simp⟩
          · refine HT_run (by simp [evs, evc, evcS, okCall, brw, brwL, brwT, brwA, frzC, frzL, frzP, matC, calleeOf, RV.ownB, CV.ownB, RV.onlyB, TV.onlyB, CV.onlyB, HS.made, impB_self, impB_true, impB_false, impB_one, impB_and, impB_and2, impB_imp, pickB_or, pickB_and, pickB_true, pickB_false, wpR, gdOf, clsOf, stpF, stpG, strip, gdR, ungd_true, litG_ungd, litG_lit, litG_gd, litG_any, litG_sl, litG_ptr, litG_own, litG_at, litG_agg, evOp, evN, evA, evR, evW, evBin, evUn, evStr, evNil, evAgg, intsL, ptrish, nilPtr, capsOf, ownOf, matApp, mapOf, mapRes, cellsOf, opd, lkp, ins, del, HS.put, okDst, unmB, sortB, RV.menB, TV.menB, CV.menB, Ob.menB, CV.cell, CD.cell, Value.oneCell', thenQ, blockQ, loopQ, constRV, fieldOf, elemTy, idxArr, arrOf, partOf, litOf, Hl.lit, rowsOf, dataOf, baseOf, moreOf, setRow]; rfl) ?_
            refine ⟨1, ⟨by omega, fun _ => ?_, by simp⟩, by omega, ?_⟩
            · simp at hc3
              simp [inB]
              omega
            · exact le_mk (fun n => n) [] rfl (by simp [allL, ins, RV.okNil, TV.okNil, CV.okNil, Ob.okNil, RV.ren, TV.ren, CV.ren, Ob.ren, pinR, opd, lkp, nilS, CV.frz, TV.frz, RV.frz, Ob.frz, HS.frz, mapL, del, P4, li, i64, nsC, orC, sC]; decide) (by simp [allL, ins, RV.okNil, TV.okNil, CV.okNil, Ob.okNil, RV.ren, TV.ren, CV.ren, Ob.ren, pinR, opd, lkp, nilS, CV.frz, TV.frz, RV.frz, Ob.frz, HS.frz, mapL, del, P4]) (by simp [allL, ins, RV.okNil, TV.okNil, CV.okNil, Ob.okNil, RV.ren, TV.ren, CV.ren, Ob.ren, pinR, opd, lkp, nilS, CV.frz, TV.frz, RV.frz, Ob.frz, HS.frz, mapL, del, P4])
        · refine HT_seq (HT_block (HT_seq (HT_run (by simp [evs, evc, evcS, okCall, brw, brwL, brwT, brwA, frzC, frzL, frzP, matC, calleeOf, RV.ownB, CV.ownB, RV.onlyB, TV.onlyB, CV.onlyB, HS.made, impB_self, impB_true, impB_false, impB_one, impB_and, impB_and2, impB_imp, pickB_or, pickB_and, pickB_true, pickB_false, wpR, gdOf, clsOf, stpF, stpG, strip, gdR, ungd_true, litG_ungd, litG_lit, litG_gd, litG_any, litG_sl, litG_ptr, litG_own, litG_at, litG_agg, evOp, evN, evA, evR, evW, evBin, evUn, evStr, evNil, evAgg, intsL, ptrish, nilPtr, capsOf, ownOf, matApp, mapOf, mapRes, cellsOf, opd, lkp, ins, del, HS.put, okDst, unmB, sortB, RV.menB, TV.menB, CV.menB, Ob.menB, CV.cell, CD.cell, Value.oneCell', thenQ, blockQ, loopQ, constRV, fieldOf, elemTy, idxArr, arrOf, partOf, litOf, Hl.lit, rowsOf, dataOf, baseOf, moreOf, setRow, orC, hp, i64]; rfl) ?_)))
          refine HT_cond rfl (fun h => ?_) (fun hc3 => HT_skip ?_)
          · refine HT_seq (HT_run (by simp [evs, evc, evcS, okCall, brw, brwL, brwT, brwA, frzC, frzL, frzP, matC, calleeOf, RV.ownB, CV.ownB, RV.onlyB, TV.onlyB, CV.onlyB, HS.made, impB_self, impB_true, impB_false, impB_one, impB_and, impB_and2, impB_imp, pickB_or, pickB_and, pickB_true, pickB_false, wpR, gdOf, clsOf, stpF, stpG, strip, gdR, ungd_true, litG_ungd, litG_lit, litG_gd, litG_any, litG_sl, litG_ptr, litG_own, litG_at, litG_agg, evOp, evN, evA, evR, evW, evBin, evUn, evStr, evNil, evAgg, intsL, ptrish, nilPtr, capsOf, ownOf, matApp, mapOf, mapRes, cellsOf, opd, lkp, ins, del, HS.put, okDst, unmB, sortB, RV.menB, TV.menB, CV.menB, Ob.menB, CV.cell, CD.cell, Value.oneCell', thenQ, blockQ, loopQ, constRV, fieldOf, elemTy, idxArr, arrOf, partOf, litOf, Hl.lit, rowsOf, dataOf, baseOf, moreOf, setRow, nilC]; rfl) ?_)
            have hx : inB names.length p.2 = false := by
              simp at h
              simp [inB]
              omega
            rw [if_pos (hbad (by rw [hx]; simp))] at hrf
            subst hrf
            rw [if_neg (by decide)] at hrr
            rw [hrr]
            exact HT_ret ⟨.inr rfl, _, le_refl _, ⟨_, by simp [resL, resT, evs, evc, evcS, okCall, brw, brwL, brwT, brwA, frzC, frzL, frzP, matC, calleeOf, RV.ownB, CV.ownB, RV.onlyB, TV.onlyB, CV.onlyB, HS.made, impB_self, impB_true, impB_false, impB_one, impB_and, impB_and2, impB_imp, pickB_or, pickB_and, pickB_true, pickB_false, wpR, gdOf, clsOf, stpF, stpG, strip, gdR, ungd_true, litG_ungd, litG_lit, litG_gd, litG_any, litG_sl, litG_ptr, litG_own, litG_at, litG_agg, evOp, evN, evA, evR, evW, evBin, evUn, evStr, evNil, evAgg, intsL, ptrish, nilPtr, capsOf, ownOf, matApp, mapOf, mapRes, cellsOf, opd, lkp, ins, del, HS.put, okDst, unmB, sortB, RV.menB, TV.menB, CV.menB, Ob.menB, CV.cell, CD.cell, Value.oneCell', thenQ, blockQ, loopQ, constRV, fieldOf, elemTy, idxArr, arrOf, partOf, litOf, Hl.lit, rowsOf, dataOf, baseOf, moreOf, setRow]; rfl, by simp [resR, nilC, li, i64]⟩, by simp, by simp⟩
          · refine HT_run (by simp [evs, evc, evcS, okCall, brw, brwL, brwT, brwA, frzC, frzL, frzP, matC, calleeOf, RV.ownB, CV.ownB, RV.onlyB, TV.onlyB, CV.onlyB, HS.made, impB_self, impB_true, impB_false, impB_one, impB_and, impB_and2, impB_imp, pickB_or, pickB_and, pickB_true, pickB_false, wpR, gdOf, clsOf, stpF, stpG, strip, gdR, ungd_true, litG_ungd, litG_lit, litG_gd, litG_any, litG_sl, litG_ptr, litG_own, litG_at, litG_agg, evOp, evN, evA, evR, evW, evBin, evUn, evStr, evNil, evAgg, intsL, ptrish, nilPtr, capsOf, ownOf, matApp, mapOf, mapRes, cellsOf, opd, lkp, ins, del, HS.put, okDst, unmB, sortB, RV.menB, TV.menB, CV.menB, Ob.menB, CV.cell, CD.cell, Value.oneCell', thenQ, blockQ, loopQ, constRV, fieldOf, elemTy, idxArr, arrOf, partOf, litOf, Hl.lit, rowsOf, dataOf, baseOf, moreOf, setRow]; rfl) ?_
            refine ⟨2, ⟨by omega, fun _ => hj0 (by omega), fun _ => ?_⟩, by omega, ?_⟩
            · simp at hc3
              simp [inB]
              omega
            · exact le_mk (fun n => n) [] rfl (by simp [allL, ins, RV.okNil, TV.okNil, CV.okNil, Ob.okNil, RV.ren, TV.ren, CV.ren, Ob.ren, pinR, opd, lkp, nilS, CV.frz, TV.frz, RV.frz, Ob.frz, HS.frz, mapL, del, P4, li, i64, nsC, orC, sC]; decide) (by simp [allL, ins, RV.okNil, TV.okNil, CV.okNil, Ob.okNil, RV.ren, TV.ren, CV.ren, Ob.ren, pinR, opd, lkp, nilS, CV.frz, TV.frz, RV.frz, Ob.frz, HS.frz, mapL, del, P4]) (by simp [allL, ins, RV.okNil, TV.okNil, CV.okNil, Ob.okNil, RV.ren, TV.ren, CV.ren, Ob.ren, pinR, opd, lkp, nilS, CV.frz, TV.frz, RV.frz, Ob.frz, HS.frz, mapL, del, P4])
      · have hj2 : j = 2 := by simp at h; omega
        subst hj2
        refine HT_run (by simp [evs, evc, evcS, okCall, brw, brwL, brwT, brwA, frzC, frzL, frzP, matC, calleeOf, RV.ownB, CV.ownB, RV.onlyB, TV.onlyB, CV.onlyB, HS.made, impB_self, impB_true, impB_false, impB_one, impB_and, impB_and2, impB_imp, pickB_or, pickB_and, pickB_true, pickB_false, wpR, gdOf, clsOf, stpF, stpG, strip, gdR, ungd_true, litG_ungd, litG_lit, litG_gd, litG_any, litG_sl, litG_ptr, litG_own, litG_at, litG_agg, evOp, evN, evA, evR, evW, evBin, evUn, evStr, evNil, evAgg, intsL, ptrish, nilPtr, capsOf, ownOf, matApp, mapOf, mapRes, cellsOf, opd, lkp, ins, del, HS.put, okDst, unmB, sortB, RV.menB, TV.menB, CV.menB, Ob.menB, CV.cell, CD.cell, Value.oneCell', thenQ, blockQ, loopQ, constRV, fieldOf, elemTy, idxArr, arrOf, partOf, litOf, Hl.lit, rowsOf, dataOf, baseOf, moreOf, setRow, hw]; rfl) ?_
        refine ⟨k + 1, ⟨hlt, fun q hq => ?_⟩, by omega, ?_⟩
        · rw [List.take_add_one, hp] at hq
          rcases List.mem_append.1 hq with hq | hq
          · exact hall q hq
          · simp only [Option.toList_some, List.mem_singleton] at hq
            subst hq
            rw [hj0 (by omega), hj1 (by omega)]; rfl
        · exact le_mk (fun n => n) [] rfl (by simp [allL, ins, RV.okNil, TV.okNil, CV.okNil, Ob.okNil, RV.ren, TV.ren, CV.ren, Ob.ren, pinR, opd, lkp, nilS, CV.frz, TV.frz, RV.frz, Ob.frz, HS.frz, mapL, del, P3, li, i64, nsC, orC, sC, hw]) (by simp [allL, ins, RV.okNil, TV.okNil, CV.okNil, Ob.okNil, RV.ren, TV.ren, CV.ren, Ob.ren, pinR, opd, lkp, nilS, CV.frz, TV.frz, RV.frz, Ob.frz, HS.frz, mapL, del, P3]) (by simp [allL, ins, RV.okNil, TV.okNil, CV.okNil, Ob.okNil, RV.ren, TV.ren, CV.ren, Ob.ren, pinR, opd, lkp, nilS, CV.frz, TV.frz, RV.frz, Ob.frz, HS.frz, mapL, del, P3])
    · have hkl : k = order.length := by simp at h; omega
      subst hkl
      rw [List.take_length] at hall
      have ho : ordOk names.length order = true := by
        unfold ordOk
        rw [List.all_eq_true]
        exact hall
      rw [if_neg (by rw [ho]; simp)] at hrf
      have hord : ∀ p ∈ order, (0 ≤ p.1 ∧ p.1 < names.length) ∧ 0 ≤ p.2 ∧ p.2 < names.length := by
        intro p hp
        have := hall p hp
        simpa [inB] using this
      have hcl := fun d => closed_con names.length hn.2 order hlen hord d
      have hjn := fun M a b ha hb d => refjoin_con names names.length rfl hn.2 M a b ha hb d
      have hmt := fun M a b ha hb d => refmeet_con names names.length rfl hn.2 M a b ha hb d
      generalize closeM names.length order = M at *
      refine HT_seq (HT_runc [⟨false, .v (.one (.c (matB names.length M))), none⟩] (by simp [evs, evc, evcS, okCall, brw, brwL, brwT, brwA, frzC, frzL, frzP, matC, calleeOf, RV.ownB, CV.ownB, RV.onlyB, TV.onlyB, CV.onlyB, HS.made, impB_self, impB_true, impB_false, impB_one, impB_and, impB_and2, impB_imp, pickB_or, pickB_and, pickB_true, pickB_false, wpR, gdOf, clsOf, stpF, stpG, strip, gdR, ungd_true, litG_ungd, litG_lit, litG_gd, litG_any, litG_sl, litG_ptr, litG_own, litG_at, litG_agg, evOp, evN, evA, evR, evW, evBin, evUn, evStr, evNil, evAgg, intsL, ptrish, nilPtr, capsOf, ownOf, matApp, mapOf, mapRes, cellsOf, opd, lkp, ins, del, HS.put, okDst, unmB, sortB, RV.menB, TV.menB, CV.menB, Ob.menB, CV.cell, CD.cell, Value.oneCell', thenQ, blockQ, loopQ, constRV, fieldOf, elemTy, idxArr, arrOf, partOf, litOf, Hl.lit, rowsOf, dataOf, baseOf, moreOf, setRow, nsC, orC, room_of (show names.length ≤ 2097152 by omega) (show 16 ≤ 1048576 by omega), matB]; first | exact ⟨rfl, Iff.rfl⟩ | rfl) ?_ ?_)
      · exact ⟨by simpa only [orC, li, i64, matB] using hcl _, trivial⟩
      refine HT_seq (HT_seq (HT_run (by simp [evs, evc, evcS, okCall, brw, brwL, brwT, brwA, frzC, frzL, frzP, matC, calleeOf, RV.ownB, CV.ownB, RV.onlyB, TV.onlyB, CV.onlyB, HS.made, impB_self, impB_true, impB_false, impB_one, impB_and, impB_and2, impB_imp, pickB_or, pickB_and, pickB_true, pickB_false, wpR, gdOf, clsOf, stpF, stpG, strip, gdR, ungd_true, litG_ungd, litG_lit, litG_gd, litG_any, litG_sl, litG_ptr, litG_own, litG_at, litG_agg, evOp, evN, evA, evR, evW, evBin, evUn, evStr, evNil, evAgg, intsL, ptrish, nilPtr, capsOf, ownOf, matApp, mapOf, mapRes, cellsOf, opd, lkp, ins, del, HS.put, okDst, unmB, sortB, RV.menB, TV.menB, CV.menB, Ob.menB, CV.cell, CD.cell, Value.oneCell', thenQ, blockQ, loopQ, constRV, fieldOf, elemTy, idxArr, arrOf, partOf, litOf, Hl.lit, rowsOf, dataOf, baseOf, moreOf, setRow]; rfl) ?_))
      refine HT_block (HT_loop (P5 names M) (fun a => a ≤ names.length ∧ ∀ x y, x < a → y < names.length → (!decide (x = y) && M x y && M y x) = false) (fun a => names.length - a) 0 ⟨Nat.zero_le _, by simp⟩ ?_ ?_)
      · refine le_trans (le_frz 82 rfl) (le_mk (fun n => if n = 1011 then 11 else n) [] rfl ?_ ?_ ?_)
        · simp [allL, ins, RV.okNil, TV.okNil, CV.okNil, Ob.okNil, RV.ren, TV.ren, CV.ren, Ob.ren, pinR, opd, lkp, nilS, CV.frz, TV.frz, RV.frz, Ob.frz, HS.frz, mapL, del, P5, li, i64]
        · simp [allL, ins, RV.okNil, TV.okNil, CV.okNil, Ob.okNil, RV.ren, TV.ren, CV.ren, Ob.ren, pinR, opd, lkp, nilS, CV.frz, TV.frz, RV.frz, Ob.frz, HS.frz, mapL, del, P5, nsC, nilC, matB]
        · simp [allL, ins, RV.okNil, TV.okNil, CV.okNil, Ob.okNil, RV.ren, TV.ren, CV.ren, Ob.ren, pinR, opd, lkp, nilS, CV.frz, TV.frz, RV.frz, Ob.frz, HS.frz, mapL, del, P5]
      rintro a ⟨ha, han⟩
      simp only [P5]
      refine HT_seq (HT_seq (HT_run (by simp [evs, evc, evcS, okCall, brw, brwL, brwT, brwA, frzC, frzL, frzP, matC, calleeOf, RV.ownB, CV.ownB, RV.onlyB, TV.onlyB, CV.onlyB, HS.made, impB_self, impB_true, impB_false, impB_one, impB_and, impB_and2, impB_imp, pickB_or, pickB_and, pickB_true, pickB_false, wpR, gdOf, clsOf, stpF, stpG, strip, gdR, ungd_true, litG_ungd, litG_lit, litG_gd, litG_any, litG_sl, litG_ptr, litG_own, litG_at, litG_agg, evOp, evN, evA, evR, evW, evBin, evUn, evStr, evNil, evAgg, intsL, ptrish, nilPtr, capsOf, ownOf, matApp, mapOf, mapRes, cellsOf, opd, lkp, ins, del, HS.put, okDst, unmB, sortB, RV.menB, TV.menB, CV.menB, Ob.menB, CV.cell, CD.cell, Value.oneCell', thenQ, blockQ, loopQ, constRV, fieldOf, elemTy, idxArr, arrOf, partOf, litOf, Hl.lit, rowsOf, dataOf, baseOf, moreOf, setRow, li, i64]; rfl) ?_))
      refine HT_cond rfl (fun h => HT_skip ?_) (fun h => HT_exit ?_)
      · have hla : a < names.length := by simpa using h
        have hwa : IntKind.i64.wrap ((a : Int) + 1) = (a : Int) + 1 := wrap_in (by omega) (by omega)
        refine HT_seq (HT_block (HT_seq (HT_run (by simp [evs, evc, evcS, okCall, brw, brwL, brwT, brwA, frzC, frzL, frzP, matC, calleeOf, RV.ownB, CV.ownB, RV.onlyB, TV.onlyB, CV.onlyB, HS.made, impB_self, impB_true, impB_false, impB_one, impB_and, impB_and2, impB_imp, pickB_or, pickB_and, pickB_true, pickB_false, wpR, gdOf, clsOf, stpF, stpG, strip, gdR, ungd_true, litG_ungd, litG_lit, litG_gd, litG_any, litG_sl, litG_ptr, litG_own, litG_at, litG_agg, evOp, evN, evA, evR, evW, evBin, evUn, evStr, evNil, evAgg, intsL, ptrish, nilPtr, capsOf, ownOf, matApp, mapOf, mapRes, cellsOf, opd, lkp, ins, del, HS.put, okDst, unmB, sortB, RV.menB, TV.menB, CV.menB, Ob.menB, CV.cell, CD.cell, Value.oneCell', thenQ, blockQ, loopQ, constRV, fieldOf, elemTy, idxArr, arrOf, partOf, litOf, Hl.lit, rowsOf, dataOf, baseOf, moreOf, setRow]; rfl) ?_)))
        refine HT_block (HT_loop (P6 names M a) (fun b => b ≤ names.length ∧ ∀ y, y < b → (!decide (a = y) && M a y && M y a) = false) (fun b => names.length - b) 0 ⟨Nat.zero_le _, by simp⟩ ?_ ?_)
        · exact le_mk (fun n => n) [] rfl (by simp [allL, ins, RV.okNil, TV.okNil, CV.okNil, Ob.okNil, RV.ren, TV.ren, CV.ren, Ob.ren, pinR, opd, lkp, nilS, CV.frz, TV.frz, RV.frz, Ob.frz, HS.frz, mapL, del, P6, li, i64]) (by simp [allL, ins, RV.okNil, TV.okNil, CV.okNil, Ob.okNil, RV.ren, TV.ren, CV.ren, Ob.ren, pinR, opd, lkp, nilS, CV.frz, TV.frz, RV.frz, Ob.frz, HS.frz, mapL, del, P6, nilC]) (by simp [allL, ins, RV.okNil, TV.okNil, CV.okNil, Ob.okNil, RV.ren, TV.ren, CV.ren, Ob.ren, pinR, opd, lkp, nilS, CV.frz, TV.frz, RV.frz, Ob.frz, HS.frz, mapL, del, P6])
        rintro b ⟨hb, hbn2⟩
        simp only [P6]
        refine HT_seq (HT_seq (HT_run (by simp [evs, evc, evcS, okCall, brw, brwL, brwT, brwA, frzC, frzL, frzP, matC, calleeOf, RV.ownB, CV.ownB, RV.onlyB, TV.onlyB, CV.onlyB, HS.made, impB_self, impB_true, impB_false, impB_one, impB_and, impB_and2, impB_imp, pickB_or, pickB_and, pickB_true, pickB_false, wpR, gdOf, clsOf, stpF, stpG, strip, gdR, ungd_true, litG_ungd, litG_lit, litG_gd, litG_any, litG_sl, litG_ptr, litG_own, litG_at, litG_agg, evOp, evN, evA, evR, evW, evBin, evUn, evStr, evNil, evAgg, intsL, ptrish, nilPtr, capsOf, ownOf, matApp, mapOf, mapRes, cellsOf, opd, lkp, ins, del, HS.put, okDst, unmB, sortB, RV.menB, TV.menB, CV.menB, Ob.menB, CV.cell, CD.cell, Value.oneCell', thenQ, blockQ, loopQ, constRV, fieldOf, elemTy, idxArr, arrOf, partOf, litOf, Hl.lit, rowsOf, dataOf, baseOf, moreOf, setRow, li, i64]; rfl) ?_))
        refine HT_cond rfl (fun h => HT_skip ?_) (fun h => HT_exit ?_)
        · have hlb : b < names.length := by simpa using h
          have hwb : IntKind.i64.wrap ((b : Int) + 1) = (b : Int) + 1 := wrap_in (by omega) (by omega)
          have hdi : decide ((a : Int) = (b : Int)) = decide (a = b) := by
            by_cases e : a = b
            · simp [e]
            · have : ¬ (a : Int) = (b : Int) := by omega
              simp [e, this]
          refine HT_seq (HT_block (HT_seq (HT_run (by simp [evs, evc, evcS, okCall, brw, brwL, brwT, brwA, frzC, frzL, frzP, matC, calleeOf, RV.ownB, CV.ownB, RV.onlyB, TV.onlyB, CV.onlyB, HS.made, impB_self, impB_true, impB_false, impB_one, impB_and, impB_and2, impB_imp, pickB_or, pickB_and, pickB_true, pickB_false, wpR, gdOf, clsOf, stpF, stpG, strip, gdR, ungd_true, litG_ungd, litG_lit, litG_gd, litG_any, litG_sl, litG_ptr, litG_own, litG_at, litG_agg, evOp, evN, evA, evR, evW, evBin, evUn, evStr, evNil, evAgg, intsL, ptrish, nilPtr, capsOf, ownOf, matApp, mapOf, mapRes, cellsOf, opd, lkp, ins, del, HS.put, okDst, unmB, sortB, RV.menB, TV.menB, CV.menB, Ob.menB, CV.cell, CD.cell, Value.oneCell', thenQ, blockQ, loopQ, constRV, fieldOf, elemTy, idxArr, arrOf, partOf, litOf, Hl.lit, rowsOf, dataOf, baseOf, moreOf, setRow, nsC, matB, hla, hlb, rowB_get hla, rowB_get hlb, bC]; rfl) ?_)))
          refine HT_cond rfl (fun h => ?_) (fun hc2 => HT_skip ?_)
          · refine HT_seq (HT_run (by simp [evs, evc, evcS, okCall, brw, brwL, brwT, brwA, frzC, frzL, frzP, matC, calleeOf, RV.ownB, CV.ownB, RV.onlyB, TV.onlyB, CV.onlyB, HS.made, impB_self, impB_true, impB_false, impB_one, impB_and, impB_and2, impB_imp, pickB_or, pickB_and, pickB_true, pickB_false, wpR, gdOf, clsOf, stpF, stpG, strip, gdR, ungd_true, litG_ungd, litG_lit, litG_gd, litG_any, litG_sl, litG_ptr, litG_own, litG_at, litG_agg, evOp, evN, evA, evR, evW, evBin, evUn, evStr, evNil, evAgg, intsL, ptrish, nilPtr, capsOf, ownOf, matApp, mapOf, mapRes, cellsOf, opd, lkp, ins, del, HS.put, okDst, unmB, sortB, RV.menB, TV.menB, CV.menB, Ob.menB, CV.cell, CD.cell, Value.oneCell', thenQ, blockQ, loopQ, constRV, fieldOf, elemTy, idxArr, arrOf, partOf, litOf, Hl.lit, rowsOf, dataOf, baseOf, moreOf, setRow, nilC]; rfl) ?_)
            have h0 : (!decide ((a : Int) = (b : Int)) && M a b && M b a) = true := h
            have h' : (!decide (a = b) && M a b && M b a) = true := by rw [← hdi]; exact h0
            have hx : antiB names.length M = false := by
              simp only [Bool.and_eq_true, Bool.not_eq_true', decide_eq_false_iff_not] at h'
              exact anti_no hla hlb h'.1.1 h'.1.2 h'.2
            rw [if_pos hx] at hrf
            subst hrf
            rw [if_neg (by decide)] at hrr
            rw [hrr]
            exact HT_ret ⟨.inr rfl, _, le_refl _, ⟨_, by simp [resL, resT, evs, evc, evcS, okCall, brw, brwL, brwT, brwA, frzC, frzL, frzP, matC, calleeOf, RV.ownB, CV.ownB, RV.onlyB, TV.onlyB, CV.onlyB, HS.made, impB_self, impB_true, impB_false, impB_one, impB_and, impB_and2, impB_imp, pickB_or, pickB_and, pickB_true, pickB_false, wpR, gdOf, clsOf, stpF, stpG, strip, gdR, ungd_true, litG_ungd, litG_lit, litG_gd, litG_any, litG_sl, litG_ptr, litG_own, litG_at, litG_agg, evOp, evN, evA, evR, evW, evBin, evUn, evStr, evNil, evAgg, intsL, ptrish, nilPtr, capsOf, ownOf, matApp, mapOf, mapRes, cellsOf, opd, lkp, ins, del, HS.put, okDst, unmB, sortB, RV.menB, TV.menB, CV.menB, Ob.menB, CV.cell, CD.cell, Value.oneCell', thenQ, blockQ, loopQ, constRV, fieldOf, elemTy, idxArr, arrOf, partOf, litOf, Hl.lit, rowsOf, dataOf, baseOf, moreOf, setRow]; rfl, by simp [resR, nilC, li, i64]⟩, by simp, by simp⟩
          · refine HT_run (by simp [evs, evc, evcS, okCall, brw, brwL, brwT, brwA, frzC, frzL, frzP, matC, calleeOf, RV.ownB, CV.ownB, RV.onlyB, TV.onlyB, CV.onlyB, HS.made, impB_self, impB_true, impB_false, impB_one, impB_and, impB_and2, impB_imp, pickB_or, pickB_and, pickB_true, pickB_false, wpR, gdOf, clsOf, stpF, stpG, strip, gdR, ungd_true, litG_ungd, litG_lit, litG_gd, litG_any, litG_sl, litG_ptr, litG_own, litG_at, litG_agg, evOp, evN, evA, evR, evW, evBin, evUn, evStr, evNil, evAgg, intsL, ptrish, nilPtr, capsOf, ownOf, matApp, mapOf, mapRes, cellsOf, opd, lkp, ins, del, HS.put, okDst, unmB, sortB, RV.menB, TV.menB, CV.menB, Ob.menB, CV.cell, CD.cell, Value.oneCell', thenQ, blockQ, loopQ, constRV, fieldOf, elemTy, idxArr, arrOf, partOf, litOf, Hl.lit, rowsOf, dataOf, baseOf, moreOf, setRow, hwb]; rfl) ?_
            refine ⟨b + 1, ⟨hlb, fun y hy => ?_⟩, by omega, ?_⟩
            · by_cases e : y = b
              · subst e
                have h0 : (!decide ((a : Int) = (y : Int)) && M a y && M y a) = false := hc2
                rw [← hdi]; exact h0
              · exact hbn2 y (by omega)
            · exact le_mk (fun n => n) [] rfl (by simp [allL, ins, RV.okNil, TV.okNil, CV.okNil, Ob.okNil, RV.ren, TV.ren, CV.ren, Ob.ren, pinR, opd, lkp, nilS, CV.frz, TV.frz, RV.frz, Ob.frz, HS.frz, mapL, del, P6, li, i64, hwb]) (by simp [allL, ins, RV.okNil, TV.okNil, CV.okNil, Ob.okNil, RV.ren, TV.ren, CV.ren, Ob.ren, pinR, opd, lkp, nilS, CV.frz, TV.frz, RV.frz, Ob.frz, HS.frz, mapL, del, P6, nsC, matB]) (by simp [allL, ins, RV.okNil, TV.okNil, CV.okNil, Ob.okNil, RV.ren, TV.ren, CV.ren, Ob.ren, pinR, opd, lkp, nilS, CV.frz, TV.frz, RV.frz, Ob.frz, HS.frz, mapL, del, P6])
        · have hbl : b = names.length := by simp at h; omega
          subst hbl
          refine HT_run (by simp [evs, evc, evcS, okCall, brw, brwL, brwT, brwA, frzC, frzL, frzP, matC, calleeOf, RV.ownB, CV.ownB, RV.onlyB, TV.onlyB, CV.onlyB, HS.made, impB_self, impB_true, impB_false, impB_one, impB_and, impB_and2, impB_imp, pickB_or, pickB_and, pickB_true, pickB_false, wpR, gdOf, clsOf, stpF, stpG, strip, gdR, ungd_true, litG_ungd, litG_lit, litG_gd, litG_any, litG_sl, litG_ptr, litG_own, litG_at, litG_agg, evOp, evN, evA, evR, evW, evBin, evUn, evStr, evNil, evAgg, intsL, ptrish, nilPtr, capsOf, ownOf, matApp, mapOf, mapRes, cellsOf, opd, lkp, ins, del, HS.put, okDst, unmB, sortB, RV.menB, TV.menB, CV.menB, Ob.menB, CV.cell, CD.cell, Value.oneCell', thenQ, blockQ, loopQ, constRV, fieldOf, elemTy, idxArr, arrOf, partOf, litOf, Hl.lit, rowsOf, dataOf, baseOf, moreOf, setRow, hwa]; rfl) ?_
          refine ⟨a + 1, ⟨hla, fun x y hx hy => ?_⟩, by omega, ?_⟩
          · by_cases e : x = a
            · subst e; exact hbn2 y hy
            · exact han x y (by omega) hy
          · exact le_mk (fun n => n) [] rfl (by simp [allL, ins, RV.okNil, TV.okNil, CV.okNil, Ob.okNil, RV.ren, TV.ren, CV.ren, Ob.ren, pinR, opd, lkp, nilS, CV.frz, TV.frz, RV.frz, Ob.frz, HS.frz, mapL, del, P5, li, i64, hwa]) (by simp [allL, ins, RV.okNil, TV.okNil, CV.okNil, Ob.okNil, RV.ren, TV.ren, CV.ren, Ob.ren, pinR, opd, lkp, nilS, CV.frz, TV.frz, RV.frz, Ob.frz, HS.frz, mapL, del, P5]) (by simp [allL, ins, RV.okNil, TV.okNil, CV.okNil, Ob.okNil, RV.ren, TV.ren, CV.ren, Ob.ren, pinR, opd, lkp, nilS, CV.frz, TV.frz, RV.frz, Ob.frz, HS.frz, mapL, del, P5])
      · have hal : a = names.length := by simp at h; omega
        subst hal
        have hx : antiB names.length M = true := anti_yes fun x y hx hy => han x y hx hy
        rw [if_neg (by rw [hx]; simp)] at hrf
        refine HT_seq (HT_seq (HT_run (by simp [evs, evc, evcS, okCall, brw, brwL, brwT, brwA, frzC, frzL, frzP, matC, calleeOf, RV.ownB, CV.ownB, RV.onlyB, TV.onlyB, CV.onlyB, HS.made, impB_self, impB_true, impB_false, impB_one, impB_and, impB_and2, impB_imp, pickB_or, pickB_and, pickB_true, pickB_false, wpR, gdOf, clsOf, stpF, stpG, strip, gdR, ungd_true, litG_ungd, litG_lit, litG_gd, litG_any, litG_sl, litG_ptr, litG_own, litG_at, litG_agg, evOp, evN, evA, evR, evW, evBin, evUn, evStr, evNil, evAgg, intsL, ptrish, nilPtr, capsOf, ownOf, matApp, mapOf, mapRes, cellsOf, opd, lkp, ins, del, HS.put, okDst, unmB, sortB, RV.menB, TV.menB, CV.menB, Ob.menB, CV.cell, CD.cell, Value.oneCell', thenQ, blockQ, loopQ, constRV, fieldOf, elemTy, idxArr, arrOf, partOf, litOf, Hl.lit, rowsOf, dataOf, baseOf, moreOf, setRow]; rfl) ?_))
        refine HT_block (HT_loop (P7 names M) (fun a => a ≤ names.length ∧ ∀ x, x < a → okRow names.length M x = true) (fun a => names.length - a) 0 ⟨Nat.zero_le _, by simp⟩ ?_ ?_)
        · exact le_mk (fun n => n) [] rfl (by simp [allL, ins, RV.okNil, TV.okNil, CV.okNil, Ob.okNil, RV.ren, TV.ren, CV.ren, Ob.ren, pinR, opd, lkp, nilS, CV.frz, TV.frz, RV.frz, Ob.frz, HS.frz, mapL, del, P7, li, i64]) (by simp [allL, ins, RV.okNil, TV.okNil, CV.okNil, Ob.okNil, RV.ren, TV.ren, CV.ren, Ob.ren, pinR, opd, lkp, nilS, CV.frz, TV.frz, RV.frz, Ob.frz, HS.frz, mapL, del, P7, nilC]) (by simp [allL, ins, RV.okNil, TV.okNil, CV.okNil, Ob.okNil, RV.ren, TV.ren, CV.ren, Ob.ren, pinR, opd, lkp, nilS, CV.frz, TV.frz, RV.frz, Ob.frz, HS.frz, mapL, del, P7])
        rintro a ⟨ha, han⟩
        simp only [P7]
        refine HT_seq (HT_seq (HT_run (by simp [evs, evc, evcS, okCall, brw, brwL, brwT, brwA, frzC, frzL, frzP, matC, calleeOf, RV.ownB, CV.ownB, RV.onlyB, TV.onlyB, CV.onlyB, HS.made, impB_self, impB_true, impB_false, impB_one, impB_and, impB_and2, impB_imp, pickB_or, pickB_and, pickB_true, pickB_false, wpR, gdOf, clsOf, stpF, stpG, strip, gdR, ungd_true, litG_ungd, litG_lit, litG_gd, litG_any, litG_sl, litG_ptr, litG_own, litG_at, litG_agg, evOp, evN, evA, evR, evW, evBin, evUn, evStr, evNil, evAgg, intsL, ptrish, nilPtr, capsOf, ownOf, matApp, mapOf, mapRes, cellsOf, opd, lkp, ins, del, HS.put, okDst, unmB, sortB, RV.menB, TV.menB, CV.menB, Ob.menB, CV.cell, CD.cell, Value.oneCell', thenQ, blockQ, loopQ, constRV, fieldOf, elemTy, idxArr, arrOf, partOf, litOf, Hl.lit, rowsOf, dataOf, baseOf, moreOf, setRow, li, i64]; rfl) ?_))
        refine HT_cond rfl (fun h => HT_skip ?_) (fun h => HT_exit ?_)
        · have hla : a < names.length := by simpa using h
          have hwa : IntKind.i64.wrap ((a : Int) + 1) = (a : Int) + 1 := wrap_in (by omega) (by omega)
          refine HT_seq (HT_block (HT_seq (HT_run (by simp [evs, evc, evcS, okCall, brw, brwL, brwT, brwA, frzC, frzL, frzP, matC, calleeOf, RV.ownB, CV.ownB, RV.onlyB, TV.onlyB, CV.onlyB, HS.made, impB_self, impB_true, impB_false, impB_one, impB_and, impB_and2, impB_imp, pickB_or, pickB_and, pickB_true, pickB_false, wpR, gdOf, clsOf, stpF, stpG, strip, gdR, ungd_true, litG_ungd, litG_lit, litG_gd, litG_any, litG_sl, litG_ptr, litG_own, litG_at, litG_agg, evOp, evN, evA, evR, evW, evBin, evUn, evStr, evNil, evAgg, intsL, ptrish, nilPtr, capsOf, ownOf, matApp, mapOf, mapRes, cellsOf, opd, lkp, ins, del, HS.put, okDst, unmB, sortB, RV.menB, TV.menB, CV.menB, Ob.menB, CV.cell, CD.cell, Value.oneCell', thenQ, blockQ, loopQ, constRV, fieldOf, elemTy, idxArr, arrOf, partOf, litOf, Hl.lit, rowsOf, dataOf, baseOf, moreOf, setRow]; rfl) ?_)))
          refine HT_block (HT_loop (P8 names M a) (fun b => b ≤ names.length ∧ ∀ y, y < b → ((bndO names.length M a y).isSome && (bndO names.length (flp M) a y).isSome) = true) (fun b => names.length - b) 0 ⟨Nat.zero_le _, by simp⟩ ?_ ?_)
          · exact le_mk (fun n => n) [] rfl (by simp [allL, ins, RV.okNil, TV.okNil, CV.okNil, Ob.okNil, RV.ren, TV.ren, CV.ren, Ob.ren, pinR, opd, lkp, nilS, CV.frz, TV.frz, RV.frz, Ob.frz, HS.frz, mapL, del, P8, li, i64]) (by simp [allL, ins, RV.okNil, TV.okNil, CV.okNil, Ob.okNil, RV.ren, TV.ren, CV.ren, Ob.ren, pinR, opd, lkp, nilS, CV.frz, TV.frz, RV.frz, Ob.frz, HS.frz, mapL, del, P8, nilC]) (by simp [allL, ins, RV.okNil, TV.okNil, CV.okNil, Ob.okNil, RV.ren, TV.ren, CV.ren, Ob.ren, pinR, opd, lkp, nilS, CV.frz, TV.frz, RV.frz, Ob.frz, HS.frz, mapL, del, P8])
          rintro b ⟨hb, hbn2⟩
          simp only [P8]
          refine HT_seq (HT_seq (HT_run (by simp [evs, evc, evcS, okCall, brw, brwL, brwT, brwA, frzC, frzL, frzP, matC, calleeOf, RV.ownB, CV.ownB, RV.onlyB, TV.onlyB, CV.onlyB, HS.made, impB_self, impB_true, impB_false, impB_one, impB_and, impB_and2, impB_imp, pickB_or, pickB_and, pickB_true, pickB_false, wpR, gdOf, clsOf, stpF, stpG, strip, gdR, ungd_true, litG_ungd, litG_lit, litG_gd, litG_any, litG_sl, litG_ptr, litG_own, litG_at, litG_agg, evOp, evN, evA, evR, evW, evBin, evUn, evStr, evNil, evAgg, intsL, ptrish, nilPtr, capsOf, ownOf, matApp, mapOf, mapRes, cellsOf, opd, lkp, ins, del, HS.put, okDst, unmB, sortB, RV.menB, TV.menB, CV.menB, Ob.menB, CV.cell, CD.cell, Value.oneCell', thenQ, blockQ, loopQ, constRV, fieldOf, elemTy, idxArr, arrOf, partOf, litOf, Hl.lit, rowsOf, dataOf, baseOf, moreOf, setRow, li, i64]; rfl) ?_))
          refine HT_cond rfl (fun h => HT_skip ?_) (fun h => HT_exit ?_)
          · have hlb : b < names.length := by simpa using h
            have hwb : IntKind.i64.wrap ((b : Int) + 1) = (b : Int) + 1 := wrap_in (by omega) (by omega)
            have d1 := fun d => hjn M a b hla hlb d
            have d2 := fun d => hmt M a b hla hlb d
            have e1 := @bndR_neg names.length M a b
            have e2 := @bndR_neg names.length (flp M) a b
            generalize bndR names.length M a b = r1 at *
            generalize bndR names.length (flp M) a b = r2 at *
            have hbadr : (bndO names.length M a b = none ∨ bndO names.length (flp M) a b = none) → badRow names.length M ≠ names.length := by
              intro h4 hbr
              have := badRow_all hbr a hla
              unfold okRow at this
              rw [List.all_eq_true] at this
              have h3 := this b (by simpa using hlb)
              rcases h4 with h4 | h4
              · rw [h4] at h3; simp at h3
              · rw [h4] at h3; simp at h3
            by_cases hr1 : r1 < 0
            · refine HT_seq (HT_block (HT_seq (HT_runcS [some ⟨true, .v (li r1), none⟩, none] (by simp [evs, evc, evcS, okCall, brw, brwL, brwT, brwA, frzC, frzL, frzP, matC, calleeOf, RV.ownB, CV.ownB, RV.onlyB, TV.onlyB, CV.onlyB, HS.made, impB_self, impB_true, impB_false, impB_one, impB_and, impB_and2, impB_imp, pickB_or, pickB_and, pickB_true, pickB_false, wpR, gdOf, clsOf, stpF, stpG, strip, gdR, ungd_true, litG_ungd, litG_lit, litG_gd, litG_any, litG_sl, litG_ptr, litG_own, litG_at, litG_agg, evOp, evN, evA, evR, evW, evBin, evUn, evStr, evNil, evAgg, intsL, ptrish, nilPtr, capsOf, ownOf, matApp, mapOf, mapRes, cellsOf, opd, lkp, ins, del, HS.put, okDst, unmB, sortB, RV.menB, TV.menB, CV.menB, Ob.menB, CV.cell, CD.cell, Value.oneCell', thenQ, blockQ, loopQ, constRV, fieldOf, elemTy, idxArr, arrOf, partOf, litOf, Hl.lit, rowsOf, dataOf, baseOf, moreOf, setRow, nsC, matB, li, i64, hr1]; first | exact ⟨rfl, Iff.rfl⟩ | rfl) ?_ ?_)))
              · simpa only [latT, nsC, matB, li, i64, and_true] using d1 _
              refine HT_cond rfl (fun h => ?_) (fun h => by cases h)
              refine HT_seq (HT_run (by simp [evs, evc, evcS, okCall, brw, brwL, brwT, brwA, frzC, frzL, frzP, matC, calleeOf, RV.ownB, CV.ownB, RV.onlyB, TV.onlyB, CV.onlyB, HS.made, impB_self, impB_true, impB_false, impB_one, impB_and, impB_and2, impB_imp, pickB_or, pickB_and, pickB_true, pickB_false, wpR, gdOf, clsOf, stpF, stpG, strip, gdR, ungd_true, litG_ungd, litG_lit, litG_gd, litG_any, litG_sl, litG_ptr, litG_own, litG_at, litG_agg, evOp, evN, evA, evR, evW, evBin, evUn, evStr, evNil, evAgg, intsL, ptrish, nilPtr, capsOf, ownOf, matApp, mapOf, mapRes, cellsOf, opd, lkp, ins, del, HS.put, okDst, unmB, sortB, RV.menB, TV.menB, CV.menB, Ob.menB, CV.cell, CD.cell, Value.oneCell', thenQ, blockQ, loopQ, constRV, fieldOf, elemTy, idxArr, arrOf, partOf, litOf, Hl.lit, rowsOf, dataOf, baseOf, moreOf, setRow, nilC]; rfl) ?_)
              rw [if_pos (hbadr (.inl (e1.1 hr1)))] at hrf
              subst hrf
              rw [if_neg (by decide)] at hrr
              rw [hrr]
              exact HT_ret ⟨.inr rfl, _, le_refl _, ⟨_, by simp [resL, resT, evs, evc, evcS, okCall, brw, brwL, brwT, brwA, frzC, frzL, frzP, matC, calleeOf, RV.ownB, CV.ownB, RV.onlyB, TV.onlyB, CV.onlyB, HS.made, impB_self, impB_true, impB_false, impB_one, impB_and, impB_and2, impB_imp, pickB_or, pickB_and, pickB_true, pickB_false, wpR, gdOf, clsOf, stpF, stpG, strip, gdR, ungd_true, litG_ungd, litG_lit, litG_gd, litG_any, litG_sl, litG_ptr, litG_own, litG_at, litG_agg, evOp, evN, evA, evR, evW, evBin, evUn, evStr, evNil, evAgg, intsL, ptrish, nilPtr, capsOf, ownOf, matApp, mapOf, mapRes, cellsOf, opd, lkp, ins, del, HS.put, okDst, unmB, sortB, RV.menB, TV.menB, CV.menB, Ob.menB, CV.cell, CD.cell, Value.oneCell', thenQ, blockQ, loopQ, constRV, fieldOf, elemTy, idxArr, arrOf, partOf, litOf, Hl.lit, rowsOf, dataOf, baseOf, moreOf, setRow]; rfl, by simp [resR, nilC, li, i64]⟩, by simp, by simp⟩
            · refine HT_seq (HT_block (HT_seq (HT_runcS [some ⟨true, .v (li r1), none⟩, some ⟨true, .v (li r2), none⟩] (by simp [evs, evc, evcS, okCall, brw, brwL, brwT, brwA, frzC, frzL, frzP, matC, calleeOf, RV.ownB, CV.ownB, RV.onlyB, TV.onlyB, CV.onlyB, HS.made, impB_self, impB_true, impB_false, impB_one, impB_and, impB_and2, impB_imp, pickB_or, pickB_and, pickB_true, pickB_false, wpR, gdOf, clsOf, stpF, stpG, strip, gdR, ungd_true, litG_ungd, litG_lit, litG_gd, litG_any, litG_sl, litG_ptr, litG_own, litG_at, litG_agg, evOp, evN, evA, evR, evW, evBin, evUn, evStr, evNil, evAgg, intsL, ptrish, nilPtr, capsOf, ownOf, matApp, mapOf, mapRes, cellsOf, opd, lkp, ins, del, HS.put, okDst, unmB, sortB, RV.menB, TV.menB, CV.menB, Ob.menB, CV.cell, CD.cell, Value.oneCell', thenQ, blockQ, loopQ, constRV, fieldOf, elemTy, idxArr, arrOf, partOf, litOf, Hl.lit, rowsOf, dataOf, baseOf, moreOf, setRow, nsC, matB, li, i64, hr1]; first | exact ⟨rfl, Iff.rfl⟩ | rfl) ?_ ?_)))
              · constructor
                · simpa only [latT, nsC, matB, li, i64, and_true] using d1 _
                · simpa only [latT, nsC, matB, li, i64, and_true] using d2 _
              refine HT_cond rfl (fun h => ?_) (fun hc2 => HT_skip ?_)
              · refine HT_seq (HT_run (by simp [evs, evc, evcS, okCall, brw, brwL, brwT, brwA, frzC, frzL, frzP, matC, calleeOf, RV.ownB, CV.ownB, RV.onlyB, TV.onlyB, CV.onlyB, HS.made, impB_self, impB_true, impB_false, impB_one, impB_and, impB_and2, impB_imp, pickB_or, pickB_and, pickB_true, pickB_false, wpR, gdOf, clsOf, stpF, stpG, strip, gdR, ungd_true, litG_ungd, litG_lit, litG_gd, litG_any, litG_sl, litG_ptr, litG_own, litG_at, litG_agg, evOp, evN, evA, evR, evW, evBin, evUn, evStr, evNil, evAgg, intsL, ptrish, nilPtr, capsOf, ownOf, matApp, mapOf, mapRes, cellsOf, opd, lkp, ins, del, HS.put, okDst, unmB, sortB, RV.menB, TV.menB, CV.menB, Ob.menB, CV.cell, CD.cell, Value.oneCell', thenQ, blockQ, loopQ, constRV, fieldOf, elemTy, idxArr, arrOf, partOf, litOf, Hl.lit, rowsOf, dataOf, baseOf, moreOf, setRow, nilC]; rfl) ?_)
                have h' : decide (r2 < 0) = true := h
                rw [if_pos (hbadr (.inr (e2.1 (by simpa using h'))))] at hrf
                subst hrf
                rw [if_neg (by decide)] at hrr
                rw [hrr]
                exact HT_ret ⟨.inr rfl, _, le_refl _, ⟨_, by simp [resL, resT, evs, evc, evcS, okCall, brw, brwL, brwT, brwA, frzC, frzL, frzP, matC, calleeOf, RV.ownB, CV.ownB, RV.onlyB, TV.onlyB, CV.onlyB, HS.made, impB_self, impB_true, impB_false, impB_one, impB_and, impB_and2, impB_imp, pickB_or, pickB_and, pickB_true, pickB_false, wpR, gdOf, clsOf, stpF, stpG, strip, gdR, ungd_true, litG_ungd, litG_lit, litG_gd, litG_any, litG_sl, litG_ptr, litG_own, litG_at, litG_agg, evOp, evN, evA, evR, evW, evBin, evUn, evStr, evNil, evAgg, intsL, ptrish, nilPtr, capsOf, ownOf, matApp, mapOf, mapRes, cellsOf, opd, lkp, ins, del, HS.put, okDst, unmB, sortB, RV.menB, TV.menB, CV.menB, Ob.menB, CV.cell, CD.cell, Value.oneCell', thenQ, blockQ, loopQ, constRV, fieldOf, elemTy, idxArr, arrOf, partOf, litOf, Hl.lit, rowsOf, dataOf, baseOf, moreOf, setRow]; rfl, by simp [resR, nilC, li, i64]⟩, by simp, by simp⟩
              · refine HT_run (by simp [evs, evc, evcS, okCall, brw, brwL, brwT, brwA, frzC, frzL, frzP, matC, calleeOf, RV.ownB, CV.ownB, RV.onlyB, TV.onlyB, CV.onlyB, HS.made, impB_self, impB_true, impB_false, impB_one, impB_and, impB_and2, impB_imp, pickB_or, pickB_and, pickB_true, pickB_false, wpR, gdOf, clsOf, stpF, stpG, strip, gdR, ungd_true, litG_ungd, litG_lit, litG_gd, litG_any, litG_sl, litG_ptr, litG_own, litG_at, litG_agg, evOp, evN, evA, evR, evW, evBin, evUn, evStr, evNil, evAgg, intsL, ptrish, nilPtr, capsOf, ownOf, matApp, mapOf, mapRes, cellsOf, opd, lkp, ins, del, HS.put, okDst, unmB, sortB, RV.menB, TV.menB, CV.menB, Ob.menB, CV.cell, CD.cell, Value.oneCell', thenQ, blockQ, loopQ, constRV, fieldOf, elemTy, idxArr, arrOf, partOf, litOf, Hl.lit, rowsOf, dataOf, baseOf, moreOf, setRow, hwb]; rfl) ?_
                refine ⟨b + 1, ⟨hlb, fun y hy => ?_⟩, by omega, ?_⟩
                · by_cases e : y = b
                  · subst e
                    have h' : decide (r2 < 0) = false := hc2
                    simp only [decide_eq_false_iff_not] at h'
                    cases h3 : bndO names.length M a y with
                    | none => exact absurd (e1.2 h3) hr1
                    | some c1 =>
                      cases h4 : bndO names.length (flp M) a y with
                      | none => exact absurd (e2.2 h4) h'
                      | some c2 => rfl
                  · exact hbn2 y (by omega)
                · exact le_mk (fun n => n) [] rfl (by simp [allL, ins, RV.okNil, TV.okNil, CV.okNil, Ob.okNil, RV.ren, TV.ren, CV.ren, Ob.ren, pinR, opd, lkp, nilS, CV.frz, TV.frz, RV.frz, Ob.frz, HS.frz, mapL, del, P8, li, i64, hwb]) (by simp [allL, ins, RV.okNil, TV.okNil, CV.okNil, Ob.okNil, RV.ren, TV.ren, CV.ren, Ob.ren, pinR, opd, lkp, nilS, CV.frz, TV.frz, RV.frz, Ob.frz, HS.frz, mapL, del, P8, nsC, matB]) (by simp [allL, ins, RV.okNil, TV.okNil, CV.okNil, Ob.okNil, RV.ren, TV.ren, CV.ren, Ob.ren, pinR, opd, lkp, nilS, CV.frz, TV.frz, RV.frz, Ob.frz, HS.frz, mapL, del, P8])
          · have hbl : b = names.length := by simp at h; omega
            subst hbl
            refine HT_run (by simp [evs, evc, evcS, okCall, brw, brwL, brwT, brwA, frzC, frzL, frzP, matC, calleeOf, RV.ownB, CV.ownB, RV.onlyB, TV.onlyB, CV.onlyB, HS.made, impB_self, impB_true, impB_false, impB_one, impB_and, impB_and2, impB_imp, pickB_or, pickB_and, pickB_true, pickB_false, wpR, gdOf, clsOf, stpF, stpG, strip, gdR, ungd_true, litG_ungd, litG_lit, litG_gd, litG_any, litG_sl, litG_ptr, litG_own, litG_at, litG_agg, evOp, evN, evA, evR, evW, evBin, evUn, evStr, evNil, evAgg, intsL, ptrish, nilPtr, capsOf, ownOf, matApp, mapOf, mapRes, cellsOf, opd, lkp, ins, del, HS.put, okDst, unmB, sortB, RV.menB, TV.menB, CV.menB, Ob.menB, CV.cell, CD.cell, Value.oneCell', thenQ, blockQ, loopQ, constRV, fieldOf, elemTy, idxArr, arrOf, partOf, litOf, Hl.lit, rowsOf, dataOf, baseOf, moreOf, setRow, hwa]; rfl) ?_
            refine ⟨a + 1, ⟨hla, fun x hx => ?_⟩, by omega, ?_⟩
            · by_cases e : x = a
              · subst e
                unfold okRow
                rw [List.all_eq_true]
                intro y hy
                exact hbn2 y (by simpa using hy)
              · exact han x (by omega)
            · exact le_mk (fun n => n) [] rfl (by simp [allL, ins, RV.okNil, TV.okNil, CV.okNil, Ob.okNil, RV.ren, TV.ren, CV.ren, Ob.ren, pinR, opd, lkp, nilS, CV.frz, TV.frz, RV.frz, Ob.frz, HS.frz, mapL, del, P7, li, i64, hwa]) (by simp [allL, ins, RV.okNil, TV.okNil, CV.okNil, Ob.okNil, RV.ren, TV.ren, CV.ren, Ob.ren, pinR, opd, lkp, nilS, CV.frz, TV.frz, RV.frz, Ob.frz, HS.frz, mapL, del, P7]) (by simp [allL, ins, RV.okNil, TV.okNil, CV.okNil, Ob.okNil, RV.ren, TV.ren, CV.ren, Ob.ren, pinR, opd, lkp, nilS, CV.frz, TV.frz, RV.frz, Ob.frz, HS.frz, mapL, del, P7])
        · have hal : a = names.length := by simp at h; omega
          subst hal
          have hbr := badRow_none han
          rw [if_neg (by rw [hbr]; simp)] at hrf
          subst hrf
          rw [if_pos rfl] at hrr
          rw [hrr]
          refine HT_seq (HT_run (by simp [evs, evc, evcS, okCall, brw, brwL, brwT, brwA, frzC, frzL, frzP, matC, calleeOf, RV.ownB, CV.ownB, RV.onlyB, TV.onlyB, CV.onlyB, HS.made, impB_self, impB_true, impB_false, impB_one, impB_and, impB_and2, impB_imp, pickB_or, pickB_and, pickB_true, pickB_false, wpR, gdOf, clsOf, stpF, stpG, strip, gdR, ungd_true, litG_ungd, litG_lit, litG_gd, litG_any, litG_sl, litG_ptr, litG_own, litG_at, litG_agg, evOp, evN, evA, evR, evW, evBin, evUn, evStr, evNil, evAgg, intsL, ptrish, nilPtr, capsOf, ownOf, matApp, mapOf, mapRes, cellsOf, opd, lkp, ins, del, HS.put, okDst, unmB, sortB, RV.menB, TV.menB, CV.menB, Ob.menB, CV.cell, CD.cell, Value.oneCell', thenQ, blockQ, loopQ, constRV, fieldOf, elemTy, idxArr, arrOf, partOf, litOf, Hl.lit, rowsOf, dataOf, baseOf, moreOf, setRow, nsC, matB, nilC]; rfl) ?_)
          exact HT_ret ⟨.inr rfl, _, le_refl _, ⟨_, by simp [resL, resT, evs, evc, evcS, okCall, brw, brwL, brwT, brwA, frzC, frzL, frzP, matC, calleeOf, RV.ownB, CV.ownB, RV.onlyB, TV.onlyB, CV.onlyB, HS.made, impB_self, impB_true, impB_false, impB_one, impB_and, impB_and2, impB_imp, pickB_or, pickB_and, pickB_true, pickB_false, wpR, gdOf, clsOf, stpF, stpG, strip, gdR, ungd_true, litG_ungd, litG_lit, litG_gd, litG_any, litG_sl, litG_ptr, litG_own, litG_at, litG_agg, evOp, evN, evA, evR, evW, evBin, evUn, evStr, evNil, evAgg, intsL, ptrish, nilPtr, capsOf, ownOf, matApp, mapOf, mapRes, cellsOf, opd, lkp, ins, del, HS.put, okDst, unmB, sortB, RV.menB, TV.menB, CV.menB, Ob.menB, CV.cell, CD.cell, Value.oneCell', thenQ, blockQ, loopQ, constRV, fieldOf, elemTy, idxArr, arrOf, partOf, litOf, Hl.lit, rowsOf, dataOf, baseOf, moreOf, setRow]; rfl, by simp [resR, latT, nsC, matB, li, i64]⟩, by simp, by simp⟩
end Go.Proofs.Ytkechegbfjggcaa
