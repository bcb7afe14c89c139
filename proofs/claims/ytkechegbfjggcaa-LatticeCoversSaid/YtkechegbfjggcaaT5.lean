/- T5: contracts of functions of the package, used by the proof of the claimed statement. Conditions: as each theorem states. -/
import Derived.Test.YtkechegbfjggcaaT4
set_option linter.unusedSimpArgs false
set_option linter.unusedVariables false
namespace Go.Proofs.Ytkechegbfjggcaa
open Go Go.Hl

def letB (b : UInt8) : Bool := decide (97 ≤ b.toNat) && decide (b.toNat ≤ 122)
def digB (b : UInt8) : Bool := decide (48 ≤ b.toNat) && decide (b.toNat ≤ 57)
def chOk (s : ByteArray) (k : Nat) : Bool := match s[k]? with
  | some b => letB b || (!decide (k = 0) && digB b)
  | none => true
def nameB (s : ByteArray) : Bool := decide (1 ≤ s.size) && decide (s.size ≤ 12) && (List.range s.size).all (chOk s)

theorem byte_get {s : ByteArray} {k : Nat} (h : k < s.size) : ∃ b, s[k]? = some b := ⟨s[k], by simp [h]⟩
theorem empty_of {s : ByteArray} (h : s.size = 0) : s = ⟨#[]⟩ := by
  obtain ⟨⟨l⟩⟩ := s
  have : l = [] := List.eq_nil_of_length_eq_zero h
  rw [this]
theorem name_no {s : ByteArray} {k : Nat} {b : UInt8} (hk : k < s.size) (hb : s[k]? = some b) (h : (letB b || (!decide (k = 0) && digB b)) = false) : nameB s = false := by
  unfold nameB
  simp only [Bool.and_eq_false_iff, List.all_eq_false, List.mem_range]
  refine .inr ⟨k, hk, ?_⟩
  unfold chOk
  rw [hb]
  simp only
  rw [h]; simp
theorem name_yes {s : ByteArray} (h0 : 1 ≤ s.size) (h1 : s.size ≤ 12) (h : ∀ k, k < s.size → chOk s k = true) : nameB s = true := by
  unfold nameB
  simp only [Bool.and_eq_true, decide_eq_true_eq, List.all_eq_true, List.mem_range]
  exact ⟨⟨h0, h1⟩, h⟩
theorem empty_get : (⟨#[]⟩ : ByteArray)[0]? = none := rfl
theorem empty_size : (⟨#[]⟩ : ByteArray).size = 0 := rfl

def N1 (s : ByteArray) (k : Nat) : HS := ⟨45, [(0, .v (.one (.c (sC s)))), (23, .v (li s.size)), (24, .v (li k))], []⟩

set_option maxRecDepth 100000 in
theorem isname_con (s : ByteArray) (d : Nat) : Con Try.prog 36 true [.one (.c (sC s))] (.v (lb (nameB s))) none d := by
  refine con_of_HT Try.func36 rfl (by kernel_rfl) (Nat.le_of_ble_eq_true rfl) ?_
  simp only [Try.f36]
  have hno := @name_no s
  have hyes := @name_yes s
  have hn0 : s.size = 0 → nameB s = false := by intro h; unfold nameB; simp [h]
  have hn12 : 12 < s.size → nameB s = false := by intro h; unfold nameB; simp; intro _ h2; omega
  have hchk := fun k b (h : s[k]? = some b) => (show chOk s k = (letB b || (!decide (k = 0) && digB b)) by unfold chOk; rw [h])
  generalize nameB s = r at *
  refine HT_seq (HT_run (by simp [evs, evc, evcS, okCall, brw, brwL, brwT, brwA, frzC, frzL, frzP, matC, calleeOf, RV.ownB, CV.ownB, RV.onlyB, TV.onlyB, CV.onlyB, HS.made, impB_self, impB_true, impB_false, impB_one, impB_and, impB_and2, impB_imp, pickB_or, pickB_and, pickB_true, pickB_false, wpR, gdOf, clsOf, stpF, stpG, strip, gdR, ungd_true, litG_ungd, litG_lit, litG_gd, litG_any, litG_sl, litG_ptr, litG_own, litG_at, litG_agg, evOp, evN, evA, evR, evW, evBin, evUn, evStr, evNil, evAgg, intsL, ptrish, nilPtr, capsOf, ownOf, matApp, mapOf, mapRes, cellsOf, opd, lkp, ins, del, HS.put, okDst, unmB, sortB, RV.menB, TV.menB, CV.menB, Ob.menB, CV.cell, CD.cell, Value.oneCell', thenQ, blockQ, loopQ, constRV, fieldOf, elemTy, idxArr, arrOf, partOf, litOf, Hl.lit, rowsOf, dataOf, baseOf, moreOf, setRow, regsOf, sC]; rfl) ?_)
  by_cases h0 : s.size = 0
  · have e := empty_of h0
    subst e
    refine HT_seq (HT_seq (HT_run (by simp [evs, evc, evcS, okCall, brw, brwL, brwT, brwA, frzC, frzL, frzP, matC, calleeOf, RV.ownB, CV.ownB, RV.onlyB, TV.onlyB, CV.onlyB, HS.made, impB_self, impB_true, impB_false, impB_one, impB_and, impB_and2, impB_imp, pickB_or, pickB_and, pickB_true, pickB_false, wpR, gdOf, clsOf, stpF, stpG, strip, gdR, ungd_true, litG_ungd, litG_lit, litG_gd, litG_any, litG_sl, litG_ptr, litG_own, litG_at, litG_agg, evOp, evN, evA, evR, evW, evBin, evUn, evStr, evNil, evAgg, intsL, ptrish, nilPtr, capsOf, ownOf, matApp, mapOf, mapRes, cellsOf, opd, lkp, ins, del, HS.put, okDst, unmB, sortB, RV.menB, TV.menB, CV.menB, Ob.menB, CV.cell, CD.cell, Value.oneCell', thenQ, blockQ, loopQ, constRV, fieldOf, elemTy, idxArr, arrOf, partOf, litOf, Hl.lit, rowsOf, dataOf, baseOf, moreOf, setRow, empty_get]; rfl) ?_))
    refine HT_cond rfl (fun h => ?_) (fun h => by cases h)
    refine HT_seq (HT_run (by simp [evs, evc, evcS, okCall, brw, brwL, brwT, brwA, frzC, frzL, frzP, matC, calleeOf, RV.ownB, CV.ownB, RV.onlyB, TV.onlyB, CV.onlyB, HS.made, impB_self, impB_true, impB_false, impB_one, impB_and, impB_and2, impB_imp, pickB_or, pickB_and, pickB_true, pickB_false, wpR, gdOf, clsOf, stpF, stpG, strip, gdR, ungd_true, litG_ungd, litG_lit, litG_gd, litG_any, litG_sl, litG_ptr, litG_own, litG_at, litG_agg, evOp, evN, evA, evR, evW, evBin, evUn, evStr, evNil, evAgg, intsL, ptrish, nilPtr, capsOf, ownOf, matApp, mapOf, mapRes, cellsOf, opd, lkp, ins, del, HS.put, okDst, unmB, sortB, RV.menB, TV.menB, CV.menB, Ob.menB, CV.cell, CD.cell, Value.oneCell', thenQ, blockQ, loopQ, constRV, fieldOf, elemTy, idxArr, arrOf, partOf, litOf, Hl.lit, rowsOf, dataOf, baseOf, moreOf, setRow]; rfl) ?_)
    rw [hn0 h0]
    exact HT_ret ⟨.inr rfl, _, le_refl _, ⟨_, rfl, rfl⟩, by simp, fun _ => ⟨rfl, by simp⟩⟩
  have hne : ¬ s = ⟨#[]⟩ := by rintro rfl; exact h0 rfl
  obtain ⟨b0, hb0⟩ := byte_get (show 0 < s.size by omega)
  refine HT_seq (HT_seq (HT_run (by simp [evs, evc, evcS, okCall, brw, brwL, brwT, brwA, frzC, frzL, frzP, matC, calleeOf, RV.ownB, CV.ownB, RV.onlyB, TV.onlyB, CV.onlyB, HS.made, impB_self, impB_true, impB_false, impB_one, impB_and, impB_and2, impB_imp, pickB_or, pickB_and, pickB_true, pickB_false, wpR, gdOf, clsOf, stpF, stpG, strip, gdR, ungd_true, litG_ungd, litG_lit, litG_gd, litG_any, litG_sl, litG_ptr, litG_own, litG_at, litG_agg, evOp, evN, evA, evR, evW, evBin, evUn, evStr, evNil, evAgg, intsL, ptrish, nilPtr, capsOf, ownOf, matApp, mapOf, mapRes, cellsOf, opd, lkp, ins, del, HS.put, okDst, unmB, sortB, RV.menB, TV.menB, CV.menB, Ob.menB, CV.cell, CD.cell, Value.oneCell', thenQ, blockQ, loopQ, constRV, fieldOf, elemTy, idxArr, arrOf, partOf, litOf, Hl.lit, rowsOf, dataOf, baseOf, moreOf, setRow, hne, hb0]; rfl) ?_))
  refine HT_cond rfl (fun h => ?_) (fun h => HT_skip ?_)
  · refine HT_seq (HT_run (by simp [evs, evc, evcS, okCall, brw, brwL, brwT, brwA, frzC, frzL, frzP, matC, calleeOf, RV.ownB, CV.ownB, RV.onlyB, TV.onlyB, CV.onlyB, HS.made, impB_self, impB_true, impB_false, impB_one, impB_and, impB_and2, impB_imp, pickB_or, pickB_and, pickB_true, pickB_false, wpR, gdOf, clsOf, stpF, stpG, strip, gdR, ungd_true, litG_ungd, litG_lit, litG_gd, litG_any, litG_sl, litG_ptr, litG_own, litG_at, litG_agg, evOp, evN, evA, evR, evW, evBin, evUn, evStr, evNil, evAgg, intsL, ptrish, nilPtr, capsOf, ownOf, matApp, mapOf, mapRes, cellsOf, opd, lkp, ins, del, HS.put, okDst, unmB, sortB, RV.menB, TV.menB, CV.menB, Ob.menB, CV.cell, CD.cell, Value.oneCell', thenQ, blockQ, loopQ, constRV, fieldOf, elemTy, idxArr, arrOf, partOf, litOf, Hl.lit, rowsOf, dataOf, baseOf, moreOf, setRow]; rfl) ?_)
    have hr : r = false := by
      by_cases h12 : 12 < s.size
      · exact hn12 h12
      · refine hno (show 0 < s.size by omega) hb0 ?_
        simp at h
        simp [letB]
        omega
    rw [hr]
    exact HT_ret ⟨.inr rfl, _, le_refl _, ⟨_, rfl, rfl⟩, by simp, fun _ => ⟨rfl, by simp⟩⟩
  have h12 : s.size ≤ 12 ∧ 97 ≤ b0.toNat ∧ b0.toNat ≤ 122 := by simp at h; omega
  refine HT_seq (HT_seq (HT_run (by simp [evs, evc, evcS, okCall, brw, brwL, brwT, brwA, frzC, frzL, frzP, matC, calleeOf, RV.ownB, CV.ownB, RV.onlyB, TV.onlyB, CV.onlyB, HS.made, impB_self, impB_true, impB_false, impB_one, impB_and, impB_and2, impB_imp, pickB_or, pickB_and, pickB_true, pickB_false, wpR, gdOf, clsOf, stpF, stpG, strip, gdR, ungd_true, litG_ungd, litG_lit, litG_gd, litG_any, litG_sl, litG_ptr, litG_own, litG_at, litG_agg, evOp, evN, evA, evR, evW, evBin, evUn, evStr, evNil, evAgg, intsL, ptrish, nilPtr, capsOf, ownOf, matApp, mapOf, mapRes, cellsOf, opd, lkp, ins, del, HS.put, okDst, unmB, sortB, RV.menB, TV.menB, CV.menB, Ob.menB, CV.cell, CD.cell, Value.oneCell', thenQ, blockQ, loopQ, constRV, fieldOf, elemTy, idxArr, arrOf, partOf, litOf, Hl.lit, rowsOf, dataOf, baseOf, moreOf, setRow]; rfl) ?_))
  refine HT_block (HT_loop (N1 s) (fun k => k ≤ s.size ∧ ∀ c, c < k → chOk s c = true) (fun k => s.size - k) 0 ⟨Nat.zero_le _, by simp⟩ ?_ ?_)
  · exact le_mk (fun n => n) [] rfl (by simp [allL, ins, RV.okNil, TV.okNil, CV.okNil, Ob.okNil, RV.ren, TV.ren, CV.ren, Ob.ren, pinR, opd, lkp, nilS, CV.frz, TV.frz, RV.frz, Ob.frz, HS.frz, mapL, del, N1, li, i64, sC]) (by simp [allL, ins, RV.okNil, TV.okNil, CV.okNil, Ob.okNil, RV.ren, TV.ren, CV.ren, Ob.ren, pinR, opd, lkp, nilS, CV.frz, TV.frz, RV.frz, Ob.frz, HS.frz, mapL, del, N1]) (by simp [allL, ins, RV.okNil, TV.okNil, CV.okNil, Ob.okNil, RV.ren, TV.ren, CV.ren, Ob.ren, pinR, opd, lkp, nilS, CV.frz, TV.frz, RV.frz, Ob.frz, HS.frz, mapL, del, N1])
  rintro k ⟨hk, hall⟩
  simp only [N1]
  refine HT_seq (HT_run (by simp [evs, evc, evcS, okCall, brw, brwL, brwT, brwA, frzC, frzL, frzP, matC, calleeOf, RV.ownB, CV.ownB, RV.onlyB, TV.onlyB, CV.onlyB, HS.made, impB_self, impB_true, impB_false, impB_one, impB_and, impB_and2, impB_imp, pickB_or, pickB_and, pickB_true, pickB_false, wpR, gdOf, clsOf, stpF, stpG, strip, gdR, ungd_true, litG_ungd, litG_lit, litG_gd, litG_any, litG_sl, litG_ptr, litG_own, litG_at, litG_agg, evOp, evN, evA, evR, evW, evBin, evUn, evStr, evNil, evAgg, intsL, ptrish, nilPtr, capsOf, ownOf, matApp, mapOf, mapRes, cellsOf, opd, lkp, ins, del, HS.put, okDst, unmB, sortB, RV.menB, TV.menB, CV.menB, Ob.menB, CV.cell, CD.cell, Value.oneCell', thenQ, blockQ, loopQ, constRV, fieldOf, elemTy, idxArr, arrOf, partOf, litOf, Hl.lit, rowsOf, dataOf, baseOf, moreOf, setRow, li, i64, sC]; rfl) ?_)
  refine HT_seq (HT_cond rfl (fun h => HT_skip ?_) (fun h => HT_exit ?_))
  · have hlt : k < s.size := by simpa using h
    have hw : IntKind.i64.wrap ((k : Int) + 1) = (k : Int) + 1 := wrap_in (by omega) (by omega)
    obtain ⟨b, hb⟩ := byte_get hlt
    refine HT_seq (HT_block (HT_seq (HT_run (by simp [evs, evc, evcS, okCall, brw, brwL, brwT, brwA, frzC, frzL, frzP, matC, calleeOf, RV.ownB, CV.ownB, RV.onlyB, TV.onlyB, CV.onlyB, HS.made, impB_self, impB_true, impB_false, impB_one, impB_and, impB_and2, impB_imp, pickB_or, pickB_and, pickB_true, pickB_false, wpR, gdOf, clsOf, stpF, stpG, strip, gdR, ungd_true, litG_ungd, litG_lit, litG_gd, litG_any, litG_sl, litG_ptr, litG_own, litG_at, litG_agg, evOp, evN, evA, evR, evW, evBin, evUn, evStr, evNil, evAgg, intsL, ptrish, nilPtr, capsOf, ownOf, matApp, mapOf, mapRes, cellsOf, opd, lkp, ins, del, HS.put, okDst, unmB, sortB, RV.menB, TV.menB, CV.menB, Ob.menB, CV.cell, CD.cell, Value.oneCell', thenQ, blockQ, loopQ, constRV, fieldOf, elemTy, idxArr, arrOf, partOf, litOf, Hl.lit, rowsOf, dataOf, baseOf, moreOf, setRow]; rfl) ?_)))
    refine HT_seq (HT_run (by simp [evs, evc, evcS, okCall, brw, brwL, brwT, brwA, frzC, frzL, frzP, matC, calleeOf, RV.ownB, CV.ownB, RV.onlyB, TV.onlyB, CV.onlyB, HS.made, impB_self, impB_true, impB_false, impB_one, impB_and, impB_and2, impB_imp, pickB_or, pickB_and, pickB_true, pickB_false, wpR, gdOf, clsOf, stpF, stpG, strip, gdR, ungd_true, litG_ungd, litG_lit, litG_gd, litG_any, litG_sl, litG_ptr, litG_own, litG_at, litG_agg, evOp, evN, evA, evR, evW, evBin, evUn, evStr, evNil, evAgg, intsL, ptrish, nilPtr, capsOf, ownOf, matApp, mapOf, mapRes, cellsOf, opd, lkp, ins, del, HS.put, okDst, unmB, sortB, RV.menB, TV.menB, CV.menB, Ob.menB, CV.cell, CD.cell, Value.oneCell', thenQ, blockQ, loopQ, constRV, fieldOf, elemTy, idxArr, arrOf, partOf, litOf, Hl.lit, rowsOf, dataOf, baseOf, moreOf, setRow, hb]; rfl) ?_)
    refine HT_seq (HT_run (by simp [evs, evc, evcS, okCall, brw, brwL, brwT, brwA, frzC, frzL, frzP, matC, calleeOf, RV.ownB, CV.ownB, RV.onlyB, TV.onlyB, CV.onlyB, HS.made, impB_self, impB_true, impB_false, impB_one, impB_and, impB_and2, impB_imp, pickB_or, pickB_and, pickB_true, pickB_false, wpR, gdOf, clsOf, stpF, stpG, strip, gdR, ungd_true, litG_ungd, litG_lit, litG_gd, litG_any, litG_sl, litG_ptr, litG_own, litG_at, litG_agg, evOp, evN, evA, evR, evW, evBin, evUn, evStr, evNil, evAgg, intsL, ptrish, nilPtr, capsOf, ownOf, matApp, mapOf, mapRes, cellsOf, opd, lkp, ins, del, HS.put, okDst, unmB, sortB, RV.menB, TV.menB, CV.menB, Ob.menB, CV.cell, CD.cell, Value.oneCell', thenQ, blockQ, loopQ, constRV, fieldOf, elemTy, idxArr, arrOf, partOf, litOf, Hl.lit, rowsOf, dataOf, baseOf, moreOf, setRow]; rfl) ?_)
    refine HT_cond rfl (fun h => ?_) (fun hcd => HT_skip ?_)
    · refine HT_seq (HT_run (by simp [evs, evc, evcS, okCall, brw, brwL, brwT, brwA, frzC, frzL, frzP, matC, calleeOf, RV.ownB, CV.ownB, RV.onlyB, TV.onlyB, CV.onlyB, HS.made, impB_self, impB_true, impB_false, impB_one, impB_and, impB_and2, impB_imp, pickB_or, pickB_and, pickB_true, pickB_false, wpR, gdOf, clsOf, stpF, stpG, strip, gdR, ungd_true, litG_ungd, litG_lit, litG_gd, litG_any, litG_sl, litG_ptr, litG_own, litG_at, litG_agg, evOp, evN, evA, evR, evW, evBin, evUn, evStr, evNil, evAgg, intsL, ptrish, nilPtr, capsOf, ownOf, matApp, mapOf, mapRes, cellsOf, opd, lkp, ins, del, HS.put, okDst, unmB, sortB, RV.menB, TV.menB, CV.menB, Ob.menB, CV.cell, CD.cell, Value.oneCell', thenQ, blockQ, loopQ, constRV, fieldOf, elemTy, idxArr, arrOf, partOf, litOf, Hl.lit, rowsOf, dataOf, baseOf, moreOf, setRow]; rfl) ?_)
      have hr : r = false := by
        refine hno hlt hb ?_
        simp at h
        simp [letB, digB]
        omega
      rw [hr]
      exact HT_ret ⟨.inr rfl, _, le_refl _, ⟨_, rfl, rfl⟩, by simp, fun _ => ⟨rfl, by simp⟩⟩
    · refine HT_run (by simp [evs, evc, evcS, okCall, brw, brwL, brwT, brwA, frzC, frzL, frzP, matC, calleeOf, RV.ownB, CV.ownB, RV.onlyB, TV.onlyB, CV.onlyB, HS.made, impB_self, impB_true, impB_false, impB_one, impB_and, impB_and2, impB_imp, pickB_or, pickB_and, pickB_true, pickB_false, wpR, gdOf, clsOf, stpF, stpG, strip, gdR, ungd_true, litG_ungd, litG_lit, litG_gd, litG_any, litG_sl, litG_ptr, litG_own, litG_at, litG_agg, evOp, evN, evA, evR, evW, evBin, evUn, evStr, evNil, evAgg, intsL, ptrish, nilPtr, capsOf, ownOf, matApp, mapOf, mapRes, cellsOf, opd, lkp, ins, del, HS.put, okDst, unmB, sortB, RV.menB, TV.menB, CV.menB, Ob.menB, CV.cell, CD.cell, Value.oneCell', thenQ, blockQ, loopQ, constRV, fieldOf, elemTy, idxArr, arrOf, partOf, litOf, Hl.lit, rowsOf, dataOf, baseOf, moreOf, setRow, hw]; rfl) ?_
      refine ⟨k + 1, ⟨hlt, fun c hc => ?_⟩, by omega, ?_⟩
      · by_cases e : c = k
        · subst e
          rw [hchk c b hb]
          by_cases hc0 : c = 0
          · subst hc0
            have : b = b0 := by rw [hb0] at hb; exact (Option.some.inj hb).symm
            subst this
            simp [letB, h12]
          · simp at hcd
            simp [letB, digB, hc0]
            omega
        · exact hall c (by omega)
      · exact le_mk (fun n => n) [] rfl (by simp [allL, ins, RV.okNil, TV.okNil, CV.okNil, Ob.okNil, RV.ren, TV.ren, CV.ren, Ob.ren, pinR, opd, lkp, nilS, CV.frz, TV.frz, RV.frz, Ob.frz, HS.frz, mapL, del, N1, li, i64, sC, hw]) (by simp [allL, ins, RV.okNil, TV.okNil, CV.okNil, Ob.okNil, RV.ren, TV.ren, CV.ren, Ob.ren, pinR, opd, lkp, nilS, CV.frz, TV.frz, RV.frz, Ob.frz, HS.frz, mapL, del, N1]) (by simp [allL, ins, RV.okNil, TV.okNil, CV.okNil, Ob.okNil, RV.ren, TV.ren, CV.ren, Ob.ren, pinR, opd, lkp, nilS, CV.frz, TV.frz, RV.frz, Ob.frz, HS.frz, mapL, del, N1])
  · have hks : k = s.size := by simp at h; omega
    subst hks
    refine HT_seq (HT_run (by simp [evs, evc, evcS, okCall, brw, brwL, brwT, brwA, frzC, frzL, frzP, matC, calleeOf, RV.ownB, CV.ownB, RV.onlyB, TV.onlyB, CV.onlyB, HS.made, impB_self, impB_true, impB_false, impB_one, impB_and, impB_and2, impB_imp, pickB_or, pickB_and, pickB_true, pickB_false, wpR, gdOf, clsOf, stpF, stpG, strip, gdR, ungd_true, litG_ungd, litG_lit, litG_gd, litG_any, litG_sl, litG_ptr, litG_own, litG_at, litG_agg, evOp, evN, evA, evR, evW, evBin, evUn, evStr, evNil, evAgg, intsL, ptrish, nilPtr, capsOf, ownOf, matApp, mapOf, mapRes, cellsOf, opd, lkp, ins, del, HS.put, okDst, unmB, sortB, RV.menB, TV.menB, CV.menB, Ob.menB, CV.cell, CD.cell, Value.oneCell', thenQ, blockQ, loopQ, constRV, fieldOf, elemTy, idxArr, arrOf, partOf, litOf, Hl.lit, rowsOf, dataOf, baseOf, moreOf, setRow]; rfl) ?_)
    rw [hyes (by omega) h12.1 hall]
    exact HT_ret ⟨.inr rfl, _, le_refl _, ⟨_, rfl, by simp [evs, evc, evcS, okCall, brw, brwL, brwT, brwA, frzC, frzL, frzP, matC, calleeOf, RV.ownB, CV.ownB, RV.onlyB, TV.onlyB, CV.onlyB, HS.made, impB_self, impB_true, impB_false, impB_one, impB_and, impB_and2, impB_imp, pickB_or, pickB_and, pickB_true, pickB_false, wpR, gdOf, clsOf, stpF, stpG, strip, gdR, ungd_true, litG_ungd, litG_lit, litG_gd, litG_any, litG_sl, litG_ptr, litG_own, litG_at, litG_agg, evOp, evN, evA, evR, evW, evBin, evUn, evStr, evNil, evAgg, intsL, ptrish, nilPtr, capsOf, ownOf, matApp, mapOf, mapRes, cellsOf, opd, lkp, ins, del, HS.put, okDst, unmB, sortB, RV.menB, TV.menB, CV.menB, Ob.menB, CV.cell, CD.cell, Value.oneCell', thenQ, blockQ, loopQ, constRV, fieldOf, elemTy, idxArr, arrOf, partOf, litOf, Hl.lit, rowsOf, dataOf, baseOf, moreOf, setRow, resR, lb, bC]⟩, by simp, fun _ => ⟨rfl, by simp⟩⟩

def N2 (s : ByteArray) (k : Nat) : HS := ⟨50, [(0, .v (.one (.c (sC s)))), (3, .v (li k))], []⟩

set_option maxRecDepth 100000 in
theorem refname_con (s : ByteArray) (d : Nat) : Con Try.prog 39 true [.one (.c (sC s))] (.v (lb (nameB s))) none d := by
  refine con_of_HT Try.func39 rfl (by kernel_rfl) (Nat.le_of_ble_eq_true rfl) ?_
  simp only [Try.f39]
  have hno := @name_no s
  have hyes := @name_yes s
  have hn0 : s.size = 0 → nameB s = false := by intro h; unfold nameB; simp [h]
  have hn12 : 12 < s.size → nameB s = false := by intro h; unfold nameB; simp; intro _ h2; omega
  have hchk := fun k b (h : s[k]? = some b) => (show chOk s k = (letB b || (!decide (k = 0) && digB b)) by unfold chOk; rw [h])
  generalize nameB s = r at *
  refine HT_seq (HT_run (by simp [evs, evc, evcS, okCall, brw, brwL, brwT, brwA, frzC, frzL, frzP, matC, calleeOf, RV.ownB, CV.ownB, RV.onlyB, TV.onlyB, CV.onlyB, HS.made, impB_self, impB_true, impB_false, impB_one, impB_and, impB_and2, impB_imp, pickB_or, pickB_and, pickB_true, pickB_false, wpR, gdOf, clsOf, stpF, stpG, strip, gdR, ungd_true, litG_ungd, litG_lit, litG_gd, litG_any, litG_sl, litG_ptr, litG_own, litG_at, litG_agg, evOp, evN, evA, evR, evW, evBin, evUn, evStr, evNil, evAgg, intsL, ptrish, nilPtr, capsOf, ownOf, matApp, mapOf, mapRes, cellsOf, opd, lkp, ins, del, HS.put, okDst, unmB, sortB, RV.menB, TV.menB, CV.menB, Ob.menB, CV.cell, CD.cell, Value.oneCell', thenQ, blockQ, loopQ, constRV, fieldOf, elemTy, idxArr, arrOf, partOf, litOf, Hl.lit, rowsOf, dataOf, baseOf, moreOf, setRow, regsOf, sC]; rfl) ?_)
  refine HT_seq (HT_seq (HT_run (by simp [evs, evc, evcS, okCall, brw, brwL, brwT, brwA, frzC, frzL, frzP, matC, calleeOf, RV.ownB, CV.ownB, RV.onlyB, TV.onlyB, CV.onlyB, HS.made, impB_self, impB_true, impB_false, impB_one, impB_and, impB_and2, impB_imp, pickB_or, pickB_and, pickB_true, pickB_false, wpR, gdOf, clsOf, stpF, stpG, strip, gdR, ungd_true, litG_ungd, litG_lit, litG_gd, litG_any, litG_sl, litG_ptr, litG_own, litG_at, litG_agg, evOp, evN, evA, evR, evW, evBin, evUn, evStr, evNil, evAgg, intsL, ptrish, nilPtr, capsOf, ownOf, matApp, mapOf, mapRes, cellsOf, opd, lkp, ins, del, HS.put, okDst, unmB, sortB, RV.menB, TV.menB, CV.menB, Ob.menB, CV.cell, CD.cell, Value.oneCell', thenQ, blockQ, loopQ, constRV, fieldOf, elemTy, idxArr, arrOf, partOf, litOf, Hl.lit, rowsOf, dataOf, baseOf, moreOf, setRow]; rfl) ?_))
  refine HT_cond rfl (fun h => ?_) (fun h => HT_skip ?_)
  · refine HT_seq (HT_run (by simp [evs, evc, evcS, okCall, brw, brwL, brwT, brwA, frzC, frzL, frzP, matC, calleeOf, RV.ownB, CV.ownB, RV.onlyB, TV.onlyB, CV.onlyB, HS.made, impB_self, impB_true, impB_false, impB_one, impB_and, impB_and2, impB_imp, pickB_or, pickB_and, pickB_true, pickB_false, wpR, gdOf, clsOf, stpF, stpG, strip, gdR, ungd_true, litG_ungd, litG_lit, litG_gd, litG_any, litG_sl, litG_ptr, litG_own, litG_at, litG_agg, evOp, evN, evA, evR, evW, evBin, evUn, evStr, evNil, evAgg, intsL, ptrish, nilPtr, capsOf, ownOf, matApp, mapOf, mapRes, cellsOf, opd, lkp, ins, del, HS.put, okDst, unmB, sortB, RV.menB, TV.menB, CV.menB, Ob.menB, CV.cell, CD.cell, Value.oneCell', thenQ, blockQ, loopQ, constRV, fieldOf, elemTy, idxArr, arrOf, partOf, litOf, Hl.lit, rowsOf, dataOf, baseOf, moreOf, setRow]; rfl) ?_)
    have hr : r = false := by
      simp at h
      rcases h with h | h
      · exact hn0 (by omega)
      · exact hn12 (by omega)
    rw [hr]
    exact HT_ret ⟨.inr rfl, _, le_refl _, ⟨_, rfl, rfl⟩, by simp, fun _ => ⟨rfl, by simp⟩⟩
  have h12 : 1 ≤ s.size ∧ s.size ≤ 12 := by simp at h; omega
  refine HT_seq (HT_seq (HT_run (by simp [evs, evc, evcS, okCall, brw, brwL, brwT, brwA, frzC, frzL, frzP, matC, calleeOf, RV.ownB, CV.ownB, RV.onlyB, TV.onlyB, CV.onlyB, HS.made, impB_self, impB_true, impB_false, impB_one, impB_and, impB_and2, impB_imp, pickB_or, pickB_and, pickB_true, pickB_false, wpR, gdOf, clsOf, stpF, stpG, strip, gdR, ungd_true, litG_ungd, litG_lit, litG_gd, litG_any, litG_sl, litG_ptr, litG_own, litG_at, litG_agg, evOp, evN, evA, evR, evW, evBin, evUn, evStr, evNil, evAgg, intsL, ptrish, nilPtr, capsOf, ownOf, matApp, mapOf, mapRes, cellsOf, opd, lkp, ins, del, HS.put, okDst, unmB, sortB, RV.menB, TV.menB, CV.menB, Ob.menB, CV.cell, CD.cell, Value.oneCell', thenQ, blockQ, loopQ, constRV, fieldOf, elemTy, idxArr, arrOf, partOf, litOf, Hl.lit, rowsOf, dataOf, baseOf, moreOf, setRow]; rfl) ?_))
  refine HT_block (HT_loop (N2 s) (fun k => k ≤ s.size ∧ ∀ c, c < k → chOk s c = true) (fun k => s.size - k) 0 ⟨Nat.zero_le _, by simp⟩ ?_ ?_)
  · exact le_mk (fun n => n) [] rfl (by simp [allL, ins, RV.okNil, TV.okNil, CV.okNil, Ob.okNil, RV.ren, TV.ren, CV.ren, Ob.ren, pinR, opd, lkp, nilS, CV.frz, TV.frz, RV.frz, Ob.frz, HS.frz, mapL, del, N2, li, i64, sC]) (by simp [allL, ins, RV.okNil, TV.okNil, CV.okNil, Ob.okNil, RV.ren, TV.ren, CV.ren, Ob.ren, pinR, opd, lkp, nilS, CV.frz, TV.frz, RV.frz, Ob.frz, HS.frz, mapL, del, N2]) (by simp [allL, ins, RV.okNil, TV.okNil, CV.okNil, Ob.okNil, RV.ren, TV.ren, CV.ren, Ob.ren, pinR, opd, lkp, nilS, CV.frz, TV.frz, RV.frz, Ob.frz, HS.frz, mapL, del, N2])
  rintro k ⟨hk, hall⟩
  simp only [N2]
  refine HT_seq (HT_seq (HT_run (by simp [evs, evc, evcS, okCall, brw, brwL, brwT, brwA, frzC, frzL, frzP, matC, calleeOf, RV.ownB, CV.ownB, RV.onlyB, TV.onlyB, CV.onlyB, HS.made, impB_self, impB_true, impB_false, impB_one, impB_and, impB_and2, impB_imp, pickB_or, pickB_and, pickB_true, pickB_false, wpR, gdOf, clsOf, stpF, stpG, strip, gdR, ungd_true, litG_ungd, litG_lit, litG_gd, litG_any, litG_sl, litG_ptr, litG_own, litG_at, litG_agg, evOp, evN, evA, evR, evW, evBin, evUn, evStr, evNil, evAgg, intsL, ptrish, nilPtr, capsOf, ownOf, matApp, mapOf, mapRes, cellsOf, opd, lkp, ins, del, HS.put, okDst, unmB, sortB, RV.menB, TV.menB, CV.menB, Ob.menB, CV.cell, CD.cell, Value.oneCell', thenQ, blockQ, loopQ, constRV, fieldOf, elemTy, idxArr, arrOf, partOf, litOf, Hl.lit, rowsOf, dataOf, baseOf, moreOf, setRow, li, i64, sC]; rfl) ?_))
  refine HT_cond rfl (fun h => HT_skip ?_) (fun h => HT_exit ?_)
  · have hlt : k < s.size := by simpa using h
    have hw : IntKind.i64.wrap ((k : Int) + 1) = (k : Int) + 1 := wrap_in (by omega) (by omega)
    obtain ⟨b, hb⟩ := byte_get hlt
    refine HT_seq (HT_block (HT_seq (HT_run (by simp [evs, evc, evcS, okCall, brw, brwL, brwT, brwA, frzC, frzL, frzP, matC, calleeOf, RV.ownB, CV.ownB, RV.onlyB, TV.onlyB, CV.onlyB, HS.made, impB_self, impB_true, impB_false, impB_one, impB_and, impB_and2, impB_imp, pickB_or, pickB_and, pickB_true, pickB_false, wpR, gdOf, clsOf, stpF, stpG, strip, gdR, ungd_true, litG_ungd, litG_lit, litG_gd, litG_any, litG_sl, litG_ptr, litG_own, litG_at, litG_agg, evOp, evN, evA, evR, evW, evBin, evUn, evStr, evNil, evAgg, intsL, ptrish, nilPtr, capsOf, ownOf, matApp, mapOf, mapRes, cellsOf, opd, lkp, ins, del, HS.put, okDst, unmB, sortB, RV.menB, TV.menB, CV.menB, Ob.menB, CV.cell, CD.cell, Value.oneCell', thenQ, blockQ, loopQ, constRV, fieldOf, elemTy, idxArr, arrOf, partOf, litOf, Hl.lit, rowsOf, dataOf, baseOf, moreOf, setRow, hb]; rfl) ?_)))
    refine HT_seq (HT_run (by simp [evs, evc, evcS, okCall, brw, brwL, brwT, brwA, frzC, frzL, frzP, matC, calleeOf, RV.ownB, CV.ownB, RV.onlyB, TV.onlyB, CV.onlyB, HS.made, impB_self, impB_true, impB_false, impB_one, impB_and, impB_and2, impB_imp, pickB_or, pickB_and, pickB_true, pickB_false, wpR, gdOf, clsOf, stpF, stpG, strip, gdR, ungd_true, litG_ungd, litG_lit, litG_gd, litG_any, litG_sl, litG_ptr, litG_own, litG_at, litG_agg, evOp, evN, evA, evR, evW, evBin, evUn, evStr, evNil, evAgg, intsL, ptrish, nilPtr, capsOf, ownOf, matApp, mapOf, mapRes, cellsOf, opd, lkp, ins, del, HS.put, okDst, unmB, sortB, RV.menB, TV.menB, CV.menB, Ob.menB, CV.cell, CD.cell, Value.oneCell', thenQ, blockQ, loopQ, constRV, fieldOf, elemTy, idxArr, arrOf, partOf, litOf, Hl.lit, rowsOf, dataOf, baseOf, moreOf, setRow, hb]; rfl) ?_)
    refine HT_seq (HT_run (by simp [evs, evc, evcS, okCall, brw, brwL, brwT, brwA, frzC, frzL, frzP, matC, calleeOf, RV.ownB, CV.ownB, RV.onlyB, TV.onlyB, CV.onlyB, HS.made, impB_self, impB_true, impB_false, impB_one, impB_and, impB_and2, impB_imp, pickB_or, pickB_and, pickB_true, pickB_false, wpR, gdOf, clsOf, stpF, stpG, strip, gdR, ungd_true, litG_ungd, litG_lit, litG_gd, litG_any, litG_sl, litG_ptr, litG_own, litG_at, litG_agg, evOp, evN, evA, evR, evW, evBin, evUn, evStr, evNil, evAgg, intsL, ptrish, nilPtr, capsOf, ownOf, matApp, mapOf, mapRes, cellsOf, opd, lkp, ins, del, HS.put, okDst, unmB, sortB, RV.menB, TV.menB, CV.menB, Ob.menB, CV.cell, CD.cell, Value.oneCell', thenQ, blockQ, loopQ, constRV, fieldOf, elemTy, idxArr, arrOf, partOf, litOf, Hl.lit, rowsOf, dataOf, baseOf, moreOf, setRow]; rfl) ?_)
    refine HT_cond rfl (fun h => ?_) (fun hcd => HT_skip ?_)
    · refine HT_seq (HT_run (by simp [evs, evc, evcS, okCall, brw, brwL, brwT, brwA, frzC, frzL, frzP, matC, calleeOf, RV.ownB, CV.ownB, RV.onlyB, TV.onlyB, CV.onlyB, HS.made, impB_self, impB_true, impB_false, impB_one, impB_and, impB_and2, impB_imp, pickB_or, pickB_and, pickB_true, pickB_false, wpR, gdOf, clsOf, stpF, stpG, strip, gdR, ungd_true, litG_ungd, litG_lit, litG_gd, litG_any, litG_sl, litG_ptr, litG_own, litG_at, litG_agg, evOp, evN, evA, evR, evW, evBin, evUn, evStr, evNil, evAgg, intsL, ptrish, nilPtr, capsOf, ownOf, matApp, mapOf, mapRes, cellsOf, opd, lkp, ins, del, HS.put, okDst, unmB, sortB, RV.menB, TV.menB, CV.menB, Ob.menB, CV.cell, CD.cell, Value.oneCell', thenQ, blockQ, loopQ, constRV, fieldOf, elemTy, idxArr, arrOf, partOf, litOf, Hl.lit, rowsOf, dataOf, baseOf, moreOf, setRow]; rfl) ?_)
      have hr : r = false := by
        refine hno hlt hb ?_
        simp at h
        simp [letB, digB]
        omega
      rw [hr]
      exact HT_ret ⟨.inr rfl, _, le_refl _, ⟨_, rfl, rfl⟩, by simp, fun _ => ⟨rfl, by simp⟩⟩
    · refine HT_run (by simp [evs, evc, evcS, okCall, brw, brwL, brwT, brwA, frzC, frzL, frzP, matC, calleeOf, RV.ownB, CV.ownB, RV.onlyB, TV.onlyB, CV.onlyB, HS.made, impB_self, impB_true, impB_false, impB_one, impB_and, impB_and2, impB_imp, pickB_or, pickB_and, pickB_true, pickB_false, wpR, gdOf, clsOf, stpF, stpG, strip, gdR, ungd_true, litG_ungd, litG_lit, litG_gd, litG_any, litG_sl, litG_ptr, litG_own, litG_at, litG_agg, evOp, evN, evA, evR, evW, evBin, evUn, evStr, evNil, evAgg, intsL, ptrish, nilPtr, capsOf, ownOf, matApp, mapOf, mapRes, cellsOf, opd, lkp, ins, del, HS.put, okDst, unmB, sortB, RV.menB, TV.menB, CV.menB, Ob.menB, CV.cell, CD.cell, Value.oneCell', thenQ, blockQ, loopQ, constRV, fieldOf, elemTy, idxArr, arrOf, partOf, litOf, Hl.lit, rowsOf, dataOf, baseOf, moreOf, setRow, hw]; rfl) ?_
      refine ⟨k + 1, ⟨hlt, fun c hc => ?_⟩, by omega, ?_⟩
      · by_cases e : c = k
        · subst e
          rw [hchk c b hb]
          simp at hcd
          simp [letB, digB]
          omega
        · exact hall c (by omega)
      · exact le_mk (fun n => n) [] rfl (by simp [allL, ins, RV.okNil, TV.okNil, CV.okNil, Ob.okNil, RV.ren, TV.ren, CV.ren, Ob.ren, pinR, opd, lkp, nilS, CV.frz, TV.frz, RV.frz, Ob.frz, HS.frz, mapL, del, N2, li, i64, sC, hw]) (by simp [allL, ins, RV.okNil, TV.okNil, CV.okNil, Ob.okNil, RV.ren, TV.ren, CV.ren, Ob.ren, pinR, opd, lkp, nilS, CV.frz, TV.frz, RV.frz, Ob.frz, HS.frz, mapL, del, N2]) (by simp [allL, ins, RV.okNil, TV.okNil, CV.okNil, Ob.okNil, RV.ren, TV.ren, CV.ren, Ob.ren, pinR, opd, lkp, nilS, CV.frz, TV.frz, RV.frz, Ob.frz, HS.frz, mapL, del, N2])
  · have hks : k = s.size := by simp at h; omega
    subst hks
    refine HT_seq (HT_run (by simp [evs, evc, evcS, okCall, brw, brwL, brwT, brwA, frzC, frzL, frzP, matC, calleeOf, RV.ownB, CV.ownB, RV.onlyB, TV.onlyB, CV.onlyB, HS.made, impB_self, impB_true, impB_false, impB_one, impB_and, impB_and2, impB_imp, pickB_or, pickB_and, pickB_true, pickB_false, wpR, gdOf, clsOf, stpF, stpG, strip, gdR, ungd_true, litG_ungd, litG_lit, litG_gd, litG_any, litG_sl, litG_ptr, litG_own, litG_at, litG_agg, evOp, evN, evA, evR, evW, evBin, evUn, evStr, evNil, evAgg, intsL, ptrish, nilPtr, capsOf, ownOf, matApp, mapOf, mapRes, cellsOf, opd, lkp, ins, del, HS.put, okDst, unmB, sortB, RV.menB, TV.menB, CV.menB, Ob.menB, CV.cell, CD.cell, Value.oneCell', thenQ, blockQ, loopQ, constRV, fieldOf, elemTy, idxArr, arrOf, partOf, litOf, Hl.lit, rowsOf, dataOf, baseOf, moreOf, setRow]; rfl) ?_)
    rw [hyes h12.1 h12.2 hall]
    exact HT_ret ⟨.inr rfl, _, le_refl _, ⟨_, rfl, by simp [evs, evc, evcS, okCall, brw, brwL, brwT, brwA, frzC, frzL, frzP, matC, calleeOf, RV.ownB, CV.ownB, RV.onlyB, TV.onlyB, CV.onlyB, HS.made, impB_self, impB_true, impB_false, impB_one, impB_and, impB_and2, impB_imp, pickB_or, pickB_and, pickB_true, pickB_false, wpR, gdOf, clsOf, stpF, stpG, strip, gdR, ungd_true, litG_ungd, litG_lit, litG_gd, litG_any, litG_sl, litG_ptr, litG_own, litG_at, litG_agg, evOp, evN, evA, evR, evW, evBin, evUn, evStr, evNil, evAgg, intsL, ptrish, nilPtr, capsOf, ownOf, matApp, mapOf, mapRes, cellsOf, opd, lkp, ins, del, HS.put, okDst, unmB, sortB, RV.menB, TV.menB, CV.menB, Ob.menB, CV.cell, CD.cell, Value.oneCell', thenQ, blockQ, loopQ, constRV, fieldOf, elemTy, idxArr, arrOf, partOf, litOf, Hl.lit, rowsOf, dataOf, baseOf, moreOf, setRow, resR, lb, bC]⟩, by simp, fun _ => ⟨rfl, by simp⟩⟩
end Go.Proofs.Ytkechegbfjggcaa
