/- T5: contracts of functions of the package, used by the proof of the claimed statement. Conditions: as each theorem states. -/
import Derived.Test.YtpnhnldneecpnaaT4
set_option linter.unusedSimpArgs false
set_option linter.unusedVariables false
namespace Go.Proofs.Ytpnhnldneecpnaa
open Go Go.Hl

def S5 (vars : List Var) (kind : Int) (k : Nat) : HS :=
  ⟨29, [(0, .v (encVs vars)), (1, .v (li kind)), (5, .v (.one (.own 1005))), (6, .v (li k))], [(1005, .row 51 5 ((sel (vars.take k) kind).map Var.enc))]⟩

set_option maxRecDepth 100000 in
theorem of_conB (vars : List Var) (kind : Int) (hlen : vars.length * 48 ≤ 140737488351232) (d : Nat) : Con Try.prog 19 false [encVs vars, li kind] (.v (encVs (sel vars kind))) none d := by
  refine con_of_HT Try.func19 rfl (by kernel_rfl) (Nat.le_of_ble_eq_true rfl) ?_
  simp only [Try.f19]
  refine HT_seq (HT_run (by simp [evs, evc, okCall, brw, brwL, brwT, brwA, RV.ownB, CV.ownB, RV.onlyB, TV.onlyB, CV.onlyB, HS.made, impB_self, impB_true, impB_false, impB_one, pickB_or, pickB_and, pickB_true, pickB_false, wpR, gdOf, clsOf, stpF, stpG, strip, gdR, litG, evOp, evN, evA, evR, evW, evBin, evUn, cellsOf, opd, lkp, ins, del, HS.put, okDst, unmB, RV.menB, TV.menB, CV.menB, Ob.menB, CV.cell, CD.cell, Value.oneCell', thenQ, blockQ, loopQ, constRV, fieldOf, elemTy, idxArr, arrOf, partOf, litOf, Hl.lit, rowsOf, dataOf, baseOf, moreOf, setRow, regsOf, encVs, li]; rfl) ?_)
  refine HT_seq (HT_run (by simp [evs, evc, okCall, brw, brwL, brwT, brwA, RV.ownB, CV.ownB, RV.onlyB, TV.onlyB, CV.onlyB, HS.made, impB_self, impB_true, impB_false, impB_one, pickB_or, pickB_and, pickB_true, pickB_false, wpR, gdOf, clsOf, stpF, stpG, strip, gdR, litG, evOp, evN, evA, evR, evW, evBin, evUn, cellsOf, opd, lkp, ins, del, HS.put, okDst, unmB, RV.menB, TV.menB, CV.menB, Ob.menB, CV.cell, CD.cell, Value.oneCell', thenQ, blockQ, loopQ, constRV, fieldOf, elemTy, idxArr, arrOf, partOf, litOf, Hl.lit, rowsOf, dataOf, baseOf, moreOf, setRow]; rfl) ?_)
  refine HT_seq (HT_seq (HT_run (by simp [evs, evc, okCall, brw, brwL, brwT, brwA, RV.ownB, CV.ownB, RV.onlyB, TV.onlyB, CV.onlyB, HS.made, impB_self, impB_true, impB_false, impB_one, pickB_or, pickB_and, pickB_true, pickB_false, wpR, gdOf, clsOf, stpF, stpG, strip, gdR, litG, evOp, evN, evA, evR, evW, evBin, evUn, cellsOf, opd, lkp, ins, del, HS.put, okDst, unmB, RV.menB, TV.menB, CV.menB, Ob.menB, CV.cell, CD.cell, Value.oneCell', thenQ, blockQ, loopQ, constRV, fieldOf, elemTy, idxArr, arrOf, partOf, litOf, Hl.lit, rowsOf, dataOf, baseOf, moreOf, setRow]; rfl) ?_))
  refine HT_block (HT_loop (S5 vars kind) (fun k => k ≤ vars.length) (fun k => vars.length - k) 0 (Nat.zero_le _) ?_ ?_)
  · exact le_mk (fun n => 7) [] rfl (by simp [allL, ins, RV.okNil, TV.okNil, CV.okNil, Ob.okNil, RV.ren, TV.ren, CV.ren, Ob.ren, opd, lkp, nilS, CV.frz, TV.frz, RV.frz, Ob.frz, HS.frz, mapL, del, S5, li, encVs]) (by simp [allL, ins, RV.okNil, TV.okNil, CV.okNil, Ob.okNil, RV.ren, TV.ren, CV.ren, Ob.ren, opd, lkp, nilS, CV.frz, TV.frz, RV.frz, Ob.frz, HS.frz, mapL, del, S5, sel]) (by simp [allL, ins, RV.okNil, TV.okNil, CV.okNil, Ob.okNil, RV.ren, TV.ren, CV.ren, Ob.ren, opd, lkp, nilS, CV.frz, TV.frz, RV.frz, Ob.frz, HS.frz, mapL, del, S5])
  intro k hk
  simp only [S5]
  refine HT_seq (HT_seq (HT_run (by simp [evs, evc, okCall, brw, brwL, brwT, brwA, RV.ownB, CV.ownB, RV.onlyB, TV.onlyB, CV.onlyB, HS.made, impB_self, impB_true, impB_false, impB_one, pickB_or, pickB_and, pickB_true, pickB_false, wpR, gdOf, clsOf, stpF, stpG, strip, gdR, litG, evOp, evN, evA, evR, evW, evBin, evUn, cellsOf, opd, lkp, ins, del, HS.put, okDst, unmB, RV.menB, TV.menB, CV.menB, Ob.menB, CV.cell, CD.cell, Value.oneCell', thenQ, blockQ, loopQ, constRV, fieldOf, elemTy, idxArr, arrOf, partOf, litOf, Hl.lit, rowsOf, dataOf, baseOf, moreOf, setRow, encVs, li]; rfl) ?_))
  refine HT_cond rfl (fun h => HT_skip ?_) (fun h => HT_exit ?_)
  · simp only [decide_eq_true_eq] at h
    have hlt : k < vars.length := by omega
    obtain ⟨v, hv⟩ : ∃ v, vars[k]? = some v := ⟨vars[k], List.getElem?_eq_getElem hlt⟩
    have hw : IntKind.i64.wrap ((k : Int) + 1) = (k : Int) + 1 := wrap_in (by omega) (by omega)
    have hsl := sel_len vars kind k
    have hroom : room ((sel (vars.take k) kind).length + 1) 48 := ⟨by unfold maxLen; omega, by omega⟩
    refine HT_seq (HT_block (HT_seq (HT_run (by simp [evs, evc, okCall, brw, brwL, brwT, brwA, RV.ownB, CV.ownB, RV.onlyB, TV.onlyB, CV.onlyB, HS.made, impB_self, impB_true, impB_false, impB_one, pickB_or, pickB_and, pickB_true, pickB_false, wpR, gdOf, clsOf, stpF, stpG, strip, gdR, litG, evOp, evN, evA, evR, evW, evBin, evUn, cellsOf, opd, lkp, ins, del, HS.put, okDst, unmB, RV.menB, TV.menB, CV.menB, Ob.menB, CV.cell, CD.cell, Value.oneCell', thenQ, blockQ, loopQ, constRV, fieldOf, elemTy, idxArr, arrOf, partOf, litOf, Hl.lit, rowsOf, dataOf, baseOf, moreOf, setRow, hv, Var.enc, i64]; rfl) ?_)))
    refine HT_cond rfl (fun h2 => ?_) (fun h2 => HT_skip ?_)
    · have hvk : v.kind = kind := by simpa using h2
      refine HT_run (by simp [evs, evc, okCall, brw, brwL, brwT, brwA, RV.ownB, CV.ownB, RV.onlyB, TV.onlyB, CV.onlyB, HS.made, impB_self, impB_true, impB_false, impB_one, pickB_or, pickB_and, pickB_true, pickB_false, wpR, gdOf, clsOf, stpF, stpG, strip, gdR, litG, evOp, evN, evA, evR, evW, evBin, evUn, cellsOf, opd, lkp, ins, del, HS.put, okDst, unmB, RV.menB, TV.menB, CV.menB, Ob.menB, CV.cell, CD.cell, Value.oneCell', thenQ, blockQ, loopQ, constRV, fieldOf, elemTy, idxArr, arrOf, partOf, litOf, Hl.lit, rowsOf, dataOf, baseOf, moreOf, setRow, hv, hroom, Var.enc, i64]; rfl) ?_
      refine HT_run (by simp [evs, evc, okCall, brw, brwL, brwT, brwA, RV.ownB, CV.ownB, RV.onlyB, TV.onlyB, CV.onlyB, HS.made, impB_self, impB_true, impB_false, impB_one, pickB_or, pickB_and, pickB_true, pickB_false, wpR, gdOf, clsOf, stpF, stpG, strip, gdR, litG, evOp, evN, evA, evR, evW, evBin, evUn, cellsOf, opd, lkp, ins, del, HS.put, okDst, unmB, RV.menB, TV.menB, CV.menB, Ob.menB, CV.cell, CD.cell, Value.oneCell', thenQ, blockQ, loopQ, constRV, fieldOf, elemTy, idxArr, arrOf, partOf, litOf, Hl.lit, rowsOf, dataOf, baseOf, moreOf, setRow, hw]; rfl) ?_
      refine ⟨k + 1, hlt, by omega, ?_⟩
      refine le_mk (fun n => 27) [] rfl ?_ ?_ ?_
      · simp [allL, ins, RV.okNil, TV.okNil, CV.okNil, Ob.okNil, RV.ren, TV.ren, CV.ren, Ob.ren, opd, lkp, nilS, CV.frz, TV.frz, RV.frz, Ob.frz, HS.frz, mapL, del, S5, li, encVs, hw]
      · simp [allL, ins, RV.okNil, TV.okNil, CV.okNil, Ob.okNil, RV.ren, TV.ren, CV.ren, Ob.ren, opd, lkp, nilS, CV.frz, TV.frz, RV.frz, Ob.frz, HS.frz, mapL, del, S5, sel_succ hv, hvk, Var.enc, i64]
      · simp [allL, ins, RV.okNil, TV.okNil, CV.okNil, Ob.okNil, RV.ren, TV.ren, CV.ren, Ob.ren, opd, lkp, nilS, CV.frz, TV.frz, RV.frz, Ob.frz, HS.frz, mapL, del, S5]
    · have hvk : ¬ v.kind = kind := by simpa using h2
      refine HT_run (by simp [evs, evc, okCall, brw, brwL, brwT, brwA, RV.ownB, CV.ownB, RV.onlyB, TV.onlyB, CV.onlyB, HS.made, impB_self, impB_true, impB_false, impB_one, pickB_or, pickB_and, pickB_true, pickB_false, wpR, gdOf, clsOf, stpF, stpG, strip, gdR, litG, evOp, evN, evA, evR, evW, evBin, evUn, cellsOf, opd, lkp, ins, del, HS.put, okDst, unmB, RV.menB, TV.menB, CV.menB, Ob.menB, CV.cell, CD.cell, Value.oneCell', thenQ, blockQ, loopQ, constRV, fieldOf, elemTy, idxArr, arrOf, partOf, litOf, Hl.lit, rowsOf, dataOf, baseOf, moreOf, setRow, hw]; rfl) ?_
      refine ⟨k + 1, hlt, by omega, ?_⟩
      exact le_mk (fun n => n) [] rfl (by simp [allL, ins, RV.okNil, TV.okNil, CV.okNil, Ob.okNil, RV.ren, TV.ren, CV.ren, Ob.ren, opd, lkp, nilS, CV.frz, TV.frz, RV.frz, Ob.frz, HS.frz, mapL, del, S5, li, encVs, hw]) (by simp [allL, ins, RV.okNil, TV.okNil, CV.okNil, Ob.okNil, RV.ren, TV.ren, CV.ren, Ob.ren, opd, lkp, nilS, CV.frz, TV.frz, RV.frz, Ob.frz, HS.frz, mapL, del, S5, sel_succ hv, hvk]) (by simp [allL, ins, RV.okNil, TV.okNil, CV.okNil, Ob.okNil, RV.ren, TV.ren, CV.ren, Ob.ren, opd, lkp, nilS, CV.frz, TV.frz, RV.frz, Ob.frz, HS.frz, mapL, del, S5])
  · have hkl : k = vars.length := by simp at h; omega
    subst hkl
    rw [List.take_length]
    refine HT_seq (HT_run (by simp [evs, evc, okCall, brw, brwL, brwT, brwA, RV.ownB, CV.ownB, RV.onlyB, TV.onlyB, CV.onlyB, HS.made, impB_self, impB_true, impB_false, impB_one, pickB_or, pickB_and, pickB_true, pickB_false, wpR, gdOf, clsOf, stpF, stpG, strip, gdR, litG, evOp, evN, evA, evR, evW, evBin, evUn, cellsOf, opd, lkp, ins, del, HS.put, okDst, unmB, RV.menB, TV.menB, CV.menB, Ob.menB, CV.cell, CD.cell, Value.oneCell', thenQ, blockQ, loopQ, constRV, fieldOf, elemTy, idxArr, arrOf, partOf, litOf, Hl.lit, rowsOf, dataOf, baseOf, moreOf, setRow]; rfl) ?_)
    exact HT_ret ⟨.inr rfl, _, le_frz 1005 rfl, ⟨_, rfl, rfl⟩, by simp, by simp⟩

theorem of_con (vars : List Var) (kind : Int) (hlen : vars.length ≤ 80) (d : Nat) : Con Try.prog 19 false [encVs vars, li kind] (.v (encVs (sel vars kind))) none d :=
  of_conB vars kind (by omega) d

def S6 (l : List Var) (k : Nat) : HS :=
  ⟨83, [(6, .v (encVs l)), (7, .v (li k))], []⟩
def S7 (l : List Var) (x : Nat × Int) : HS :=
  ⟨83, [(6, .v (encVs l)), (8, .v (li x.2)), (9, .v (li x.1))], []⟩

set_option maxRecDepth 100000 in
theorem refspace_conB (vars : List Var) (kind : Int) (hlen : vars.length * 48 ≤ 140737488351232) (d : Nat) : Con Try.prog 13 true [encVs vars, li kind] (.tup [li (chosenF vars kind).2.1, li (chosenF vars kind).2.2]) none d := by
  refine con_of_HT Try.func13 rfl (by kernel_rfl) (Nat.le_of_ble_eq_true rfl) ?_
  simp only [Try.f13]
  refine HT_seq (HT_run (by simp [evs, evc, okCall, brw, brwL, brwT, brwA, RV.ownB, CV.ownB, RV.onlyB, TV.onlyB, CV.onlyB, HS.made, impB_self, impB_true, impB_false, impB_one, pickB_or, pickB_and, pickB_true, pickB_false, wpR, gdOf, clsOf, stpF, stpG, strip, gdR, litG, evOp, evN, evA, evR, evW, evBin, evUn, cellsOf, opd, lkp, ins, del, HS.put, okDst, unmB, RV.menB, TV.menB, CV.menB, Ob.menB, CV.cell, CD.cell, Value.oneCell', thenQ, blockQ, loopQ, constRV, fieldOf, elemTy, idxArr, arrOf, partOf, litOf, Hl.lit, rowsOf, dataOf, baseOf, moreOf, setRow, regsOf, encVs, li]; rfl) ?_)
  refine HT_seq (HT_seq (HT_run (by simp [evs, evc, okCall, brw, brwL, brwT, brwA, RV.ownB, CV.ownB, RV.onlyB, TV.onlyB, CV.onlyB, HS.made, impB_self, impB_true, impB_false, impB_one, pickB_or, pickB_and, pickB_true, pickB_false, wpR, gdOf, clsOf, stpF, stpG, strip, gdR, litG, evOp, evN, evA, evR, evW, evBin, evUn, cellsOf, opd, lkp, ins, del, HS.put, okDst, unmB, RV.menB, TV.menB, CV.menB, Ob.menB, CV.cell, CD.cell, Value.oneCell', thenQ, blockQ, loopQ, constRV, fieldOf, elemTy, idxArr, arrOf, partOf, litOf, Hl.lit, rowsOf, dataOf, baseOf, moreOf, setRow]; rfl) ?_))
  refine HT_cond rfl (fun h => ?_) (fun h => HT_skip ?_)
  · refine HT_seq (HT_run (by simp [evs, evc, okCall, brw, brwL, brwT, brwA, RV.ownB, CV.ownB, RV.onlyB, TV.onlyB, CV.onlyB, HS.made, impB_self, impB_true, impB_false, impB_one, pickB_or, pickB_and, pickB_true, pickB_false, wpR, gdOf, clsOf, stpF, stpG, strip, gdR, litG, evOp, evN, evA, evR, evW, evBin, evUn, cellsOf, opd, lkp, ins, del, HS.put, okDst, unmB, RV.menB, TV.menB, CV.menB, Ob.menB, CV.cell, CD.cell, Value.oneCell', thenQ, blockQ, loopQ, constRV, fieldOf, elemTy, idxArr, arrOf, partOf, litOf, Hl.lit, rowsOf, dataOf, baseOf, moreOf, setRow]; rfl) ?_)
    have hc : chosenF vars kind = ([], 0, 1) := by unfold chosenF; rw [if_pos (by simp_all [okKind])]
    rw [hc]
    exact HT_ret ⟨.inr rfl, _, le_refl _, ⟨_, rfl, rfl⟩, by simp, fun _ => ⟨rfl, by simp⟩⟩
  have hkind : okKind kind = true := by
    simp only [okKind, Bool.or_eq_true, decide_eq_true_eq]
    simp at h
    omega
  refine HT_seq (HT_runc [⟨false, .v (encVs (sel vars kind)), none⟩] (by simp [evs, evc, okCall, brw, brwL, brwT, brwA, RV.ownB, CV.ownB, RV.onlyB, TV.onlyB, CV.onlyB, HS.made, impB_self, impB_true, impB_false, impB_one, pickB_or, pickB_and, pickB_true, pickB_false, wpR, gdOf, clsOf, stpF, stpG, strip, gdR, litG, evOp, evN, evA, evR, evW, evBin, evUn, cellsOf, opd, lkp, ins, del, HS.put, okDst, unmB, RV.menB, TV.menB, CV.menB, Ob.menB, CV.cell, CD.cell, Value.oneCell', thenQ, blockQ, loopQ, constRV, fieldOf, elemTy, idxArr, arrOf, partOf, litOf, Hl.lit, rowsOf, dataOf, baseOf, moreOf, setRow, encVs, li]; exact ⟨rfl, Iff.rfl⟩) (of_conB vars kind hlen _) ?_)
  have hcb := @chosen_bad vars kind hkind
  have hll : (sel vars kind).length * 48 ≤ 140737488351232 := Nat.le_trans (Nat.mul_le_mul_right _ (List.length_filter_le _ _)) hlen
  have hcf : (∀ v ∈ sel vars kind, bad v = false) → ∀ n, spaceL (sel vars kind) 1 = some n → chosenF vars kind = (sel vars kind, n, 0) := by
    intro hb n hn
    unfold chosenF
    rw [if_neg (by simp [hkind]), if_neg (by simp; exact hb), hn]
  have hcn : (∀ v ∈ sel vars kind, bad v = false) → spaceL (sel vars kind) 1 = none → chosenF vars kind = ([], 0, 4) := by
    intro hb hn
    unfold chosenF
    rw [if_neg (by simp [hkind]), if_neg (by simp; exact hb), hn]
  generalize chosenF vars kind = c at *
  generalize sel vars kind = l at *
  refine HT_seq (HT_seq (HT_run (by simp [evs, evc, okCall, brw, brwL, brwT, brwA, RV.ownB, CV.ownB, RV.onlyB, TV.onlyB, CV.onlyB, HS.made, impB_self, impB_true, impB_false, impB_one, pickB_or, pickB_and, pickB_true, pickB_false, wpR, gdOf, clsOf, stpF, stpG, strip, gdR, litG, evOp, evN, evA, evR, evW, evBin, evUn, cellsOf, opd, lkp, ins, del, HS.put, okDst, unmB, RV.menB, TV.menB, CV.menB, Ob.menB, CV.cell, CD.cell, Value.oneCell', thenQ, blockQ, loopQ, constRV, fieldOf, elemTy, idxArr, arrOf, partOf, litOf, Hl.lit, rowsOf, dataOf, baseOf, moreOf, setRow, encVs, li]; rfl) ?_))
  refine HT_block (HT_loop (S6 l) (fun k => k ≤ l.length ∧ ∀ v ∈ l.take k, bad v = false) (fun k => l.length - k) 0 ⟨Nat.zero_le _, by simp⟩ ?_ ?_)
  · exact le_mk (fun n => n) [] rfl (by simp [allL, ins, RV.okNil, TV.okNil, CV.okNil, Ob.okNil, RV.ren, TV.ren, CV.ren, Ob.ren, opd, lkp, nilS, CV.frz, TV.frz, RV.frz, Ob.frz, HS.frz, mapL, del, S6, li, encVs]) (by simp [allL, ins, RV.okNil, TV.okNil, CV.okNil, Ob.okNil, RV.ren, TV.ren, CV.ren, Ob.ren, opd, lkp, nilS, CV.frz, TV.frz, RV.frz, Ob.frz, HS.frz, mapL, del, S6]) (by simp [allL, ins, RV.okNil, TV.okNil, CV.okNil, Ob.okNil, RV.ren, TV.ren, CV.ren, Ob.ren, opd, lkp, nilS, CV.frz, TV.frz, RV.frz, Ob.frz, HS.frz, mapL, del, S6])
  rintro k ⟨hk, hb⟩
  simp only [S6]
  refine HT_seq (HT_seq (HT_run (by simp [evs, evc, okCall, brw, brwL, brwT, brwA, RV.ownB, CV.ownB, RV.onlyB, TV.onlyB, CV.onlyB, HS.made, impB_self, impB_true, impB_false, impB_one, pickB_or, pickB_and, pickB_true, pickB_false, wpR, gdOf, clsOf, stpF, stpG, strip, gdR, litG, evOp, evN, evA, evR, evW, evBin, evUn, cellsOf, opd, lkp, ins, del, HS.put, okDst, unmB, RV.menB, TV.menB, CV.menB, Ob.menB, CV.cell, CD.cell, Value.oneCell', thenQ, blockQ, loopQ, constRV, fieldOf, elemTy, idxArr, arrOf, partOf, litOf, Hl.lit, rowsOf, dataOf, baseOf, moreOf, setRow, encVs, li]; rfl) ?_))
  refine HT_cond rfl (fun h => HT_skip ?_) (fun h => HT_exit ?_)
  · simp only [decide_eq_true_eq] at h
    have hlt : k < l.length := by omega
    obtain ⟨v, hv⟩ : ∃ v, l[k]? = some v := ⟨l[k], List.getElem?_eq_getElem hlt⟩
    have hw : IntKind.i64.wrap ((k : Int) + 1) = (k : Int) + 1 := wrap_in (by omega) (by omega)
    refine HT_seq (HT_block (HT_seq (HT_drun (by kernel_rfl) (by kernel_rfl) (by rfl) (by simp [evs, evc, okCall, brw, brwL, brwT, brwA, RV.ownB, CV.ownB, RV.onlyB, TV.onlyB, CV.onlyB, HS.made, impB_self, impB_true, impB_false, impB_one, pickB_or, pickB_and, pickB_true, pickB_false, wpR, gdOf, clsOf, stpF, stpG, strip, gdR, litG, evOp, evN, evA, evR, evW, evBin, evUn, cellsOf, opd, lkp, ins, del, HS.put, okDst, unmB, RV.menB, TV.menB, CV.menB, Ob.menB, CV.cell, CD.cell, Value.oneCell', thenQ, blockQ, loopQ, constRV, fieldOf, elemTy, idxArr, arrOf, partOf, litOf, Hl.lit, rowsOf, dataOf, baseOf, moreOf, setRow, hv, Var.enc, i64]; rfl) ?_)))
    refine HT_cond rfl (fun h2 => ?_) (fun h2 => HT_skip ?_)
    · refine HT_seq (HT_run (by simp [evs, evc, okCall, brw, brwL, brwT, brwA, RV.ownB, CV.ownB, RV.onlyB, TV.onlyB, CV.onlyB, HS.made, impB_self, impB_true, impB_false, impB_one, pickB_or, pickB_and, pickB_true, pickB_false, wpR, gdOf, clsOf, stpF, stpG, strip, gdR, litG, evOp, evN, evA, evR, evW, evBin, evUn, cellsOf, opd, lkp, ins, del, HS.put, okDst, unmB, RV.menB, TV.menB, CV.menB, Ob.menB, CV.cell, CD.cell, Value.oneCell', thenQ, blockQ, loopQ, constRV, fieldOf, elemTy, idxArr, arrOf, partOf, litOf, Hl.lit, rowsOf, dataOf, baseOf, moreOf, setRow]; rfl) ?_)
      have hc := hcb ⟨v, List.mem_of_getElem? hv, by simpa [bad, Bool.or_assoc, or_assoc] using h2⟩
      rw [hc]
      exact HT_ret ⟨.inr rfl, _, le_refl _, ⟨_, rfl, rfl⟩, by simp, fun _ => ⟨rfl, by simp⟩⟩
    · refine HT_run (by simp [evs, evc, okCall, brw, brwL, brwT, brwA, RV.ownB, CV.ownB, RV.onlyB, TV.onlyB, CV.onlyB, HS.made, impB_self, impB_true, impB_false, impB_one, pickB_or, pickB_and, pickB_true, pickB_false, wpR, gdOf, clsOf, stpF, stpG, strip, gdR, litG, evOp, evN, evA, evR, evW, evBin, evUn, cellsOf, opd, lkp, ins, del, HS.put, okDst, unmB, RV.menB, TV.menB, CV.menB, Ob.menB, CV.cell, CD.cell, Value.oneCell', thenQ, blockQ, loopQ, constRV, fieldOf, elemTy, idxArr, arrOf, partOf, litOf, Hl.lit, rowsOf, dataOf, baseOf, moreOf, setRow, hw]; rfl) ?_
      refine ⟨k + 1, ⟨hlt, ?_⟩, by omega, ?_⟩
      · intro u hu
        rw [List.take_add_one, hv] at hu
        rcases List.mem_append.1 hu with hu | hu
        · exact hb u hu
        · simp only [Option.toList_some, List.mem_singleton] at hu
          subst hu
          simpa [bad, Bool.or_assoc] using h2
      · exact le_mk (fun n => n) [] rfl (by simp [allL, ins, RV.okNil, TV.okNil, CV.okNil, Ob.okNil, RV.ren, TV.ren, CV.ren, Ob.ren, opd, lkp, nilS, CV.frz, TV.frz, RV.frz, Ob.frz, HS.frz, mapL, del, S6, li, encVs, hw]) (by simp [allL, ins, RV.okNil, TV.okNil, CV.okNil, Ob.okNil, RV.ren, TV.ren, CV.ren, Ob.ren, opd, lkp, nilS, CV.frz, TV.frz, RV.frz, Ob.frz, HS.frz, mapL, del, S6]) (by simp [allL, ins, RV.okNil, TV.okNil, CV.okNil, Ob.okNil, RV.ren, TV.ren, CV.ren, Ob.ren, opd, lkp, nilS, CV.frz, TV.frz, RV.frz, Ob.frz, HS.frz, mapL, del, S6])
  · have hkl : k = l.length := by simp at h; omega
    subst hkl
    rw [List.take_length] at hb
    refine HT_seq (HT_run (by simp [evs, evc, okCall, brw, brwL, brwT, brwA, RV.ownB, CV.ownB, RV.onlyB, TV.onlyB, CV.onlyB, HS.made, impB_self, impB_true, impB_false, impB_one, pickB_or, pickB_and, pickB_true, pickB_false, wpR, gdOf, clsOf, stpF, stpG, strip, gdR, litG, evOp, evN, evA, evR, evW, evBin, evUn, cellsOf, opd, lkp, ins, del, HS.put, okDst, unmB, RV.menB, TV.menB, CV.menB, Ob.menB, CV.cell, CD.cell, Value.oneCell', thenQ, blockQ, loopQ, constRV, fieldOf, elemTy, idxArr, arrOf, partOf, litOf, Hl.lit, rowsOf, dataOf, baseOf, moreOf, setRow]; rfl) ?_)
    refine HT_seq (HT_seq (HT_run (by simp [evs, evc, okCall, brw, brwL, brwT, brwA, RV.ownB, CV.ownB, RV.onlyB, TV.onlyB, CV.onlyB, HS.made, impB_self, impB_true, impB_false, impB_one, pickB_or, pickB_and, pickB_true, pickB_false, wpR, gdOf, clsOf, stpF, stpG, strip, gdR, litG, evOp, evN, evA, evR, evW, evBin, evUn, cellsOf, opd, lkp, ins, del, HS.put, okDst, unmB, RV.menB, TV.menB, CV.menB, Ob.menB, CV.cell, CD.cell, Value.oneCell', thenQ, blockQ, loopQ, constRV, fieldOf, elemTy, idxArr, arrOf, partOf, litOf, Hl.lit, rowsOf, dataOf, baseOf, moreOf, setRow]; rfl) ?_))
    refine HT_block (HT_loop (S7 l) (J2 l) (fun x => l.length - x.1) (0, 1) ⟨Nat.zero_le _, by omega, by omega, rfl⟩ ?_ ?_)
    · exact le_mk (fun n => n) [] rfl (by simp [allL, ins, RV.okNil, TV.okNil, CV.okNil, Ob.okNil, RV.ren, TV.ren, CV.ren, Ob.ren, opd, lkp, nilS, CV.frz, TV.frz, RV.frz, Ob.frz, HS.frz, mapL, del, S7, li, encVs]) (by simp [allL, ins, RV.okNil, TV.okNil, CV.okNil, Ob.okNil, RV.ren, TV.ren, CV.ren, Ob.ren, opd, lkp, nilS, CV.frz, TV.frz, RV.frz, Ob.frz, HS.frz, mapL, del, S7]) (by simp [allL, ins, RV.okNil, TV.okNil, CV.okNil, Ob.okNil, RV.ren, TV.ren, CV.ren, Ob.ren, opd, lkp, nilS, CV.frz, TV.frz, RV.frz, Ob.frz, HS.frz, mapL, del, S7])
    rintro ⟨k, n⟩ ⟨hk, hn1, hn2, hsp⟩
    simp only [S7] at *
    refine HT_seq (HT_seq (HT_run (by simp [evs, evc, okCall, brw, brwL, brwT, brwA, RV.ownB, CV.ownB, RV.onlyB, TV.onlyB, CV.onlyB, HS.made, impB_self, impB_true, impB_false, impB_one, pickB_or, pickB_and, pickB_true, pickB_false, wpR, gdOf, clsOf, stpF, stpG, strip, gdR, litG, evOp, evN, evA, evR, evW, evBin, evUn, cellsOf, opd, lkp, ins, del, HS.put, okDst, unmB, RV.menB, TV.menB, CV.menB, Ob.menB, CV.cell, CD.cell, Value.oneCell', thenQ, blockQ, loopQ, constRV, fieldOf, elemTy, idxArr, arrOf, partOf, litOf, Hl.lit, rowsOf, dataOf, baseOf, moreOf, setRow, encVs, li]; rfl) ?_))
    refine HT_cond rfl (fun h => HT_skip ?_) (fun h => HT_exit ?_)
    · simp only [decide_eq_true_eq] at h
      have hlt : k < l.length := by omega
      obtain ⟨v, hv⟩ : ∃ v, l[k]? = some v := ⟨l[k], List.getElem?_eq_getElem hlt⟩
      have hvb := hb v (List.mem_of_getElem? hv)
      obtain ⟨b1, b2, b3⟩ := not_bad hvb
      have hw : IntKind.i64.wrap ((k : Int) + 1) = (k : Int) + 1 := wrap_in (by omega) (by omega)
      obtain ⟨hs1, hs2⟩ := size_pos hvb
      have hp1 : 1 ≤ n * sizeV v := by have := Int.mul_le_mul hn1 hs1 (by omega) (by omega); simpa using this
      have hp2 : n * sizeV v ≤ 4096 * 2097153 := Int.mul_le_mul hn2 hs2 (by omega) (by omega)
      have hws := size_wrap hvb
      have hwm : IntKind.i64.wrap (n * sizeV v) = n * sizeV v := wrap_in (by omega) (by omega)
      rw [drop_eq hv] at hsp
      simp only [spaceL] at hsp
      refine HT_seq (HT_block (HT_seq (HT_drun (by kernel_rfl) (by kernel_rfl) (by rfl) (by simp [evs, evc, okCall, brw, brwL, brwT, brwA, RV.ownB, CV.ownB, RV.onlyB, TV.onlyB, CV.onlyB, HS.made, impB_self, impB_true, impB_false, impB_one, pickB_or, pickB_and, pickB_true, pickB_false, wpR, gdOf, clsOf, stpF, stpG, strip, gdR, litG, evOp, evN, evA, evR, evW, evBin, evUn, cellsOf, opd, lkp, ins, del, HS.put, okDst, unmB, RV.menB, TV.menB, CV.menB, Ob.menB, CV.cell, CD.cell, Value.oneCell', thenQ, blockQ, loopQ, constRV, fieldOf, elemTy, idxArr, arrOf, partOf, litOf, Hl.lit, rowsOf, dataOf, baseOf, moreOf, setRow, hv, hws, hwm, Var.enc, i64]; rfl) ?_)))
      refine HT_seq (HT_run (by simp [evs, evc, okCall, brw, brwL, brwT, brwA, RV.ownB, CV.ownB, RV.onlyB, TV.onlyB, CV.onlyB, HS.made, impB_self, impB_true, impB_false, impB_one, pickB_or, pickB_and, pickB_true, pickB_false, wpR, gdOf, clsOf, stpF, stpG, strip, gdR, litG, evOp, evN, evA, evR, evW, evBin, evUn, cellsOf, opd, lkp, ins, del, HS.put, okDst, unmB, RV.menB, TV.menB, CV.menB, Ob.menB, CV.cell, CD.cell, Value.oneCell', thenQ, blockQ, loopQ, constRV, fieldOf, elemTy, idxArr, arrOf, partOf, litOf, Hl.lit, rowsOf, dataOf, baseOf, moreOf, setRow]; rfl) ?_)
      refine HT_cond rfl (fun h3 => ?_) (fun h3 => HT_skip ?_)
      · refine HT_seq (HT_run (by simp [evs, evc, okCall, brw, brwL, brwT, brwA, RV.ownB, CV.ownB, RV.onlyB, TV.onlyB, CV.onlyB, HS.made, impB_self, impB_true, impB_false, impB_one, pickB_or, pickB_and, pickB_true, pickB_false, wpR, gdOf, clsOf, stpF, stpG, strip, gdR, litG, evOp, evN, evA, evR, evW, evBin, evUn, cellsOf, opd, lkp, ins, del, HS.put, okDst, unmB, RV.menB, TV.menB, CV.menB, Ob.menB, CV.cell, CD.cell, Value.oneCell', thenQ, blockQ, loopQ, constRV, fieldOf, elemTy, idxArr, arrOf, partOf, litOf, Hl.lit, rowsOf, dataOf, baseOf, moreOf, setRow]; rfl) ?_)
        rw [if_pos (by simpa using h3)] at hsp
        rw [hcn hb hsp]
        exact HT_ret ⟨.inr rfl, _, le_refl _, ⟨_, rfl, rfl⟩, by simp, fun _ => ⟨rfl, by simp⟩⟩
      · refine HT_run (by simp [evs, evc, okCall, brw, brwL, brwT, brwA, RV.ownB, CV.ownB, RV.onlyB, TV.onlyB, CV.onlyB, HS.made, impB_self, impB_true, impB_false, impB_one, pickB_or, pickB_and, pickB_true, pickB_false, wpR, gdOf, clsOf, stpF, stpG, strip, gdR, litG, evOp, evN, evA, evR, evW, evBin, evUn, cellsOf, opd, lkp, ins, del, HS.put, okDst, unmB, RV.menB, TV.menB, CV.menB, Ob.menB, CV.cell, CD.cell, Value.oneCell', thenQ, blockQ, loopQ, constRV, fieldOf, elemTy, idxArr, arrOf, partOf, litOf, Hl.lit, rowsOf, dataOf, baseOf, moreOf, setRow, hw]; rfl) ?_
        have h4 : ¬ 4096 < n * sizeV v := by simpa using h3
        rw [if_neg h4] at hsp
        refine ⟨(k + 1, n * sizeV v), ⟨hlt, hp1, by simp only; omega, hsp⟩, by simp only; omega, ?_⟩
        exact le_mk (fun n => n) [] rfl (by simp [allL, ins, RV.okNil, TV.okNil, CV.okNil, Ob.okNil, RV.ren, TV.ren, CV.ren, Ob.ren, opd, lkp, nilS, CV.frz, TV.frz, RV.frz, Ob.frz, HS.frz, mapL, del, li, encVs, hw]) (by simp [allL, ins, RV.okNil, TV.okNil, CV.okNil, Ob.okNil, RV.ren, TV.ren, CV.ren, Ob.ren, opd, lkp, nilS, CV.frz, TV.frz, RV.frz, Ob.frz, HS.frz, mapL, del]) (by simp [allL, ins, RV.okNil, TV.okNil, CV.okNil, Ob.okNil, RV.ren, TV.ren, CV.ren, Ob.ren, opd, lkp, nilS, CV.frz, TV.frz, RV.frz, Ob.frz, HS.frz, mapL, del])
    · have hkl : k = l.length := by simp at h; omega
      subst hkl
      rw [List.drop_length] at hsp
      rw [hcf hb n hsp]
      refine HT_seq (HT_run (by simp [evs, evc, okCall, brw, brwL, brwT, brwA, RV.ownB, CV.ownB, RV.onlyB, TV.onlyB, CV.onlyB, HS.made, impB_self, impB_true, impB_false, impB_one, pickB_or, pickB_and, pickB_true, pickB_false, wpR, gdOf, clsOf, stpF, stpG, strip, gdR, litG, evOp, evN, evA, evR, evW, evBin, evUn, cellsOf, opd, lkp, ins, del, HS.put, okDst, unmB, RV.menB, TV.menB, CV.menB, Ob.menB, CV.cell, CD.cell, Value.oneCell', thenQ, blockQ, loopQ, constRV, fieldOf, elemTy, idxArr, arrOf, partOf, litOf, Hl.lit, rowsOf, dataOf, baseOf, moreOf, setRow]; rfl) ?_)
      exact HT_ret ⟨.inr rfl, _, le_refl _, ⟨_, rfl, rfl⟩, by simp, fun _ => ⟨rfl, by simp⟩⟩
theorem refspace_con (vars : List Var) (kind : Int) (hlen : vars.length ≤ 80) (d : Nat) : Con Try.prog 13 true [encVs vars, li kind] (.tup [li (chosenF vars kind).2.1, li (chosenF vars kind).2.2]) none d :=
  refspace_conB vars kind (by omega) d
end Go.Proofs.Ytpnhnldneecpnaa
