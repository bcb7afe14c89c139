/- T16: contracts of functions of the package, used by the proof of the claimed statement. Conditions: as each theorem states. -/
import Derived.Test.YtpnhnldneecpnaaT15
set_option linter.unusedSimpArgs false
set_option linter.unusedVariables false
namespace Go.Proofs.Ytpnhnldneecpnaa
open Go Go.Hl

def loD (v : Var) (a : Int) : Int := if a < v.low then v.low else a
def hiD (v : Var) (b : Int) : Int := if v.high < b then v.high else b
def cntD (v : Var) (a b : Int) : Nat := (hiD v b + 1 - loD v a).toNat
def rowD (v : Var) (a r : Int) (m : Nat) : List Int := (List.range m).map fun t : Nat => r * sizeV v + (loD v a + t) - v.low
def withinD : List Var → List Int → List Int → List Int → List Int
  | v :: l, a :: lo, b :: hi, rs => withinD l lo hi (rs.flatMap fun r => rowD v a r (cntD v a b))
  | _, _, _, rs => rs
theorem rowD_len (v : Var) (a r : Int) (m : Nat) : (rowD v a r m).length = m := by simp [rowD]
theorem rowD_succ (v : Var) (a r : Int) (m : Nat) : rowD v a r (m + 1) = rowD v a r m ++ [r * sizeV v + (loD v a + m) - v.low] := by
  simp [rowD, List.range_succ]
theorem cnt_le {v : Var} {a b : Int} (h : bad v = false) : (cntD v a b : Int) ≤ sizeV v := by
  obtain ⟨h1, h2, h3⟩ := not_bad h
  unfold cntD loD hiD sizeV
  split <;> split <;> omega
theorem flat_len {rs : List Int} {v : Var} {a : Int} {c : Nat} : (rs.flatMap fun r => rowD v a r c).length = rs.length * c := by
  induction rs with
  | nil => simp
  | cons r rs ih => simp [rowD_len, ih, Nat.add_mul, Nat.add_comm]

def S17 (l : List Var) (lo hi : List Int) (x : Nat × List Int × Int) : HS :=
  ⟨92, [(2, .v (encIs lo)), (3, .v (encIs hi)), (13, .v (encIs x.2.1)), (45, .v (encVs l)), (46, .v (li l.length)), (47, .v (li x.1))], []⟩
def J17 (l : List Var) (lo hi : List Int) (n : Int) (x : Nat × List Int × Int) : Prop :=
  x.1 ≤ l.length ∧ (x.2.1.length : Int) ≤ x.2.2 ∧ (∀ r ∈ x.2.1, 0 ≤ r ∧ r < x.2.2) ∧ x.2.2 ≤ 4096 ∧ spaceL (l.drop x.1) x.2.2 = some n ∧ withinD l lo hi [0] = withinD (l.drop x.1) (lo.drop x.1) (hi.drop x.1) x.2.1
def S18 (l : List Var) (lo hi rs : List Int) (i : Nat) (v : Var) (a b : Int) (j : Nat) : HS :=
  ⟨92, [(2, .v (encIs lo)), (3, .v (encIs hi)), (14, .v (li i)), (15, .v (.one (.at_ 1015 0))), (16, .v (.one (.own 1016))), (45, .v (encVs l)), (46, .v (li l.length)), (47, .v (li i)), (52, .v (encIs rs)), (53, .v (li rs.length)), (54, .v (li j))],
    [(1015, .box (v.enc.map .c)), (1016, .row 3 1 (((rs.take j).flatMap fun r => rowD v a r (cntD v a b)).map fun x => [i64 x]))]⟩
def S19 (l : List Var) (lo hi rs : List Int) (i : Nat) (v : Var) (a b : Int) (j : Nat) (r : Int) (m : Nat) : HS :=
  ⟨92, [(2, .v (encIs lo)), (3, .v (encIs hi)), (14, .v (li i)), (15, .v (.one (.at_ 1015 0))), (16, .v (.one (.own 1016))), (18, .v (li r)), (19, .v (li (loD v a + m))), (45, .v (encVs l)), (46, .v (li l.length)), (47, .v (li i)), (52, .v (encIs rs)), (53, .v (li rs.length)), (54, .v (li j))],
    [(1015, .box (v.enc.map .c)), (1016, .row 3 1 ((((rs.take j).flatMap fun r => rowD v a r (cntD v a b)) ++ rowD v a r m).map fun x => [i64 x]))]⟩

set_option maxRecDepth 100000 in
theorem within_con (vars : List Var) (kind : Int) (lo hi : List Int) (hlen : vars.length ≤ 80) (d : Nat)
    (hlaw : ∀ l n, Chosen l n → lo.length = l.length → hi.length = l.length → withinD l lo hi [0] = boxR l lo hi n.toNat) :
    Con Try.prog 24 false [encVs vars, li kind, encIs lo, encIs hi] (.tup [encIs (withinF vars kind lo hi).1, li (withinF vars kind lo hi).2]) none d := by
  refine con_of_HT Try.func24 rfl (by kernel_rfl) (Nat.le_of_ble_eq_true rfl) ?_
  simp only [Try.f24]
  refine HT_seq (HT_run (by simp [evs, evc, okCall, brw, brwL, brwT, brwA, RV.ownB, CV.ownB, RV.onlyB, TV.onlyB, CV.onlyB, HS.made, impB_self, impB_true, impB_false, impB_one, pickB_or, pickB_and, pickB_true, pickB_false, wpR, gdOf, clsOf, stpF, stpG, strip, gdR, litG, evOp, evN, evA, evR, evW, evBin, evUn, cellsOf, opd, lkp, ins, del, HS.put, okDst, unmB, RV.menB, TV.menB, CV.menB, Ob.menB, CV.cell, CD.cell, Value.oneCell', thenQ, blockQ, loopQ, constRV, fieldOf, elemTy, idxArr, arrOf, partOf, litOf, Hl.lit, rowsOf, dataOf, baseOf, moreOf, setRow, regsOf, encVs, encIs, li]; rfl) ?_)
  refine HT_seq (HT_runc [⟨false, .tup [encVs (chosenF vars kind).1, li (chosenF vars kind).2.1, li (chosenF vars kind).2.2], none⟩] (by simp [evs, evc, okCall, brw, brwL, brwT, brwA, RV.ownB, CV.ownB, RV.onlyB, TV.onlyB, CV.onlyB, HS.made, impB_self, impB_true, impB_false, impB_one, pickB_or, pickB_and, pickB_true, pickB_false, wpR, gdOf, clsOf, stpF, stpG, strip, gdR, litG, evOp, evN, evA, evR, evW, evBin, evUn, cellsOf, opd, lkp, ins, del, HS.put, okDst, unmB, RV.menB, TV.menB, CV.menB, Ob.menB, CV.cell, CD.cell, Value.oneCell', thenQ, blockQ, loopQ, constRV, fieldOf, elemTy, idxArr, arrOf, partOf, litOf, Hl.lit, rowsOf, dataOf, baseOf, moreOf, setRow, encVs, li]; first | exact ⟨rfl, Iff.rfl⟩ | rfl) (chosen_con vars kind hlen _) ?_)
  have hok := @chosen_ok vars kind hlen
  have hrf : withinF vars kind lo hi = withinF vars kind lo hi := rfl
  conv at hrf => rhs; unfold withinF
  generalize chosenF vars kind = c at *
  obtain ⟨l, n, e⟩ := c
  simp only at *
  refine HT_seq (HT_block (HT_seq (HT_run (by simp [evs, evc, okCall, brw, brwL, brwT, brwA, RV.ownB, CV.ownB, RV.onlyB, TV.onlyB, CV.onlyB, HS.made, impB_self, impB_true, impB_false, impB_one, pickB_or, pickB_and, pickB_true, pickB_false, wpR, gdOf, clsOf, stpF, stpG, strip, gdR, litG, evOp, evN, evA, evR, evW, evBin, evUn, cellsOf, opd, lkp, ins, del, HS.put, okDst, unmB, RV.menB, TV.menB, CV.menB, Ob.menB, CV.cell, CD.cell, Value.oneCell', thenQ, blockQ, loopQ, constRV, fieldOf, elemTy, idxArr, arrOf, partOf, litOf, Hl.lit, rowsOf, dataOf, baseOf, moreOf, setRow, li]; rfl) ?_)))
  refine HT_cond rfl (fun h => ?_) (fun h => ?_)
  · refine HT_seq (HT_run (by simp [evs, evc, okCall, brw, brwL, brwT, brwA, RV.ownB, CV.ownB, RV.onlyB, TV.onlyB, CV.onlyB, HS.made, impB_self, impB_true, impB_false, impB_one, pickB_or, pickB_and, pickB_true, pickB_false, wpR, gdOf, clsOf, stpF, stpG, strip, gdR, litG, evOp, evN, evA, evR, evW, evBin, evUn, cellsOf, opd, lkp, ins, del, HS.put, okDst, unmB, RV.menB, TV.menB, CV.menB, Ob.menB, CV.cell, CD.cell, Value.oneCell', thenQ, blockQ, loopQ, constRV, fieldOf, elemTy, idxArr, arrOf, partOf, litOf, Hl.lit, rowsOf, dataOf, baseOf, moreOf, setRow]; rfl) ?_)
    have he : e ≠ 0 := by simpa using h
    rw [if_pos he] at hrf
    rw [hrf]
    exact HT_ret ⟨.inr rfl, _, le_nil 8 1 rfl (Nat.le_of_ble_eq_true rfl), ⟨_, rfl, rfl⟩, by simp, by simp⟩
  have he : e = 0 := by simpa using h
  subst he
  rw [if_neg (by simp)] at hrf
  have hch := (hok rfl).1
  obtain ⟨hl80, hgood, hspace⟩ := hch
  refine HT_seq (HT_run (by simp [evs, evc, okCall, brw, brwL, brwT, brwA, RV.ownB, CV.ownB, RV.onlyB, TV.onlyB, CV.onlyB, HS.made, impB_self, impB_true, impB_false, impB_one, pickB_or, pickB_and, pickB_true, pickB_false, wpR, gdOf, clsOf, stpF, stpG, strip, gdR, litG, evOp, evN, evA, evR, evW, evBin, evUn, cellsOf, opd, lkp, ins, del, HS.put, okDst, unmB, RV.menB, TV.menB, CV.menB, Ob.menB, CV.cell, CD.cell, Value.oneCell', thenQ, blockQ, loopQ, constRV, fieldOf, elemTy, idxArr, arrOf, partOf, litOf, Hl.lit, rowsOf, dataOf, baseOf, moreOf, setRow, encVs]; rfl) ?_)
  refine HT_cond rfl (fun h => ?_) (fun h => HT_skip ?_)
  · refine HT_seq (HT_run (by simp [evs, evc, okCall, brw, brwL, brwT, brwA, RV.ownB, CV.ownB, RV.onlyB, TV.onlyB, CV.onlyB, HS.made, impB_self, impB_true, impB_false, impB_one, pickB_or, pickB_and, pickB_true, pickB_false, wpR, gdOf, clsOf, stpF, stpG, strip, gdR, litG, evOp, evN, evA, evR, evW, evBin, evUn, cellsOf, opd, lkp, ins, del, HS.put, okDst, unmB, RV.menB, TV.menB, CV.menB, Ob.menB, CV.cell, CD.cell, Value.oneCell', thenQ, blockQ, loopQ, constRV, fieldOf, elemTy, idxArr, arrOf, partOf, litOf, Hl.lit, rowsOf, dataOf, baseOf, moreOf, setRow]; rfl) ?_)
    have he : lo.length ≠ l.length ∨ hi.length ≠ l.length := by simp at h; omega
    rw [if_pos he] at hrf
    rw [hrf]
    exact HT_ret ⟨.inr rfl, _, le_nil 8 1 rfl (Nat.le_of_ble_eq_true rfl), ⟨_, rfl, rfl⟩, by simp, by simp⟩
  have hll : lo.length = l.length ∧ hi.length = l.length := by simp at h; omega
  rw [if_neg (by omega)] at hrf
  have hbox := hlaw l n ⟨hl80, hgood, hspace⟩ hll.1 hll.2
  rw [← hbox] at hrf
  rw [hrf]
  refine HT_seq (HT_run (by simp [evs, evc, okCall, brw, brwL, brwT, brwA, RV.ownB, CV.ownB, RV.onlyB, TV.onlyB, CV.onlyB, HS.made, impB_self, impB_true, impB_false, impB_one, pickB_or, pickB_and, pickB_true, pickB_false, wpR, gdOf, clsOf, stpF, stpG, strip, gdR, litG, evOp, evN, evA, evR, evW, evBin, evUn, cellsOf, opd, lkp, ins, del, HS.put, okDst, unmB, RV.menB, TV.menB, CV.menB, Ob.menB, CV.cell, CD.cell, Value.oneCell', thenQ, blockQ, loopQ, constRV, fieldOf, elemTy, idxArr, arrOf, partOf, litOf, Hl.lit, rowsOf, dataOf, baseOf, moreOf, setRow]; rfl) ?_)
  refine HT_le (le_frz 44 rfl) ?_
  refine HT_seq (HT_seq (HT_run (by simp [evs, evc, okCall, brw, brwL, brwT, brwA, RV.ownB, CV.ownB, RV.onlyB, TV.onlyB, CV.onlyB, HS.made, impB_self, impB_true, impB_false, impB_one, pickB_or, pickB_and, pickB_true, pickB_false, wpR, gdOf, clsOf, stpF, stpG, strip, gdR, litG, evOp, evN, evA, evR, evW, evBin, evUn, cellsOf, opd, lkp, ins, del, HS.put, okDst, unmB, RV.menB, TV.menB, CV.menB, Ob.menB, CV.cell, CD.cell, Value.oneCell', thenQ, blockQ, loopQ, constRV, fieldOf, elemTy, idxArr, arrOf, partOf, litOf, Hl.lit, rowsOf, dataOf, baseOf, moreOf, setRow, HS.frz, mapL, RV.frz, TV.frz, CV.frz]; rfl) ?_))
  refine HT_block (HT_loop (S17 l lo hi) (J17 l lo hi n) (fun x => l.length - x.1) (0, [0], 1) ⟨Nat.zero_le _, by simp, by simp, by simp, hspace, rfl⟩ ?_ ?_)
  · exact le_mk (fun n => n) [] rfl (by simp [allL, ins, RV.okNil, TV.okNil, CV.okNil, Ob.okNil, RV.ren, TV.ren, CV.ren, Ob.ren, opd, lkp, nilS, CV.frz, TV.frz, RV.frz, Ob.frz, HS.frz, mapL, del, S17, li, encVs, encIs, i64]) (by simp [allL, ins, RV.okNil, TV.okNil, CV.okNil, Ob.okNil, RV.ren, TV.ren, CV.ren, Ob.ren, opd, lkp, nilS, CV.frz, TV.frz, RV.frz, Ob.frz, HS.frz, mapL, del, S17]) (by simp [allL, ins, RV.okNil, TV.okNil, CV.okNil, Ob.okNil, RV.ren, TV.ren, CV.ren, Ob.ren, opd, lkp, nilS, CV.frz, TV.frz, RV.frz, Ob.frz, HS.frz, mapL, del, S17])
  rintro ⟨i, rs, p⟩ ⟨hi1, hrl, hrb, hp4, hsp, hwd⟩
  simp only [S17] at *
  refine HT_seq (HT_run (by simp [evs, evc, okCall, brw, brwL, brwT, brwA, RV.ownB, CV.ownB, RV.onlyB, TV.onlyB, CV.onlyB, HS.made, impB_self, impB_true, impB_false, impB_one, pickB_or, pickB_and, pickB_true, pickB_false, wpR, gdOf, clsOf, stpF, stpG, strip, gdR, litG, evOp, evN, evA, evR, evW, evBin, evUn, cellsOf, opd, lkp, ins, del, HS.put, okDst, unmB, RV.menB, TV.menB, CV.menB, Ob.menB, CV.cell, CD.cell, Value.oneCell', thenQ, blockQ, loopQ, constRV, fieldOf, elemTy, idxArr, arrOf, partOf, litOf, Hl.lit, rowsOf, dataOf, baseOf, moreOf, setRow, encVs, encIs, li]; rfl) ?_)
  refine HT_seq (HT_cond rfl (fun h => HT_skip ?_) (fun h => HT_exit ?_))
  · simp only [decide_eq_true_eq] at h
    have hlt : i < l.length := by omega
    obtain ⟨v, hv⟩ : ∃ v, l[i]? = some v := ⟨l[i], List.getElem?_eq_getElem hlt⟩
    obtain ⟨a, ha⟩ : ∃ v, lo[i]? = some v := ⟨lo[i], List.getElem?_eq_getElem (by omega)⟩
    obtain ⟨b, hb⟩ : ∃ v, hi[i]? = some v := ⟨hi[i], List.getElem?_eq_getElem (by omega)⟩
    have hvb := hgood v (List.mem_of_getElem? hv)
    obtain ⟨b1, b2, b3⟩ := not_bad hvb
    obtain ⟨s1, s2⟩ := size_pos hvb
    have hcnt := @cnt_le v a b hvb
    have hw : IntKind.i64.wrap ((i : Int) + 1) = (i : Int) + 1 := wrap_in (by omega) (by omega)
    rw [drop_eq hv] at hsp
    rw [drop_eq hv, drop_eq ha, drop_eq hb] at hwd
    simp only [spaceL] at hsp
    simp only [withinD] at hwd
    have h4 : ¬ 4096 < p * sizeV v := by intro hc; rw [if_pos hc] at hsp; cases hsp
    rw [if_neg h4] at hsp
    refine HT_seq (HT_block (HT_seq (HT_run (by simp [evs, evc, okCall, brw, brwL, brwT, brwA, RV.ownB, CV.ownB, RV.onlyB, TV.onlyB, CV.onlyB, HS.made, impB_self, impB_true, impB_false, impB_one, pickB_or, pickB_and, pickB_true, pickB_false, wpR, gdOf, clsOf, stpF, stpG, strip, gdR, litG, evOp, evN, evA, evR, evW, evBin, evUn, cellsOf, opd, lkp, ins, del, HS.put, okDst, unmB, RV.menB, TV.menB, CV.menB, Ob.menB, CV.cell, CD.cell, Value.oneCell', thenQ, blockQ, loopQ, constRV, fieldOf, elemTy, idxArr, arrOf, partOf, litOf, Hl.lit, rowsOf, dataOf, baseOf, moreOf, setRow, hv, Var.enc, i64]; rfl) ?_)))
    refine HT_seq (HT_run (by simp [evs, evc, okCall, brw, brwL, brwT, brwA, RV.ownB, CV.ownB, RV.onlyB, TV.onlyB, CV.onlyB, HS.made, impB_self, impB_true, impB_false, impB_one, pickB_or, pickB_and, pickB_true, pickB_false, wpR, gdOf, clsOf, stpF, stpG, strip, gdR, litG, evOp, evN, evA, evR, evW, evBin, evUn, cellsOf, opd, lkp, ins, del, HS.put, okDst, unmB, RV.menB, TV.menB, CV.menB, Ob.menB, CV.cell, CD.cell, Value.oneCell', thenQ, blockQ, loopQ, constRV, fieldOf, elemTy, idxArr, arrOf, partOf, litOf, Hl.lit, rowsOf, dataOf, baseOf, moreOf, setRow]; rfl) ?_)
    refine HT_seq (HT_seq (HT_run (by simp [evs, evc, okCall, brw, brwL, brwT, brwA, RV.ownB, CV.ownB, RV.onlyB, TV.onlyB, CV.onlyB, HS.made, impB_self, impB_true, impB_false, impB_one, pickB_or, pickB_and, pickB_true, pickB_false, wpR, gdOf, clsOf, stpF, stpG, strip, gdR, litG, evOp, evN, evA, evR, evW, evBin, evUn, cellsOf, opd, lkp, ins, del, HS.put, okDst, unmB, RV.menB, TV.menB, CV.menB, Ob.menB, CV.cell, CD.cell, Value.oneCell', thenQ, blockQ, loopQ, constRV, fieldOf, elemTy, idxArr, arrOf, partOf, litOf, Hl.lit, rowsOf, dataOf, baseOf, moreOf, setRow]; rfl) ?_))
    refine HT_block (HT_loop (S18 l lo hi rs i v a b) (fun j => j ≤ rs.length) (fun j => rs.length - j) 0 (Nat.zero_le _) ?_ ?_)
    · exact le_mk (fun n => 15) [1016] rfl (by simp [allL, ins, RV.okNil, TV.okNil, CV.okNil, Ob.okNil, RV.ren, TV.ren, CV.ren, Ob.ren, opd, lkp, nilS, CV.frz, TV.frz, RV.frz, Ob.frz, HS.frz, mapL, del, S18, li, encVs, encIs, Var.enc, i64]) (by simp [allL, ins, RV.okNil, TV.okNil, CV.okNil, Ob.okNil, RV.ren, TV.ren, CV.ren, Ob.ren, opd, lkp, nilS, CV.frz, TV.frz, RV.frz, Ob.frz, HS.frz, mapL, del, S18, Var.enc, i64]) (by simp [allL, ins, RV.okNil, TV.okNil, CV.okNil, Ob.okNil, RV.ren, TV.ren, CV.ren, Ob.ren, opd, lkp, nilS, CV.frz, TV.frz, RV.frz, Ob.frz, HS.frz, mapL, del, S18])
    intro j hj
    simp only [S18]
    refine HT_seq (HT_run (by simp [evs, evc, okCall, brw, brwL, brwT, brwA, RV.ownB, CV.ownB, RV.onlyB, TV.onlyB, CV.onlyB, HS.made, impB_self, impB_true, impB_false, impB_one, pickB_or, pickB_and, pickB_true, pickB_false, wpR, gdOf, clsOf, stpF, stpG, strip, gdR, litG, evOp, evN, evA, evR, evW, evBin, evUn, cellsOf, opd, lkp, ins, del, HS.put, okDst, unmB, RV.menB, TV.menB, CV.menB, Ob.menB, CV.cell, CD.cell, Value.oneCell', thenQ, blockQ, loopQ, constRV, fieldOf, elemTy, idxArr, arrOf, partOf, litOf, Hl.lit, rowsOf, dataOf, baseOf, moreOf, setRow, encVs, encIs, li]; rfl) ?_)
    refine HT_seq (HT_cond rfl (fun h => HT_skip ?_) (fun h => HT_exit ?_))
    · simp only [decide_eq_true_eq] at h
      have hjlt : j < rs.length := by omega
      obtain ⟨r, hr⟩ : ∃ v, rs[j]? = some v := ⟨rs[j], List.getElem?_eq_getElem hjlt⟩
      obtain ⟨r0, r1⟩ := hrb r (List.mem_of_getElem? hr)
      have hwj : IntKind.i64.wrap ((j : Int) + 1) = (j : Int) + 1 := wrap_in (by omega) (by omega)
      have hflat := @flat_len (rs.take j) v a (cntD v a b)
      refine HT_seq (HT_block (HT_seq (HT_run (by simp [evs, evc, okCall, brw, brwL, brwT, brwA, RV.ownB, CV.ownB, RV.onlyB, TV.onlyB, CV.onlyB, HS.made, impB_self, impB_true, impB_false, impB_one, pickB_or, pickB_and, pickB_true, pickB_false, wpR, gdOf, clsOf, stpF, stpG, strip, gdR, litG, evOp, evN, evA, evR, evW, evBin, evUn, cellsOf, opd, lkp, ins, del, HS.put, okDst, unmB, RV.menB, TV.menB, CV.menB, Ob.menB, CV.cell, CD.cell, Value.oneCell', thenQ, blockQ, loopQ, constRV, fieldOf, elemTy, idxArr, arrOf, partOf, litOf, Hl.lit, rowsOf, dataOf, baseOf, moreOf, setRow, hr, i64]; rfl) ?_)))
      refine HT_seq (HT_drun (by kernel_rfl) (by kernel_rfl) (by rfl) (by simp [evs, evc, okCall, brw, brwL, brwT, brwA, RV.ownB, CV.ownB, RV.onlyB, TV.onlyB, CV.onlyB, HS.made, impB_self, impB_true, impB_false, impB_one, pickB_or, pickB_and, pickB_true, pickB_false, wpR, gdOf, clsOf, stpF, stpG, strip, gdR, litG, evOp, evN, evA, evR, evW, evBin, evUn, cellsOf, opd, lkp, ins, del, HS.put, okDst, unmB, RV.menB, TV.menB, CV.menB, Ob.menB, CV.cell, CD.cell, Value.oneCell', thenQ, blockQ, loopQ, constRV, fieldOf, elemTy, idxArr, arrOf, partOf, litOf, Hl.lit, rowsOf, dataOf, baseOf, moreOf, setRow, ha, Var.enc, i64]; rfl) ?_)
      refine HT_block (HT_loop (S19 l lo hi rs i v a b j r) (fun m => m ≤ cntD v a b) (fun m => cntD v a b - m) 0 (Nat.zero_le _) ?_ ?_)
      · exact le_mk (fun n => n) [] rfl (by simp [allL, ins, RV.okNil, TV.okNil, CV.okNil, Ob.okNil, RV.ren, TV.ren, CV.ren, Ob.ren, opd, lkp, nilS, CV.frz, TV.frz, RV.frz, Ob.frz, HS.frz, mapL, del, S19, li, encVs, encIs, loD, i64]) (by simp [allL, ins, RV.okNil, TV.okNil, CV.okNil, Ob.okNil, RV.ren, TV.ren, CV.ren, Ob.ren, opd, lkp, nilS, CV.frz, TV.frz, RV.frz, Ob.frz, HS.frz, mapL, del, S19, rowD, Var.enc, i64]) (by simp [allL, ins, RV.okNil, TV.okNil, CV.okNil, Ob.okNil, RV.ren, TV.ren, CV.ren, Ob.ren, opd, lkp, nilS, CV.frz, TV.frz, RV.frz, Ob.frz, HS.frz, mapL, del, S19])
      intro m hm
      simp only [S19]
      refine HT_seq (HT_seq (HT_drun (by kernel_rfl) (by kernel_rfl) (by rfl) (by simp [evs, evc, okCall, brw, brwL, brwT, brwA, RV.ownB, CV.ownB, RV.onlyB, TV.onlyB, CV.onlyB, HS.made, impB_self, impB_true, impB_false, impB_one, pickB_or, pickB_and, pickB_true, pickB_false, wpR, gdOf, clsOf, stpF, stpG, strip, gdR, litG, evOp, evN, evA, evR, evW, evBin, evUn, cellsOf, opd, lkp, ins, del, HS.put, okDst, unmB, RV.menB, TV.menB, CV.menB, Ob.menB, CV.cell, CD.cell, Value.oneCell', thenQ, blockQ, loopQ, constRV, fieldOf, elemTy, idxArr, arrOf, partOf, litOf, Hl.lit, rowsOf, dataOf, baseOf, moreOf, setRow, hb, encVs, encIs, li, Var.enc, i64]; rfl) ?_))
      refine HT_cond rfl (fun h2 => HT_skip ?_) (fun h2 => HT_exit ?_)
      · have h2' : loD v a + m ≤ hiD v b := by simpa [hiD] using h2
        have hx1 : v.low ≤ loD v a := by unfold loD; split <;> omega
        have hx2 : hiD v b ≤ v.high := by unfold hiD; split <;> omega
        have hmc : m < cntD v a b := by unfold cntD; omega
        obtain ⟨f1, f2⟩ := fit (s := sizeV v) (x := loD v a + m) (low := v.low) (high := v.high) r0 r1 rfl (by omega) (by omega)
        have w1 : IntKind.i64.wrap (r * sizeV v) = r * sizeV v := wrap_in (by omega) (by omega)
        have w2 : IntKind.i64.wrap (r * sizeV v + (loD v a + m)) = r * sizeV v + (loD v a + m) := wrap_in (by omega) (by omega)
        have w3 : IntKind.i64.wrap (r * sizeV v + (loD v a + m) - v.low) = r * sizeV v + (loD v a + m) - v.low := wrap_in (by omega) (by omega)
        have w4 : IntKind.i64.wrap (loD v a + m + 1) = loD v a + m + 1 := wrap_in (by omega) (by omega)
        have hsucc := rowD_succ v a r m
        have hrlen := rowD_len v a r m
        have htl : (rs.take j).length = j := by rw [List.length_take]; omega
        rw [htl] at hflat
        have hfl : ((rs.take j).flatMap fun r => rowD v a r (cntD v a b)).length ≤ 4096 := by
          rw [hflat]
          have := Int.mul_le_mul (show (j : Int) ≤ p by omega) hcnt (by omega) (by omega)
          have e : ((j * cntD v a b : Nat) : Int) = (j : Int) * (cntD v a b : Int) := by push_cast; rfl
          omega
        have hs4 : sizeV v ≤ 4096 := by
          have := Int.mul_le_mul (show (1 : Int) ≤ p by omega) (Int.le_refl (sizeV v)) (by omega) (by omega)
          omega
        generalize hacc : ((rs.take j).flatMap fun r => rowD v a r (cntD v a b)) = acc at *
        have hroom : room (acc.length + (rowD v a r m).length + 1) 8 := room_of (by omega) (by omega)
        have hroom2 : room (acc.length + m + 1) 8 := room_of (by omega) (by omega)
        refine HT_seq (HT_block (HT_drunc [⟨true, Hl.lit (.int .i64 (sizeV v)), none⟩] (by kernel_rfl) (by kernel_rfl) (by rfl) (by simp [evs, evc, okCall, brw, brwL, brwT, brwA, RV.ownB, CV.ownB, RV.onlyB, TV.onlyB, CV.onlyB, HS.made, impB_self, impB_true, impB_false, impB_one, pickB_or, pickB_and, pickB_true, pickB_false, wpR, gdOf, clsOf, stpF, stpG, strip, gdR, litG, evOp, evN, evA, evR, evW, evBin, evUn, cellsOf, opd, lkp, ins, del, HS.put, okDst, unmB, RV.menB, TV.menB, CV.menB, Ob.menB, CV.cell, CD.cell, Value.oneCell', thenQ, blockQ, loopQ, constRV, fieldOf, elemTy, idxArr, arrOf, partOf, litOf, Hl.lit, rowsOf, dataOf, baseOf, moreOf, setRow, w1, w2, w3, hroom, hroom2, Var.enc, i64]; first | exact ⟨rfl, Iff.rfl⟩ | rfl) (size_con v hvb _) ?_))
        refine HT_run (by simp [evs, evc, okCall, brw, brwL, brwT, brwA, RV.ownB, CV.ownB, RV.onlyB, TV.onlyB, CV.onlyB, HS.made, impB_self, impB_true, impB_false, impB_one, pickB_or, pickB_and, pickB_true, pickB_false, wpR, gdOf, clsOf, stpF, stpG, strip, gdR, litG, evOp, evN, evA, evR, evW, evBin, evUn, cellsOf, opd, lkp, ins, del, HS.put, okDst, unmB, RV.menB, TV.menB, CV.menB, Ob.menB, CV.cell, CD.cell, Value.oneCell', thenQ, blockQ, loopQ, constRV, fieldOf, elemTy, idxArr, arrOf, partOf, litOf, Hl.lit, rowsOf, dataOf, baseOf, moreOf, setRow, w4]; rfl) ?_
        refine ⟨m + 1, hmc, by omega, ?_⟩
        refine le_mk (fun n => if n = 1016 then 87 else n) [] rfl ?_ ?_ ?_
        · simp [allL, ins, RV.okNil, TV.okNil, CV.okNil, Ob.okNil, RV.ren, TV.ren, CV.ren, Ob.ren, opd, lkp, nilS, CV.frz, TV.frz, RV.frz, Ob.frz, HS.frz, mapL, del, S19, li, encVs, encIs, Var.enc, i64, Int.add_assoc]
        · simp [allL, ins, RV.okNil, TV.okNil, CV.okNil, Ob.okNil, RV.ren, TV.ren, CV.ren, Ob.ren, opd, lkp, nilS, CV.frz, TV.frz, RV.frz, Ob.frz, HS.frz, mapL, del, S19, hacc, hsucc, Var.enc, i64]
        · simp [allL, ins, RV.okNil, TV.okNil, CV.okNil, Ob.okNil, RV.ren, TV.ren, CV.ren, Ob.ren, opd, lkp, nilS, CV.frz, TV.frz, RV.frz, Ob.frz, HS.frz, mapL, del, S19, Var.enc]
      · have h2' : ¬ loD v a + m ≤ hiD v b := by simpa [hiD] using h2
        have hmc : m = cntD v a b := by unfold cntD at *; omega
        subst hmc
        refine HT_run (by simp [evs, evc, okCall, brw, brwL, brwT, brwA, RV.ownB, CV.ownB, RV.onlyB, TV.onlyB, CV.onlyB, HS.made, impB_self, impB_true, impB_false, impB_one, pickB_or, pickB_and, pickB_true, pickB_false, wpR, gdOf, clsOf, stpF, stpG, strip, gdR, litG, evOp, evN, evA, evR, evW, evBin, evUn, cellsOf, opd, lkp, ins, del, HS.put, okDst, unmB, RV.menB, TV.menB, CV.menB, Ob.menB, CV.cell, CD.cell, Value.oneCell', thenQ, blockQ, loopQ, constRV, fieldOf, elemTy, idxArr, arrOf, partOf, litOf, Hl.lit, rowsOf, dataOf, baseOf, moreOf, setRow, hwj]; rfl) ?_
        refine ⟨j + 1, by omega, by omega, ?_⟩
        have htk : rs.take (j + 1) = rs.take j ++ [r] := by rw [List.take_add_one, hr]; rfl
        refine le_mk (fun n => n) [] rfl ?_ ?_ ?_
        · simp [allL, ins, RV.okNil, TV.okNil, CV.okNil, Ob.okNil, RV.ren, TV.ren, CV.ren, Ob.ren, opd, lkp, nilS, CV.frz, TV.frz, RV.frz, Ob.frz, HS.frz, mapL, del, S18, li, encVs, encIs, Var.enc, i64]
        · simp [allL, ins, RV.okNil, TV.okNil, CV.okNil, Ob.okNil, RV.ren, TV.ren, CV.ren, Ob.ren, opd, lkp, nilS, CV.frz, TV.frz, RV.frz, Ob.frz, HS.frz, mapL, del, S18, htk, Var.enc, i64]
        · simp [allL, ins, RV.okNil, TV.okNil, CV.okNil, Ob.okNil, RV.ren, TV.ren, CV.ren, Ob.ren, opd, lkp, nilS, CV.frz, TV.frz, RV.frz, Ob.frz, HS.frz, mapL, del, S18, Var.enc]
    · have hjl : j = rs.length := by simp at h; omega
      subst hjl
      rw [List.take_length]
      refine HT_run (by simp [evs, evc, okCall, brw, brwL, brwT, brwA, RV.ownB, CV.ownB, RV.onlyB, TV.onlyB, CV.onlyB, HS.made, impB_self, impB_true, impB_false, impB_one, pickB_or, pickB_and, pickB_true, pickB_false, wpR, gdOf, clsOf, stpF, stpG, strip, gdR, litG, evOp, evN, evA, evR, evW, evBin, evUn, cellsOf, opd, lkp, ins, del, HS.put, okDst, unmB, RV.menB, TV.menB, CV.menB, Ob.menB, CV.cell, CD.cell, Value.oneCell', thenQ, blockQ, loopQ, constRV, fieldOf, elemTy, idxArr, arrOf, partOf, litOf, Hl.lit, rowsOf, dataOf, baseOf, moreOf, setRow]; rfl) ?_
      refine HT_run (by simp [evs, evc, okCall, brw, brwL, brwT, brwA, RV.ownB, CV.ownB, RV.onlyB, TV.onlyB, CV.onlyB, HS.made, impB_self, impB_true, impB_false, impB_one, pickB_or, pickB_and, pickB_true, pickB_false, wpR, gdOf, clsOf, stpF, stpG, strip, gdR, litG, evOp, evN, evA, evR, evW, evBin, evUn, cellsOf, opd, lkp, ins, del, HS.put, okDst, unmB, RV.menB, TV.menB, CV.menB, Ob.menB, CV.cell, CD.cell, Value.oneCell', thenQ, blockQ, loopQ, constRV, fieldOf, elemTy, idxArr, arrOf, partOf, litOf, Hl.lit, rowsOf, dataOf, baseOf, moreOf, setRow, hw]; rfl) ?_
      have hflat := @flat_len rs v a (cntD v a b)
      have hmul := Int.mul_le_mul hrl hcnt (by omega) (by omega)
      refine ⟨(i + 1, rs.flatMap fun r => rowD v a r (cntD v a b), p * sizeV v), ⟨hlt, ?_, ?_, by simp only; omega, hsp, hwd⟩, by simp only; omega, ?_⟩
      · simp only
        rw [hflat]
        have e : ((rs.length * cntD v a b : Nat) : Int) = (rs.length : Int) * (cntD v a b : Int) := by push_cast; rfl
        omega
      · intro y hy
        simp only at hy ⊢
        obtain ⟨r, hr, hy⟩ := List.mem_flatMap.1 hy
        obtain ⟨r0, r1⟩ := hrb r hr
        simp only [rowD, List.mem_map, List.mem_range] at hy
        obtain ⟨t, ht, rfl⟩ := hy
        have hx1 : v.low ≤ loD v a := by unfold loD; split <;> omega
        have hx2 : hiD v b ≤ v.high := by unfold hiD; split <;> omega
        exact fit (s := sizeV v) (x := loD v a + t) (low := v.low) (high := v.high) r0 r1 rfl (by omega) (by unfold cntD at ht; omega)
      · refine le_trans (le_frz 1016 rfl) (le_mk (fun n => n) [] rfl ?_ ?_ ?_)
        · simp [allL, ins, RV.okNil, TV.okNil, CV.okNil, Ob.okNil, RV.ren, TV.ren, CV.ren, Ob.ren, opd, lkp, nilS, CV.frz, TV.frz, RV.frz, Ob.frz, HS.frz, mapL, del, S17, li, encVs, encIs, i64]
        · simp [allL, ins, RV.okNil, TV.okNil, CV.okNil, Ob.okNil, RV.ren, TV.ren, CV.ren, Ob.ren, opd, lkp, nilS, CV.frz, TV.frz, RV.frz, Ob.frz, HS.frz, mapL, del, S17]
        · simp [allL, ins, RV.okNil, TV.okNil, CV.okNil, Ob.okNil, RV.ren, TV.ren, CV.ren, Ob.ren, opd, lkp, nilS, CV.frz, TV.frz, RV.frz, Ob.frz, HS.frz, mapL, del, S17]
  · have hil : i = l.length := by simp at h; omega
    subst hil
    rw [List.drop_length] at hwd
    have hwd2 : withinD l lo hi [0] = rs := by rw [hwd]; unfold withinD; rfl
    rw [hwd2]
    refine HT_seq (HT_run (by simp [evs, evc, okCall, brw, brwL, brwT, brwA, RV.ownB, CV.ownB, RV.onlyB, TV.onlyB, CV.onlyB, HS.made, impB_self, impB_true, impB_false, impB_one, pickB_or, pickB_and, pickB_true, pickB_false, wpR, gdOf, clsOf, stpF, stpG, strip, gdR, litG, evOp, evN, evA, evR, evW, evBin, evUn, cellsOf, opd, lkp, ins, del, HS.put, okDst, unmB, RV.menB, TV.menB, CV.menB, Ob.menB, CV.cell, CD.cell, Value.oneCell', thenQ, blockQ, loopQ, constRV, fieldOf, elemTy, idxArr, arrOf, partOf, litOf, Hl.lit, rowsOf, dataOf, baseOf, moreOf, setRow]; rfl) ?_)
    exact HT_ret ⟨.inr rfl, _, le_refl _, ⟨_, rfl, rfl⟩, by simp, by simp⟩
end Go.Proofs.Ytpnhnldneecpnaa
