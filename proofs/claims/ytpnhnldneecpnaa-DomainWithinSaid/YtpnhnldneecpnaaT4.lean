/- T4: contracts of functions of the package, used by the proof of the claimed statement. Conditions: as each theorem states. -/
import Derived.Test.YtpnhnldneecpnaaT3
set_option linter.unusedSimpArgs false
set_option linter.unusedVariables false
namespace Go.Proofs.Ytpnhnldneecpnaa
open Go Go.Hl

def prodL : List Var → Int
  | [] => 1
  | v :: l => sizeV v * prodL l
def unrankL : List Var → Int → List Int
  | [], _ => []
  | v :: l, r => (v.low + r / prodL l % sizeV v) :: unrankL l r
def unrankF (vars : List Var) (kind : Int) (r : Int) : List Int × Int :=
  if (chosenF vars kind).2.2 ≠ 0 then ([], (chosenF vars kind).2.2) else if r < 0 ∨ (chosenF vars kind).2.1 ≤ r then ([], 3) else (unrankL (chosenF vars kind).1 r, 0)

theorem size_pos {v : Var} (h : bad v = false) : 1 ≤ sizeV v ∧ sizeV v ≤ 2097153 := by
  obtain ⟨h1, h2, h3⟩ := not_bad h
  unfold sizeV; omega
theorem prod_pos : ∀ {l : List Var}, (∀ v ∈ l, bad v = false) → 1 ≤ prodL l
  | [], _ => by simp [prodL]
  | v :: l, h => by
    have h1 := (size_pos (h v (by simp))).1
    have h2 := prod_pos fun u hu => h u (List.mem_cons_of_mem _ hu)
    have := Int.mul_le_mul h1 h2 (by omega) (by omega)
    simpa [prodL] using this
theorem space_prod : ∀ {l : List Var} {a n : Int}, spaceL l a = some n → n = a * prodL l
  | [], a, n, h => by simp only [spaceL, Option.some.injEq] at h; simp [prodL, h]
  | v :: l, a, n, h => by
    simp only [spaceL] at h
    split at h
    · cases h
    · have := space_prod h
      rw [this, prodL, Int.mul_assoc]
theorem unrank_len : ∀ (l : List Var) (r : Int), (unrankL l r).length = l.length
  | [], _ => rfl
  | v :: l, r => by simp [unrankL, unrank_len l r]
theorem space_le : ∀ {l : List Var} {a n : Int}, a ≤ 4096 → spaceL l a = some n → n ≤ 4096
  | [], a, n, ha, h => by simp only [spaceL, Option.some.injEq] at h; omega
  | v :: l, a, n, ha, h => by
    simp only [spaceL] at h
    split at h
    · cases h
    · exact space_le (by omega) h

def S4 (l : List Var) (r : Int) (k : Nat) : HS :=
  ⟨64, [(2, .v (li (r / prodL (l.drop k)))), (8, .v (encVs l)), (11, .v (.one (.own 1011))), (12, .v (li ((k : Int) - 1)))], [(1011, .row 3 1 ((List.replicate k [i64 0]) ++ (unrankL (l.drop k) r).map fun x => [i64 x]))]⟩

theorem drop_eq {α : Type} {l : List α} {k : Nat} {v : α} (h : l[k]? = some v) : l.drop k = v :: l.drop (k + 1) := by
  obtain ⟨hlt, rfl⟩ := List.getElem?_eq_some_iff.1 h
  exact List.drop_eq_getElem_cons hlt
theorem set_last (k : Nat) (u : List CD) (x : List CD) (xs : List (List CD)) : (List.replicate (k + 1) u ++ xs).set k x = List.replicate k u ++ x :: xs := by
  rw [List.replicate_succ', List.append_assoc, List.set_append_right _ _ (by simp)]
  simp
theorem set_rep (k : Nat) (u : List CD) (x : List CD) : (List.replicate (k + 1) u).set k x = List.replicate k u ++ [x] := by
  have := set_last k u x []
  simpa using this

set_option maxRecDepth 100000 in
theorem unrank_con (vars : List Var) (kind : Int) (r : Int) (hlen : vars.length ≤ 80) (d : Nat) :
    Con Try.prog 16 false [encVs vars, li kind, li r] (.tup [encIs (unrankF vars kind r).1, li (unrankF vars kind r).2]) none d := by
  refine con_of_HT Try.func16 rfl (by kernel_rfl) (Nat.le_of_ble_eq_true rfl) ?_
  simp only [Try.f16]
  refine HT_seq (HT_run (by simp [evs, evc, okCall, brw, brwL, brwT, brwA, RV.ownB, CV.ownB, RV.onlyB, TV.onlyB, CV.onlyB, HS.made, impB_self, impB_true, impB_false, impB_one, pickB_or, pickB_and, pickB_true, pickB_false, wpR, gdOf, clsOf, stpF, stpG, strip, gdR, litG, evOp, evN, evA, evR, evW, evBin, evUn, cellsOf, opd, lkp, ins, del, HS.put, okDst, unmB, RV.menB, TV.menB, CV.menB, Ob.menB, CV.cell, CD.cell, Value.oneCell', thenQ, blockQ, loopQ, constRV, fieldOf, elemTy, idxArr, arrOf, partOf, litOf, Hl.lit, rowsOf, dataOf, baseOf, moreOf, setRow, regsOf, encVs, encIs, li]; rfl) ?_)
  refine HT_seq (HT_runc [⟨false, .tup [encVs (chosenF vars kind).1, li (chosenF vars kind).2.1, li (chosenF vars kind).2.2], none⟩] (by simp [evs, evc, okCall, brw, brwL, brwT, brwA, RV.ownB, CV.ownB, RV.onlyB, TV.onlyB, CV.onlyB, HS.made, impB_self, impB_true, impB_false, impB_one, pickB_or, pickB_and, pickB_true, pickB_false, wpR, gdOf, clsOf, stpF, stpG, strip, gdR, litG, evOp, evN, evA, evR, evW, evBin, evUn, cellsOf, opd, lkp, ins, del, HS.put, okDst, unmB, RV.menB, TV.menB, CV.menB, Ob.menB, CV.cell, CD.cell, Value.oneCell', thenQ, blockQ, loopQ, constRV, fieldOf, elemTy, idxArr, arrOf, partOf, litOf, Hl.lit, rowsOf, dataOf, baseOf, moreOf, setRow, encVs, li]; exact ⟨rfl, Iff.rfl⟩) (chosen_con vars kind hlen _) ?_)
  have hok := @chosen_ok vars kind hlen
  have hrf : unrankF vars kind r = unrankF vars kind r := rfl
  conv at hrf => rhs; unfold unrankF
  generalize chosenF vars kind = c at *
  obtain ⟨l, n, e⟩ := c
  simp only at *
  refine HT_seq (HT_block (HT_seq (HT_run (by simp [evs, evc, okCall, brw, brwL, brwT, brwA, RV.ownB, CV.ownB, RV.onlyB, TV.onlyB, CV.onlyB, HS.made, impB_self, impB_true, impB_false, impB_one, pickB_or, pickB_and, pickB_true, pickB_false, wpR, gdOf, clsOf, stpF, stpG, strip, gdR, litG, evOp, evN, evA, evR, evW, evBin, evUn, cellsOf, opd, lkp, ins, del, HS.put, okDst, unmB, RV.menB, TV.menB, CV.menB, Ob.menB, CV.cell, CD.cell, Value.oneCell', thenQ, blockQ, loopQ, constRV, fieldOf, elemTy, idxArr, arrOf, partOf, litOf, Hl.lit, rowsOf, dataOf, baseOf, moreOf, setRow, li]; rfl) ?_)))
  refine HT_cond rfl (fun h => ?_) (fun h => ?_)
  · refine HT_seq (HT_run (by simp [evs, evc, okCall, brw, brwL, brwT, brwA, RV.ownB, CV.ownB, RV.onlyB, TV.onlyB, CV.onlyB, HS.made, impB_self, impB_true, impB_false, impB_one, pickB_or, pickB_and, pickB_true, pickB_false, wpR, gdOf, clsOf, stpF, stpG, strip, gdR, litG, evOp, evN, evA, evR, evW, evBin, evUn, cellsOf, opd, lkp, ins, del, HS.put, okDst, unmB, RV.menB, TV.menB, CV.menB, Ob.menB, CV.cell, CD.cell, Value.oneCell', thenQ, blockQ, loopQ, constRV, fieldOf, elemTy, idxArr, arrOf, partOf, litOf, Hl.lit, rowsOf, dataOf, baseOf, moreOf, setRow]; rfl) ?_)
    have he : e ≠ 0 := by simpa using h
    rw [if_pos he] at hrf
    rw [hrf]
    exact HT_ret ⟨.inr rfl, _, le_nil 6 1 rfl (Nat.le_of_ble_eq_true rfl), ⟨_, rfl, rfl⟩, by simp, by simp⟩
  have he : e = 0 := by simpa using h
  subst he
  rw [if_neg (by simp)] at hrf
  obtain ⟨⟨hl80, hgood, hspace⟩, _⟩ := hok rfl
  have hn : n = prodL l := by have := space_prod hspace; omega
  have hn4 : n ≤ 4096 := space_le (by omega) hspace
  refine HT_seq (HT_run (by simp [evs, evc, okCall, brw, brwL, brwT, brwA, RV.ownB, CV.ownB, RV.onlyB, TV.onlyB, CV.onlyB, HS.made, impB_self, impB_true, impB_false, impB_one, pickB_or, pickB_and, pickB_true, pickB_false, wpR, gdOf, clsOf, stpF, stpG, strip, gdR, litG, evOp, evN, evA, evR, evW, evBin, evUn, cellsOf, opd, lkp, ins, del, HS.put, okDst, unmB, RV.menB, TV.menB, CV.menB, Ob.menB, CV.cell, CD.cell, Value.oneCell', thenQ, blockQ, loopQ, constRV, fieldOf, elemTy, idxArr, arrOf, partOf, litOf, Hl.lit, rowsOf, dataOf, baseOf, moreOf, setRow]; rfl) ?_)
  refine HT_cond rfl (fun h => ?_) (fun h => HT_skip ?_)
  · refine HT_seq (HT_run (by simp [evs, evc, okCall, brw, brwL, brwT, brwA, RV.ownB, CV.ownB, RV.onlyB, TV.onlyB, CV.onlyB, HS.made, impB_self, impB_true, impB_false, impB_one, pickB_or, pickB_and, pickB_true, pickB_false, wpR, gdOf, clsOf, stpF, stpG, strip, gdR, litG, evOp, evN, evA, evR, evW, evBin, evUn, cellsOf, opd, lkp, ins, del, HS.put, okDst, unmB, RV.menB, TV.menB, CV.menB, Ob.menB, CV.cell, CD.cell, Value.oneCell', thenQ, blockQ, loopQ, constRV, fieldOf, elemTy, idxArr, arrOf, partOf, litOf, Hl.lit, rowsOf, dataOf, baseOf, moreOf, setRow]; rfl) ?_)
    have he : r < 0 ∨ n ≤ r := by simpa using h
    rw [if_pos he] at hrf
    rw [hrf]
    exact HT_ret ⟨.inr rfl, _, le_nil 6 1 rfl (Nat.le_of_ble_eq_true rfl), ⟨_, rfl, rfl⟩, by simp, by simp⟩
  have he : ¬ (r < 0 ∨ n ≤ r) := by simpa using h
  rw [if_neg he] at hrf
  rw [hrf]
  have hroom : l.length ≤ maxLen := by unfold maxLen; omega
  have hroom2 : 8 * (l.length : Int) ≤ 281474976710656 := by omega
  refine HT_seq (HT_run (by simp [evs, evc, okCall, brw, brwL, brwT, brwA, RV.ownB, CV.ownB, RV.onlyB, TV.onlyB, CV.onlyB, HS.made, impB_self, impB_true, impB_false, impB_one, pickB_or, pickB_and, pickB_true, pickB_false, wpR, gdOf, clsOf, stpF, stpG, strip, gdR, litG, evOp, evN, evA, evR, evW, evBin, evUn, cellsOf, opd, lkp, ins, del, HS.put, okDst, unmB, RV.menB, TV.menB, CV.menB, Ob.menB, CV.cell, CD.cell, Value.oneCell', thenQ, blockQ, loopQ, constRV, fieldOf, elemTy, idxArr, arrOf, partOf, litOf, Hl.lit, rowsOf, dataOf, baseOf, moreOf, setRow, encVs, ty29, ty3, hroom, hroom2]; rfl) ?_)
  have hw : IntKind.i64.wrap ((l.length : Int) - 1) = (l.length : Int) - 1 := wrap_in (by omega) (by omega)
  refine HT_seq (HT_seq (HT_run (by simp [evs, evc, okCall, brw, brwL, brwT, brwA, RV.ownB, CV.ownB, RV.onlyB, TV.onlyB, CV.onlyB, HS.made, impB_self, impB_true, impB_false, impB_one, pickB_or, pickB_and, pickB_true, pickB_false, wpR, gdOf, clsOf, stpF, stpG, strip, gdR, litG, evOp, evN, evA, evR, evW, evBin, evUn, cellsOf, opd, lkp, ins, del, HS.put, okDst, unmB, RV.menB, TV.menB, CV.menB, Ob.menB, CV.cell, CD.cell, Value.oneCell', thenQ, blockQ, loopQ, constRV, fieldOf, elemTy, idxArr, arrOf, partOf, litOf, Hl.lit, rowsOf, dataOf, baseOf, moreOf, setRow, hw]; rfl) ?_))
  refine HT_block (HT_loop (S4 l r) (fun k => k ≤ l.length) (fun k => k) l.length (Nat.le_refl _) ?_ ?_)
  · exact le_mk (fun n => 35) [] rfl (by simp [allL, ins, RV.okNil, TV.okNil, CV.okNil, Ob.okNil, RV.ren, TV.ren, CV.ren, Ob.ren, opd, lkp, nilS, CV.frz, TV.frz, RV.frz, Ob.frz, HS.frz, mapL, del, S4, li, encVs, prodL]) (by simp [allL, ins, RV.okNil, TV.okNil, CV.okNil, Ob.okNil, RV.ren, TV.ren, CV.ren, Ob.ren, opd, lkp, nilS, CV.frz, TV.frz, RV.frz, Ob.frz, HS.frz, mapL, del, S4, prodL, unrankL, i64]) (by simp [allL, ins, RV.okNil, TV.okNil, CV.okNil, Ob.okNil, RV.ren, TV.ren, CV.ren, Ob.ren, opd, lkp, nilS, CV.frz, TV.frz, RV.frz, Ob.frz, HS.frz, mapL, del, S4])
  intro k hk
  simp only [S4]
  refine HT_seq (HT_seq (HT_run (by simp [evs, evc, okCall, brw, brwL, brwT, brwA, RV.ownB, CV.ownB, RV.onlyB, TV.onlyB, CV.onlyB, HS.made, impB_self, impB_true, impB_false, impB_one, pickB_or, pickB_and, pickB_true, pickB_false, wpR, gdOf, clsOf, stpF, stpG, strip, gdR, litG, evOp, evN, evA, evR, evW, evBin, evUn, cellsOf, opd, lkp, ins, del, HS.put, okDst, unmB, RV.menB, TV.menB, CV.menB, Ob.menB, CV.cell, CD.cell, Value.oneCell', thenQ, blockQ, loopQ, constRV, fieldOf, elemTy, idxArr, arrOf, partOf, litOf, Hl.lit, rowsOf, dataOf, baseOf, moreOf, setRow, encVs, li]; rfl) ?_))
  refine HT_cond rfl (fun h => HT_skip ?_) (fun h => HT_exit ?_)
  · obtain ⟨k, rfl⟩ : ∃ j, k = j + 1 := ⟨k - 1, by simp at h; omega⟩
    clear h
    have hlt : k < l.length := by omega
    obtain ⟨v, hv⟩ : ∃ v, l[k]? = some v := ⟨l[k], List.getElem?_eq_getElem hlt⟩
    have hvb := hgood v (List.mem_of_getElem? hv)
    obtain ⟨b1, b2, b3⟩ := not_bad hvb
    obtain ⟨s1, s2⟩ := size_pos hvb
    have hkk : ((k + 1 : Nat) : Int) - 1 = k := by omega
    have hp1 : 1 ≤ prodL (l.drop (k + 1)) := prod_pos fun u hu => hgood u (List.mem_of_mem_drop hu)
    generalize hq : r / prodL (l.drop (k + 1)) = q
    have hq0 : 0 ≤ q := by rw [← hq]; exact Int.ediv_nonneg (by omega) (by omega)
    have hq1 : q ≤ r := by rw [← hq]; exact Int.ediv_le_self _ (by omega)
    have hm0 : 0 ≤ q % sizeV v := Int.emod_nonneg _ (by omega)
    have hm1 : q % sizeV v < sizeV v := Int.emod_lt_of_pos _ (by omega)
    have hd0 : 0 ≤ q / sizeV v := Int.ediv_nonneg hq0 (by omega)
    have hd1 : q / sizeV v ≤ q := Int.ediv_le_self _ hq0
    have w1 : IntKind.i64.wrap (v.low + q % sizeV v) = v.low + q % sizeV v := wrap_in (by unfold sizeV at *; omega) (by unfold sizeV at *; omega)
    have w2 : IntKind.i64.wrap (q / sizeV v) = q / sizeV v := wrap_in (by omega) (by omega)
    have w3 : IntKind.i64.wrap ((k : Int) - 1) = (k : Int) - 1 := wrap_in (by omega) (by omega)
    have t1 : q.tmod (sizeV v) = q % sizeV v := Int.tmod_eq_emod_of_nonneg hq0
    have t2 : q.tdiv (sizeV v) = q / sizeV v := Int.tdiv_eq_ediv_of_nonneg hq0
    have s0 : ¬ sizeV v = 0 := by omega
    have hkl : k < k + 1 + (unrankL (l.drop (k + 1)) r).length := by omega
    rw [hkk]
    refine HT_seq (HT_block (HT_seq (HT_runc [⟨true, Hl.lit (.int .i64 (sizeV v)), none⟩] (by simp [evs, evc, okCall, brw, brwL, brwT, brwA, RV.ownB, CV.ownB, RV.onlyB, TV.onlyB, CV.onlyB, HS.made, impB_self, impB_true, impB_false, impB_one, pickB_or, pickB_and, pickB_true, pickB_false, wpR, gdOf, clsOf, stpF, stpG, strip, gdR, litG, evOp, evN, evA, evR, evW, evBin, evUn, cellsOf, opd, lkp, ins, del, HS.put, okDst, unmB, RV.menB, TV.menB, CV.menB, Ob.menB, CV.cell, CD.cell, Value.oneCell', thenQ, blockQ, loopQ, constRV, fieldOf, elemTy, idxArr, arrOf, partOf, litOf, Hl.lit, rowsOf, dataOf, baseOf, moreOf, setRow, ty22, ty51, hv, Var.enc, i64]; exact ⟨rfl, Iff.rfl⟩) (size_con v hvb _) ?_)))
    refine HT_seq (HT_drun (by kernel_rfl) (by kernel_rfl) (by rfl) (by simp [evs, evc, okCall, brw, brwL, brwT, brwA, RV.ownB, CV.ownB, RV.onlyB, TV.onlyB, CV.onlyB, HS.made, impB_self, impB_true, impB_false, impB_one, pickB_or, pickB_and, pickB_true, pickB_false, wpR, gdOf, clsOf, stpF, stpG, strip, gdR, litG, evOp, evN, evA, evR, evW, evBin, evUn, cellsOf, opd, lkp, ins, del, HS.put, okDst, unmB, RV.menB, TV.menB, CV.menB, Ob.menB, CV.cell, CD.cell, Value.oneCell', thenQ, blockQ, loopQ, constRV, fieldOf, elemTy, idxArr, arrOf, partOf, litOf, Hl.lit, rowsOf, dataOf, baseOf, moreOf, setRow, ty22, ty29, ty51, ty3, hv, w1, t1, s0, hkl, Var.enc, i64]; rfl) ?_)
    refine HT_run (by simp [evs, evc, okCall, brw, brwL, brwT, brwA, RV.ownB, CV.ownB, RV.onlyB, TV.onlyB, CV.onlyB, HS.made, impB_self, impB_true, impB_false, impB_one, pickB_or, pickB_and, pickB_true, pickB_false, wpR, gdOf, clsOf, stpF, stpG, strip, gdR, litG, evOp, evN, evA, evR, evW, evBin, evUn, cellsOf, opd, lkp, ins, del, HS.put, okDst, unmB, RV.menB, TV.menB, CV.menB, Ob.menB, CV.cell, CD.cell, Value.oneCell', thenQ, blockQ, loopQ, constRV, fieldOf, elemTy, idxArr, arrOf, partOf, litOf, Hl.lit, rowsOf, dataOf, baseOf, moreOf, setRow, t2, w2, s0]; rfl) ?_
    refine HT_run (by simp [evs, evc, okCall, brw, brwL, brwT, brwA, RV.ownB, CV.ownB, RV.onlyB, TV.onlyB, CV.onlyB, HS.made, impB_self, impB_true, impB_false, impB_one, pickB_or, pickB_and, pickB_true, pickB_false, wpR, gdOf, clsOf, stpF, stpG, strip, gdR, litG, evOp, evN, evA, evR, evW, evBin, evUn, cellsOf, opd, lkp, ins, del, HS.put, okDst, unmB, RV.menB, TV.menB, CV.menB, Ob.menB, CV.cell, CD.cell, Value.oneCell', thenQ, blockQ, loopQ, constRV, fieldOf, elemTy, idxArr, arrOf, partOf, litOf, Hl.lit, rowsOf, dataOf, baseOf, moreOf, setRow, w3]; rfl) ?_
    refine ⟨k, by omega, by omega, ?_⟩
    have e1 : r / prodL (l.drop k) = q / sizeV v := by
      rw [drop_eq hv, prodL, Int.mul_comm, ← Int.ediv_ediv_of_nonneg (by omega), hq]
    have e2 : unrankL (l.drop k) r = (v.low + q % sizeV v) :: unrankL (l.drop (k + 1)) r := by
      rw [drop_eq hv, unrankL, hq]
    refine le_mk (fun n => n) [] rfl ?_ ?_ ?_
    · simp [allL, ins, RV.okNil, TV.okNil, CV.okNil, Ob.okNil, RV.ren, TV.ren, CV.ren, Ob.ren, opd, lkp, nilS, CV.frz, TV.frz, RV.frz, Ob.frz, HS.frz, mapL, del, S4, li, encVs, e1]
    · simp [allL, ins, RV.okNil, TV.okNil, CV.okNil, Ob.okNil, RV.ren, TV.ren, CV.ren, Ob.ren, opd, lkp, nilS, CV.frz, TV.frz, RV.frz, Ob.frz, HS.frz, mapL, del, S4, e2, set_rep, i64]
    · simp [allL, ins, RV.okNil, TV.okNil, CV.okNil, Ob.okNil, RV.ren, TV.ren, CV.ren, Ob.ren, opd, lkp, nilS, CV.frz, TV.frz, RV.frz, Ob.frz, HS.frz, mapL, del, S4]
  · have hk0 : k = 0 := by simp at h; omega
    subst hk0
    refine HT_seq (HT_run (by simp [evs, evc, okCall, brw, brwL, brwT, brwA, RV.ownB, CV.ownB, RV.onlyB, TV.onlyB, CV.onlyB, HS.made, impB_self, impB_true, impB_false, impB_one, pickB_or, pickB_and, pickB_true, pickB_false, wpR, gdOf, clsOf, stpF, stpG, strip, gdR, litG, evOp, evN, evA, evR, evW, evBin, evUn, cellsOf, opd, lkp, ins, del, HS.put, okDst, unmB, RV.menB, TV.menB, CV.menB, Ob.menB, CV.cell, CD.cell, Value.oneCell', thenQ, blockQ, loopQ, constRV, fieldOf, elemTy, idxArr, arrOf, partOf, litOf, Hl.lit, rowsOf, dataOf, baseOf, moreOf, setRow]; rfl) ?_)
    exact HT_ret ⟨.inr rfl, _, le_frz 1011 rfl, ⟨_, rfl, rfl⟩, by simp, by simp⟩
end Go.Proofs.Ytpnhnldneecpnaa
