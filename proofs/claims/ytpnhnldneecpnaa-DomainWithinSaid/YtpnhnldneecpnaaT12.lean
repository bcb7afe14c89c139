/- T12: contracts of functions of the package, used by the proof of the claimed statement. Conditions: as each theorem states. -/
import Derived.Test.YtpnhnldneecpnaaT11
set_option linter.unusedSimpArgs false
set_option linter.unusedVariables false
namespace Go.Proofs.Ytpnhnldneecpnaa
open Go Go.Hl

@[simp] theorem ty36 : tyOf Try.prog 36 = some ⟨2, 16, true, [.int .i64 0, .int .i64 0], .array 2 3⟩ := by kernel_rfl
def pr (p q : Int) : TV := .agg [.c (i64 p), .c (i64 q)]

theorem lex_first : ∀ {l : List Var} {r s : Int} {k : Nat} {x y : Int}, (∀ v ∈ l, bad v = false) → r / prodL l = s / prodL l → (unrankL l r).take k = (unrankL l s).take k →
    (unrankL l r)[k]? = some x → (unrankL l s)[k]? = some y → x ≠ y → (x < y ↔ r < s)
  | [], r, s, k, x, y, _, _, _, hx, _, _ => by simp [unrankL] at hx
  | v :: l, r, s, k, x, y, hg, hq, ht, hx, hy, hne => by
    have hs := (size_pos (hg v (by simp))).1
    have hg' : ∀ u ∈ l, bad u = false := fun u hu => hg u (List.mem_cons_of_mem _ hu)
    have hp := prod_pos hg'
    have e0 : ∀ r : Int, r / (sizeV v * prodL l) = r / prodL l / sizeV v := fun r => by rw [Int.mul_comm, ← Int.ediv_ediv_of_nonneg (by omega)]
    rw [prodL, e0, e0] at hq
    have er := Int.mul_ediv_add_emod (r / prodL l) (sizeV v)
    have es := Int.mul_ediv_add_emod (s / prodL l) (sizeV v)
    rw [hq] at er
    cases k with
    | zero =>
      simp only [unrankL, List.getElem?_cons_zero, Option.some.injEq] at hx hy
      have h1 : x < y ↔ r / prodL l < s / prodL l := by omega
      rw [h1]
      constructor
      · intro h
        rcases Int.lt_or_le r s with h2 | h2
        · exact h2
        · have := Int.ediv_le_ediv (c := prodL l) (by omega) h2
          omega
      · intro h
        have := Int.ediv_le_ediv (c := prodL l) (by omega) (Int.le_of_lt h)
        omega
    | succ k =>
      simp only [unrankL, List.getElem?_cons_succ, List.take_succ_cons, List.cons.injEq] at hx hy ht
      exact lex_first hg' (by omega) ht.2 hx hy hne
theorem lex_eq {l : List Var} {r s : Int} (hg : ∀ v ∈ l, bad v = false) (hq : r / prodL l = s / prodL l) (h : unrankL l r = unrankL l s) : r = s := by
  have h1 := unrank_inv (r := r) hg
  have h2 := unrank_inv (r := s) hg
  rw [h, hq, h2] at h1
  exact (Option.some.inj h1).symm

theorem order_first {vars : List Var} {kind p q : Int} (hlen : vars.length ≤ 80) (hp : (unrankF vars kind p).2 = 0) (hq : (unrankF vars kind q).2 = 0) :
    (unrankF vars kind p).1.length = (unrankF vars kind q).1.length ∧ ((unrankF vars kind p).1 = (unrankF vars kind q).1 → p = q) ∧
    ∀ (k : Nat) x y, (unrankF vars kind p).1.take k = (unrankF vars kind q).1.take k → (unrankF vars kind p).1[k]? = some x → (unrankF vars kind q).1[k]? = some y → x ≠ y → (x < y ↔ p < q) := by
  have hok := @chosen_ok vars kind hlen
  unfold unrankF at *
  generalize chosenF vars kind = c at *
  obtain ⟨l, n, e⟩ := c
  simp only at *
  by_cases he : e = 0
  · subst he
    obtain ⟨⟨hl80, hgood, hspace⟩, _⟩ := hok rfl
    simp only [ne_eq, not_true_eq_false, if_false] at hp hq ⊢
    have hn := space_prod hspace
    have hpp := prod_pos hgood
    by_cases h1 : p < 0 ∨ n ≤ p
    · rw [if_pos h1] at hp; simp at hp
    by_cases h2 : q < 0 ∨ n ≤ q
    · rw [if_pos h2] at hq; simp at hq
    simp only [if_neg h1, if_neg h2]
    have e1 : p / prodL l = 0 := Int.ediv_eq_zero_of_lt (by omega) (by omega)
    have e2 : q / prodL l = 0 := Int.ediv_eq_zero_of_lt (by omega) (by omega)
    refine ⟨by rw [unrank_len, unrank_len], lex_eq hgood (by omega), fun k x y ht hx hy hne => lex_first hgood (by omega) ht hx hy hne⟩
  · rw [if_pos he] at hp; exact absurd hp he

def S12 (a b : List Int) (p q : Int) (k : Nat) : HS :=
  ⟨79, [(5, .v (.one (.at_ 1005 0))), (7, .v (encIs a)), (9, .v (encIs b)), (45, .v (li a.length)), (46, .v (li k))], [(1005, .box [.c (i64 p), .c (i64 q)])]⟩

set_option maxRecDepth 100000 in
theorem order_con (vars : List Var) (kind : Int) (p q : Int) (d : Nat) : Con Try.prog 6 true [encVs vars, li kind, pr p q] (Hl.lit (.bool true)) none d := by
  refine con_of_HT Try.func6 rfl (by kernel_rfl) (Nat.le_of_ble_eq_true rfl) ?_
  simp only [Try.f6]
  refine HT_seq (HT_run (by simp [evs, evc, okCall, brw, brwL, brwT, brwA, RV.ownB, CV.ownB, RV.onlyB, TV.onlyB, CV.onlyB, HS.made, impB_self, impB_true, impB_false, impB_one, pickB_or, pickB_and, pickB_true, pickB_false, wpR, gdOf, clsOf, stpF, stpG, strip, gdR, litG, evOp, evN, evA, evR, evW, evBin, evUn, cellsOf, opd, lkp, ins, del, HS.put, okDst, unmB, RV.menB, TV.menB, CV.menB, Ob.menB, CV.cell, CD.cell, Value.oneCell', thenQ, blockQ, loopQ, constRV, fieldOf, elemTy, idxArr, arrOf, partOf, litOf, Hl.lit, rowsOf, dataOf, baseOf, moreOf, setRow, regsOf, encVs, encIs, pr, i64, li]; rfl) ?_)
  refine HT_seq (HT_seq (HT_runc [⟨true, Hl.lit (.bool true), none⟩] (by simp [evs, evc, okCall, brw, brwL, brwT, brwA, RV.ownB, CV.ownB, RV.onlyB, TV.onlyB, CV.onlyB, HS.made, impB_self, impB_true, impB_false, impB_one, pickB_or, pickB_and, pickB_true, pickB_false, wpR, gdOf, clsOf, stpF, stpG, strip, gdR, litG, evOp, evN, evA, evR, evW, evBin, evUn, cellsOf, opd, lkp, ins, del, HS.put, okDst, unmB, RV.menB, TV.menB, CV.menB, Ob.menB, CV.cell, CD.cell, Value.oneCell', thenQ, blockQ, loopQ, constRV, fieldOf, elemTy, idxArr, arrOf, partOf, litOf, Hl.lit, rowsOf, dataOf, baseOf, moreOf, setRow]; first | exact ⟨rfl, Iff.rfl⟩ | rfl) (known_con _) ?_))
  refine HT_cond rfl (fun h => by cases h) (fun h => HT_skip ?_)
  refine HT_seq (HT_seq (HT_run (by simp [evs, evc, okCall, brw, brwL, brwT, brwA, RV.ownB, CV.ownB, RV.onlyB, TV.onlyB, CV.onlyB, HS.made, impB_self, impB_true, impB_false, impB_one, pickB_or, pickB_and, pickB_true, pickB_false, wpR, gdOf, clsOf, stpF, stpG, strip, gdR, litG, evOp, evN, evA, evR, evW, evBin, evUn, cellsOf, opd, lkp, ins, del, HS.put, okDst, unmB, RV.menB, TV.menB, CV.menB, Ob.menB, CV.cell, CD.cell, Value.oneCell', thenQ, blockQ, loopQ, constRV, fieldOf, elemTy, idxArr, arrOf, partOf, litOf, Hl.lit, rowsOf, dataOf, baseOf, moreOf, setRow]; rfl) ?_))
  refine HT_cond rfl (fun h => ?_) (fun h => HT_skip ?_)
  · refine HT_seq (HT_run (by simp [evs, evc, okCall, brw, brwL, brwT, brwA, RV.ownB, CV.ownB, RV.onlyB, TV.onlyB, CV.onlyB, HS.made, impB_self, impB_true, impB_false, impB_one, pickB_or, pickB_and, pickB_true, pickB_false, wpR, gdOf, clsOf, stpF, stpG, strip, gdR, litG, evOp, evN, evA, evR, evW, evBin, evUn, cellsOf, opd, lkp, ins, del, HS.put, okDst, unmB, RV.menB, TV.menB, CV.menB, Ob.menB, CV.cell, CD.cell, Value.oneCell', thenQ, blockQ, loopQ, constRV, fieldOf, elemTy, idxArr, arrOf, partOf, litOf, Hl.lit, rowsOf, dataOf, baseOf, moreOf, setRow]; rfl) ?_)
    exact HT_ret ⟨.inr rfl, _, le_refl _, ⟨_, rfl, rfl⟩, by simp, fun _ => ⟨rfl, by simp⟩⟩
  have hlen : vars.length ≤ 80 := by simp at h; omega
  refine HT_seq (HT_runc [⟨false, .tup [encIs (unrankF vars kind p).1, li (unrankF vars kind p).2], none⟩] (by simp [evs, evc, okCall, brw, brwL, brwT, brwA, RV.ownB, CV.ownB, RV.onlyB, TV.onlyB, CV.onlyB, HS.made, impB_self, impB_true, impB_false, impB_one, pickB_or, pickB_and, pickB_true, pickB_false, wpR, gdOf, clsOf, stpF, stpG, strip, gdR, litG, evOp, evN, evA, evR, evW, evBin, evUn, cellsOf, opd, lkp, ins, del, HS.put, okDst, unmB, RV.menB, TV.menB, CV.menB, Ob.menB, CV.cell, CD.cell, Value.oneCell', thenQ, blockQ, loopQ, constRV, fieldOf, elemTy, idxArr, arrOf, partOf, litOf, Hl.lit, rowsOf, dataOf, baseOf, moreOf, setRow, encIs, li]; first | exact ⟨rfl, Iff.rfl⟩ | rfl) (unrank_con vars kind p hlen _) ?_)
  refine HT_seq (HT_runc [⟨false, .tup [encIs (unrankF vars kind q).1, li (unrankF vars kind q).2], none⟩] (by simp [evs, evc, okCall, brw, brwL, brwT, brwA, RV.ownB, CV.ownB, RV.onlyB, TV.onlyB, CV.onlyB, HS.made, impB_self, impB_true, impB_false, impB_one, pickB_or, pickB_and, pickB_true, pickB_false, wpR, gdOf, clsOf, stpF, stpG, strip, gdR, litG, evOp, evN, evA, evR, evW, evBin, evUn, cellsOf, opd, lkp, ins, del, HS.put, okDst, unmB, RV.menB, TV.menB, CV.menB, Ob.menB, CV.cell, CD.cell, Value.oneCell', thenQ, blockQ, loopQ, constRV, fieldOf, elemTy, idxArr, arrOf, partOf, litOf, Hl.lit, rowsOf, dataOf, baseOf, moreOf, setRow, encIs, li]; first | exact ⟨rfl, Iff.rfl⟩ | rfl) (unrank_con vars kind q hlen _) ?_)
  have hof := @order_first vars kind p q hlen
  have hl80 := @unrank_len80 vars kind p hlen
  generalize unrankF vars kind p = a at *
  generalize unrankF vars kind q = b at *
  obtain ⟨a, e⟩ := a
  obtain ⟨b, f⟩ := b
  simp only at *
  refine HT_seq (HT_seq (HT_run (by simp [evs, evc, okCall, brw, brwL, brwT, brwA, RV.ownB, CV.ownB, RV.onlyB, TV.onlyB, CV.onlyB, HS.made, impB_self, impB_true, impB_false, impB_one, pickB_or, pickB_and, pickB_true, pickB_false, wpR, gdOf, clsOf, stpF, stpG, strip, gdR, litG, evOp, evN, evA, evR, evW, evBin, evUn, cellsOf, opd, lkp, ins, del, HS.put, okDst, unmB, RV.menB, TV.menB, CV.menB, Ob.menB, CV.cell, CD.cell, Value.oneCell', thenQ, blockQ, loopQ, constRV, fieldOf, elemTy, idxArr, arrOf, partOf, litOf, Hl.lit, rowsOf, dataOf, baseOf, moreOf, setRow, li]; rfl) ?_))
  refine HT_cond rfl (fun h => ?_) (fun h => HT_skip ?_)
  · refine HT_seq (HT_run (by simp [evs, evc, okCall, brw, brwL, brwT, brwA, RV.ownB, CV.ownB, RV.onlyB, TV.onlyB, CV.onlyB, HS.made, impB_self, impB_true, impB_false, impB_one, pickB_or, pickB_and, pickB_true, pickB_false, wpR, gdOf, clsOf, stpF, stpG, strip, gdR, litG, evOp, evN, evA, evR, evW, evBin, evUn, cellsOf, opd, lkp, ins, del, HS.put, okDst, unmB, RV.menB, TV.menB, CV.menB, Ob.menB, CV.cell, CD.cell, Value.oneCell', thenQ, blockQ, loopQ, constRV, fieldOf, elemTy, idxArr, arrOf, partOf, litOf, Hl.lit, rowsOf, dataOf, baseOf, moreOf, setRow]; rfl) ?_)
    exact HT_ret ⟨.inr rfl, _, le_refl _, ⟨_, rfl, rfl⟩, by simp, fun _ => ⟨rfl, by simp⟩⟩
  have hef : e = 0 ∧ f = 0 := by simpa using h
  obtain ⟨hlab, heq, hlex⟩ := hof hef.1 hef.2
  refine HT_seq (HT_seq (HT_run (by simp [evs, evc, okCall, brw, brwL, brwT, brwA, RV.ownB, CV.ownB, RV.onlyB, TV.onlyB, CV.onlyB, HS.made, impB_self, impB_true, impB_false, impB_one, pickB_or, pickB_and, pickB_true, pickB_false, wpR, gdOf, clsOf, stpF, stpG, strip, gdR, litG, evOp, evN, evA, evR, evW, evBin, evUn, cellsOf, opd, lkp, ins, del, HS.put, okDst, unmB, RV.menB, TV.menB, CV.menB, Ob.menB, CV.cell, CD.cell, Value.oneCell', thenQ, blockQ, loopQ, constRV, fieldOf, elemTy, idxArr, arrOf, partOf, litOf, Hl.lit, rowsOf, dataOf, baseOf, moreOf, setRow, encIs]; rfl) ?_))
  refine HT_cond rfl (fun h => by simp at h; omega) (fun h => HT_skip ?_)
  refine HT_seq (HT_seq (HT_run (by simp [evs, evc, okCall, brw, brwL, brwT, brwA, RV.ownB, CV.ownB, RV.onlyB, TV.onlyB, CV.onlyB, HS.made, impB_self, impB_true, impB_false, impB_one, pickB_or, pickB_and, pickB_true, pickB_false, wpR, gdOf, clsOf, stpF, stpG, strip, gdR, litG, evOp, evN, evA, evR, evW, evBin, evUn, cellsOf, opd, lkp, ins, del, HS.put, okDst, unmB, RV.menB, TV.menB, CV.menB, Ob.menB, CV.cell, CD.cell, Value.oneCell', thenQ, blockQ, loopQ, constRV, fieldOf, elemTy, idxArr, arrOf, partOf, litOf, Hl.lit, rowsOf, dataOf, baseOf, moreOf, setRow]; rfl) ?_))
  refine HT_block (HT_loop (S12 a b p q) (fun k => k ≤ a.length ∧ a.take k = b.take k) (fun k => a.length - k) 0 ⟨Nat.zero_le _, by simp⟩ ?_ ?_)
  · exact le_mk (fun n => 5) [] rfl (by simp [allL, ins, RV.okNil, TV.okNil, CV.okNil, Ob.okNil, RV.ren, TV.ren, CV.ren, Ob.ren, opd, lkp, nilS, CV.frz, TV.frz, RV.frz, Ob.frz, HS.frz, mapL, del, S12, li, encIs]) (by simp [allL, ins, RV.okNil, TV.okNil, CV.okNil, Ob.okNil, RV.ren, TV.ren, CV.ren, Ob.ren, opd, lkp, nilS, CV.frz, TV.frz, RV.frz, Ob.frz, HS.frz, mapL, del, S12, i64]) (by simp [allL, ins, RV.okNil, TV.okNil, CV.okNil, Ob.okNil, RV.ren, TV.ren, CV.ren, Ob.ren, opd, lkp, nilS, CV.frz, TV.frz, RV.frz, Ob.frz, HS.frz, mapL, del, S12])
  rintro k ⟨hk, hb⟩
  simp only [S12]
  refine HT_seq (HT_run (by simp [evs, evc, okCall, brw, brwL, brwT, brwA, RV.ownB, CV.ownB, RV.onlyB, TV.onlyB, CV.onlyB, HS.made, impB_self, impB_true, impB_false, impB_one, pickB_or, pickB_and, pickB_true, pickB_false, wpR, gdOf, clsOf, stpF, stpG, strip, gdR, litG, evOp, evN, evA, evR, evW, evBin, evUn, cellsOf, opd, lkp, ins, del, HS.put, okDst, unmB, RV.menB, TV.menB, CV.menB, Ob.menB, CV.cell, CD.cell, Value.oneCell', thenQ, blockQ, loopQ, constRV, fieldOf, elemTy, idxArr, arrOf, partOf, litOf, Hl.lit, rowsOf, dataOf, baseOf, moreOf, setRow, encIs, li]; rfl) ?_)
  refine HT_seq (HT_cond rfl (fun h => HT_skip ?_) (fun h => HT_exit ?_))
  · simp only [decide_eq_true_eq] at h
    have hlt : k < a.length := by omega
    obtain ⟨x, hx⟩ : ∃ v, a[k]? = some v := ⟨a[k], List.getElem?_eq_getElem hlt⟩
    obtain ⟨y, hy⟩ : ∃ v, b[k]? = some v := ⟨b[k], List.getElem?_eq_getElem (by omega)⟩
    have hw : IntKind.i64.wrap ((k : Int) + 1) = (k : Int) + 1 := wrap_in (by omega) (by omega)
    refine HT_seq (HT_block (HT_seq (HT_run (by simp [evs, evc, okCall, brw, brwL, brwT, brwA, RV.ownB, CV.ownB, RV.onlyB, TV.onlyB, CV.onlyB, HS.made, impB_self, impB_true, impB_false, impB_one, pickB_or, pickB_and, pickB_true, pickB_false, wpR, gdOf, clsOf, stpF, stpG, strip, gdR, litG, evOp, evN, evA, evR, evW, evBin, evUn, cellsOf, opd, lkp, ins, del, HS.put, okDst, unmB, RV.menB, TV.menB, CV.menB, Ob.menB, CV.cell, CD.cell, Value.oneCell', thenQ, blockQ, loopQ, constRV, fieldOf, elemTy, idxArr, arrOf, partOf, litOf, Hl.lit, rowsOf, dataOf, baseOf, moreOf, setRow]; rfl) ?_)))
    refine HT_seq (HT_drun (by kernel_rfl) (by kernel_rfl) (by rfl) (by simp [evs, evc, okCall, brw, brwL, brwT, brwA, RV.ownB, CV.ownB, RV.onlyB, TV.onlyB, CV.onlyB, HS.made, impB_self, impB_true, impB_false, impB_one, pickB_or, pickB_and, pickB_true, pickB_false, wpR, gdOf, clsOf, stpF, stpG, strip, gdR, litG, evOp, evN, evA, evR, evW, evBin, evUn, cellsOf, opd, lkp, ins, del, HS.put, okDst, unmB, RV.menB, TV.menB, CV.menB, Ob.menB, CV.cell, CD.cell, Value.oneCell', thenQ, blockQ, loopQ, constRV, fieldOf, elemTy, idxArr, arrOf, partOf, litOf, Hl.lit, rowsOf, dataOf, baseOf, moreOf, setRow, hx, hy, i64]; rfl) ?_)
    refine HT_cond rfl (fun h2 => ?_) (fun h2 => HT_skip ?_)
    · have hxy : x ≠ y := by simpa using h2
      have hl := hlex k x y hb hx hy hxy
      have hd : (decide (x < y) == decide (p < q)) = true := by simp [hl]
      refine HT_seq (HT_drun (by kernel_rfl) (by kernel_rfl) (by rfl) (by simp [evs, evc, okCall, brw, brwL, brwT, brwA, RV.ownB, CV.ownB, RV.onlyB, TV.onlyB, CV.onlyB, HS.made, impB_self, impB_true, impB_false, impB_one, pickB_or, pickB_and, pickB_true, pickB_false, wpR, gdOf, clsOf, stpF, stpG, strip, gdR, litG, evOp, evN, evA, evR, evW, evBin, evUn, cellsOf, opd, lkp, ins, del, HS.put, okDst, unmB, RV.menB, TV.menB, CV.menB, Ob.menB, CV.cell, CD.cell, Value.oneCell', thenQ, blockQ, loopQ, constRV, fieldOf, elemTy, idxArr, arrOf, partOf, litOf, Hl.lit, rowsOf, dataOf, baseOf, moreOf, setRow, hx, hy, i64]; rfl) ?_)
      exact HT_ret ⟨.inr rfl, _, le_refl _, ⟨_, rfl, by simp [evs, evc, okCall, brw, brwL, brwT, brwA, RV.ownB, CV.ownB, RV.onlyB, TV.onlyB, CV.onlyB, HS.made, impB_self, impB_true, impB_false, impB_one, pickB_or, pickB_and, pickB_true, pickB_false, wpR, gdOf, clsOf, stpF, stpG, strip, gdR, litG, evOp, evN, evA, evR, evW, evBin, evUn, cellsOf, opd, lkp, ins, del, HS.put, okDst, unmB, RV.menB, TV.menB, CV.menB, Ob.menB, CV.cell, CD.cell, Value.oneCell', thenQ, blockQ, loopQ, constRV, fieldOf, elemTy, idxArr, arrOf, partOf, litOf, Hl.lit, rowsOf, dataOf, baseOf, moreOf, setRow, resR, hl]⟩, by simp, fun _ => ⟨rfl, by simp⟩⟩
    · have hxy : x = y := by simpa using h2
      refine HT_run (by simp [evs, evc, okCall, brw, brwL, brwT, brwA, RV.ownB, CV.ownB, RV.onlyB, TV.onlyB, CV.onlyB, HS.made, impB_self, impB_true, impB_false, impB_one, pickB_or, pickB_and, pickB_true, pickB_false, wpR, gdOf, clsOf, stpF, stpG, strip, gdR, litG, evOp, evN, evA, evR, evW, evBin, evUn, cellsOf, opd, lkp, ins, del, HS.put, okDst, unmB, RV.menB, TV.menB, CV.menB, Ob.menB, CV.cell, CD.cell, Value.oneCell', thenQ, blockQ, loopQ, constRV, fieldOf, elemTy, idxArr, arrOf, partOf, litOf, Hl.lit, rowsOf, dataOf, baseOf, moreOf, setRow, hw]; rfl) ?_
      refine ⟨k + 1, ⟨hlt, ?_⟩, by omega, ?_⟩
      · rw [List.take_add_one, List.take_add_one, hb, hx, hy, hxy]
      · exact le_mk (fun n => n) [] rfl (by simp [allL, ins, RV.okNil, TV.okNil, CV.okNil, Ob.okNil, RV.ren, TV.ren, CV.ren, Ob.ren, opd, lkp, nilS, CV.frz, TV.frz, RV.frz, Ob.frz, HS.frz, mapL, del, S12, li, encIs, hw, i64]) (by simp [allL, ins, RV.okNil, TV.okNil, CV.okNil, Ob.okNil, RV.ren, TV.ren, CV.ren, Ob.ren, opd, lkp, nilS, CV.frz, TV.frz, RV.frz, Ob.frz, HS.frz, mapL, del, S12, i64]) (by simp [allL, ins, RV.okNil, TV.okNil, CV.okNil, Ob.okNil, RV.ren, TV.ren, CV.ren, Ob.ren, opd, lkp, nilS, CV.frz, TV.frz, RV.frz, Ob.frz, HS.frz, mapL, del, S12])
  · have hkl : k = a.length := by simp at h; omega
    subst hkl
    rw [List.take_length, hlab, List.take_length] at hb
    have hpq := heq hb
    refine HT_seq (HT_run (by simp [evs, evc, okCall, brw, brwL, brwT, brwA, RV.ownB, CV.ownB, RV.onlyB, TV.onlyB, CV.onlyB, HS.made, impB_self, impB_true, impB_false, impB_one, pickB_or, pickB_and, pickB_true, pickB_false, wpR, gdOf, clsOf, stpF, stpG, strip, gdR, litG, evOp, evN, evA, evR, evW, evBin, evUn, cellsOf, opd, lkp, ins, del, HS.put, okDst, unmB, RV.menB, TV.menB, CV.menB, Ob.menB, CV.cell, CD.cell, Value.oneCell', thenQ, blockQ, loopQ, constRV, fieldOf, elemTy, idxArr, arrOf, partOf, litOf, Hl.lit, rowsOf, dataOf, baseOf, moreOf, setRow, i64]; rfl) ?_)
    exact HT_ret ⟨.inr rfl, _, le_refl _, ⟨_, rfl, by simp [evs, evc, okCall, brw, brwL, brwT, brwA, RV.ownB, CV.ownB, RV.onlyB, TV.onlyB, CV.onlyB, HS.made, impB_self, impB_true, impB_false, impB_one, pickB_or, pickB_and, pickB_true, pickB_false, wpR, gdOf, clsOf, stpF, stpG, strip, gdR, litG, evOp, evN, evA, evR, evW, evBin, evUn, cellsOf, opd, lkp, ins, del, HS.put, okDst, unmB, RV.menB, TV.menB, CV.menB, Ob.menB, CV.cell, CD.cell, Value.oneCell', thenQ, blockQ, loopQ, constRV, fieldOf, elemTy, idxArr, arrOf, partOf, litOf, Hl.lit, rowsOf, dataOf, baseOf, moreOf, setRow, resR, hpq]⟩, by simp, fun _ => ⟨rfl, by simp⟩⟩
end Go.Proofs.Ytpnhnldneecpnaa
