/- T18: contracts of functions of the package, used by the proof of the claimed statement. Conditions: as each theorem states. -/
import Derived.Test.YtpnhnldneecpnaaT17
set_option linter.unusedSimpArgs false
set_option linter.unusedVariables false
namespace Go.Proofs.Ytpnhnldneecpnaa
open Go Go.Hl

@[simp] theorem ty47 : tyOf Try.prog 47 = some ⟨2, 48, true, [.slice none 0 0, .slice none 0 0], .array 2 29⟩ := by kernel_rfl

set_option maxRecDepth 100000 in
theorem withins_con (vars : List Var) (kind : Int) (lo hi : List Int) (hz : vars.length * 48 ≤ 140737488351232) (d : Nat) : Con Try.prog 10 true [encVs vars, li kind, .agg [isC lo, isC hi]] (Hl.lit (.bool true)) none d := by
  refine con_of_HT Try.func10 rfl (by kernel_rfl) (Nat.le_of_ble_eq_true rfl) ?_
  simp only [Try.f10]
  refine HT_seq (HT_run (by simp [evs, evc, okCall, brw, brwL, brwT, brwA, RV.ownB, CV.ownB, RV.onlyB, TV.onlyB, CV.onlyB, HS.made, impB_self, impB_true, impB_false, impB_one, pickB_or, pickB_and, pickB_true, pickB_false, wpR, gdOf, clsOf, stpF, stpG, strip, gdR, litG, evOp, evN, evA, evR, evW, evBin, evUn, cellsOf, opd, lkp, ins, del, HS.put, okDst, unmB, RV.menB, TV.menB, CV.menB, Ob.menB, CV.cell, CD.cell, Value.oneCell', thenQ, blockQ, loopQ, constRV, fieldOf, elemTy, idxArr, arrOf, partOf, litOf, Hl.lit, rowsOf, dataOf, baseOf, moreOf, setRow, regsOf, encVs, encIs, isC, i64, li]; rfl) ?_)
  refine HT_seq (HT_seq (HT_runc [⟨true, Hl.lit (.bool true), none⟩] (by simp [evs, evc, okCall, brw, brwL, brwT, brwA, RV.ownB, CV.ownB, RV.onlyB, TV.onlyB, CV.onlyB, HS.made, impB_self, impB_true, impB_false, impB_one, pickB_or, pickB_and, pickB_true, pickB_false, wpR, gdOf, clsOf, stpF, stpG, strip, gdR, litG, evOp, evN, evA, evR, evW, evBin, evUn, cellsOf, opd, lkp, ins, del, HS.put, okDst, unmB, RV.menB, TV.menB, CV.menB, Ob.menB, CV.cell, CD.cell, Value.oneCell', thenQ, blockQ, loopQ, constRV, fieldOf, elemTy, idxArr, arrOf, partOf, litOf, Hl.lit, rowsOf, dataOf, baseOf, moreOf, setRow]; first | exact ⟨rfl, Iff.rfl⟩ | rfl) (known_con _) ?_))
  refine HT_cond rfl (fun h => by cases h) (fun h => HT_skip ?_)
  have hrs := fun d => refspace_conB vars kind hz d
  have hwl : ∀ hlen : vars.length ≤ 80, (chosenF vars kind).2.2 = 0 → (withinF vars kind lo hi).1.length ≤ (chosenF vars kind).2.1.toNat := by
    intro hlen he
    unfold withinF
    rw [if_neg (by simpa using he)]
    split
    · simp
    · exact boxR_len _ _ _ _
  have hwe : (chosenF vars kind).2.2 ≠ 0 → (withinF vars kind lo hi).1 = [] := by
    intro he
    unfold withinF
    rw [if_pos he]
  have c1 := fun hlen d => within_con vars kind lo hi hlen d fun l n h a b => within_box h a b
  have c2 := fun hlen d => refwithin_con vars kind lo hi hlen d
  generalize chosenF vars kind = c at *
  obtain ⟨l, n, e⟩ := c
  simp only at *
  refine HT_seq (HT_runc [⟨true, .tup [li n, li e], none⟩] (by simp [evs, evc, okCall, brw, brwL, brwT, brwA, RV.ownB, CV.ownB, RV.onlyB, TV.onlyB, CV.onlyB, HS.made, impB_self, impB_true, impB_false, impB_one, pickB_or, pickB_and, pickB_true, pickB_false, wpR, gdOf, clsOf, stpF, stpG, strip, gdR, litG, evOp, evN, evA, evR, evW, evBin, evUn, cellsOf, opd, lkp, ins, del, HS.put, okDst, unmB, RV.menB, TV.menB, CV.menB, Ob.menB, CV.cell, CD.cell, Value.oneCell', thenQ, blockQ, loopQ, constRV, fieldOf, elemTy, idxArr, arrOf, partOf, litOf, Hl.lit, rowsOf, dataOf, baseOf, moreOf, setRow, li]; first | exact ⟨rfl, Iff.rfl⟩ | rfl) (hrs _) ?_)
  by_cases he : e = 0 <;> by_cases hA : impB (!decide (80 < (vars.length : Int)) && !decide (80 < (lo.length : Int)) && !decide (80 < (hi.length : Int))) false = true <;> (
  refine HT_seq (HT_seq (HT_run (by simp [evs, evc, okCall, brw, brwL, brwT, brwA, RV.ownB, CV.ownB, RV.onlyB, TV.onlyB, CV.onlyB, HS.made, impB_self, impB_true, impB_false, impB_one, pickB_or, pickB_and, pickB_true, pickB_false, wpR, gdOf, clsOf, stpF, stpG, strip, gdR, litG, evOp, evN, evA, evR, evW, evBin, evUn, cellsOf, opd, lkp, ins, del, HS.put, okDst, unmB, RV.menB, TV.menB, CV.menB, Ob.menB, CV.cell, CD.cell, Value.oneCell', thenQ, blockQ, loopQ, constRV, fieldOf, elemTy, idxArr, arrOf, partOf, litOf, Hl.lit, rowsOf, dataOf, baseOf, moreOf, setRow, encVs, isC, li, he, hA]; rfl) ?_))
  refine HT_cond rfl (fun h => ?_) (fun h => HT_skip ?_)
  · refine HT_seq (HT_run (by simp [evs, evc, okCall, brw, brwL, brwT, brwA, RV.ownB, CV.ownB, RV.onlyB, TV.onlyB, CV.onlyB, HS.made, impB_self, impB_true, impB_false, impB_one, pickB_or, pickB_and, pickB_true, pickB_false, wpR, gdOf, clsOf, stpF, stpG, strip, gdR, litG, evOp, evN, evA, evR, evW, evBin, evUn, cellsOf, opd, lkp, ins, del, HS.put, okDst, unmB, RV.menB, TV.menB, CV.menB, Ob.menB, CV.cell, CD.cell, Value.oneCell', thenQ, blockQ, loopQ, constRV, fieldOf, elemTy, idxArr, arrOf, partOf, litOf, Hl.lit, rowsOf, dataOf, baseOf, moreOf, setRow]; rfl) ?_)
    exact HT_ret ⟨.inr rfl, _, le_refl _, ⟨_, rfl, rfl⟩, by simp, fun _ => ⟨rfl, by simp⟩⟩
  have hlen : vars.length ≤ 80 := by simp at h; omega
  have hn : e = 0 → n ≤ 300 := by intro he2; first | exact absurd he2 he | (simp [he] at h; omega)
  have hw3 : (withinF vars kind lo hi).1.length ≤ 1048576 := by
    by_cases he' : e = 0
    · have := hwl hlen he'
      have := hn he'
      omega
    · rw [hwe he']; simp
  have d1 := fun d => c1 hlen d
  have d2 := fun d => c2 hlen d
  generalize withinF vars kind lo hi = w at *
  obtain ⟨ws, f⟩ := w
  simp only at *
  refine HT_seq (HT_runc [⟨false, .tup [encIs ws, li f], none⟩] (by simp [evs, evc, okCall, brw, brwL, brwT, brwA, RV.ownB, CV.ownB, RV.onlyB, TV.onlyB, CV.onlyB, HS.made, impB_self, impB_true, impB_false, impB_one, pickB_or, pickB_and, pickB_true, pickB_false, wpR, gdOf, clsOf, stpF, stpG, strip, gdR, litG, evOp, evN, evA, evR, evW, evBin, evUn, cellsOf, opd, lkp, ins, del, HS.put, okDst, unmB, RV.menB, TV.menB, CV.menB, Ob.menB, CV.cell, CD.cell, Value.oneCell', thenQ, blockQ, loopQ, constRV, fieldOf, elemTy, idxArr, arrOf, partOf, litOf, Hl.lit, rowsOf, dataOf, baseOf, moreOf, setRow, encIs, encVs, isC, li, i64]; first | exact ⟨rfl, Iff.rfl⟩ | rfl) (by simpa only [encIs, encVs, isC, li, i64] using d1 _) ?_)
  refine HT_seq (HT_runc [⟨false, .tup [encIs ws, li f], none⟩] (by simp [evs, evc, okCall, brw, brwL, brwT, brwA, RV.ownB, CV.ownB, RV.onlyB, TV.onlyB, CV.onlyB, HS.made, impB_self, impB_true, impB_false, impB_one, pickB_or, pickB_and, pickB_true, pickB_false, wpR, gdOf, clsOf, stpF, stpG, strip, gdR, litG, evOp, evN, evA, evR, evW, evBin, evUn, cellsOf, opd, lkp, ins, del, HS.put, okDst, unmB, RV.menB, TV.menB, CV.menB, Ob.menB, CV.cell, CD.cell, Value.oneCell', thenQ, blockQ, loopQ, constRV, fieldOf, elemTy, idxArr, arrOf, partOf, litOf, Hl.lit, rowsOf, dataOf, baseOf, moreOf, setRow, encIs, encVs, isC, li, i64]; first | exact ⟨rfl, Iff.rfl⟩ | rfl) (by simpa only [encIs, encVs, isC, li, i64] using d2 _) ?_)
  refine HT_seq (HT_runc [⟨true, Hl.lit (.bool true), none⟩] (by simp [evs, evc, okCall, brw, brwL, brwT, brwA, RV.ownB, CV.ownB, RV.onlyB, TV.onlyB, CV.onlyB, HS.made, impB_self, impB_true, impB_false, impB_one, pickB_or, pickB_and, pickB_true, pickB_false, wpR, gdOf, clsOf, stpF, stpG, strip, gdR, litG, evOp, evN, evA, evR, evW, evBin, evUn, cellsOf, opd, lkp, ins, del, HS.put, okDst, unmB, RV.menB, TV.menB, CV.menB, Ob.menB, CV.cell, CD.cell, Value.oneCell', thenQ, blockQ, loopQ, constRV, fieldOf, elemTy, idxArr, arrOf, partOf, litOf, Hl.lit, rowsOf, dataOf, baseOf, moreOf, setRow, encIs, li, i64]; first | exact ⟨rfl, Iff.rfl⟩ | rfl) (by have := same_conB ws ws hw3 70; simpa [encIs, Hl.lit, i64] using this) ?_)
  exact HT_ret ⟨.inr rfl, _, le_refl _, ⟨_, rfl, by simp [evs, evc, okCall, brw, brwL, brwT, brwA, RV.ownB, CV.ownB, RV.onlyB, TV.onlyB, CV.onlyB, HS.made, impB_self, impB_true, impB_false, impB_one, pickB_or, pickB_and, pickB_true, pickB_false, wpR, gdOf, clsOf, stpF, stpG, strip, gdR, litG, evOp, evN, evA, evR, evW, evBin, evUn, cellsOf, opd, lkp, ins, del, HS.put, okDst, unmB, RV.menB, TV.menB, CV.menB, Ob.menB, CV.cell, CD.cell, Value.oneCell', thenQ, blockQ, loopQ, constRV, fieldOf, elemTy, idxArr, arrOf, partOf, litOf, Hl.lit, rowsOf, dataOf, baseOf, moreOf, setRow, resR]⟩, by simp, fun _ => ⟨rfl, by simp⟩⟩)
end Go.Proofs.Ytpnhnldneecpnaa
