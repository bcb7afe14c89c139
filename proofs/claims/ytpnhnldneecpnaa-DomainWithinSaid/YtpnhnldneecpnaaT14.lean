/- T14: contracts of functions of the package, used by the proof of the claimed statement. Conditions: as each theorem states. -/
import Derived.Test.YtpnhnldneecpnaaT13
set_option linter.unusedSimpArgs false
set_option linter.unusedVariables false
namespace Go.Proofs.Ytpnhnldneecpnaa
open Go Go.Hl

theorem con_nil2 {P : Program} {f : FuncId} {fresh : Bool} {s : Nat} {r : RV} {ob : Option Ob} {d : Nat} (h : Con P f fresh [.one (.c (.sl s [])), .one (.c (.sl s []))] r ob d) :
    Con P f fresh [.one nilC, .one nilC] r ob d := by
  have key : ∀ F w u, TVRel F noγ w (.one nilC) u → TVRel F noγ w (.one (.c (.sl s []))) u := by
    intro F w u hu
    have h2 : CRel F w (.lit (.slice none 0 0)) u := hu
    cases h2
    exact CRel.nil s
  refine ⟨h.1, fun F w vs hF hsz ha => h.2 F w vs hF hsz fun j t u ht hu => ?_⟩
  match j with
  | 0 => cases ht; exact key F w u (ha 0 _ u rfl hu)
  | 1 => cases ht; exact key F w u (ha 1 _ u rfl hu)
  | j + 2 => simp at ht

theorem same_nil (d : Nat) : Con Try.prog 17 true [.one nilC, .one nilC] (Hl.lit (.bool true)) none d := by
  have := same_con [] [] (by simp) d
  exact con_nil2 (s := 1) (by simpa [encIs, Hl.lit] using this)
theorem same_self (a : List Int) (ha : a.length ≤ 80) (d : Nat) : Con Try.prog 17 true [.one (isC a), .one (isC a)] (Hl.lit (.bool true)) none d := by
  have := same_con a a ha d
  simpa [encIs, isC, Hl.lit] using this
theorem inputs_len {vars : List Var} {s p r : Int} (hlen : vars.length ≤ 80) {a b c : List Int} (h : (inputsF vars s p r).1 = some (a, b, c)) : a.length ≤ 80 ∧ b.length ≤ 80 ∧ c.length ≤ 80 := by
  unfold inputsF at h
  split at h
  · simp at h
  · split at h
    · simp at h
    · split at h
      · simp at h
      · simp only [Option.some.injEq, Prod.mk.injEq] at h
        obtain ⟨rfl, rfl, rfl⟩ := h
        exact ⟨unrank_len80 hlen, unrank_len80 hlen, unrank_len80 hlen⟩

set_option maxRecDepth 100000 in
theorem inputss_con (vars : List Var) (p q r : Int) (d : Nat) : Con Try.prog 9 true [encVs vars, .agg [.c (i64 p), .c (i64 q), .c (i64 r)]] (Hl.lit (.bool true)) none d := by
  refine con_of_HT Try.func9 rfl (by kernel_rfl) (Nat.le_of_ble_eq_true rfl) ?_
  simp only [Try.f9]
  refine HT_seq (HT_run (by simp [evs, evc, okCall, brw, brwL, brwT, brwA, RV.ownB, CV.ownB, RV.onlyB, TV.onlyB, CV.onlyB, HS.made, impB_self, impB_true, impB_false, impB_one, pickB_or, pickB_and, pickB_true, pickB_false, wpR, gdOf, clsOf, stpF, stpG, strip, gdR, litG, evOp, evN, evA, evR, evW, evBin, evUn, cellsOf, opd, lkp, ins, del, HS.put, okDst, unmB, RV.menB, TV.menB, CV.menB, Ob.menB, CV.cell, CD.cell, Value.oneCell', thenQ, blockQ, loopQ, constRV, fieldOf, elemTy, idxArr, arrOf, partOf, litOf, Hl.lit, rowsOf, dataOf, baseOf, moreOf, setRow, regsOf, encVs, encIs, i64, li]; rfl) ?_)
  refine HT_seq (HT_seq (HT_runc [⟨true, Hl.lit (.bool true), none⟩] (by simp [evs, evc, okCall, brw, brwL, brwT, brwA, RV.ownB, CV.ownB, RV.onlyB, TV.onlyB, CV.onlyB, HS.made, impB_self, impB_true, impB_false, impB_one, pickB_or, pickB_and, pickB_true, pickB_false, wpR, gdOf, clsOf, stpF, stpG, strip, gdR, litG, evOp, evN, evA, evR, evW, evBin, evUn, cellsOf, opd, lkp, ins, del, HS.put, okDst, unmB, RV.menB, TV.menB, CV.menB, Ob.menB, CV.cell, CD.cell, Value.oneCell', thenQ, blockQ, loopQ, constRV, fieldOf, elemTy, idxArr, arrOf, partOf, litOf, Hl.lit, rowsOf, dataOf, baseOf, moreOf, setRow]; first | exact ⟨rfl, Iff.rfl⟩ | rfl) (known_con _) ?_))
  refine HT_cond rfl (fun h => by cases h) (fun h => HT_skip ?_)
  refine HT_seq (HT_seq (HT_run (by simp [evs, evc, okCall, brw, brwL, brwT, brwA, RV.ownB, CV.ownB, RV.onlyB, TV.onlyB, CV.onlyB, HS.made, impB_self, impB_true, impB_false, impB_one, pickB_or, pickB_and, pickB_true, pickB_false, wpR, gdOf, clsOf, stpF, stpG, strip, gdR, litG, evOp, evN, evA, evR, evW, evBin, evUn, cellsOf, opd, lkp, ins, del, HS.put, okDst, unmB, RV.menB, TV.menB, CV.menB, Ob.menB, CV.cell, CD.cell, Value.oneCell', thenQ, blockQ, loopQ, constRV, fieldOf, elemTy, idxArr, arrOf, partOf, litOf, Hl.lit, rowsOf, dataOf, baseOf, moreOf, setRow]; rfl) ?_))
  refine HT_cond rfl (fun h => ?_) (fun h => HT_skip ?_)
  · refine HT_seq (HT_run (by simp [evs, evc, okCall, brw, brwL, brwT, brwA, RV.ownB, CV.ownB, RV.onlyB, TV.onlyB, CV.onlyB, HS.made, impB_self, impB_true, impB_false, impB_one, pickB_or, pickB_and, pickB_true, pickB_false, wpR, gdOf, clsOf, stpF, stpG, strip, gdR, litG, evOp, evN, evA, evR, evW, evBin, evUn, cellsOf, opd, lkp, ins, del, HS.put, okDst, unmB, RV.menB, TV.menB, CV.menB, Ob.menB, CV.cell, CD.cell, Value.oneCell', thenQ, blockQ, loopQ, constRV, fieldOf, elemTy, idxArr, arrOf, partOf, litOf, Hl.lit, rowsOf, dataOf, baseOf, moreOf, setRow]; rfl) ?_)
    exact HT_ret ⟨.inr rfl, _, le_refl _, ⟨_, rfl, rfl⟩, by simp, fun _ => ⟨rfl, by simp⟩⟩
  have hlen : vars.length ≤ 80 := by simp at h; omega
  have c1 := fun d => inputs_con vars p q r hlen d
  have c2 := fun d => refinputs_con vars p q r hlen d
  have hl := fun a b c => @inputs_len vars p q r hlen a b c
  generalize inputsF vars p q r = x at *
  obtain ⟨o, e⟩ := x
  simp only at *
  cases o with
  | none =>
    refine HT_seq (HT_runc [⟨false, .tup [inT none, li e], none⟩] (by simp [evs, evc, okCall, brw, brwL, brwT, brwA, RV.ownB, CV.ownB, RV.onlyB, TV.onlyB, CV.onlyB, HS.made, impB_self, impB_true, impB_false, impB_one, pickB_or, pickB_and, pickB_true, pickB_false, wpR, gdOf, clsOf, stpF, stpG, strip, gdR, litG, evOp, evN, evA, evR, evW, evBin, evUn, cellsOf, opd, lkp, ins, del, HS.put, okDst, unmB, RV.menB, TV.menB, CV.menB, Ob.menB, CV.cell, CD.cell, Value.oneCell', thenQ, blockQ, loopQ, constRV, fieldOf, elemTy, idxArr, arrOf, partOf, litOf, Hl.lit, rowsOf, dataOf, baseOf, moreOf, setRow, inT, nilC, encVs, li]; first | exact ⟨rfl, Iff.rfl⟩ | rfl) (c1 _) ?_)
    refine HT_seq (HT_runc [⟨false, .tup [inT none, li e], none⟩] (by simp [evs, evc, okCall, brw, brwL, brwT, brwA, RV.ownB, CV.ownB, RV.onlyB, TV.onlyB, CV.onlyB, HS.made, impB_self, impB_true, impB_false, impB_one, pickB_or, pickB_and, pickB_true, pickB_false, wpR, gdOf, clsOf, stpF, stpG, strip, gdR, litG, evOp, evN, evA, evR, evW, evBin, evUn, cellsOf, opd, lkp, ins, del, HS.put, okDst, unmB, RV.menB, TV.menB, CV.menB, Ob.menB, CV.cell, CD.cell, Value.oneCell', thenQ, blockQ, loopQ, constRV, fieldOf, elemTy, idxArr, arrOf, partOf, litOf, Hl.lit, rowsOf, dataOf, baseOf, moreOf, setRow, inT, nilC, encVs, li]; first | exact ⟨rfl, Iff.rfl⟩ | rfl) (c2 _) ?_)
    refine HT_seq (HT_runc [⟨true, Hl.lit (.bool true), none⟩, ⟨true, Hl.lit (.bool true), none⟩, ⟨true, Hl.lit (.bool true), none⟩] (by simp [evs, evc, okCall, brw, brwL, brwT, brwA, RV.ownB, CV.ownB, RV.onlyB, TV.onlyB, CV.onlyB, HS.made, impB_self, impB_true, impB_false, impB_one, pickB_or, pickB_and, pickB_true, pickB_false, wpR, gdOf, clsOf, stpF, stpG, strip, gdR, litG, evOp, evN, evA, evR, evW, evBin, evUn, cellsOf, opd, lkp, ins, del, HS.put, okDst, unmB, RV.menB, TV.menB, CV.menB, Ob.menB, CV.cell, CD.cell, Value.oneCell', thenQ, blockQ, loopQ, constRV, fieldOf, elemTy, idxArr, arrOf, partOf, litOf, Hl.lit, rowsOf, dataOf, baseOf, moreOf, setRow, inT, nilC, encVs, li]; first | exact ⟨rfl, Iff.rfl⟩ | rfl) ?_ ?_)
    · exact ⟨same_nil _, same_nil _, same_nil _⟩
    exact HT_ret ⟨.inr rfl, _, le_refl _, ⟨_, rfl, by simp [evs, evc, okCall, brw, brwL, brwT, brwA, RV.ownB, CV.ownB, RV.onlyB, TV.onlyB, CV.onlyB, HS.made, impB_self, impB_true, impB_false, impB_one, pickB_or, pickB_and, pickB_true, pickB_false, wpR, gdOf, clsOf, stpF, stpG, strip, gdR, litG, evOp, evN, evA, evR, evW, evBin, evUn, cellsOf, opd, lkp, ins, del, HS.put, okDst, unmB, RV.menB, TV.menB, CV.menB, Ob.menB, CV.cell, CD.cell, Value.oneCell', thenQ, blockQ, loopQ, constRV, fieldOf, elemTy, idxArr, arrOf, partOf, litOf, Hl.lit, rowsOf, dataOf, baseOf, moreOf, setRow, resR]⟩, by simp, fun _ => ⟨rfl, by simp⟩⟩
  | some abc =>
    obtain ⟨a, b, c⟩ := abc
    obtain ⟨h1, h2, h3⟩ := hl a b c rfl
    refine HT_seq (HT_runc [⟨false, .tup [inT (some (a, b, c)), li e], none⟩] (by simp [evs, evc, okCall, brw, brwL, brwT, brwA, RV.ownB, CV.ownB, RV.onlyB, TV.onlyB, CV.onlyB, HS.made, impB_self, impB_true, impB_false, impB_one, pickB_or, pickB_and, pickB_true, pickB_false, wpR, gdOf, clsOf, stpF, stpG, strip, gdR, litG, evOp, evN, evA, evR, evW, evBin, evUn, cellsOf, opd, lkp, ins, del, HS.put, okDst, unmB, RV.menB, TV.menB, CV.menB, Ob.menB, CV.cell, CD.cell, Value.oneCell', thenQ, blockQ, loopQ, constRV, fieldOf, elemTy, idxArr, arrOf, partOf, litOf, Hl.lit, rowsOf, dataOf, baseOf, moreOf, setRow, inT, isC, encVs, li]; first | exact ⟨rfl, Iff.rfl⟩ | rfl) (c1 _) ?_)
    refine HT_seq (HT_runc [⟨false, .tup [inT (some (a, b, c)), li e], none⟩] (by simp [evs, evc, okCall, brw, brwL, brwT, brwA, RV.ownB, CV.ownB, RV.onlyB, TV.onlyB, CV.onlyB, HS.made, impB_self, impB_true, impB_false, impB_one, pickB_or, pickB_and, pickB_true, pickB_false, wpR, gdOf, clsOf, stpF, stpG, strip, gdR, litG, evOp, evN, evA, evR, evW, evBin, evUn, cellsOf, opd, lkp, ins, del, HS.put, okDst, unmB, RV.menB, TV.menB, CV.menB, Ob.menB, CV.cell, CD.cell, Value.oneCell', thenQ, blockQ, loopQ, constRV, fieldOf, elemTy, idxArr, arrOf, partOf, litOf, Hl.lit, rowsOf, dataOf, baseOf, moreOf, setRow, inT, isC, encVs, li]; first | exact ⟨rfl, Iff.rfl⟩ | rfl) (c2 _) ?_)
    refine HT_seq (HT_runc [⟨true, Hl.lit (.bool true), none⟩, ⟨true, Hl.lit (.bool true), none⟩, ⟨true, Hl.lit (.bool true), none⟩] (by simp [evs, evc, okCall, brw, brwL, brwT, brwA, RV.ownB, CV.ownB, RV.onlyB, TV.onlyB, CV.onlyB, HS.made, impB_self, impB_true, impB_false, impB_one, pickB_or, pickB_and, pickB_true, pickB_false, wpR, gdOf, clsOf, stpF, stpG, strip, gdR, litG, evOp, evN, evA, evR, evW, evBin, evUn, cellsOf, opd, lkp, ins, del, HS.put, okDst, unmB, RV.menB, TV.menB, CV.menB, Ob.menB, CV.cell, CD.cell, Value.oneCell', thenQ, blockQ, loopQ, constRV, fieldOf, elemTy, idxArr, arrOf, partOf, litOf, Hl.lit, rowsOf, dataOf, baseOf, moreOf, setRow, inT, isC, encVs, li]; first | exact ⟨rfl, Iff.rfl⟩ | rfl) ?_ ?_)
    · exact ⟨same_self a h1 _, same_self b h2 _, same_self c h3 _⟩
    exact HT_ret ⟨.inr rfl, _, le_refl _, ⟨_, rfl, by simp [evs, evc, okCall, brw, brwL, brwT, brwA, RV.ownB, CV.ownB, RV.onlyB, TV.onlyB, CV.onlyB, HS.made, impB_self, impB_true, impB_false, impB_one, pickB_or, pickB_and, pickB_true, pickB_false, wpR, gdOf, clsOf, stpF, stpG, strip, gdR, litG, evOp, evN, evA, evR, evW, evBin, evUn, cellsOf, opd, lkp, ins, del, HS.put, okDst, unmB, RV.menB, TV.menB, CV.menB, Ob.menB, CV.cell, CD.cell, Value.oneCell', thenQ, blockQ, loopQ, constRV, fieldOf, elemTy, idxArr, arrOf, partOf, litOf, Hl.lit, rowsOf, dataOf, baseOf, moreOf, setRow, resR]⟩, by simp, fun _ => ⟨rfl, by simp⟩⟩
end Go.Proofs.Ytpnhnldneecpnaa
