/- T2: contracts of functions of the package, used by the proof of the claimed statement. Conditions: as each theorem states. -/
import Derived.Test.YtpnhnldneecpnaaT1
import Derived.Test.YtpnhnldneecpnaaHlS
import Derived.IntWalk
set_option linter.unusedSimpArgs false
set_option linter.unusedVariables false
namespace Go.Proofs.Ytpnhnldneecpnaa
open Go Go.Hl

@[simp] theorem ty22 : tyOf Try.prog 22 = some ⟨1, 24, false, [.slice none 0 0], .slice 51⟩ := by kernel_rfl
@[simp] theorem ty23 : tyOf Try.prog 23 = some ⟨1, 8, false, [.int .i64 0], .other⟩ := by kernel_rfl
@[simp] theorem ty25 : tyOf Try.prog 25 = some ⟨1, 8, false, [.int .i64 0], .other⟩ := by kernel_rfl

def encVs (vs : List Var) : TV := .one (.c (.sl 5 (vs.map Var.enc)))
def li (n : Int) : TV := .one (.c (.lit (.int .i64 n)))

def okKind (k : Int) : Bool := decide (k = 0) || decide (k = 1) || decide (k = 2) || decide (k = 3)
def sel (vars : List Var) (kind : Int) : List Var := vars.filter fun v => decide (v.kind = kind)
def spaceL : List Var → Int → Option Int
  | [], n => some n
  | v :: l, n => if 4096 < n * sizeV v then none else spaceL l (n * sizeV v)
def chosenF (vars : List Var) (kind : Int) : List Var × Int × Int :=
  if okKind kind = false then ([], 0, 1) else if (sel vars kind).any bad = true then ([], 0, 3) else
  match spaceL (sel vars kind) 1 with
  | none => ([], 0, 4)
  | some n => (sel vars kind, n, 0)

theorem sel_succ {vars : List Var} {kind : Int} {k : Nat} {v : Var} (h : vars[k]? = some v) : sel (vars.take (k + 1)) kind = sel (vars.take k) kind ++ if v.kind = kind then [v] else [] := by
  unfold sel
  rw [List.take_add_one, h, List.filter_append]
  by_cases e : v.kind = kind <;> simp [e]
theorem sel_len (vars : List Var) (kind : Int) (k : Nat) : (sel (vars.take k) kind).length ≤ vars.length :=
  Nat.le_trans (List.length_filter_le _ _) (by simp; omega)
theorem wrap_in {n : Int} (h1 : -9223372036854775808 ≤ n) (h2 : n ≤ 9223372036854775807) : IntKind.i64.wrap n = n := IntWalk.i64_in n ⟨h1, h2⟩

def S1 (vars : List Var) (kind : Int) (k : Nat) : HS :=
  ⟨64, [(1, .v (li kind)), (7, .v (.one (.own 1007))), (19, .v (encVs vars)), (20, .v (li vars.length)), (21, .v (li k))], [(1007, .row 51 5 ((sel (vars.take k) kind).map Var.enc))]⟩
def J1 (vars : List Var) (kind : Int) (k : Nat) : Prop := k ≤ vars.length ∧ ∀ v ∈ sel (vars.take k) kind, bad v = false
def S2 (l : List Var) (x : Nat × Int) : HS :=
  ⟨64, [(7, .v (encVs l)), (10, .v (li x.2)), (49, .v (encVs l)), (50, .v (li l.length)), (51, .v (li x.1))], []⟩

theorem chosen_bad {vars : List Var} {kind : Int} (hk : okKind kind = true) (h : ∃ v ∈ sel vars kind, bad v = true) : chosenF vars kind = ([], 0, 3) := by
  unfold chosenF
  rw [if_neg (by simp [hk]), if_pos (List.any_eq_true.2 h)]
theorem mem_sel {vars : List Var} {kind : Int} {v : Var} (h : v ∈ vars) (hk : v.kind = kind) : v ∈ sel vars kind := by simp [sel, h, hk]

def J2 (l : List Var) (x : Nat × Int) : Prop := x.1 ≤ l.length ∧ 1 ≤ x.2 ∧ x.2 ≤ 4096 ∧ spaceL l 1 = spaceL (l.drop x.1) x.2

set_option maxRecDepth 100000 in
theorem chosen_con (vars : List Var) (kind : Int) (hlen : vars.length ≤ 80) (d : Nat) : Con Try.prog 26 false [encVs vars, li kind] (.tup [encVs (chosenF vars kind).1, li (chosenF vars kind).2.1, li (chosenF vars kind).2.2]) none d := by
  refine con_of_HT Try.func26 rfl (by kernel_rfl) (Nat.le_of_ble_eq_true rfl) ?_
  simp only [Try.f26]
  refine HT_seq (HT_run (by simp [evs, evc, okCall, brw, brwL, brwT, brwA, RV.ownB, CV.ownB, RV.onlyB, TV.onlyB, CV.onlyB, HS.made, impB_self, impB_true, impB_false, impB_one, pickB_or, pickB_and, pickB_true, pickB_false, wpR, gdOf, clsOf, stpF, stpG, strip, gdR, litG, evOp, evN, evA, evR, evW, evBin, evUn, cellsOf, opd, lkp, ins, del, HS.put, okDst, unmB, RV.menB, TV.menB, CV.menB, Ob.menB, CV.cell, CD.cell, Value.oneCell', thenQ, blockQ, loopQ, constRV, fieldOf, elemTy, idxArr, arrOf, partOf, litOf, Hl.lit, rowsOf, dataOf, baseOf, moreOf, setRow, regsOf, encVs, li]; rfl) ?_)
  refine HT_cut (σ := Unit) (fun _ => ⟨64, [(0, .v (encVs vars)), (1, .v (li kind))], []⟩) (fun _ => okKind kind = true) ?_ ?_
  · refine HT_seq (HT_run (by simp [evs, evc, okCall, brw, brwL, brwT, brwA, RV.ownB, CV.ownB, RV.onlyB, TV.onlyB, CV.onlyB, HS.made, impB_self, impB_true, impB_false, impB_one, pickB_or, pickB_and, pickB_true, pickB_false, wpR, gdOf, clsOf, stpF, stpG, strip, gdR, litG, evOp, evN, evA, evR, evW, evBin, evUn, cellsOf, opd, lkp, ins, del, HS.put, okDst, unmB, RV.menB, TV.menB, CV.menB, Ob.menB, CV.cell, CD.cell, Value.oneCell', thenQ, blockQ, loopQ, constRV, fieldOf, elemTy, idxArr, arrOf, partOf, litOf, Hl.lit, rowsOf, dataOf, baseOf, moreOf, setRow]; rfl) ?_)
    refine HT_block (HT_seq (HT_seq (HT_run (by simp [evs, evc, okCall, brw, brwL, brwT, brwA, RV.ownB, CV.ownB, RV.onlyB, TV.onlyB, CV.onlyB, HS.made, impB_self, impB_true, impB_false, impB_one, pickB_or, pickB_and, pickB_true, pickB_false, wpR, gdOf, clsOf, stpF, stpG, strip, gdR, litG, evOp, evN, evA, evR, evW, evBin, evUn, cellsOf, opd, lkp, ins, del, HS.put, okDst, unmB, RV.menB, TV.menB, CV.menB, Ob.menB, CV.cell, CD.cell, Value.oneCell', thenQ, blockQ, loopQ, constRV, fieldOf, elemTy, idxArr, arrOf, partOf, litOf, Hl.lit, rowsOf, dataOf, baseOf, moreOf, setRow]; rfl) ?_)))
    refine HT_cond rfl (fun h0 => HT_skip ?_) (fun h0 => ?_)
    · refine HT_cond rfl (fun _ => HT_skip ?_) (fun h => by simp_all)
      exact ⟨(), by simp_all [okKind], le_mk (fun n => n) [] rfl (by simp [allL, ins, RV.okNil, TV.okNil, CV.okNil, Ob.okNil, RV.ren, TV.ren, CV.ren, Ob.ren, opd, lkp, nilS, CV.frz, TV.frz, RV.frz, Ob.frz, HS.frz, mapL, del, li, encVs]) (by simp [allL, ins, RV.okNil, TV.okNil, CV.okNil, Ob.okNil, RV.ren, TV.ren, CV.ren, Ob.ren, opd, lkp, nilS, CV.frz, TV.frz, RV.frz, Ob.frz, HS.frz, mapL, del]) (by simp [allL, ins, RV.okNil, TV.okNil, CV.okNil, Ob.okNil, RV.ren, TV.ren, CV.ren, Ob.ren, opd, lkp, nilS, CV.frz, TV.frz, RV.frz, Ob.frz, HS.frz, mapL, del])⟩
    refine HT_seq (HT_run (by simp [evs, evc, okCall, brw, brwL, brwT, brwA, RV.ownB, CV.ownB, RV.onlyB, TV.onlyB, CV.onlyB, HS.made, impB_self, impB_true, impB_false, impB_one, pickB_or, pickB_and, pickB_true, pickB_false, wpR, gdOf, clsOf, stpF, stpG, strip, gdR, litG, evOp, evN, evA, evR, evW, evBin, evUn, cellsOf, opd, lkp, ins, del, HS.put, okDst, unmB, RV.menB, TV.menB, CV.menB, Ob.menB, CV.cell, CD.cell, Value.oneCell', thenQ, blockQ, loopQ, constRV, fieldOf, elemTy, idxArr, arrOf, partOf, litOf, Hl.lit, rowsOf, dataOf, baseOf, moreOf, setRow]; rfl) ?_)
    refine HT_cond rfl (fun h1 => HT_skip ?_) (fun h1 => ?_)
    · refine HT_cond rfl (fun _ => HT_skip ?_) (fun h => by simp_all)
      exact ⟨(), by simp_all [okKind], le_mk (fun n => n) [] rfl (by simp [allL, ins, RV.okNil, TV.okNil, CV.okNil, Ob.okNil, RV.ren, TV.ren, CV.ren, Ob.ren, opd, lkp, nilS, CV.frz, TV.frz, RV.frz, Ob.frz, HS.frz, mapL, del, li, encVs]) (by simp [allL, ins, RV.okNil, TV.okNil, CV.okNil, Ob.okNil, RV.ren, TV.ren, CV.ren, Ob.ren, opd, lkp, nilS, CV.frz, TV.frz, RV.frz, Ob.frz, HS.frz, mapL, del]) (by simp [allL, ins, RV.okNil, TV.okNil, CV.okNil, Ob.okNil, RV.ren, TV.ren, CV.ren, Ob.ren, opd, lkp, nilS, CV.frz, TV.frz, RV.frz, Ob.frz, HS.frz, mapL, del])⟩
    refine HT_seq (HT_run (by simp [evs, evc, okCall, brw, brwL, brwT, brwA, RV.ownB, CV.ownB, RV.onlyB, TV.onlyB, CV.onlyB, HS.made, impB_self, impB_true, impB_false, impB_one, pickB_or, pickB_and, pickB_true, pickB_false, wpR, gdOf, clsOf, stpF, stpG, strip, gdR, litG, evOp, evN, evA, evR, evW, evBin, evUn, cellsOf, opd, lkp, ins, del, HS.put, okDst, unmB, RV.menB, TV.menB, CV.menB, Ob.menB, CV.cell, CD.cell, Value.oneCell', thenQ, blockQ, loopQ, constRV, fieldOf, elemTy, idxArr, arrOf, partOf, litOf, Hl.lit, rowsOf, dataOf, baseOf, moreOf, setRow]; rfl) ?_)
    refine HT_cond rfl (fun h2 => HT_skip ?_) (fun h2 => ?_)
    · refine HT_cond rfl (fun _ => HT_skip ?_) (fun h => by simp_all)
      exact ⟨(), by simp_all [okKind], le_mk (fun n => n) [] rfl (by simp [allL, ins, RV.okNil, TV.okNil, CV.okNil, Ob.okNil, RV.ren, TV.ren, CV.ren, Ob.ren, opd, lkp, nilS, CV.frz, TV.frz, RV.frz, Ob.frz, HS.frz, mapL, del, li, encVs]) (by simp [allL, ins, RV.okNil, TV.okNil, CV.okNil, Ob.okNil, RV.ren, TV.ren, CV.ren, Ob.ren, opd, lkp, nilS, CV.frz, TV.frz, RV.frz, Ob.frz, HS.frz, mapL, del]) (by simp [allL, ins, RV.okNil, TV.okNil, CV.okNil, Ob.okNil, RV.ren, TV.ren, CV.ren, Ob.ren, opd, lkp, nilS, CV.frz, TV.frz, RV.frz, Ob.frz, HS.frz, mapL, del])⟩
    refine HT_run (by simp [evs, evc, okCall, brw, brwL, brwT, brwA, RV.ownB, CV.ownB, RV.onlyB, TV.onlyB, CV.onlyB, HS.made, impB_self, impB_true, impB_false, impB_one, pickB_or, pickB_and, pickB_true, pickB_false, wpR, gdOf, clsOf, stpF, stpG, strip, gdR, litG, evOp, evN, evA, evR, evW, evBin, evUn, cellsOf, opd, lkp, ins, del, HS.put, okDst, unmB, RV.menB, TV.menB, CV.menB, Ob.menB, CV.cell, CD.cell, Value.oneCell', thenQ, blockQ, loopQ, constRV, fieldOf, elemTy, idxArr, arrOf, partOf, litOf, Hl.lit, rowsOf, dataOf, baseOf, moreOf, setRow]; rfl) ?_
    refine HT_cond rfl (fun h3 => HT_skip ?_) (fun h3 => ?_)
    · exact ⟨(), by simp_all [okKind], le_mk (fun n => n) [] rfl (by simp [allL, ins, RV.okNil, TV.okNil, CV.okNil, Ob.okNil, RV.ren, TV.ren, CV.ren, Ob.ren, opd, lkp, nilS, CV.frz, TV.frz, RV.frz, Ob.frz, HS.frz, mapL, del, li, encVs]) (by simp [allL, ins, RV.okNil, TV.okNil, CV.okNil, Ob.okNil, RV.ren, TV.ren, CV.ren, Ob.ren, opd, lkp, nilS, CV.frz, TV.frz, RV.frz, Ob.frz, HS.frz, mapL, del]) (by simp [allL, ins, RV.okNil, TV.okNil, CV.okNil, Ob.okNil, RV.ren, TV.ren, CV.ren, Ob.ren, opd, lkp, nilS, CV.frz, TV.frz, RV.frz, Ob.frz, HS.frz, mapL, del])⟩
    refine HT_seq (HT_run (by simp [evs, evc, okCall, brw, brwL, brwT, brwA, RV.ownB, CV.ownB, RV.onlyB, TV.onlyB, CV.onlyB, HS.made, impB_self, impB_true, impB_false, impB_one, pickB_or, pickB_and, pickB_true, pickB_false, wpR, gdOf, clsOf, stpF, stpG, strip, gdR, litG, evOp, evN, evA, evR, evW, evBin, evUn, cellsOf, opd, lkp, ins, del, HS.put, okDst, unmB, RV.menB, TV.menB, CV.menB, Ob.menB, CV.cell, CD.cell, Value.oneCell', thenQ, blockQ, loopQ, constRV, fieldOf, elemTy, idxArr, arrOf, partOf, litOf, Hl.lit, rowsOf, dataOf, baseOf, moreOf, setRow]; rfl) ?_)
    have hc : chosenF vars kind = ([], 0, 1) := by unfold chosenF; rw [if_pos (by simp_all [okKind])]
    rw [hc]
    exact HT_ret ⟨.inr rfl, _, le_nil 4 5 rfl (Nat.le_of_ble_eq_true rfl), ⟨_, rfl, rfl⟩, by simp, by simp⟩
  rintro ⟨⟩ hkind
  refine HT_seq (HT_run (by simp [evs, evc, okCall, brw, brwL, brwT, brwA, RV.ownB, CV.ownB, RV.onlyB, TV.onlyB, CV.onlyB, HS.made, impB_self, impB_true, impB_false, impB_one, pickB_or, pickB_and, pickB_true, pickB_false, wpR, gdOf, clsOf, stpF, stpG, strip, gdR, litG, evOp, evN, evA, evR, evW, evBin, evUn, cellsOf, opd, lkp, ins, del, HS.put, okDst, unmB, RV.menB, TV.menB, CV.menB, Ob.menB, CV.cell, CD.cell, Value.oneCell', thenQ, blockQ, loopQ, constRV, fieldOf, elemTy, idxArr, arrOf, partOf, litOf, Hl.lit, rowsOf, dataOf, baseOf, moreOf, setRow, encVs, li]; rfl) ?_)
  refine HT_seq (HT_seq (HT_run (by simp [evs, evc, okCall, brw, brwL, brwT, brwA, RV.ownB, CV.ownB, RV.onlyB, TV.onlyB, CV.onlyB, HS.made, impB_self, impB_true, impB_false, impB_one, pickB_or, pickB_and, pickB_true, pickB_false, wpR, gdOf, clsOf, stpF, stpG, strip, gdR, litG, evOp, evN, evA, evR, evW, evBin, evUn, cellsOf, opd, lkp, ins, del, HS.put, okDst, unmB, RV.menB, TV.menB, CV.menB, Ob.menB, CV.cell, CD.cell, Value.oneCell', thenQ, blockQ, loopQ, constRV, fieldOf, elemTy, idxArr, arrOf, partOf, litOf, Hl.lit, rowsOf, dataOf, baseOf, moreOf, setRow, ty22]; rfl) ?_))
  refine HT_block (HT_loop (S1 vars kind) (J1 vars kind) (fun k => vars.length - k) 0 ⟨Nat.zero_le _, by simp [sel]⟩ ?_ ?_)
  · exact le_mk (fun n => n) [1007] rfl (by simp [allL, ins, RV.okNil, TV.okNil, CV.okNil, Ob.okNil, RV.ren, TV.ren, CV.ren, Ob.ren, opd, lkp, nilS, CV.frz, TV.frz, RV.frz, Ob.frz, HS.frz, mapL, del, S1, li, encVs]) (by simp [allL, ins, RV.okNil, TV.okNil, CV.okNil, Ob.okNil, RV.ren, TV.ren, CV.ren, Ob.ren, opd, lkp, nilS, CV.frz, TV.frz, RV.frz, Ob.frz, HS.frz, mapL, del, S1, sel]) (by simp [allL, ins, RV.okNil, TV.okNil, CV.okNil, Ob.okNil, RV.ren, TV.ren, CV.ren, Ob.ren, opd, lkp, nilS, CV.frz, TV.frz, RV.frz, Ob.frz, HS.frz, mapL, del, S1])
  rintro k ⟨hk, hb⟩
  simp only [S1]
  refine HT_seq (HT_run (by simp [evs, evc, okCall, brw, brwL, brwT, brwA, RV.ownB, CV.ownB, RV.onlyB, TV.onlyB, CV.onlyB, HS.made, impB_self, impB_true, impB_false, impB_one, pickB_or, pickB_and, pickB_true, pickB_false, wpR, gdOf, clsOf, stpF, stpG, strip, gdR, litG, evOp, evN, evA, evR, evW, evBin, evUn, cellsOf, opd, lkp, ins, del, HS.put, okDst, unmB, RV.menB, TV.menB, CV.menB, Ob.menB, CV.cell, CD.cell, Value.oneCell', thenQ, blockQ, loopQ, constRV, fieldOf, elemTy, idxArr, arrOf, partOf, litOf, Hl.lit, rowsOf, dataOf, baseOf, moreOf, setRow, encVs, li]; rfl) ?_)
  refine HT_seq (HT_cond rfl (fun h => HT_skip ?_) (fun h => HT_exit ?_))
  · simp only [decide_eq_true_eq] at h
    have hlt : k < vars.length := by omega
    obtain ⟨v, hv⟩ : ∃ v, vars[k]? = some v := ⟨vars[k], List.getElem?_eq_getElem hlt⟩
    have hw : IntKind.i64.wrap ((k : Int) + 1) = (k : Int) + 1 := wrap_in (by omega) (by omega)
    have hsl := sel_len vars kind k
    refine HT_seq (HT_block (HT_seq (HT_run (by simp [evs, evc, okCall, brw, brwL, brwT, brwA, RV.ownB, CV.ownB, RV.onlyB, TV.onlyB, CV.onlyB, HS.made, impB_self, impB_true, impB_false, impB_one, pickB_or, pickB_and, pickB_true, pickB_false, wpR, gdOf, clsOf, stpF, stpG, strip, gdR, litG, evOp, evN, evA, evR, evW, evBin, evUn, cellsOf, opd, lkp, ins, del, HS.put, okDst, unmB, RV.menB, TV.menB, CV.menB, Ob.menB, CV.cell, CD.cell, Value.oneCell', thenQ, blockQ, loopQ, constRV, fieldOf, elemTy, idxArr, arrOf, partOf, litOf, Hl.lit, rowsOf, dataOf, baseOf, moreOf, setRow, ty22, ty51, hv, Var.enc, i64]; rfl) ?_)))
    refine HT_seq (HT_seq (HT_run (by simp [evs, evc, okCall, brw, brwL, brwT, brwA, RV.ownB, CV.ownB, RV.onlyB, TV.onlyB, CV.onlyB, HS.made, impB_self, impB_true, impB_false, impB_one, pickB_or, pickB_and, pickB_true, pickB_false, wpR, gdOf, clsOf, stpF, stpG, strip, gdR, litG, evOp, evN, evA, evR, evW, evBin, evUn, cellsOf, opd, lkp, ins, del, HS.put, okDst, unmB, RV.menB, TV.menB, CV.menB, Ob.menB, CV.cell, CD.cell, Value.oneCell', thenQ, blockQ, loopQ, constRV, fieldOf, elemTy, idxArr, arrOf, partOf, litOf, Hl.lit, rowsOf, dataOf, baseOf, moreOf, setRow, ty51, ty23]; rfl) ?_))
    refine HT_cond rfl (fun h2 => HT_exit ?_) (fun h2 => HT_skip ?_)
    · refine HT_run (by simp [evs, evc, okCall, brw, brwL, brwT, brwA, RV.ownB, CV.ownB, RV.onlyB, TV.onlyB, CV.onlyB, HS.made, impB_self, impB_true, impB_false, impB_one, pickB_or, pickB_and, pickB_true, pickB_false, wpR, gdOf, clsOf, stpF, stpG, strip, gdR, litG, evOp, evN, evA, evR, evW, evBin, evUn, cellsOf, opd, lkp, ins, del, HS.put, okDst, unmB, RV.menB, TV.menB, CV.menB, Ob.menB, CV.cell, CD.cell, Value.oneCell', thenQ, blockQ, loopQ, constRV, fieldOf, elemTy, idxArr, arrOf, partOf, litOf, Hl.lit, rowsOf, dataOf, baseOf, moreOf, setRow]; rfl) ?_
      have hvk : ¬ v.kind = kind := by simpa using h2
      refine ⟨k + 1, ⟨hlt, ?_⟩, by omega, ?_⟩
      · rw [sel_succ hv, if_neg hvk, List.append_nil]
        exact hb
      · exact le_mk (fun n => n) [] rfl (by simp [allL, ins, RV.okNil, TV.okNil, CV.okNil, Ob.okNil, RV.ren, TV.ren, CV.ren, Ob.ren, opd, lkp, nilS, CV.frz, TV.frz, RV.frz, Ob.frz, HS.frz, mapL, del, S1, li, encVs, hw]) (by simp [allL, ins, RV.okNil, TV.okNil, CV.okNil, Ob.okNil, RV.ren, TV.ren, CV.ren, Ob.ren, opd, lkp, nilS, CV.frz, TV.frz, RV.frz, Ob.frz, HS.frz, mapL, del, S1, sel_succ hv, hvk]) (by simp [allL, ins, RV.okNil, TV.okNil, CV.okNil, Ob.okNil, RV.ren, TV.ren, CV.ren, Ob.ren, opd, lkp, nilS, CV.frz, TV.frz, RV.frz, Ob.frz, HS.frz, mapL, del, S1])
    · have hvk : v.kind = kind := by simpa using h2
      refine HT_seq (HT_seq (HT_run (by simp [evs, evc, okCall, brw, brwL, brwT, brwA, RV.ownB, CV.ownB, RV.onlyB, TV.onlyB, CV.onlyB, HS.made, impB_self, impB_true, impB_false, impB_one, pickB_or, pickB_and, pickB_true, pickB_false, wpR, gdOf, clsOf, stpF, stpG, strip, gdR, litG, evOp, evN, evA, evR, evW, evBin, evUn, cellsOf, opd, lkp, ins, del, HS.put, okDst, unmB, RV.menB, TV.menB, CV.menB, Ob.menB, CV.cell, CD.cell, Value.oneCell', thenQ, blockQ, loopQ, constRV, fieldOf, elemTy, idxArr, arrOf, partOf, litOf, Hl.lit, rowsOf, dataOf, baseOf, moreOf, setRow, ty51, ty3]; rfl) ?_))
      refine HT_cond rfl (fun h3 => ?_) (fun h3 => HT_skip ?_)
      · refine HT_seq (HT_run (by simp [evs, evc, okCall, brw, brwL, brwT, brwA, RV.ownB, CV.ownB, RV.onlyB, TV.onlyB, CV.onlyB, HS.made, impB_self, impB_true, impB_false, impB_one, pickB_or, pickB_and, pickB_true, pickB_false, wpR, gdOf, clsOf, stpF, stpG, strip, gdR, litG, evOp, evN, evA, evR, evW, evBin, evUn, cellsOf, opd, lkp, ins, del, HS.put, okDst, unmB, RV.menB, TV.menB, CV.menB, Ob.menB, CV.cell, CD.cell, Value.oneCell', thenQ, blockQ, loopQ, constRV, fieldOf, elemTy, idxArr, arrOf, partOf, litOf, Hl.lit, rowsOf, dataOf, baseOf, moreOf, setRow]; rfl) ?_)
        have hc : chosenF vars kind = ([], 0, 3) := chosen_bad hkind ⟨v, mem_sel (List.mem_of_getElem? hv) hvk, by simpa [bad, Bool.or_assoc] using h3⟩
        rw [hc]
        exact HT_ret ⟨.inr rfl, _, le_nil 4 5 rfl (Nat.le_of_ble_eq_true rfl), ⟨_, rfl, rfl⟩, by simp, by simp⟩
      · have hroom : room ((sel (vars.take k) kind).length + 1) 48 := room_of (by omega) (by omega)
        refine HT_run (by simp [evs, evc, okCall, brw, brwL, brwT, brwA, RV.ownB, CV.ownB, RV.onlyB, TV.onlyB, CV.onlyB, HS.made, impB_self, impB_true, impB_false, impB_one, pickB_or, pickB_and, pickB_true, pickB_false, wpR, gdOf, clsOf, stpF, stpG, strip, gdR, litG, evOp, evN, evA, evR, evW, evBin, evUn, cellsOf, opd, lkp, ins, del, HS.put, okDst, unmB, RV.menB, TV.menB, CV.menB, Ob.menB, CV.cell, CD.cell, Value.oneCell', thenQ, blockQ, loopQ, constRV, fieldOf, elemTy, idxArr, arrOf, partOf, litOf, Hl.lit, rowsOf, dataOf, baseOf, moreOf, setRow, ty51, ty22, hroom]; rfl) ?_
        refine HT_run (by simp [evs, evc, okCall, brw, brwL, brwT, brwA, RV.ownB, CV.ownB, RV.onlyB, TV.onlyB, CV.onlyB, HS.made, impB_self, impB_true, impB_false, impB_one, pickB_or, pickB_and, pickB_true, pickB_false, wpR, gdOf, clsOf, stpF, stpG, strip, gdR, litG, evOp, evN, evA, evR, evW, evBin, evUn, cellsOf, opd, lkp, ins, del, HS.put, okDst, unmB, RV.menB, TV.menB, CV.menB, Ob.menB, CV.cell, CD.cell, Value.oneCell', thenQ, blockQ, loopQ, constRV, fieldOf, elemTy, idxArr, arrOf, partOf, litOf, Hl.lit, rowsOf, dataOf, baseOf, moreOf, setRow]; rfl) ?_
        refine ⟨k + 1, ⟨hlt, ?_⟩, by omega, ?_⟩
        · rw [sel_succ hv, if_pos hvk]
          intro u hu
          rcases List.mem_append.1 hu with hu | hu
          · exact hb u hu
          · simp only [List.mem_singleton] at hu
            subst hu
            simpa [bad, Bool.or_assoc] using h3
        · refine le_mk (fun n => 47) [] rfl ?_ ?_ ?_
          · simp [allL, ins, RV.okNil, TV.okNil, CV.okNil, Ob.okNil, RV.ren, TV.ren, CV.ren, Ob.ren, opd, lkp, nilS, CV.frz, TV.frz, RV.frz, Ob.frz, HS.frz, mapL, del, S1, li, encVs, hw]
          · simp [allL, ins, RV.okNil, TV.okNil, CV.okNil, Ob.okNil, RV.ren, TV.ren, CV.ren, Ob.ren, opd, lkp, nilS, CV.frz, TV.frz, RV.frz, Ob.frz, HS.frz, mapL, del, S1, sel_succ hv, hvk, Var.enc, i64]
          · simp [allL, ins, RV.okNil, TV.okNil, CV.okNil, Ob.okNil, RV.ren, TV.ren, CV.ren, Ob.ren, opd, lkp, nilS, CV.frz, TV.frz, RV.frz, Ob.frz, HS.frz, mapL, del, S1]
  · have hkl : k = vars.length := by simp at h; omega
    subst hkl
    rw [List.take_length] at hb
    generalize hl : sel vars kind = l at *
    have hll : l.length ≤ 80 := by rw [← hl]; exact Nat.le_trans (List.length_filter_le _ _) hlen
    rw [List.take_length, hl]
    refine HT_seq (HT_run (by simp [evs, evc, okCall, brw, brwL, brwT, brwA, RV.ownB, CV.ownB, RV.onlyB, TV.onlyB, CV.onlyB, HS.made, impB_self, impB_true, impB_false, impB_one, pickB_or, pickB_and, pickB_true, pickB_false, wpR, gdOf, clsOf, stpF, stpG, strip, gdR, litG, evOp, evN, evA, evR, evW, evBin, evUn, cellsOf, opd, lkp, ins, del, HS.put, okDst, unmB, RV.menB, TV.menB, CV.menB, Ob.menB, CV.cell, CD.cell, Value.oneCell', thenQ, blockQ, loopQ, constRV, fieldOf, elemTy, idxArr, arrOf, partOf, litOf, Hl.lit, rowsOf, dataOf, baseOf, moreOf, setRow]; rfl) ?_)
    have hcf : ∀ n, spaceL l 1 = some n → chosenF vars kind = (l, n, 0) := by
      intro n hn
      unfold chosenF
      rw [if_neg (by simp [hkind]), hl, if_neg (by simp; exact hb), hn]
    have hcn : spaceL l 1 = none → chosenF vars kind = ([], 0, 4) := by
      intro hn
      unfold chosenF
      rw [if_neg (by simp [hkind]), hl, if_neg (by simp; exact hb), hn]
    refine HT_seq (HT_seq (HT_run (by simp [evs, evc, okCall, brw, brwL, brwT, brwA, RV.ownB, CV.ownB, RV.onlyB, TV.onlyB, CV.onlyB, HS.made, impB_self, impB_true, impB_false, impB_one, pickB_or, pickB_and, pickB_true, pickB_false, wpR, gdOf, clsOf, stpF, stpG, strip, gdR, litG, evOp, evN, evA, evR, evW, evBin, evUn, cellsOf, opd, lkp, ins, del, HS.put, okDst, unmB, RV.menB, TV.menB, CV.menB, Ob.menB, CV.cell, CD.cell, Value.oneCell', thenQ, blockQ, loopQ, constRV, fieldOf, elemTy, idxArr, arrOf, partOf, litOf, Hl.lit, rowsOf, dataOf, baseOf, moreOf, setRow, ty22]; rfl) ?_))
    refine HT_block (HT_loop (S2 l) (J2 l) (fun x => l.length - x.1) (0, 1) ⟨Nat.zero_le _, by omega, by omega, rfl⟩ ?_ ?_)
    · exact le_trans (le_frz 1007 rfl) (le_mk (fun n => n) [] rfl (by simp [allL, ins, RV.okNil, TV.okNil, CV.okNil, Ob.okNil, RV.ren, TV.ren, CV.ren, Ob.ren, opd, lkp, nilS, CV.frz, TV.frz, RV.frz, Ob.frz, HS.frz, mapL, del, S2, li, encVs]) (by simp [allL, ins, RV.okNil, TV.okNil, CV.okNil, Ob.okNil, RV.ren, TV.ren, CV.ren, Ob.ren, opd, lkp, nilS, CV.frz, TV.frz, RV.frz, Ob.frz, HS.frz, mapL, del, S2]) (by simp [allL, ins, RV.okNil, TV.okNil, CV.okNil, Ob.okNil, RV.ren, TV.ren, CV.ren, Ob.ren, opd, lkp, nilS, CV.frz, TV.frz, RV.frz, Ob.frz, HS.frz, mapL, del, S2]))
    rintro ⟨k, n⟩ ⟨hk, hn1, hn2, hsp⟩
    simp only [S2] at *
    refine HT_seq (HT_run (by simp [evs, evc, okCall, brw, brwL, brwT, brwA, RV.ownB, CV.ownB, RV.onlyB, TV.onlyB, CV.onlyB, HS.made, impB_self, impB_true, impB_false, impB_one, pickB_or, pickB_and, pickB_true, pickB_false, wpR, gdOf, clsOf, stpF, stpG, strip, gdR, litG, evOp, evN, evA, evR, evW, evBin, evUn, cellsOf, opd, lkp, ins, del, HS.put, okDst, unmB, RV.menB, TV.menB, CV.menB, Ob.menB, CV.cell, CD.cell, Value.oneCell', thenQ, blockQ, loopQ, constRV, fieldOf, elemTy, idxArr, arrOf, partOf, litOf, Hl.lit, rowsOf, dataOf, baseOf, moreOf, setRow, encVs, li]; rfl) ?_)
    refine HT_seq (HT_cond rfl (fun h => HT_skip ?_) (fun h => HT_exit ?_))
    · simp only [decide_eq_true_eq] at h
      have hlt : k < l.length := by omega
      obtain ⟨v, hv⟩ : ∃ v, l[k]? = some v := ⟨l[k], List.getElem?_eq_getElem hlt⟩
      have hvb := hb v (List.mem_of_getElem? hv)
      obtain ⟨b1, b2, b3⟩ := not_bad hvb
      have hw : IntKind.i64.wrap ((k : Int) + 1) = (k : Int) + 1 := wrap_in (by omega) (by omega)
      have hs1 : 1 ≤ sizeV v := by unfold sizeV; omega
      have hs2 : sizeV v ≤ 2097153 := by unfold sizeV; omega
      have hp1 : 1 ≤ n * sizeV v := by have := Int.mul_le_mul hn1 hs1 (by omega) (by omega); simpa using this
      have hp2 : n * sizeV v ≤ 4096 * 2097153 := Int.mul_le_mul hn2 hs2 (by omega) (by omega)
      have hwm : IntKind.i64.wrap (n * sizeV v) = n * sizeV v := wrap_in (by omega) (by omega)
      have hdr : l.drop k = v :: l.drop (k + 1) := by
        rw [List.drop_eq_getElem_cons hlt]
        rw [List.getElem?_eq_getElem hlt] at hv
        cases hv; rfl
      rw [hdr] at hsp
      simp only [spaceL] at hsp
      refine HT_seq (HT_block (HT_seq (HT_run (by simp [evs, evc, okCall, brw, brwL, brwT, brwA, RV.ownB, CV.ownB, RV.onlyB, TV.onlyB, CV.onlyB, HS.made, impB_self, impB_true, impB_false, impB_one, pickB_or, pickB_and, pickB_true, pickB_false, wpR, gdOf, clsOf, stpF, stpG, strip, gdR, litG, evOp, evN, evA, evR, evW, evBin, evUn, cellsOf, opd, lkp, ins, del, HS.put, okDst, unmB, RV.menB, TV.menB, CV.menB, Ob.menB, CV.cell, CD.cell, Value.oneCell', thenQ, blockQ, loopQ, constRV, fieldOf, elemTy, idxArr, arrOf, partOf, litOf, Hl.lit, rowsOf, dataOf, baseOf, moreOf, setRow, ty22, ty51, hv, Var.enc, i64]; rfl) ?_)))
      refine HT_seq (HT_runc [⟨true, Hl.lit (.int .i64 (sizeV v)), none⟩] (by simp [evs, evc, okCall, brw, brwL, brwT, brwA, RV.ownB, CV.ownB, RV.onlyB, TV.onlyB, CV.onlyB, HS.made, impB_self, impB_true, impB_false, impB_one, pickB_or, pickB_and, pickB_true, pickB_false, wpR, gdOf, clsOf, stpF, stpG, strip, gdR, litG, evOp, evN, evA, evR, evW, evBin, evUn, cellsOf, opd, lkp, ins, del, HS.put, okDst, unmB, RV.menB, TV.menB, CV.menB, Ob.menB, CV.cell, CD.cell, Value.oneCell', thenQ, blockQ, loopQ, constRV, fieldOf, elemTy, idxArr, arrOf, partOf, litOf, Hl.lit, rowsOf, dataOf, baseOf, moreOf, setRow, ty51, hwm]; exact ⟨rfl, Iff.rfl⟩) (size_con v hvb _) ?_)
      refine HT_seq (HT_run (by simp [evs, evc, okCall, brw, brwL, brwT, brwA, RV.ownB, CV.ownB, RV.onlyB, TV.onlyB, CV.onlyB, HS.made, impB_self, impB_true, impB_false, impB_one, pickB_or, pickB_and, pickB_true, pickB_false, wpR, gdOf, clsOf, stpF, stpG, strip, gdR, litG, evOp, evN, evA, evR, evW, evBin, evUn, cellsOf, opd, lkp, ins, del, HS.put, okDst, unmB, RV.menB, TV.menB, CV.menB, Ob.menB, CV.cell, CD.cell, Value.oneCell', thenQ, blockQ, loopQ, constRV, fieldOf, elemTy, idxArr, arrOf, partOf, litOf, Hl.lit, rowsOf, dataOf, baseOf, moreOf, setRow]; rfl) ?_)
      refine HT_cond rfl (fun h3 => ?_) (fun h3 => HT_skip ?_)
      · refine HT_seq (HT_run (by simp [evs, evc, okCall, brw, brwL, brwT, brwA, RV.ownB, CV.ownB, RV.onlyB, TV.onlyB, CV.onlyB, HS.made, impB_self, impB_true, impB_false, impB_one, pickB_or, pickB_and, pickB_true, pickB_false, wpR, gdOf, clsOf, stpF, stpG, strip, gdR, litG, evOp, evN, evA, evR, evW, evBin, evUn, cellsOf, opd, lkp, ins, del, HS.put, okDst, unmB, RV.menB, TV.menB, CV.menB, Ob.menB, CV.cell, CD.cell, Value.oneCell', thenQ, blockQ, loopQ, constRV, fieldOf, elemTy, idxArr, arrOf, partOf, litOf, Hl.lit, rowsOf, dataOf, baseOf, moreOf, setRow]; rfl) ?_)
        rw [if_pos (by simpa using h3)] at hsp
        rw [hcn hsp]
        exact HT_ret ⟨.inr rfl, _, le_nil 4 5 rfl (Nat.le_of_ble_eq_true rfl), ⟨_, rfl, rfl⟩, by simp, by simp⟩
      · refine HT_run (by simp [evs, evc, okCall, brw, brwL, brwT, brwA, RV.ownB, CV.ownB, RV.onlyB, TV.onlyB, CV.onlyB, HS.made, impB_self, impB_true, impB_false, impB_one, pickB_or, pickB_and, pickB_true, pickB_false, wpR, gdOf, clsOf, stpF, stpG, strip, gdR, litG, evOp, evN, evA, evR, evW, evBin, evUn, cellsOf, opd, lkp, ins, del, HS.put, okDst, unmB, RV.menB, TV.menB, CV.menB, Ob.menB, CV.cell, CD.cell, Value.oneCell', thenQ, blockQ, loopQ, constRV, fieldOf, elemTy, idxArr, arrOf, partOf, litOf, Hl.lit, rowsOf, dataOf, baseOf, moreOf, setRow]; rfl) ?_
        have h4 : ¬ 4096 < n * sizeV v := by simpa using h3
        rw [if_neg h4] at hsp
        refine ⟨(k + 1, n * sizeV v), ⟨hlt, hp1, by omega, hsp⟩, by simp only; omega, ?_⟩
        exact le_mk (fun n => n) [] rfl (by simp [allL, ins, RV.okNil, TV.okNil, CV.okNil, Ob.okNil, RV.ren, TV.ren, CV.ren, Ob.ren, opd, lkp, nilS, CV.frz, TV.frz, RV.frz, Ob.frz, HS.frz, mapL, del, li, encVs, hw]) (by simp [allL, ins, RV.okNil, TV.okNil, CV.okNil, Ob.okNil, RV.ren, TV.ren, CV.ren, Ob.ren, opd, lkp, nilS, CV.frz, TV.frz, RV.frz, Ob.frz, HS.frz, mapL, del]) (by simp [allL, ins, RV.okNil, TV.okNil, CV.okNil, Ob.okNil, RV.ren, TV.ren, CV.ren, Ob.ren, opd, lkp, nilS, CV.frz, TV.frz, RV.frz, Ob.frz, HS.frz, mapL, del])
    · have hkl : k = l.length := by simp at h; omega
      subst hkl
      rw [List.drop_length] at hsp
      rw [hcf n hsp]
      refine HT_seq (HT_run (by simp [evs, evc, okCall, brw, brwL, brwT, brwA, RV.ownB, CV.ownB, RV.onlyB, TV.onlyB, CV.onlyB, HS.made, impB_self, impB_true, impB_false, impB_one, pickB_or, pickB_and, pickB_true, pickB_false, wpR, gdOf, clsOf, stpF, stpG, strip, gdR, litG, evOp, evN, evA, evR, evW, evBin, evUn, cellsOf, opd, lkp, ins, del, HS.put, okDst, unmB, RV.menB, TV.menB, CV.menB, Ob.menB, CV.cell, CD.cell, Value.oneCell', thenQ, blockQ, loopQ, constRV, fieldOf, elemTy, idxArr, arrOf, partOf, litOf, Hl.lit, rowsOf, dataOf, baseOf, moreOf, setRow]; rfl) ?_)
      exact HT_ret ⟨.inr rfl, _, le_refl _, ⟨_, rfl, rfl⟩, by simp, by simp⟩
end Go.Proofs.Ytpnhnldneecpnaa
