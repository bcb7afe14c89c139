/- T1: contracts of functions of the package, used by the proof of the claimed statement. Conditions: as each theorem states. -/
import Derived.Test.YtpnhnldneecpnaaProg
import Derived.Test.YtpnhnldneecpnaaHlO
import Derived.KernelRfl
import Derived.IntWalk
set_option linter.unusedSimpArgs false
set_option linter.unusedVariables false
namespace Go.Proofs.Ytpnhnldneecpnaa
open Go Go.Hl

@[simp] theorem ty3 : tyOf Try.prog 3 = some ⟨1, 8, false, [.int .i64 0], .other⟩ := by kernel_rfl
@[simp] theorem ty51 : tyOf Try.prog 51 = some ⟨5, 48, true, [.string ⟨#[]⟩, .int .i64 0, .int .i64 0, .int .i64 0, .int .i64 0], .struct [(0, 9), (1, 23), (2, 3), (3, 3), (4, 3)]⟩ := by kernel_rfl

structure Var where
  name : ByteArray
  kind : Int
  low : Int
  high : Int
  init : Int

def i64 (n : Int) : CD := .lit (.int .i64 n)
def Var.enc (v : Var) : List CD := [.lit (.string v.name), i64 v.kind, i64 v.low, i64 v.high, i64 v.init]

def bad (v : Var) : Bool := decide (v.high < v.low) || decide (v.low < -1048576) || decide (1048576 < v.high)
def sizeV (v : Var) : Int := v.high - v.low + 1
theorem not_bad {v : Var} (h : bad v = false) : v.low ≤ v.high ∧ -1048576 ≤ v.low ∧ v.high ≤ 1048576 := by
  simp [bad] at h; omega
theorem size_wrap {v : Var} (h : bad v = false) : IntKind.i64.wrap (IntKind.i64.wrap (v.high - v.low) + 1) = sizeV v := by
  obtain ⟨h1, h2, h3⟩ := not_bad h
  rw [IntWalk.i64_in (v.high - v.low) ⟨by omega, by omega⟩, IntWalk.i64_in _ ⟨by omega, by omega⟩]
  rfl

set_option maxRecDepth 100000 in
theorem size_con (v : Var) (h : bad v = false) (d : Nat) : Con Try.prog 27 true [.agg (v.enc.map .c)] (Hl.lit (.int .i64 (sizeV v))) none d := by
  rw [← size_wrap h]
  refine con_of_HT Try.func27 rfl (by kernel_rfl) (Nat.le_of_ble_eq_true rfl) ?_
  simp only [Try.f27]
  refine HT_seq (HT_run (by simp [evs, evc, okCall, brw, brwL, brwT, brwA, RV.ownB, CV.ownB, RV.onlyB, TV.onlyB, CV.onlyB, HS.made, impB_self, impB_true, impB_false, impB_one, pickB_or, pickB_and, pickB_true, pickB_false, wpR, gdOf, clsOf, stpF, stpG, strip, gdR, litG, evOp, evN, evA, evR, evW, evBin, evUn, cellsOf, opd, lkp, ins, del, HS.put, okDst, unmB, RV.menB, TV.menB, CV.menB, Ob.menB, CV.cell, CD.cell, Value.oneCell', thenQ, blockQ, loopQ, constRV, fieldOf, elemTy, idxArr, arrOf, partOf, litOf, Hl.lit, rowsOf, dataOf, baseOf, moreOf, setRow, regsOf, Var.enc, i64]; rfl) ?_)
  refine HT_seq (HT_run (by simp [evs, evc, okCall, brw, brwL, brwT, brwA, RV.ownB, CV.ownB, RV.onlyB, TV.onlyB, CV.onlyB, HS.made, impB_self, impB_true, impB_false, impB_one, pickB_or, pickB_and, pickB_true, pickB_false, wpR, gdOf, clsOf, stpF, stpG, strip, gdR, litG, evOp, evN, evA, evR, evW, evBin, evUn, cellsOf, opd, lkp, ins, del, HS.put, okDst, unmB, RV.menB, TV.menB, CV.menB, Ob.menB, CV.cell, CD.cell, Value.oneCell', thenQ, blockQ, loopQ, constRV, fieldOf, elemTy, idxArr, arrOf, partOf, litOf, Hl.lit, rowsOf, dataOf, baseOf, moreOf, setRow, ty51, ty3]; rfl) ?_)
  refine HT_ret ⟨.inr rfl, _, le_refl _, ⟨_, rfl, rfl⟩, by simp, fun _ => ⟨rfl, by simp⟩⟩
end Go.Proofs.Ytpnhnldneecpnaa
