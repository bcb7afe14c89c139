/- Contracts of functions and plain facts about what they compute. Conditions: as each theorem states. -/
import Derived.Test.YtdajceakaakdoaaGreatB1
set_option linter.unusedSimpArgs false
set_option linter.unusedVariables false
set_option linter.unnecessarySimpa false
set_option maxRecDepth 100000
set_option maxHeartbeats 2000000
namespace Go.Proofs.YtdajceakaakdoaaGreat
open Go Go.Hl
open Tryz(prog)
set_option maxHeartbeats 64000000 in
theorem rg114_16 {id:Nat} {Q:Exit->HS->Prop} (ND ED:List (List CD)) (el:Int) (g:FuncId) (rows:List (Option (List (List CD)))) (rs:List (List CD)) (y f t:Nat) (xk:Int)
  (hrg:rows[f]? =some (some rs)) (ht1:f+1<=rows.length) (hroom:W4 (rs.length+1) 8)
  (hq:Q .normal ⟨⟨95,none⟩,W9 (RV.mv 900001 59) ((QK [(1,.v (.one (.c (.sl 1 ND)))),(2,.v (lb false)),(3,.v (.one (.fn g []))),(9,.v (.one (.own 900001))),(11,.v (.one (.at_ 11 0))),(23,.v (.one (.c (.sl 3 ED)))),(24,.v (li el)),(25,.v (li y))] [(11,.box [.c (iC f),.c (iC t),.c (iC xk)]),(58,.row 3 1 [[iC t]])] [(0,48,.v (.one (.own 900001))),(1,49,.v (.one (.at_ 11 0))),(2,50,.v (li f)),(3,51,.v (.one (.own 900001))),(4,52,.v (.one (.at_ 11 0))),(5,53,.v (li f)),(6,54,.v (.one (.el 900001 1 f 0))),(7,55,.v (.one (.sub 900001 f))),(8,56,.v (.one (.at_ 11 1))),(9,57,.v (li t)),(10,58,.v (.one (.own 58))),(11,59,.v (.one .any)),(12,60,.v (.one .any))]) [13]).regs,W9 (Ob.mv 900001 59) (ins 59 (.mat 29 3 1 (rows.set f (some (rs++[[iC t]])))) (del 900001 [(11,.box [.c (iC f),.c (iC t),.c (iC xk)]),(58,.row 3 1 [[iC t]]),(900001,.mat 29 3 1 rows)]))⟩):
  HT prog (.region id ((rgD 48 ((Tryz.f43).body.getD .skip)).getD #[]) true) ⟨⟨95,none⟩,[(1,.v (.one (.c (.sl 1 ND)))),(2,.v (lb false)),(3,.v (.one (.fn g []))),(9,.v (.one (.own 900001))),(11,.v (.one (.at_ 11 0))),(23,.v (.one (.c (.sl 3 ED)))),(24,.v (li el)),(25,.v (li y))],[(11,.box [.c (iC f),.c (iC t),.c (iC xk)]),(900001,.mat 29 3 1 rows)]⟩ Q:=by
 rw[show rgD 48 ((Tryz.f43).body.getD .skip)=some _ from rfl];simp only[Option.getD_some]
 refine Xbl (ZU [(1,.v (.one (.c (.sl 1 ND)))),(2,.v (lb false)),(3,.v (.one (.fn g []))),(9,.v (.one (.own 900001))),(11,.v (.one (.at_ 11 0))),(23,.v (.one (.c (.sl 3 ED)))),(24,.v (li el)),(25,.v (li y))] [(11,.box [.c (iC f),.c (iC t),.c (iC xk)]),(900001,.mat 29 3 1 rows)] [(11,.box [.c (iC f),.c (iC t),.c (iC xk)]),(58,.row 3 1 [[iC t]]),(900001,.mat 29 3 1 rows)] [(0,48,.v (.one (.own 900001))),(1,49,.v (.one (.at_ 11 0))),(2,50,.v (li f)),(3,51,.v (.one (.own 900001))),(4,52,.v (.one (.at_ 11 0))),(5,53,.v (li f)),(6,54,.v (.one (.el 900001 1 f 0))),(7,55,.v (.one (.sub 900001 f))),(8,56,.v (.one (.at_ 11 1))),(9,57,.v (li t)),(10,58,.v (.one (.own 58))),(11,59,.v (.one .any)),(12,60,.v (.one .any))]) (QK [(1,.v (.one (.c (.sl 1 ND)))),(2,.v (lb false)),(3,.v (.one (.fn g []))),(9,.v (.one (.own 900001))),(11,.v (.one (.at_ 11 0))),(23,.v (.one (.c (.sl 3 ED)))),(24,.v (li el)),(25,.v (li y))] [(11,.box [.c (iC f),.c (iC t),.c (iC xk)]),(58,.row 3 1 [[iC t]])] [(0,48,.v (.one (.own 900001))),(1,49,.v (.one (.at_ 11 0))),(2,50,.v (li f)),(3,51,.v (.one (.own 900001))),(4,52,.v (.one (.at_ 11 0))),(5,53,.v (li f)),(6,54,.v (.one (.el 900001 1 f 0))),(7,55,.v (.one (.sub 900001 f))),(8,56,.v (.one (.at_ 11 1))),(9,57,.v (li t)),(10,58,.v (.one (.own 58))),(11,59,.v (.one .any)),(12,60,.v (.one .any))]) 14 16383 ms114 11 (n:=900001) (i:=f) (e:=29) (sz:=1) (e':=3) (eM:=29) (rows:=rows) (rs:=rs) (more:=[[iC t]]) (O:=[(11,.box [.c (iC f),.c (iC t),.c (iC xk)]),(58,.row 3 1 [[iC t]]),(900001,.mat 29 3 1 rows)])
  (sF:=⟨⟨95,none⟩,W9 (RV.mv 900001 59) ((QK [(1,.v (.one (.c (.sl 1 ND)))),(2,.v (lb false)),(3,.v (.one (.fn g []))),(9,.v (.one (.own 900001))),(11,.v (.one (.at_ 11 0))),(23,.v (.one (.c (.sl 3 ED)))),(24,.v (li el)),(25,.v (li y))] [(11,.box [.c (iC f),.c (iC t),.c (iC xk)]),(58,.row 3 1 [[iC t]])] [(0,48,.v (.one (.own 900001))),(1,49,.v (.one (.at_ 11 0))),(2,50,.v (li f)),(3,51,.v (.one (.own 900001))),(4,52,.v (.one (.at_ 11 0))),(5,53,.v (li f)),(6,54,.v (.one (.el 900001 1 f 0))),(7,55,.v (.one (.sub 900001 f))),(8,56,.v (.one (.at_ 11 1))),(9,57,.v (li t)),(10,58,.v (.one (.own 58))),(11,59,.v (.one .any)),(12,60,.v (.one .any))]) [13]).regs,W9 (Ob.mv 900001 59) (ins 59 (.mat 29 3 1 (rows.set f (some (rs++[[iC t]])))) (del 900001 [(11,.box [.c (iC f),.c (iC t),.c (iC xk)]),(58,.row 3 1 [[iC t]]),(900001,.mat 29 3 1 rows)]))⟩)
  rfl (by kernel_rfl) (by kernel_rfl) (by kernel_rfl) (by kernel_rfl) rfl rfl rfl rfl rfl rfl rfl rfl rfl rfl rfl rfl rfl (by decide) (by decide) (by simp) (by simp) ty3 ty29 ty29 rfl rfl rfl rfl (by simp[lkp]) hrg (by simpa using hroom) (by simp[ZU,trS]) ?_ hq
 simp only[ms114,X1C]
 repeat' apply And.intro
 all_goals first
  |trivial
  |(refine stD_w (by rfl) (by decide) ?_;refine Q4.evE rfl ?_;simp[ZU,trS,ins,lkp,del,XO,QE,Q3,cellsOf,W2,WV,X0e,WU,Wq,hrg,ht1];done)
  |(refine stD_p (by rfl) (by rfl) (by rfl) (by simp[ZU]) (by simp[ZU,trS,ins]) (by simp[ZU,trS,ins,Wq,lkp]) (by simp[ZU,trS,ins]) (by rfl) (by simp[ZU,QK,trS,ins,del]);done)
  |(refine stD_q (by decide) (by rfl) (by rfl) (by rfl) (by simp[QK,trS,ins]) (by simp[QK,trS,ins]) (by rfl) (by simp[QK,trS,ins]);done)
  |(refine stD_z (by decide) (by decide) (by rfl) (by simp[QK,trS,ins]) (by rfl) (by rfl);done)
  |(refine X7e (dst:=48) (r:=.v (.one (.own 900001))) (by decide) (by rfl) (by decide) rfl rfl rfl (by decide) (by rfl) (by first|(left;simp[QK,trS,ins,lkp];done)|(right;simp[QK,trS,ins,lkp];done)) (by simp[QK,trS,ins]);done)
  |(refine X7e (dst:=49) (r:=.v (.one (.at_ 11 0))) (by decide) (by rfl) (by decide) rfl rfl rfl (by decide) (by rfl) (by first|(left;simp[QK,trS,ins,lkp];done)|(right;simp[QK,trS,ins,lkp];done)) (by simp[QK,trS,ins]);done)
  |(refine X7e (dst:=50) (r:=.v (li f)) (by decide) (by rfl) (by decide) rfl rfl rfl (by decide) (by rfl) (by first|(right;simp[QK,trS,ins,lkp];done)|(left;simp[QK,trS,ins,lkp];done)) (by simp[QK,trS,ins]);done)
end Go.Proofs.YtdajceakaakdoaaGreat
