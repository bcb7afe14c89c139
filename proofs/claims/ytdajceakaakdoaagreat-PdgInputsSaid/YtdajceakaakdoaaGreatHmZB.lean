/- HmZB: part of an evaluator of Go code over abstract states, proved sound over the model; used by the proof of the claimed statement. Conditions: none. -/
import Derived.Test.YtdajceakaakdoaaGreatHmZA
set_option maxRecDepth 100000
set_option maxHeartbeats 2000000
set_option linter.unusedSimpArgs false
set_option linter.unusedVariables false
set_option linter.unusedSimpArgs false
set_option linter.unusedVariables false
namespace Go.Hl
open Go Go.RowKit
theorem CV.menB_frz {d n:Nat} {c:CD} {x:CV} (h:(x.frz n c).menB d=true):x.menB d=true:=by
 induction x with
 |gd b x ih=>exact ih h
 |any=>exact h
 |c e=>exact h
 | own m=>
   simp only[CV.frz]at h;split at h
   · simp[CV.menB]at h
   exact h
 | at_ m off=>
   simp only[CV.frz]at h;split at h
   · split at h<;>simp[CV.menB]at h
   exact h
 | el m s' i off=>
   simp only[CV.frz]at h;split at h
   · simp[CV.menB]at h
   exact h
 | sub m i=>
   simp only[CV.frz]at h;split at h
   · simp[CV.menB]at h
   exact h
 | el2 m s' i j off=>
   simp only[CV.frz]at h;split at h
   · simp[CV.menB]at h
   exact h
 | fn f caps=>
   simp only[CV.frz]at h;split at h
   · simp[CV.menB]at h
   exact h
theorem TV.menB_frz {d n:Nat} {c:CD} {x:TV} (h:(x.frz n c).menB d=true):x.menB d=true:=by
 cases x with
 |one x=>exact CV.menB_frz h
 | agg xs=>
   simp only[TV.frz,TV.menB,List.any_map,List.any_eq_true,Function.comp]at h⊢;obtain⟨y,h1,h2⟩:=h;exact⟨y,h1,CV.menB_frz h2⟩
theorem RV.menB_frz {d n:Nat} {c:CD} {x:RV} (h:(x.frz n c).menB d=true):x.menB d=true:=by
 cases x with
 |v x=>exact TV.menB_frz h
 | tup xs=>
   simp only[RV.frz,RV.menB,List.any_map,List.any_eq_true,Function.comp]at h⊢;obtain⟨y,h1,h2⟩:=h;exact⟨y,h1,TV.menB_frz h2⟩
theorem Ob.menB_frz {d n:Nat} {c:CD} {x:Ob} (h:(x.frz n c).menB d=true):x.menB d=true:=by
 cases x with
 | box xs=>
   simp only[Ob.frz,Ob.menB,List.any_map,List.any_eq_true,Function.comp]at h⊢;obtain⟨y,h1,h2⟩:=h;exact⟨y,h1,CV.menB_frz h2⟩
 |row _ _ _=>exact h
 |mp _=>exact h
 |mat _ _ _ _=>exact h
 |refs _ _=>exact h
 |mps _ _=>exact h
 |it _ _=>exact h
section
variable {P:Program} {ops:Array Oper}
theorem X1u {l:List Nat} {i:Nat} (hs:l.Pairwise (· < ·)) (hi:i∈l):∃a b,l=a++i::b∧l.filter (fun j=>decide (j≠i))=a++b∧(∀j∈a,j<i)∧∀j∈b,i<j:=by
 obtain⟨a,b,rfl⟩:=List.append_of_mem hi;obtain⟨h1,h2,h3⟩:=List.pairwise_append.1 hs;have h2':=(List.pairwise_cons.1 h2).1;have h3':∀j∈a,j<i:=fun j hj=>h3 j hj i (by simp);refine⟨a,b,rfl,?_,h3',h2'⟩;rw[List.filter_append,List.filter_cons];simp only[ne_eq,not_true_eq_false,decide_false,Bool.false_eq_true,if_false];rw[List.filter_eq_self.2 fun j hj=>by simp;exact Nat.ne_of_lt (h3' j hj),List.filter_eq_self.2 fun j hj=>by simp;exact Nat.ne_of_gt (h2' j hj)]
theorem X33 {listed:Array Bool} {i:Nat} (hsz:listed.size=ops.size) (hi:i∈Xj ops listed):Xj ops (listed.setIfInBounds i true)=(Xj ops listed).filter (fun j=>decide (j≠i)):=by
 have hii:i<listed.size:=by rw[hsz];exact(XM.1 hi).1
 unfold Xj;rw[List.filter_filter];apply List.filter_congr;intro j hj;by_cases e:j=i
 · subst e;simp[hii]
 simp only[Array.getD_eq_getD_getElem?,Array.getElem?_setIfInBounds_ne (Ne.symm e)];simp[e]
end
end Go.Hl
