/- HmX: part of an evaluator of Go code over abstract states, proved sound over the model; used by the proof of the claimed statement. Conditions: none. -/
import Derived.Test.YtdajceakaakdoaaGreatHmW
set_option linter.unusedSimpArgs false
set_option linter.unusedVariables false
namespace Go.Hl
open Go Go.RowKit
section
variable {P:Program}
theorem X6X {id:Nat} {ops:Array Oper} (k:Nat) (cs1 cs2:List CR) {s s1 s2 s3:HS} {p q:Prop} {Q:Exit→HS→Prop} (hpre:evc P ops (ops.toList.take k) s cs1=some (s1,p)) (hp:p) (hle:le s1 s2)
  (hpost:evc P ops (ops.toList.drop k) s2 cs2=some (s3,q)) (hq':q) (hq:Q .normal s3):HT P (.region id ops false) s Q:=by
 intro w0 B π F γ a w hr;refine wp_region ?_
 have hsplit:List.range ops.size=List.range' 0 (ops.toList.take k).length++List.range' (min k ops.size) (ops.toList.drop k).length:=by
  rw[List.range_eq_range',List.length_take,List.length_drop,Array.length_toList];apply List.ext_getElem?;intro j;by_cases hj:j<min k ops.size
  · rw[List.getElem?_append_left (by simpa using hj),List.getElem?_range' (by omega),List.getElem?_range' (by omega)]
  rw[List.getElem?_append_right (by simp;omega)];simp only[List.length_range'];by_cases hjs:j<ops.size
  · rw[List.getElem?_range' (by omega),List.getElem?_range' (by omega)];congr 1;omega
  rw[List.getElem?_eq_none (by simp;omega),List.getElem?_eq_none (by simp;omega)]
 rw[hsplit];refine Wz (ops.toList.take k) 0 s F γ a w (fun j o' hj=>?_) hr (QK _ _ _ _ _ hpre hp rfl:wpR P ops (ops.toList.take k) s (fun t=>t=s1)) fun s' F1 γ1 a1 w1 hs' h1 h2 hr1=>?_
 · rw[List.getElem?_take]at hj;split at hj
   · rw[Nat.zero_add];simpa using hj
   cases hj
 subst hs';obtain⟨F2,γ2,h3,h4,hr2⟩:=hle w0 B π F1 γ1 a1 w1 hr1
 have:=Wz (Q:=fun e a' w'=>∃(s':HS) (F':Nat→Prop) (γ':Nat→Value),Q e s'∧(∀b,F b→F' b)∧(∀b,F' b→F b∨¬B b)∧Rel w0 B π F' γ' s' a' w') (Xj:=[]) (ops.toList.drop k) (min k ops.size) _ F2 γ2 a1 w1 (fun j o' hj=>by
   rw[List.getElem?_drop]at hj;have:k+j<ops.toList.length:=(List.getElem?_eq_some_iff.1 hj).1;rw[Array.length_toList]at this;rw[Nat.min_eq_left (by omega)]
   simpa using hj) hr2 (QK _ _ _ _ _ hpost hq' rfl:wpR P ops (ops.toList.drop k) _ (fun t=>t=s3)) fun s4 F4 γ4 a4 w4 hs4 h5 h6 hr4=>?_
 · simpa using this
 subst hs4;exact⟨s4,F4,γ4,hq,fun b hb=>h5 b (h3 b (h1 b hb)),fun b hb=>(h6 b hb).elim (fun hb=>(h4 b hb).elim (h2 b) .inr) .inr,hr4⟩
end
end Go.Hl
