/- T17: contracts of functions of the package, used by the proof of the claimed statement. Conditions: as each theorem states. -/
import Derived.Test.YtpnhnldneecpnaaT16
set_option linter.unusedSimpArgs false
set_option linter.unusedVariables false
namespace Go.Proofs.Ytpnhnldneecpnaa
open Go Go.Hl

theorem range_mul (a b : Nat) : List.range (a * b) = (List.range a).flatMap fun i => (List.range b).map fun j => i * b + j := by
  induction a with
  | zero => simp
  | succ a ih => rw [Nat.succ_mul, List.range_add, ih, List.range_succ, List.flatMap_append]; simp
theorem flat_nil {α β : Type} {f : α → List β} : ∀ {l : List α}, (∀ x ∈ l, f x = []) → l.flatMap f = []
  | [], _ => rfl
  | x :: l, h => by rw [List.flatMap_cons, h x (by simp), flat_nil fun y hy => h y (List.mem_cons_of_mem _ hy)]; rfl
theorem flat_congr {α β : Type} {f g : α → List β} : ∀ {l : List α}, (∀ x ∈ l, f x = g x) → l.flatMap f = l.flatMap g
  | [], _ => rfl
  | x :: l, h => by rw [List.flatMap_cons, List.flatMap_cons, h x (by simp), flat_congr fun y hy => h y (List.mem_cons_of_mem _ hy)]
theorem flat_part {β : Type} (g : Nat → List β) (o c S : Nat) (h : c = 0 ∨ o + c ≤ S) : ((List.range S).flatMap fun i => if o ≤ i ∧ i < o + c then g i else []) = (List.range c).flatMap fun t => g (o + t) := by
  rcases h with rfl | h
  · rw [flat_nil fun x _ => by rw [if_neg (by omega)]]; simp
  · obtain ⟨d, rfl⟩ : ∃ d, S = o + c + d := ⟨S - (o + c), by omega⟩
    rw [List.range_add, List.range_add, List.flatMap_append, List.flatMap_append, flat_nil, List.flatMap_map, List.flatMap_map, flat_nil (l := List.range d), List.nil_append, List.append_nil]
    · refine flat_congr fun t ht => ?_
      have : t < c := by simpa using ht
      rw [if_pos (by omega)]
    · intro t _; rw [if_neg (by omega)]
    · intro t ht
      have : t < o := by simpa using ht
      rw [if_neg (by omega)]
theorem unrank_shift : ∀ {l : List Var} (i j : Int), (∀ v ∈ l, bad v = false) → unrankL l (i * prodL l + j) = unrankL l j
  | [], i, j, _ => rfl
  | v :: l, i, j, hg => by
    have hg' : ∀ u ∈ l, bad u = false := fun u hu => hg u (List.mem_cons_of_mem _ hu)
    have hp := prod_pos hg'
    have e : i * prodL (v :: l) + j = (i * sizeV v) * prodL l + j := by rw [prodL, Int.mul_assoc]
    rw [e, unrankL, unrankL, unrank_shift (i * sizeV v) j hg']
    congr 2
    rw [Int.add_comm, Int.add_mul_ediv_right _ _ (by omega), Int.add_mul_emod_self_right]

theorem within_eq : ∀ {l : List Var} {lo hi rs : List Int}, (∀ v ∈ l, bad v = false) → lo.length = l.length → hi.length = l.length →
    withinD l lo hi rs = rs.flatMap fun r => (boxR l lo hi (prodL l).toNat).map fun j => r * prodL l + j
  | [], lo, hi, rs, _, h1, h2 => by
    obtain rfl : lo = [] := List.eq_nil_of_length_eq_zero h1
    obtain rfl : hi = [] := List.eq_nil_of_length_eq_zero h2
    simp [withinD, boxR, prodL, insideB, unrankL]
  | v :: l, a :: lo, b :: hi, rs, hg, h1, h2 => by
    have hg' : ∀ u ∈ l, bad u = false := fun u hu => hg u (List.mem_cons_of_mem _ hu)
    have hvb := hg v (by simp)
    obtain ⟨b1, b2, b3⟩ := not_bad hvb
    have hs := (size_pos hvb).1
    have hp := prod_pos hg'
    rw [withinD, within_eq hg' (by simpa using h1) (by simpa using h2), List.flatMap_assoc]
    refine flat_congr fun r _ => ?_
    obtain ⟨P, hP⟩ : ∃ P : Nat, prodL l = P := ⟨(prodL l).toNat, by omega⟩
    obtain ⟨S, hS⟩ : ∃ S : Nat, sizeV v = S := ⟨(sizeV v).toNat, by omega⟩
    have hSP : (prodL (v :: l)).toNat = S * P := by rw [prodL, hS, hP]; omega
    have hPn : (prodL l).toNat = P := by omega
    rw [hSP, hPn]
    have hbox : boxR (v :: l) (a :: lo) (b :: hi) (S * P) = (List.range S).flatMap fun i => if (loD v a - v.low).toNat ≤ i ∧ i < (loD v a - v.low).toNat + cntD v a b then (boxR l lo hi P).map fun j => (i : Int) * P + j else [] := by
      unfold boxR
      rw [range_mul, List.map_flatMap, List.filter_flatMap]
      refine flat_congr fun i hin => ?_
      have hiS : i < S := by simpa using hin
      have hsv : sizeV v = v.high - v.low + 1 := rfl
      have key : ∀ j : Nat, j < P → insideB (unrankL (v :: l) ((i * P + j : Nat) : Int)) (a :: lo) (b :: hi) = (!(decide (v.low + i < a) || decide (b < v.low + i)) && insideB (unrankL l j) lo hi) := by
        intro j hj
        have e0 : ((i * P + j : Nat) : Int) = (i : Int) * prodL l + j := by rw [hP]; push_cast; rfl
        rw [e0, unrankL, unrank_shift _ _ hg', insideB]
        have e1 : ((i : Int) * prodL l + j) / prodL l % sizeV v = i := by
          rw [Int.add_comm, Int.add_mul_ediv_right _ _ (by omega), Int.ediv_eq_zero_of_lt (by omega) (by omega), Int.zero_add, Int.emod_eq_of_lt (by omega) (by omega)]
        rw [e1]
      have hc : (!(decide (v.low + i < a) || decide (b < v.low + i))) = decide ((loD v a - v.low).toNat ≤ i ∧ i < (loD v a - v.low).toNat + cntD v a b) := by
        rw [Bool.eq_iff_iff]
        simp only [Bool.not_eq_true', Bool.or_eq_false_iff, decide_eq_false_iff_not, decide_eq_true_eq]
        unfold cntD loD hiD
        split <;> split <;> omega
      rw [List.map_map, List.filter_map]
      by_cases hcc : (loD v a - v.low).toNat ≤ i ∧ i < (loD v a - v.low).toNat + cntD v a b
      · rw [if_pos hcc, List.filter_map, List.map_map]
        have hf : (List.range P).filter ((fun r => insideB (unrankL (v :: l) r) (a :: lo) (b :: hi)) ∘ ((fun j : Nat => (j : Int)) ∘ fun j => i * P + j)) = (List.range P).filter ((fun r => insideB (unrankL l r) lo hi) ∘ fun j : Nat => (j : Int)) := by
          refine List.filter_congr fun j hj => ?_
          have hjP : j < P := by simpa using hj
          simp only [Function.comp]
          rw [key j hjP, hc, decide_eq_true hcc, Bool.true_and]
        rw [hf]
        refine List.map_congr_left fun j _ => ?_
        simp only [Function.comp]
        push_cast
        rfl
      · rw [if_neg hcc]
        have hf : (List.range P).filter ((fun r => insideB (unrankL (v :: l) r) (a :: lo) (b :: hi)) ∘ ((fun j : Nat => (j : Int)) ∘ fun j => i * P + j)) = [] := by
          refine List.filter_eq_nil_iff.2 fun j hj => ?_
          have hjP : j < P := by simpa using hj
          simp only [Function.comp]
          rw [key j hjP, hc, decide_eq_false hcc, Bool.false_and]
          simp
        rw [hf]; rfl
    rw [hbox, flat_part _ _ _ _ (by
      have hsv : sizeV v = v.high - v.low + 1 := rfl
      unfold cntD loD hiD
      split <;> split <;> omega)]
    have hlo : v.low ≤ loD v a := by unfold loD; split <;> omega
    rw [List.map_flatMap, rowD, List.flatMap_map]
    refine flat_congr fun t _ => ?_
    rw [List.map_map]
    refine List.map_congr_left fun j _ => ?_
    simp only [Function.comp]
    have e2 : (((loD v a - v.low).toNat + t : Nat) : Int) = loD v a + t - v.low := by omega
    rw [prodL, hP, e2]
    have e3 : r * sizeV v + (loD v a + (t : Int)) - v.low = r * sizeV v + (loD v a + t - v.low) := by omega
    rw [e3, Int.add_mul, Int.mul_assoc, Int.add_assoc]

theorem within_box {l : List Var} {n : Int} {lo hi : List Int} (h : Chosen l n) (h1 : lo.length = l.length) (h2 : hi.length = l.length) : withinD l lo hi [0] = boxR l lo hi n.toNat := by
  have hn := space_prod h.space
  rw [within_eq h.good h1 h2, hn]
  simp
end Go.Proofs.Ytpnhnldneecpnaa
