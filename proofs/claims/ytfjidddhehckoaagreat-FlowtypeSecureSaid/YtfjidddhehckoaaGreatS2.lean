/- Part 2: contracts of functions of the program and of the reference, and plain facts about what they compute; used by the proof of the claimed statement. Conditions: as each theorem states. -/
import Derived.Test.YtfjidddhehckoaaGreatS1
set_option linter.unusedSimpArgs false
set_option linter.unusedVariables false
set_option linter.unnecessarySimpa false
set_option maxRecDepth 100000
set_option maxHeartbeats 2000000
namespace Go.Proofs.YtfjidddhehckoaaGreat
open Go Go.Hl
abbrev wr (x : Int) : Int := IntKind.i64.wrap x
def flagI (b : Bool) : Int := if b = true then 1 else 0
def divI (a b : Int) : Int :=
 if b = 0 then 0 else if (!decide (a.tmod b = 0) && (decide (a < 0) != decide (b < 0))) = true then wr (wr (a.tdiv b) - 1) else wr (a.tdiv b)
def modI (a b : Int) : Int := if b = 0 then 0 else wr (a - wr (b * divI a b))
def binI (o a b : Int) : Int :=
 if o = 8 then wr (a + b) else if o = 9 then wr (a - b) else if o = 10 then wr (a * b) else if o = 11 then divI a b else if o = 12 then modI a b
 else if o = 13 then flagI (decide (a = b)) else if o = 14 then flagI (!decide (a = b)) else if o = 15 then flagI (decide (a < b)) else if o = 16 then flagI (decide (a ≤ b))
 else if o = 17 then flagI (decide (b < a)) else if o = 18 then flagI (decide (b ≤ a)) else if o = 19 then flagI (!decide (a = 0) && !decide (b = 0))
 else if o = 20 then flagI (!decide (a = 0) || !decide (b = 0)) else if o = 21 then mn a b else mx a b
theorem flag_con (b : Bool) (d : Nat) : Con Tryz.prog 120 true [lb b] (.v (li (flagI b))) none d := by
 refine con_of_HTA Tryz.func120 ?_;simp only [Tryz.f120];refine HT_sA ?_;refine HT_seq <| HT_seq <| HT_runA ?_;refine (HT_cs rfl (fun h2 => ?_) fun h2 => ?_)
 · (try simp only[BN]at h2);refine HT_sA ?_;exact (HT_retE (fun h => ⟨.inr rfl, h⟩) _ (by simp [*]; rfl) (by first | rfl | (simp [*, flagI]; done) | (simp only [resR, flagI]; (repeat' split) <;> first | rfl | (exfalso; omega) | simp_all)) (by simp))
 (try simp only[BN]at h2);refine HT_sA ?_;exact (HT_retE (fun h => ⟨.inr rfl, h⟩) _ (by simp [*]; rfl) (by first | rfl | (simp [*, flagI]; done) | (simp only [resR, flagI]; (repeat' split) <;> first | rfl | (exfalso; omega) | simp_all)) (by simp))
theorem div_con (a b : Int) (d : Nat) : Con Tryz.prog 160 true [li a, li b] (.v (li (divI a b))) none d := by
 obtain ⟨res, hres⟩ : ∃ r, divI a b = r := ⟨_, rfl⟩;rw [hres];unfold divI at hres;refine con_of_HTA Tryz.func160 ?_;simp only [Tryz.f160];refine HT_sA ?_;refine HT_seq <| HT_seq <| HT_runA ?_;refine (HT_cs rfl (fun h2 => ?_) fun h2 => ?_)
 · (try simp only[BN]at h2);rw [if_pos h2] at hres;subst hres;refine HT_sA ?_;exact HT_rA
 (try simp only[BN]at h2);rw [if_neg h2] at hres;refine HT_sA ?_;refine HT_seq <| HT_seq <| HT_runA ?_;refine (HT_cs rfl (fun h7 => ?_) fun h7 => ?_)
 · (try simp only[BN]at h7);rw [if_pos (by simpa using h7)] at hres;subst hres;refine HT_runA ?_;refine HT_sA ?_;exact HT_rA
 try simp only[BN]at h7
 rw [if_neg (by
     simp only [Bool.and_eq_true, Bool.not_eq_true', decide_eq_false_iff_not, bne_iff_ne, ne_eq, decide_eq_decide, not_and, Decidable.not_not];intro h;rcases h7 with h7 | h7
     · exact absurd h7 h
     simpa using h7)] at hres
 subst hres;refine HT_sA ?_;exact HT_rA
theorem mod_con (a b : Int) (d : Nat) : Con Tryz.prog 161 true [li a, li b] (.v (li (modI a b))) none d := by
 obtain ⟨res, hres⟩ : ∃ r, modI a b = r := ⟨_, rfl⟩;rw [hres];unfold modI at hres;refine con_of_HTA Tryz.func161 ?_;simp only [Tryz.f161];refine HT_sA ?_;refine HT_seq <| HT_seq <| HT_runA ?_;refine (HT_cs rfl (fun h2 => ?_) fun h2 => ?_)
 · (try simp only[BN]at h2);rw [if_pos h2] at hres;subst hres;refine HT_sA ?_;exact HT_rA
 (try simp only[BN]at h2);rw [if_neg h2] at hres;subst hres;refine HT_scA [⟨true, .v (li (divI a b)), none⟩] ?_ ?_
 · first | exact div_con _ _ _ | exact trivial | simpa [*] using div_con _ _ _
 exact HT_rA
theorem bin_con (o a b : Int) (d : Nat) : Con Tryz.prog 121 true [li o, li a, li b] (.v (li (binI o a b))) none d := by
 obtain ⟨res, hres⟩ : ∃ r, binI o a b = r := ⟨_, rfl⟩;rw [hres];unfold binI at hres;refine con_of_HTA Tryz.func121 ?_;simp only [Tryz.f121];refine HT_sA ?_;refine HT_seq <| HT_seq <| HT_runA ?_;refine HT_block <| HT_seq <| HT_runA ?_;refine (HT_cond rfl (fun h3 => ?_) (fun h3 => ?_))
 · (try simp only[BN]at h3);rw [if_pos h3] at hres;subst hres;refine HT_sA ?_;exact HT_rA
 (try simp only[BN]at h3);rw [if_neg h3] at hres;refine HT_sA ?_;refine (HT_cond rfl (fun h7 => ?_) (fun h7 => ?_))
 · (try simp only[BN]at h7);rw [if_pos h7] at hres;subst hres;refine HT_sA ?_;exact HT_rA
 (try simp only[BN]at h7);rw [if_neg h7] at hres;refine HT_sA ?_;refine (HT_cond rfl (fun h11 => ?_) (fun h11 => ?_))
 · (try simp only[BN]at h11);rw [if_pos h11] at hres;subst hres;refine HT_sA ?_;exact HT_rA
 (try simp only[BN]at h11);rw [if_neg h11] at hres;refine HT_sA ?_;refine (HT_cond rfl (fun h15 => ?_) (fun h15 => ?_))
 · (try simp only[BN]at h15);rw [if_pos h15] at hres;subst hres;refine HT_scA [⟨true, .v (li (divI a b)), none⟩] ?_ ?_
   · first | exact div_con _ _ _ | exact trivial | simpa [*] using div_con _ _ _
   exact HT_rA
 (try simp only[BN]at h15);rw [if_neg h15] at hres;refine HT_sA ?_;refine (HT_cond rfl (fun h19 => ?_) (fun h19 => ?_))
 · (try simp only[BN]at h19);rw [if_pos h19] at hres;subst hres;refine HT_scA [⟨true, .v (li (modI a b)), none⟩] ?_ ?_
   · first | exact mod_con _ _ _ | exact trivial | simpa [*] using mod_con _ _ _
   exact HT_rA
 (try simp only[BN]at h19);rw [if_neg h19] at hres;refine HT_sA ?_;refine (HT_cond rfl (fun h23 => ?_) (fun h23 => ?_))
 · (try simp only[BN]at h23);rw [if_pos h23] at hres;subst hres;refine HT_scA [⟨true, .v (li (flagI (decide (a = b)))), none⟩] ?_ ?_
   · first | exact flag_con _ _ | exact trivial | simpa [*] using flag_con _ _
   exact HT_rA
 (try simp only[BN]at h23);rw [if_neg h23] at hres;refine HT_sA ?_;refine (HT_cond rfl (fun h27 => ?_) (fun h27 => ?_))
 · (try simp only[BN]at h27);rw [if_pos h27] at hres;subst hres;refine HT_scA [⟨true, .v (li (flagI (!decide (a = b)))), none⟩] ?_ ?_
   · first | exact flag_con _ _ | exact trivial | simpa [*] using flag_con _ _
   exact HT_rA
 (try simp only[BN]at h27);rw [if_neg h27] at hres;refine HT_sA ?_;refine (HT_cond rfl (fun h31 => ?_) (fun h31 => ?_))
 · (try simp only[BN]at h31);rw [if_pos h31] at hres;subst hres;refine HT_scA [⟨true, .v (li (flagI (decide (a < b)))), none⟩] ?_ ?_
   · first | exact flag_con _ _ | exact trivial | simpa [*] using flag_con _ _
   exact HT_rA
 (try simp only[BN]at h31);rw [if_neg h31] at hres;refine HT_sA ?_;refine (HT_cond rfl (fun h35 => ?_) (fun h35 => ?_))
 · (try simp only[BN]at h35);rw [if_pos h35] at hres;subst hres;refine HT_scA [⟨true, .v (li (flagI (decide (a ≤ b)))), none⟩] ?_ ?_
   · first | exact flag_con _ _ | exact trivial | simpa [*] using flag_con _ _
   exact HT_rA
 (try simp only[BN]at h35);rw [if_neg h35] at hres;refine HT_sA ?_;refine (HT_cond rfl (fun h39 => ?_) (fun h39 => ?_))
 · (try simp only[BN]at h39);rw [if_pos h39] at hres;subst hres;refine HT_scA [⟨true, .v (li (flagI (decide (b < a)))), none⟩] ?_ ?_
   · first | exact flag_con _ _ | exact trivial | simpa [*] using flag_con _ _
   exact HT_rA
 (try simp only[BN]at h39);rw [if_neg h39] at hres;refine HT_sA ?_;refine (HT_cond rfl (fun h43 => ?_) (fun h43 => ?_))
 · (try simp only[BN]at h43);rw [if_pos h43] at hres;subst hres;refine HT_scA [⟨true, .v (li (flagI (decide (b ≤ a)))), none⟩] ?_ ?_
   · first | exact flag_con _ _ | exact trivial | simpa [*] using flag_con _ _
   exact HT_rA
 (try simp only[BN]at h43);rw [if_neg h43] at hres;refine HT_sA ?_;refine (HT_cond rfl (fun h47 => ?_) (fun h47 => ?_))
 · (try simp only[BN]at h47);rw [if_pos h47] at hres;subst hres;refine HT_scA [⟨true, .v (li (flagI (!decide (a = 0) && !decide (b = 0)))), none⟩] ?_ ?_
   · first | exact flag_con _ _ | exact trivial | simpa [*] using flag_con _ _
   exact HT_rA
 (try simp only[BN]at h47);rw [if_neg h47] at hres;refine HT_sA ?_;refine (HT_cond rfl (fun h51 => ?_) (fun h51 => ?_))
 · (try simp only[BN]at h51);rw [if_pos h51] at hres;subst hres;refine HT_scA [⟨true, .v (li (flagI (!decide (a = 0) || !decide (b = 0)))), none⟩] ?_ ?_
   · first | exact flag_con _ _ | exact trivial | simpa [*] using flag_con _ _
   exact HT_rA
 (try simp only[BN]at h51);rw [if_neg h51] at hres;refine HT_sA ?_;refine (HT_cs rfl (fun h55 => ?_) fun h55 => ?_)
 · (try simp only[BN]at h55);rw [if_pos h55] at hres;subst hres;refine HT_scA [⟨true, .v (li (mn a b)), none⟩] ?_ ?_
   · first | exact least_con _ _ _ | exact trivial | simpa [*] using least_con _ _ _
   exact HT_rA
 (try simp only[BN]at h55);rw [if_neg h55] at hres;subst hres;refine HT_scA [⟨true, .v (li (mx a b)), none⟩] ?_ ?_
 · first | exact most_con _ _ _ | exact trivial | simpa [*] using most_con _ _ _
 exact HT_rA
end Go.Proofs.YtfjidddhehckoaaGreat

namespace Go.Proofs.YtfjidddhehckoaaGreat
open Go Go.Hl
theorem takeM {α β : Type} (f : α → β) (l : List α) : (l.map f).take l.length = l.map f := by
 rw [List.take_of_length_le (by simp)]
def modL (b : Int × Int) : Int := if b.1 < 0 then mn (b.1 + 1) 0 else 0
def modH (b : Int × Int) : Int := if 0 < b.2 then mx (b.2 - 1) 0 else 0
@[simp] def g2 (k : List (Int × Int)) (i : Nat) : Int × Int := k[i]?.getD ((0 : Int), (0 : Int))
def ruleP (vars : List Vr) (o n : Int) (k : List (Int × Int)) : Int × Int :=
 if o = 0 then (n, n) else if o = 24 then (match vars[n.toNat]? with | some v => (v.low, v.high) | none => (0, 0))
 else if o = 6 then (-(g2 k 0).2, -(g2 k 0).1)
 else if o = 8 then ((g2 k 0).1 + (g2 k 1).1, (g2 k 0).2 + (g2 k 1).2)
 else if o = 9 then ((g2 k 0).1 - (g2 k 1).2, (g2 k 0).2 - (g2 k 1).1)
 else if o = 10 then mulP (g2 k 0) (g2 k 1)
 else if o = 11 then (if 0 ≤ (g2 k 0).1 ∧ 0 ≤ (g2 k 1).1 then (0, mx (g2 k 0).2 (-(g2 k 0).1)) else (-(mx (g2 k 0).2 (-(g2 k 0).1)), mx (g2 k 0).2 (-(g2 k 0).1)))
 else if o = 12 then (modL (g2 k 1), modH (g2 k 1))
 else if o = 21 then (mn (g2 k 0).1 (g2 k 1).1, mn (g2 k 0).2 (g2 k 1).2)
 else if o = 22 then (mx (g2 k 0).1 (g2 k 1).1, mx (g2 k 0).2 (g2 k 1).2)
 else if o = 23 ∨ o = 25 then hullL (k.drop 2) (g2 k 1) else (0, 1)
theorem kid {k : List (Int × Int)} (hk : ∀ p ∈ k, bnd p) {i : Nat} (h : i + 1 ≤ k.length) : ∃ a1 a2, k[i]? = some (a1, a2) ∧ -1048576 ≤ a1 ∧ a1 ≤ a2 ∧ a2 ≤ 1048576 := by
 have : k[i]? = some k[i] := by simp [show i < k.length from h]
 have h2 := hk k[i] (List.getElem_mem _);exact ⟨k[i].1, k[i].2, this, h2⟩
theorem node_ar {vars : List Vr} {inp : Bool} {o n : Int} {len : Nat} (h : nodeB vars inp o n len = true) : 0 ≤ (kidsP o).1 ∧ (kidsP o).1 ≤ len ∧ (len : Int) ≤ (kidsP o).2 := by
 unfold nodeB at h;simp only [Bool.and_eq_true, Bool.not_eq_true', decide_eq_false_iff_not] at h;omega
theorem node_ref {vars : List Vr} {inp : Bool} {n : Int} {len : Nat} (h : nodeB vars inp 24 n len = true) : 0 ≤ n ∧ ∃ v, vars[n.toNat]? = some v ∧ (inp = true → v.kind ≠ 0) := by
 unfold nodeB refB at h;simp only [Bool.and_eq_true, Int.reduceEq, if_false, if_true, decide_eq_true_eq] at h;obtain ⟨_, h0, h⟩ := h;refine ⟨h0, ?_⟩;split at h
 · rename_i v hv;refine ⟨v, hv, fun hi hk => ?_⟩;simp [hi, hk] at h
 cases h
theorem kids1 {o : Int} (h : o = 6 ∨ o = 7) : kidsP o = (1, 1) := by
 unfold kidsP; rw [if_neg (by omega), if_pos h]
theorem kids2 {o : Int} (h : 8 ≤ o ∧ o ≤ 22) : kidsP o = (2, 2) := by
 unfold kidsP; rw [if_neg (by omega), if_neg (by omega), if_pos h]
theorem kids3 : kidsP 23 = (3, 3) := by decide
theorem kids4 : kidsP 25 = (2, 33) := by decide
theorem rule_con (vars : List Vr) (inp : Bool) (o n : Int) (K : CD) (k : List (Int × Int)) (hf : nodeB vars inp o n k.length = true) (hk : ∀ p ∈ k, bnd p) (d : Nat) :
  Con Tryz.prog 201 true [lV vars, .agg [.c (iC o), .c (iC n), .c K], .one (.c (.sl 2 (encPs k)))] (.v (aP (ruleP vars o n k))) none d := by
 have har := node_ar hf;have hrf : o = 24 → 0 ≤ n ∧ ∃ v, vars[n.toNat]? = some v ∧ (inp = true → v.kind ≠ 0) := fun h => node_ref (by rw [← h]; exact hf);clear hf;have ar1 : o = 6 → 0 + 1 ≤ k.length := fun h => by have := kids1 (.inl h); rw [this] at har; simp only at har; omega
 have ar2 : 8 ≤ o ∧ o ≤ 22 → 0 + 1 ≤ k.length ∧ 1 + 1 ≤ k.length := fun h => by have := kids2 h; rw [this] at har; simp only at har; omega
 have ar3 : o = 23 ∨ o = 25 → 2 ≤ k.length ∧ k.length ≤ 33 := fun h => by
  rcases h with h | h
  · have := kids3; rw [h, this] at har; simp only at har; omega
  have := kids4; rw [h, this] at har; simp only at har; omega
 clear har;refine con_of_HTA Tryz.func201 ?_;simp only [Tryz.f201];refine HT_sA ?_;refine HT_seq <| HT_seq <| HT_runA ?_;refine HT_block <| HT_seq <| HT_runA ?_;refine (HT_cond rfl (fun h3 => ?_) (fun h3 => ?_))
 · (try simp only[BN]at h3);refine HT_sA ?_;exact (HT_retE (fun h => ⟨.inr rfl, h⟩) _ (by simp [*]; rfl) (by first | rfl | (simp [*, ruleP]; done) | (simp only [resR, ruleP]; (repeat' split) <;> first | rfl | (exfalso; omega) | simp_all)) (by simp))
 (try simp only[BN]at h3);refine HT_sA ?_;refine (HT_cond rfl (fun h7 => ?_) (fun h7 => ?_))
 · (try simp only[BN]at h7);obtain ⟨hn0, v, hv, _⟩ := hrf h7;clear hrf;refine HT_seq <| (HT_drun (by kernel_rfl) (by kernel_rfl) (by rfl) (by simp [*]; rfl) ?_);exact (HT_retE (fun h => ⟨.inr rfl, h⟩) _ (by simp [*]; rfl) (by first | rfl | (simp [*, ruleP]; done) | (simp only [resR, ruleP]; (repeat' split) <;> first | rfl | (exfalso; omega) | simp_all)) (by simp))
 (try simp only[BN]at h7);refine HT_sA ?_;refine (HT_cond rfl (fun h11 => ?_) (fun h11 => ?_))
 · (try simp only[BN]at h11);obtain ⟨a1, a2, ha, hb1, hb2, hb3⟩ := kid hk (ar1 h11);have hw1 : IntKind.i64.wrap (-a1) = -a1 := wrap_in (by omega) (by omega);have hw2 : IntKind.i64.wrap (-a2) = -a2 := wrap_in (by omega) (by omega);clear ar1 ar2 ar3;refine HT_seq <| (HT_drun (by kernel_rfl) (by kernel_rfl) (by rfl) (by simp [*]; rfl) ?_);exact (HT_retE (fun h => ⟨.inr rfl, h⟩) _ (by simp [*]; rfl) (by first | rfl | (simp [*, ruleP]; done) | (simp only [resR, ruleP]; (repeat' split) <;> first | rfl | (exfalso; omega) | simp_all)) (by simp))
 (try simp only[BN]at h11);refine HT_sA ?_;refine (HT_cond rfl (fun h15 => ?_) (fun h15 => ?_))
 · (try simp only[BN]at h15);obtain ⟨a1, a2, ha, hb1, hb2, hb3⟩ := kid hk (ar2 (by omega)).1;obtain ⟨c1, c2, hc, hc1, hc2, hc3⟩ := kid hk (ar2 (by omega)).2;have hw1 : IntKind.i64.wrap (a1 + c1) = a1 + c1 := wrap_in (by omega) (by omega);have hw2 : IntKind.i64.wrap (a2 + c2) = a2 + c2 := wrap_in (by omega) (by omega);clear ar1 ar2 ar3;refine HT_seq <| (HT_drun (by kernel_rfl) (by kernel_rfl) (by rfl) (by simp [*]; rfl) ?_);exact (HT_retE (fun h => ⟨.inr rfl, h⟩) _ (by simp [*]; rfl) (by first | rfl | (simp [*, ruleP]; done) | (simp only [resR, ruleP]; (repeat' split) <;> first | rfl | (exfalso; omega) | simp_all)) (by simp))
 (try simp only[BN]at h15);refine HT_sA ?_;refine (HT_cond rfl (fun h19 => ?_) (fun h19 => ?_))
 · (try simp only[BN]at h19);obtain ⟨a1, a2, ha, hb1, hb2, hb3⟩ := kid hk (ar2 (by omega)).1;obtain ⟨c1, c2, hc, hc1, hc2, hc3⟩ := kid hk (ar2 (by omega)).2;have hw1 : IntKind.i64.wrap (a1 - c2) = a1 - c2 := wrap_in (by omega) (by omega);have hw2 : IntKind.i64.wrap (a2 - c1) = a2 - c1 := wrap_in (by omega) (by omega);clear ar1 ar2 ar3;refine HT_seq <| (HT_drun (by kernel_rfl) (by kernel_rfl) (by rfl) (by simp [*]; rfl) ?_);exact (HT_retE (fun h => ⟨.inr rfl, h⟩) _ (by simp [*]; rfl) (by first | rfl | (simp [*, ruleP]; done) | (simp only [resR, ruleP]; (repeat' split) <;> first | rfl | (exfalso; omega) | simp_all)) (by simp))
 (try simp only[BN]at h19);refine HT_sA ?_;refine (HT_cond rfl (fun h23 => ?_) (fun h23 => ?_))
 · (try simp only[BN]at h23);obtain ⟨a1, a2, ha, hb1, hb2, hb3⟩ := kid hk (ar2 (by omega)).1;obtain ⟨c1, c2, hc, hc1, hc2, hc3⟩ := kid hk (ar2 (by omega)).2;clear ar1 ar2 ar3;refine HT_seq <| (HT_drunc [⟨true, .v (aP (mulP (a1, a2) (c1, c2))), none⟩] (by kernel_rfl) (by kernel_rfl) (by rfl) (by simp [*]; first | exact ⟨rfl, Iff.rfl⟩ | exact ⟨rfl, trivial⟩ | rfl) ?_ ?_)
   · first | exact corners_con (a1, a2) (c1, c2) ⟨hb1, hb2, hb3⟩ ⟨hc1, hc2, hc3⟩ _ | exact trivial | simpa [*] using corners_con (a1, a2) (c1, c2) ⟨hb1, hb2, hb3⟩ ⟨hc1, hc2, hc3⟩ _
   exact (HT_retE (fun h => ⟨.inr rfl, h⟩) _ (by simp [*]; rfl) (by first | rfl | (simp [*, ruleP]; done) | (simp only [resR, ruleP]; (repeat' split) <;> first | rfl | (exfalso; omega) | simp_all)) (by simp))
 (try simp only[BN]at h23);refine HT_sA ?_;refine (HT_cond rfl (fun h27 => ?_) (fun h27 => ?_))
 · (try simp only[BN]at h27);obtain ⟨a1, a2, ha, hb1, hb2, hb3⟩ := kid hk (ar2 (by omega)).1;obtain ⟨c1, c2, hc, hc1, hc2, hc3⟩ := kid hk (ar2 (by omega)).2;have hw1 : IntKind.i64.wrap (-a1) = -a1 := wrap_in (by omega) (by omega);have hm : -1048576 ≤ mx a2 (-a1) ∧ mx a2 (-a1) ≤ 1048576 := by unfold mx; split <;> omega
   have hw2 : IntKind.i64.wrap (-(mx a2 (-a1))) = -(mx a2 (-a1)) := wrap_in (by omega) (by omega);have hmx : (if a2 < -a1 then -a1 else a2) = mx a2 (-a1) := rfl;clear ar1 ar2 ar3;refine HT_seq <| (HT_drun (by kernel_rfl) (by kernel_rfl) (by rfl) (by simp [*]; rfl) ?_);refine HT_seq <| HT_seq <| HT_runA ?_;refine (HT_cs rfl (fun h30 => ?_) fun h30 => ?_)
   · (try simp only[BN]at h30);refine HT_sA ?_;exact (HT_retE (fun h => ⟨.inr rfl, h⟩) _ (by simp [*]; rfl) (by first | rfl | (simp [*, ruleP]; done) | (simp only [resR, ruleP]; (repeat' split) <;> first | rfl | (exfalso; omega) | simp_all)) (by simp))
   (try simp only[BN]at h30);have hng : ¬ (0 ≤ a1 ∧ 0 ≤ c1) := by omega
   refine HT_sA ?_;exact (HT_retE (fun h => ⟨.inr rfl, h⟩) _ (by simp [*]; rfl) (by first | rfl | (simp [*, ruleP]; done) | (simp only [resR, ruleP]; (repeat' split) <;> first | rfl | (exfalso; omega) | simp_all)) (by simp))
 (try simp only[BN]at h27);refine HT_sA ?_;refine (HT_cond rfl (fun h36 => ?_) (fun h36 => ?_))
 · (try simp only[BN]at h36);obtain ⟨c1, c2, hc, hc1, hc2, hc3⟩ := kid hk (ar2 (by omega)).2;have hw1 : IntKind.i64.wrap (c1 + 1) = c1 + 1 := wrap_in (by omega) (by omega);have hw2 : IntKind.i64.wrap (c2 - 1) = c2 - 1 := wrap_in (by omega) (by omega);have hmn : (if 0 < c1 + 1 then 0 else c1 + 1) = mn (c1 + 1) 0 := rfl;have hmx : (if c2 - 1 < 0 then 0 else c2 - 1) = mx (c2 - 1) 0 := rfl;clear ar1 ar2 ar3;refine HT_sA ?_;refine (HT_cutU [2, 6, 8] (fun (z : Int) => []) (fun (z : Int) => [(6, .box [.c (iC 0), .c (iC 0)]), (8, .box [.c (iC z), .c (iC 0)])]) (fun (z : Int) => z = modL (c1, c2)) ?_ ?_)
   ·
    refine HT_sA ?_;refine (HT_cs rfl (fun h40 => ?_) fun h40 => ?_)
    · (try simp only[BN]at h40);have hml : mn (c1 + 1) 0 = modL (c1, c2) := by simp only [modL]; rw [if_pos h40]
      refine HT_runA ?_;exact ⟨modL (c1, c2), rfl, le_mkA (fun n => n) []⟩
    (try simp only[BN]at h40);have hml : (0 : Int) = modL (c1, c2) := by simp only [modL]; rw [if_neg h40]
    exact ⟨modL (c1, c2), rfl, le_mkA (fun n => n) []⟩
   rintro _ rfl;simp only [upS, keepS, insS]
   try simp only [keepS, KN, Nat.reduceBEq, if_true, if_false, ins, Nat.reduceLT]
   refine HT_seq <| HT_seq <| HT_runA ?_;refine (HT_cs rfl (fun h45 => ?_) fun h45 => ?_)
   · (try simp only[BN]at h45);have hmh : mx (c2 - 1) 0 = modH (c1, c2) := by simp only [modH]; rw [if_pos h45]
     refine HT_runA ?_;refine HT_sA ?_;exact (HT_retE (fun h => ⟨.inr rfl, h⟩) _ (by simp [*]; rfl) (by first | rfl | (simp [*, ruleP]; done) | (simp only [resR, ruleP]; (repeat' split) <;> first | rfl | (exfalso; omega) | simp_all)) (by simp))
   (try simp only[BN]at h45);have hmh : modH (c1, c2) = 0 := by simp only [modH]; rw [if_neg h45]
   refine HT_sA ?_;exact (HT_retE (fun h => ⟨.inr rfl, h⟩) _ (by simp [*]; rfl) (by first | rfl | (simp [*, ruleP]; done) | (simp only [resR, ruleP]; (repeat' split) <;> first | rfl | (exfalso; omega) | simp_all)) (by simp))
 (try simp only[BN]at h36);refine HT_sA ?_;refine (HT_cond rfl (fun h52 => ?_) (fun h52 => ?_))
 · (try simp only[BN]at h52);obtain ⟨a1, a2, ha, hb1, hb2, hb3⟩ := kid hk (ar2 (by omega)).1;obtain ⟨c1, c2, hc, hc1, hc2, hc3⟩ := kid hk (ar2 (by omega)).2;clear ar1 ar2 ar3;refine HT_seq <| (HT_drun (by kernel_rfl) (by kernel_rfl) (by rfl) (by simp [*]; rfl) ?_);exact (HT_retE (fun h => ⟨.inr rfl, h⟩) _ (by simp [*]; rfl) (by simp [*, ruleP, resR, mn]) (by simp))
 (try simp only[BN]at h52);refine HT_sA ?_;refine (HT_cond rfl (fun h56 => ?_) (fun h56 => ?_))
 · (try simp only[BN]at h56);obtain ⟨a1, a2, ha, hb1, hb2, hb3⟩ := kid hk (ar2 (by omega)).1;obtain ⟨c1, c2, hc, hc1, hc2, hc3⟩ := kid hk (ar2 (by omega)).2;clear ar1 ar2 ar3;refine HT_seq <| (HT_drun (by kernel_rfl) (by kernel_rfl) (by rfl) (by simp [*]; rfl) ?_);exact (HT_retE (fun h => ⟨.inr rfl, h⟩) _ (by simp [*]; rfl) (by simp [*, ruleP, resR, mx]) (by simp))
 (try simp only[BN]at h56);refine (HT_cutU [2, 6] (fun (z : Bool) => [(200, .v (lb z))]) (fun (z : Bool) => [(6, .box [.c (iC 0), .c (iC 0)])]) (fun (z : Bool) => z = decide (o = 23 ∨ o = 25)) ?_ ?_)
 ·
  refine HT_sA ?_;refine (HT_cond rfl (fun h61 => HT_skip ?_) (fun h61 => ?_))
  · (try simp only[BN]at h61);exact ⟨true, by simp [h61], le_mkA (fun n => n) []⟩
  (try simp only[BN]at h61);refine HT_runA ?_;exact ⟨decide (o = 25), by simp [h61], le_mkA (fun n => n) []⟩
 rintro z hz;simp only [upS, keepS, insS]
 try simp only [keepS, KN, Nat.reduceBEq, if_true, if_false, ins, Nat.reduceLT]
 subst hz;obtain ⟨res, hres⟩ : ∃ r, ruleP vars o n k = r := ⟨_, rfl⟩;rw [hres];simp only [ruleP, h3, h7, h11, h15, h19, h23, h27, h36, h52, h56, if_false] at hres;refine (HT_cs rfl (fun h65 => ?_) fun h65 => ?_)
 · (try simp only[BN]at h65);have h2 := ar3 h65;rw [if_pos h65] at hres;clear ar1 ar2 ar3 h65;rcases k with _ | ⟨a, _ | ⟨c, r⟩⟩
   · simp at h2
   · simp at h2
   have hr33 : r.length ≤ 31 := by simp only [List.length_cons] at h2; omega
   clear h2;simp at hres;refine HT_seq <| (HT_run (by simp [*, encPs]; rfl) ?_);refine HT_seq <| HT_seq <| (HT_run (by simp [*, encPs, takeM]; rfl) ?_);refine HT_block <| (HT_loopU [6, 9, 207, 208] (fun (x : Nat × Int × Int) => [(209, .v (li x.1))]) (fun x => [(6, .box [.c (iC 0), .c (iC 0)]), (9, .box [.c (iC x.2.1), .c (iC x.2.2)])]) (fun x => x.1 ≤ r.length ∧ hullL (r.drop x.1) x.2 = res) (fun x => r.length - x.1) (0, c) ⟨Nat.zero_le _, hres⟩ ?_ ?_)
   · exact le_mkA (fun n => n) []
   rintro ⟨k, m, q⟩ ⟨hk', hJ⟩;simp only [upS, keepS, insS]
   try simp only [keepS, KN, Nat.reduceBEq, if_true, if_false, ins, Nat.reduceLT]
   simp only at hk' hJ;clear hres;refine HT_sA ?_;refine HT_seq <| (HT_cond rfl (fun h70 => HT_skip ?_) (fun h70 => ?_))
   · (try simp only[BN]at h70);have hlt : k < r.length := by omega
     obtain ⟨⟨e1, e2⟩, he, hd⟩ := at_lt hlt;have hw1 := wrap1 hlt (by omega);rw [hd] at hJ;simp only [hullL] at hJ;have hk1 : k + 1 ≤ r.length := hlt;clear hlt h70;refine HT_seq <| HT_block <| HT_seq <| HT_runA ?_;refine (HT_runcA [⟨true, .v (aP (hullP (m, q) (e1, e2))), none⟩] ?_ ?_)
     · first | exact hull_con (m, q) (e1, e2) _ | exact trivial | simpa [*] using hull_con (m, q) (e1, e2) _
     refine HT_runA ?_;exact ⟨(k + 1, hullP (m, q) (e1, e2)), ⟨hk1, hJ⟩, by simp only; omega, le_mkA (fun n => n) []⟩
   (try simp only[BN]at h70);have hkl : k = r.length := by omega
   rw [hkl, List.drop_length] at hJ;simp only [hullL] at hJ;refine (HT_exit ?_);refine HT_sA ?_;exact (HT_retE (fun h => ⟨.inr rfl, h⟩) _ (by simp [*]; rfl) (by subst hJ; rfl) (by simp))
 (try simp only[BN]at h65);rw [if_neg h65] at hres;subst hres;refine HT_sA ?_;exact (HT_retE (fun h => ⟨.inr rfl, h⟩) _ (by simp [*]; rfl) (by first | rfl | (simp [*, ruleP]; done) | (simp only [resR, ruleP]; (repeat' split) <;> first | rfl | (exfalso; omega) | simp_all)) (by simp))
end Go.Proofs.YtfjidddhehckoaaGreat

namespace Go.Proofs.YtfjidddhehckoaaGreat
open Go Go.Hl
def selI (k0 : Int) (len : Nat) : Int := wr (1 + heldI k0 0 (wr ((len : Int) - 2)))
def valN (vs : List Int) (o n : Int) (k : List Int) : Int :=
 if o = 0 then n else if o = 24 then (vs[n.toNat]?).getD 0 else if o = 6 then wr (-((k[0]?).getD 0)) else if o = 7 then flagI (decide ((k[0]?).getD 0 = 0))
 else if o = 23 then (if (k[0]?).getD 0 = 0 then (k[2]?).getD 0 else (k[1]?).getD 0)
 else if o = 25 then (k[(selI ((k[0]?).getD 0) k.length).toNat]?).getD 0
 else binI o ((k[0]?).getD 0) ((k[1]?).getD 0)
mutual
def vT (vs : List Int) : Tm → Int
 | .mk o n ks => valN vs o n (vTs vs ks)
def vTs (vs : List Int) : List Tm → List Int
 | [] => []
 | t :: l => vT vs t :: vTs vs l
end
theorem vTs_map (vs : List Int) : ∀ l : List Tm, vTs vs l = l.map (vT vs)
 | [] => by simp [vTs]
 | t :: l => by simp [vTs, vTs_map vs l]
theorem kq1 {vars : List Vr} {inp : Bool} {o n : Int} {ks : List Tm} (h : nodeB vars inp o n ks.length = true) (ho : o = 6 ∨ o = 7) : ∃ a, ks = [a] := by
 have := node_ar h;rw [show kidsP o = (1, 1) by unfold kidsP; rw [if_neg (by omega), if_pos ho]] at this;simp only at this
 match ks, this with
 | [a], _ => exact ⟨a, rfl⟩
 | [], h => simp at h
 | a :: b :: l, h => simp at h; omega
theorem kq2 {vars : List Vr} {inp : Bool} {o n : Int} {ks : List Tm} (h : nodeB vars inp o n ks.length = true) (h1 : ¬ o = 0) (h2 : ¬ o = 24) (h3 : ¬ o = 6) (h4 : ¬ o = 7) (h5 : ¬ o = 23) (h6 : ¬ o = 25) : ∃ a b, ks = [a, b] := by
 have := node_ar h
 have hr : 8 ≤ o ∧ o ≤ 22 := by
  refine Classical.byContradiction fun hc => ?_;rw [show kidsP o = (-1, -1) by unfold kidsP; rw [if_neg (by omega), if_neg (by omega), if_neg hc, if_neg h5, if_neg h6]] at this;simp at this
 rw [show kidsP o = (2, 2) by unfold kidsP; rw [if_neg (by omega), if_neg (by omega), if_pos hr]] at this;simp only at this
 match ks, this with
 | [a, b], _ => exact ⟨a, b, rfl⟩
 | [], h => simp at h
 | [a], h => simp at h
 | a :: b :: c :: l, h => simp at h; omega
theorem kq3 {vars : List Vr} {inp : Bool} {n : Int} {ks : List Tm} (h : nodeB vars inp 23 n ks.length = true) : ∃ a b c, ks = [a, b, c] := by
 have := node_ar h;rw [show kidsP 23 = (3, 3) by decide] at this;simp only at this
 match ks, this with
 | [a, b, c], _ => exact ⟨a, b, c, rfl⟩
 | [], h => simp at h
 | [a], h => simp at h
 | [a, b], h => simp at h
 | a :: b :: c :: e :: l, h => simp at h; omega
theorem kqN {vars : List Vr} {inp : Bool} {n : Int} {ks : List Tm} (h : nodeB vars inp 25 n ks.length = true) : 2 ≤ ks.length ∧ ks.length ≤ 33 := by
 have := node_ar h;rw [show kidsP 25 = (2, 33) by decide] at this;simp only at this;omega
theorem value_con (vars : List Vr) (inp : Bool) (vs : List Int) (hvs : vs.length = vars.length) (t : Tm) : formB vars inp t = true → ∀ d : Nat,
  Con Tryz.prog 75 true [lI vs, aT t] (.v (li (vT vs t))) none d := by
 induction t using Tm.ind with
 | h o n ks ih =>
 intro hf d;simp only [formB, Bool.and_eq_true] at hf;have hfk := formBs_mem hf.2;have hf := hf.1;obtain ⟨res, hres⟩ : ∃ r, vT vs (.mk o n ks) = r := ⟨_, rfl⟩;rw [hres];simp only [vT, valN] at hres;have ih := fun t ht => ih t ht (hfk t ht);clear hfk;refine con_of_HTA Tryz.func75 ?_;simp only [Tryz.f75];simp only [aT, Tm.enc];refine HT_sA ?_;refine HT_seq <| HT_seq <| HT_runA ?_;refine HT_block <| HT_seq <| HT_runA ?_;refine (HT_cond rfl (fun h3 => ?_) (fun h3 => ?_))
 · (try simp only[BN]at h3);rw [if_pos h3] at hres;subst hres;refine HT_sA ?_;exact HT_rA
 (try simp only[BN]at h3);rw [if_neg h3] at hres;refine HT_sA ?_;refine (HT_cond rfl (fun h7 => ?_) (fun h7 => ?_))
 · (try simp only[BN]at h7);rw [if_pos h7] at hres;subst h7;obtain ⟨hn0, v, hv, _⟩ := node_ref hf;have hlt : n.toNat < vs.length := by rw [hvs]; exact (List.getElem?_eq_some_iff.1 hv).1
   obtain ⟨x, hx⟩ : ∃ x, vs[n.toNat]? = some x := ⟨vs[n.toNat], by simp [hlt]⟩;rw [hx] at hres;simp only [Option.getD_some] at hres;subst hres;clear hlt hv;refine HT_sA ?_;exact HT_rA
 (try simp only[BN]at h7);rw [if_neg h7] at hres;refine HT_sA ?_;refine (HT_cond rfl (fun h11 => ?_) (fun h11 => ?_))
 · (try simp only[BN]at h11);rw [if_pos h11] at hres;obtain ⟨⟨ao, an, ak⟩, rfl⟩ := kq1 hf (.inl h11);have ca := ih _ (List.mem_singleton.2 rfl);simp only [aT, Tm.enc, List.map_cons, List.map_nil] at ca;obtain ⟨A, hA⟩ : ∃ x, vT vs (.mk ao an ak) = x := ⟨_, rfl⟩;rw [hA] at ca;rw [show vTs vs [Tm.mk ao an ak] = [A] by simp [vTs, hA]] at hres;simp only [List.getElem?_cons_zero, Option.getD_some] at hres;subst hres;clear ih hA;refine HT_scA [⟨true, .v (li A), none⟩] ?_ ?_
   · first | exact ca _ | exact trivial | simpa [*] using ca _
   exact HT_rA
 (try simp only[BN]at h11);rw [if_neg h11] at hres;refine HT_sA ?_;refine (HT_cond rfl (fun h15 => ?_) (fun h15 => ?_))
 · (try simp only[BN]at h15);rw [if_pos h15] at hres;obtain ⟨⟨ao, an, ak⟩, rfl⟩ := kq1 hf (.inr h15);have ca := ih _ (List.mem_singleton.2 rfl);simp only [aT, Tm.enc, List.map_cons, List.map_nil] at ca;obtain ⟨A, hA⟩ : ∃ x, vT vs (.mk ao an ak) = x := ⟨_, rfl⟩;rw [hA] at ca;rw [show vTs vs [Tm.mk ao an ak] = [A] by simp [vTs, hA]] at hres;simp only [List.getElem?_cons_zero, Option.getD_some] at hres;subst hres;clear ih hA;refine HT_scA [⟨true, .v (li A), none⟩, ⟨true, .v (li (flagI (decide (A = 0)))), none⟩] ?_ ?_
   · first | exact ⟨ca _, flag_con _ _⟩ | exact trivial | (repeat' first | exact trivial | exact ca _ | exact flag_con _ _ | apply And.intro)
   exact HT_rA
 (try simp only[BN]at h15);rw [if_neg h15] at hres;refine HT_sA ?_;refine (HT_cond rfl (fun h19 => ?_) (fun h19 => ?_))
 · (try simp only[BN]at h19);rw [if_pos h19] at hres;subst h19;obtain ⟨⟨ao, an, ak⟩, ⟨bo, bn, bk⟩, ⟨co, cn, ck⟩, rfl⟩ := kq3 hf;have ca := ih (.mk ao an ak) (by simp);have cb := ih (.mk bo bn bk) (by simp);have cc := ih (.mk co cn ck) (by simp);simp only [aT, Tm.enc, List.map_cons, List.map_nil] at ca cb cc;obtain ⟨A, hA⟩ : ∃ x, vT vs (.mk ao an ak) = x := ⟨_, rfl⟩;obtain ⟨B, hB⟩ : ∃ x, vT vs (.mk bo bn bk) = x := ⟨_, rfl⟩;obtain ⟨C, hC⟩ : ∃ x, vT vs (.mk co cn ck) = x := ⟨_, rfl⟩;rw [hA] at ca;rw [hB] at cb;rw [hC] at cc;rw [show vTs vs [Tm.mk ao an ak, Tm.mk bo bn bk, Tm.mk co cn ck] = [A, B, C] by simp [vTs, hA, hB, hC]] at hres;simp only [List.getElem?_cons_zero, List.getElem?_cons_succ, Option.getD_some] at hres;clear ih hA hB hC;refine HT_seq <| HT_seq <| (HT_runcA [⟨true, .v (li A), none⟩] ?_ ?_)
   · first | exact ca _ | exact trivial | simpa [*] using ca _
   refine (HT_cs rfl (fun h21 => ?_) fun h21 => ?_)
   · (try simp only[BN]at h21);rw [if_neg h21] at hres;subst hres;refine HT_scA [⟨true, .v (li B), none⟩] ?_ ?_
     · first | exact cb _ | exact trivial | simpa [*] using cb _
     exact HT_rA
   (try simp only[BN]at h21);rw [if_pos (by simpa using h21)] at hres;subst hres;refine HT_scA [⟨true, .v (li C), none⟩] ?_ ?_
   · first | exact cc _ | exact trivial | simpa [*] using cc _
   exact HT_rA
 (try simp only[BN]at h19);rw [if_neg h19] at hres;refine HT_sA ?_;refine (HT_cs rfl (fun h27 => ?_) fun h27 => ?_)
 · (try simp only[BN]at h27);rw [if_pos h27] at hres;subst h27;have hln := kqN hf;obtain ⟨⟨ao, an, ak⟩, he0⟩ : ∃ t, ks[0]? = some t := ⟨ks[0], by simp⟩;have ca := ih _ (List.mem_of_getElem? he0);have he0' := get_encT he0;simp only [aT, Tm.enc, List.map_cons, List.map_nil] at ca he0';obtain ⟨A, hA⟩ : ∃ x, vT vs (.mk ao an ak) = x := ⟨_, rfl⟩;rw [hA] at ca;rw [vTs_map, List.getElem?_map, List.getElem?_map, he0, Option.map_some, Option.getD_some, hA, List.length_map] at hres;have hw1 : IntKind.i64.wrap ((ks.length : Int) - 2) = (ks.length : Int) - 2 := wrap_in (by omega) (by omega);unfold selI at hres;simp only [wr, hw1] at hres;have hh := held_in (n := A) (lo := 0) (hi := (ks.length : Int) - 2) (by omega);obtain ⟨H, hH⟩ : ∃ x, heldI A 0 ((ks.length : Int) - 2) = x := ⟨_, rfl⟩;have cheld := held_con A 0 ((ks.length : Int) - 2);rw [hH] at hres hh cheld;have hw2 : IntKind.i64.wrap (1 + H) = 1 + H := wrap_in (by omega) (by omega);rw [hw2] at hres;obtain ⟨⟨bo, bn, bk⟩, he1⟩ : ∃ t, ks[(1 + H).toNat]? = some t := ⟨ks[(1 + H).toNat]'(by omega), by simp⟩;have cb := ih _ (List.mem_of_getElem? he1);have he1' := get_encT he1;simp only [aT, Tm.enc, List.map_cons, List.map_nil] at cb he1';rw [he1, Option.map_some, Option.getD_some] at hres;obtain ⟨B, hB⟩ : ∃ x, vT vs (.mk bo bn bk) = x := ⟨_, rfl⟩;rw [hB] at cb hres;subst hres;have hp1 : 0 ≤ 1 + H := by omega
   have hp2 : 1 ≤ ks.length := by omega
   clear ih hA hB hH he0 he1 hln hf hvs;refine HT_seq <| (HT_drunc [⟨true, .v (li A), none⟩, ⟨true, .v (li H), none⟩, ⟨true, .v (li B), none⟩] (by kernel_rfl) (by kernel_rfl) (by rfl) (by simp [*]; first | exact ⟨rfl, Iff.rfl⟩ | exact ⟨rfl, trivial⟩ | rfl) ?_ ?_)
   · first | exact ⟨ca _, cheld _, cb _⟩ | exact trivial | (repeat' first | exact trivial | exact ca _ | exact cheld _ | exact cb _ | apply And.intro)
   exact HT_rA
 (try simp only[BN]at h27);rw [if_neg h27] at hres;obtain ⟨⟨ao, an, ak⟩, ⟨bo, bn, bk⟩, rfl⟩ := kq2 hf h3 h7 h11 h15 h19 h27;have ca := ih (.mk ao an ak) (by simp);have cb := ih (.mk bo bn bk) (by simp);simp only [aT, Tm.enc, List.map_cons, List.map_nil] at ca cb;simp only [vTs, List.getElem?_cons_zero, List.getElem?_cons_succ, Option.getD_some] at hres;obtain ⟨A, hA⟩ : ∃ x, vT vs (.mk ao an ak) = x := ⟨_, rfl⟩;obtain ⟨B, hB⟩ : ∃ x, vT vs (.mk bo bn bk) = x := ⟨_, rfl⟩;rw [hA] at ca hres;rw [hB] at cb hres;subst hres;clear ih hA hB;refine HT_seq <| (HT_drunc [⟨true, .v (li A), none⟩, ⟨true, .v (li B), none⟩, ⟨true, .v (li (binI o A B)), none⟩] (by kernel_rfl) (by kernel_rfl) (by rfl) (by simp [*]; first | exact ⟨rfl, Iff.rfl⟩ | exact ⟨rfl, trivial⟩ | rfl) ?_ ?_)
 · first | exact ⟨ca _, cb _, bin_con _ _ _ _⟩ | exact trivial | (repeat' first | exact trivial | exact ca _ | exact cb _ | exact bin_con _ _ _ _ | apply And.intro)
 exact HT_rA
end Go.Proofs.YtfjidddhehckoaaGreat

namespace Go.Proofs.YtfjidddhehckoaaGreat
open Go Go.Hl
@[simp] theorem take_encV (l : List Vr) (i : Nat) : (encVs l).take i = encVs (l.take i) := by simp [encVs]
@[simp] theorem encV_snoc (l : List Vr) (v : Vr) : encVs (l ++ [v]) = encVs l ++ [v.enc] := by simp [encVs]
theorem take_snoc {α : Type} {l : List α} {k : Nat} {x : α} (h : l[k]? = some x) : l.take (k + 1) = l.take k ++ [x] := by
 rw [List.take_add_one, h]; rfl
theorem nameR_con (s : ByteArray) (d : Nat) : Con Tryz.prog 49 true [sv s] (.v (lb (nameB s))) none d := by
 refine con_of_HTA Tryz.func49 ?_;simp only [Tryz.f49];refine HT_sA ?_;refine HT_seq <| HT_seq <| HT_runA ?_;refine (HT_cs rfl (fun h2 => ?_) fun h2 => ?_)
 · try simp only[BN]at h2
   have hz : nameB s = false := by
    unfold nameB;rw [Bool.and_eq_false_iff, Bool.and_eq_false_iff];simp only [decide_eq_false_iff_not];omega
   refine HT_sA ?_;exact HT_rA
 (try simp only[BN]at h2);have h1 : 1 ≤ s.size := by omega
 have h40 : s.size ≤ 40 := by omega
 refine HT_seq <| HT_seq <| HT_runA ?_;refine HT_block <| (HT_loopU [0] (fun (x : Nat) => [(3, .v (li x))]) (fun x => []) (fun x => x ≤ s.size ∧ ∀ j : Nat, j < x → chOk s j = true) (fun x => s.size - x) (0 : Nat) ⟨Nat.zero_le _, fun j hj => absurd hj (Nat.not_lt_zero j)⟩ ?_ ?_)
 · exact le_mkA (fun n => n) []
 rintro k ⟨hk, hall⟩;simp only [upS, keepS, insS]
 try simp only [keepS, KN, Nat.reduceBEq, if_true, if_false, ins, Nat.reduceLT]
 refine HT_seq <| HT_seq <| HT_runA ?_;refine (HT_cond rfl (fun h8 => HT_skip ?_) (fun h8 => ?_))
 · (try simp only[BN]at h8);have hlt : k < s.size := by omega
   obtain ⟨b, hb⟩ := get_bytes hlt;have hw := wrap1 hlt (by omega);have hk1 : k + 1 ≤ s.size := hlt;clear hlt h8;refine HT_seq <| HT_block <| HT_seq <| HT_runA ?_;refine HT_sA ?_;refine HT_sA ?_;refine HT_sA ?_;refine (HT_cs rfl (fun h13 => ?_) fun h13 => ?_)
   · try simp only[BN]at h13
     have hbad : chOk s k = false := by
      unfold chOk;rw [hb];simp only [Bool.or_eq_false_iff, Bool.and_eq_false_iff, decide_eq_false_iff_not];omega
     have hz := nameB_bad hk1 hbad;refine HT_sA ?_;exact HT_rA
   try simp only[BN]at h13
   have hgood : chOk s k = true := by
    unfold chOk;rw [hb];simp only [Bool.or_eq_true, Bool.and_eq_true, decide_eq_true_eq];omega
   refine HT_runA ?_;exact ⟨k + 1, ⟨by omega, fun j hj => (Nat.lt_succ_iff_lt_or_eq.1 hj).elim (hall j) (fun e => e ▸ hgood)⟩, by omega, le_mkA (fun n => n) []⟩
 (try simp only[BN]at h8);have hz := nameB_good h1 h40 (fun j hj => hall j (by omega));refine (HT_exit ?_);refine HT_sA ?_;exact HT_rA
def sz (v : Vr) : Int := v.high - v.low + 1
def prV : List Vr → Int → Int
 | [], n => n
 | v :: l, n => if 4096 < n * sz v then 4097 else prV l (n * sz v)
def spc (vars : List Vr) (kind : Int) : Int := prV (vars.filter fun v => decide (v.kind = kind)) 1
def goodV' (vars : List Vr) : Prop := ∀ v ∈ vars, v.low ≤ v.high ∧ -1048576 ≤ v.low ∧ v.high ≤ 1048576
theorem sz_in {vars : List Vr} (h : goodV' vars) {v : Vr} (hv : v ∈ vars) : 1 ≤ sz v ∧ sz v ≤ 2097153 := by
 have := h v hv;unfold sz;omega
theorem mul_in {n s : Int} (h1 : 1 ≤ n ∧ n ≤ 4096) (h2 : 1 ≤ s ∧ s ≤ 2097153) : 1 ≤ n * s ∧ n * s ≤ 8589938688 := by
 have h3 : n.natAbs * s.natAbs ≤ 4096 * 2097153 := Nat.mul_le_mul (by omega) (by omega);have h4 : 1 * 1 ≤ n.natAbs * s.natAbs := Nat.mul_le_mul (by omega) (by omega);rw [← Int.natAbs_mul] at h3 h4;have h5 : 0 ≤ n * s := Int.mul_nonneg (by omega) (by omega);omega
theorem prV_in {vars : List Vr} (h : goodV' vars) : ∀ (l : List Vr) (n : Int), (∀ v ∈ l, v ∈ vars) → 1 ≤ n ∧ n ≤ 4096 → 1 ≤ prV l n ∧ prV l n ≤ 4097
 | [], n, _, hn => by simp only [prV]; omega
 | v :: l, n, hl, hn => by
   simp only [prV];have := mul_in hn (sz_in h (hl v (by simp)));split
   · omega
   exact prV_in h l _ (fun w hw => hl w (List.mem_cons_of_mem _ hw)) (by omega)
theorem spaceR_con (vars : List Vr) (kind : Int) (hv : goodV' vars) (hl : vars.length ≤ 1000000000) (d : Nat) : Con Tryz.prog 88 true [lV vars, li kind] (.v (li (spc vars kind))) none d := by
 obtain ⟨res, hres⟩ : ∃ r, spc vars kind = r := ⟨_, rfl⟩;rw [hres];unfold spc at hres;refine con_of_HTA Tryz.func88 ?_;simp only [Tryz.f88];refine HT_sA ?_;refine HT_sA ?_;refine HT_seq <| HT_seq <| HT_runA ?_;refine HT_block <| (HT_loopU [0, 1] (fun (x : Nat × Int) => [(5, .v (li x.2)), (6, .v (li x.1))]) (fun x => []) (fun x => x.1 ≤ vars.length ∧ prV ((vars.drop x.1).filter fun v => decide (v.kind = kind)) x.2 = res ∧ 1 ≤ x.2 ∧ x.2 ≤ 4096) (fun x => vars.length - x.1) (0, 1) ⟨Nat.zero_le _, hres, by decide, by decide⟩ ?_ ?_)
 · exact le_mkA (fun n => n) []
 rintro ⟨k, n⟩ ⟨hk, hJ, hn1, hn2⟩;simp only [upS, keepS, insS]
 try simp only [keepS, KN, Nat.reduceBEq, if_true, if_false, ins, Nat.reduceLT]
 simp only at hk hJ hn1 hn2;clear hres;refine HT_seq <| HT_seq <| HT_runA ?_;refine (HT_cond rfl (fun h5 => HT_skip ?_) (fun h5 => ?_))
 · (try simp only[BN]at h5);have hlt : k < vars.length := by omega
   obtain ⟨v, he, hd⟩ := at_lt hlt;have hw1 := wrap1 hlt (by omega);have hk1 : k + 1 ≤ vars.length := hlt;have hmem : v ∈ vars := List.mem_of_getElem? he;have hs := sz_in hv hmem;have hm := mul_in ⟨hn1, hn2⟩ hs;have hb := hv v hmem;have hw2 : IntKind.i64.wrap (v.high - v.low) = v.high - v.low := wrap_in (by omega) (by omega);have hw3 : IntKind.i64.wrap (v.high - v.low + 1) = sz v := by rw [wrap_in (by omega) (by omega)]; rfl
   have hw4 : IntKind.i64.wrap (n * sz v) = n * sz v := wrap_in (by omega) (by omega);rw [hd] at hJ;clear hlt h5 hv;refine HT_seq <| HT_block <| HT_seq <| HT_seq <| HT_runA ?_;refine (HT_cs rfl (fun h7 => ?_) fun h7 => ?_)
   · (try simp only[BN]at h7);rw [List.filter_cons_of_neg (by simpa using h7)] at hJ;refine (HT_exit ?_);refine HT_runA ?_;exact ⟨(k + 1, n), ⟨hk1, hJ, hn1, hn2⟩, by simp only; omega, le_mkA (fun n => n) []⟩
   (try simp only[BN]at h7);rw [List.filter_cons_of_pos (by simpa using h7)] at hJ;simp only [prV] at hJ;refine HT_seq <| (HT_drun (by kernel_rfl) (by kernel_rfl) (by rfl) (by simp [*]; rfl) ?_);refine HT_sA ?_;refine (HT_cs rfl (fun h12 => ?_) fun h12 => ?_)
   · (try simp only[BN]at h12);rw [if_pos h12] at hJ;subst hJ;refine HT_sA ?_;exact HT_rA
   (try simp only[BN]at h12);rw [if_neg h12] at hJ;refine HT_runA ?_;exact ⟨(k + 1, n * sz v), ⟨hk1, hJ, hm.1, by simp only; omega⟩, by simp only; omega, le_mkA (fun n => n) []⟩
 (try simp only[BN]at h5);have hkl : k = vars.length := by omega
 rw [hkl, List.drop_length] at hJ;simp only [List.filter_nil, prV] at hJ;refine (HT_exit ?_);refine HT_sA ?_;exact (HT_retE (fun h => ⟨.inr rfl, h⟩) _ (by simp [*]; rfl) (by subst hJ; rfl) (by simp))
theorem sizeD_con (v : Vr) (hv : -1048576 ≤ v.low ∧ v.low ≤ v.high ∧ v.high ≤ 1048576) (d : Nat) : Con Tryz.prog 199 true [aV v] (.v (li (sz v))) none d := by
 have hw2 : IntKind.i64.wrap (v.high - v.low) = v.high - v.low := wrap_in (by omega) (by omega);have hw3 : IntKind.i64.wrap (v.high - v.low + 1) = sz v := by rw [wrap_in (by omega) (by omega)]; rfl
 refine con_of_HTA Tryz.func199 ?_;simp only [Tryz.f199];refine HT_sA ?_;refine HT_sA ?_;exact HT_rA
def chR (vars : List Vr) (kind : Int) : RV := if spc vars kind ≤ 4096 then .tup [.one (.c (.sl 5 (encVs (vars.filter fun v => decide (v.kind = kind))))), li (spc vars kind), li 0] else .tup [.one (.c (.lit nilS)), li 0, li 4]
theorem chosen_con (vars : List Vr) (kind : Int) (hkd : 1 ≤ kind ∧ kind ≤ 3) (hv : goodV' vars) (hl : vars.length ≤ 1000000) (d : Nat) : Con Tryz.prog 189 false [lV vars, li kind] (chR vars kind) none d := by
 obtain ⟨S, hS⟩ : ∃ S, vars.filter (fun v => decide (v.kind = kind)) = S := ⟨_, rfl⟩;obtain ⟨res, hres⟩ : ∃ r, spc vars kind = r := ⟨_, rfl⟩;unfold chR;rw [hres, hS];unfold spc at hres;rw [hS] at hres;refine con_of_HTA Tryz.func189 ?_;simp only [Tryz.f189];refine HT_sA ?_;refine (HT_cutU [0, 1] (fun (z : Unit) => []) (fun (z : Unit) => []) (fun (z : Unit) => True) ?_ ?_)
 ·
  refine HT_sA ?_;refine HT_block <| (HT_cutU [0, 1] (fun (z : Bool) => [(14, .v (lb z))]) (fun (z : Bool) => []) (fun (z : Bool) => z = true) ?_ ?_)
  ·
   refine HT_sA ?_;refine (HT_cond rfl (fun h5 => HT_skip ?_) (fun h5 => ?_))
   · (try simp only[BN]at h5);exact ⟨true, rfl, le_mkA (fun n => n) []⟩
   (try simp only[BN]at h5);refine HT_sA ?_;refine (HT_cond rfl (fun h8 => HT_skip ?_) (fun h8 => ?_))
   · (try simp only[BN]at h8);exact ⟨true, rfl, le_mkA (fun n => n) []⟩
   (try simp only[BN]at h8);refine HT_sA ?_;refine (HT_cond rfl (fun h11 => HT_skip ?_) (fun h11 => ?_))
   · (try simp only[BN]at h11);exact ⟨true, rfl, le_mkA (fun n => n) []⟩
   (try simp only[BN]at h11);refine HT_runA ?_;have hz : decide (kind = 3) = true := by rw [decide_eq_true_eq]; omega
   exact ⟨true, rfl, le_mkA (fun n => n) []⟩
  rintro _ rfl;simp only [upS, keepS, insS]
  try simp only [keepS, KN, Nat.reduceBEq, if_true, if_false, ins, Nat.reduceLT]
  refine (HT_cond rfl (fun h15 => HT_skip ?_) (fun h15 => ?_))
  · (try simp only[BN]at h15);exact ⟨(), trivial, le_mkA (fun n => n) []⟩
  exact absurd h15 (by simp)
 rintro z hz;simp only [upS, keepS, insS]
 try simp only [keepS, KN, Nat.reduceBEq, if_true, if_false, ins, Nat.reduceLT]
 refine HT_sA ?_;refine HT_seq <| HT_seq <| HT_runA ?_;refine HT_block <| (HT_loopU [1, 19, 20] (fun (x : Nat × List Vr) => [(7, .v (.one (.own 1007))), (21, .v (li x.1))]) (fun x => [(1007, .row 88 5 (encVs x.2))]) (fun x => x.1 ≤ vars.length ∧ x.2 = (vars.take x.1).filter fun v => decide (v.kind = kind)) (fun x => vars.length - x.1) (0, []) ⟨Nat.zero_le _, by simp⟩ ?_ ?_)
 · exact le_mk (fun n => n) [1007] rfl (by simp [upS, keepS]) (by simp [upS, encVs]) (by simp [upS])
 rintro ⟨k, acc⟩ ⟨hk, hJ⟩;simp only [upS, keepS, insS]
 try simp only [keepS, KN, Nat.reduceBEq, if_true, if_false, ins, Nat.reduceLT]
 simp only at hk hJ;replace hJ := hJ.symm;refine HT_sA ?_;refine HT_seq <| (HT_cond rfl (fun h23 => HT_skip ?_) (fun h23 => ?_))
 · (try simp only[BN]at h23);have hlt : k < vars.length := by omega
   obtain ⟨v, he, hd⟩ := at_lt hlt;have hw1 := wrap1 hlt (by omega);have hk1 : k + 1 ≤ vars.length := hlt;have hmem : v ∈ vars := List.mem_of_getElem? he;have hb := hv v hmem;have ht := take_snoc he;generalize hT : (vars.take k).filter (fun v => decide (v.kind = kind)) = T at hJ
   have hal : acc.length ≤ k := by
    rw [← hJ, ← hT];exact Nat.le_trans (List.length_filter_le _ _) (by rw [List.length_take]; omega)
   have hroom : room (acc.length + 1) 48 := room_of (by omega) (by omega);clear hlt h23 hv;refine HT_seq <| HT_block <| HT_seq <| HT_runA ?_;refine HT_seq <| HT_seq <| HT_runA ?_;refine (HT_cs rfl (fun h26 => ?_) fun h26 => ?_)
   · (try simp only[BN]at h26);have hf : (vars.take (k + 1)).filter (fun v => decide (v.kind = kind)) = acc := by rw [ht, List.filter_append, hT, hJ, List.filter_cons_of_neg (by simpa using h26)]; simp
     clear hS;refine (HT_exit ?_);refine HT_runA ?_;exact ⟨(k + 1, acc), ⟨hk1, hf.symm⟩, by simp only; omega, le_mkA (fun n => n) []⟩
   (try simp only[BN]at h26);have hf : (vars.take (k + 1)).filter (fun v => decide (v.kind = kind)) = acc ++ [v] := by rw [ht, List.filter_append, hT, hJ, List.filter_cons_of_pos (by simpa using h26)]; simp
   clear hS;refine HT_seq <| HT_seq <| HT_runA ?_;refine (HT_cs rfl (fun h30 => ?_) fun h30 => ?_)
   · exfalso;simp only [Bool.or_eq_true, decide_eq_true_eq] at h30;omega
   (try simp only[BN]at h30);refine HT_runA ?_;refine HT_runA ?_;exact ⟨(k + 1, acc ++ [v]), ⟨hk1, hf.symm⟩, by simp only; omega, le_mkA (fun n => if n = 1007 then 47 else n) []⟩
 (try simp only[BN]at h23);have hkl : k = vars.length := by omega
 rw [hkl, List.take_length, hS] at hJ;subst hJ;have hSl : S.length ≤ 1000000 := by rw [← hS]; exact Nat.le_trans (List.length_filter_le _ _) hl
 have hSv : ∀ v ∈ S, v.low ≤ v.high ∧ -1048576 ≤ v.low ∧ v.high ≤ 1048576 := fun v h => hv v (by rw [← hS] at h; exact (List.mem_filter.1 h).1);clear hS hv hk hl h23 hkl;refine (HT_exit ?_);refine HT_sA ?_;refine HT_seq <| HT_seq <| HT_runA ?_;refine HT_block <| (HT_loopU [7, 49, 50] (fun (x : Nat × Int) => [(10, .v (li x.2)), (51, .v (li x.1))]) (fun x => [(1007, .row 88 5 (encVs S))]) (fun x => x.1 ≤ S.length ∧ prV (S.drop x.1) x.2 = res ∧ 1 ≤ x.2 ∧ x.2 ≤ 4096) (fun x => S.length - x.1) (0, 1) ⟨Nat.zero_le _, hres, by decide, by decide⟩ ?_ ?_)
 · exact le_mkA (fun n => n) []
 rintro ⟨k2, n⟩ ⟨hk2, hJ, hn1, hn2⟩;simp only [upS, keepS, insS]
 try simp only [keepS, KN, Nat.reduceBEq, if_true, if_false, ins, Nat.reduceLT]
 simp only at hk2 hJ hn1 hn2;clear hres;refine HT_sA ?_;refine HT_seq <| (HT_cond rfl (fun h40 => HT_skip ?_) (fun h40 => ?_))
 · (try simp only[BN]at h40);have hlt : k2 < S.length := by omega
   obtain ⟨v, he, hd⟩ := at_lt hlt;have hw1 := wrap1 hlt (by omega);have hk1 : k2 + 1 ≤ S.length := hlt;have hb := hSv v (List.mem_of_getElem? he);have hs : 1 ≤ sz v ∧ sz v ≤ 2097153 := by unfold sz; omega
   have hm := mul_in ⟨hn1, hn2⟩ hs;have hw4 : IntKind.i64.wrap (n * sz v) = n * sz v := wrap_in (by omega) (by omega);rw [hd] at hJ;simp only [prV] at hJ;clear hlt h40;refine HT_seq <| HT_block <| HT_seq <| HT_runA ?_;refine HT_scA [⟨true, .v (li (sz v)), none⟩] ?_ ?_
   · first | exact sizeD_con v ⟨hb.2.1, hb.1, hb.2.2⟩ _ | exact trivial | simpa [*] using sizeD_con v ⟨hb.2.1, hb.1, hb.2.2⟩ _
   refine HT_sA ?_;refine (HT_cs rfl (fun h44 => ?_) fun h44 => ?_)
   · (try simp only[BN]at h44);rw [if_pos h44] at hJ;subst hJ;refine HT_sA ?_;exact HT_ret ⟨.inr rfl, _, le_refl _, ⟨⟨_, by simp; rfl, by simp [resR]⟩, by simp, fun h => by cases h⟩⟩
   (try simp only[BN]at h44);rw [if_neg h44] at hJ;refine HT_runA ?_;exact ⟨(k2 + 1, n * sz v), ⟨hk1, hJ, hm.1, by simp only; omega⟩, by simp only; omega, le_mkA (fun n => n) []⟩
 (try simp only[BN]at h40);have hkl : k2 = S.length := by omega
 rw [hkl, List.drop_length] at hJ;simp only [prV] at hJ;subst hJ;refine (HT_exit ?_);refine HT_sA ?_;exact HT_ret ⟨.inr rfl, _, le_frz 1007 rfl, ⟨⟨_, by simp; rfl, by simp [resR, hn2]⟩, by simp, fun h => by cases h⟩⟩
theorem spaceP_con (vars : List Vr) (kind : Int) (hkd : 1 ≤ kind ∧ kind ≤ 3) (hv : goodV' vars) (hl : vars.length ≤ 1000000) (d : Nat) : Con Tryz.prog 175 true [lV vars, li kind]
  (.tup [li (if spc vars kind ≤ 4096 then spc vars kind else 0), li (if spc vars kind ≤ 4096 then 0 else 4)]) none d := by
 have c := chosen_con vars kind hkd hv hl;unfold chR at c;obtain ⟨res, hres⟩ : ∃ r, spc vars kind = r := ⟨_, rfl⟩;rw [hres] at c ⊢;clear hres;by_cases h : res ≤ 4096
 · rw [if_pos h] at c;rw [if_pos h, if_pos h];refine con_of_HTA Tryz.func175 ?_;simp only [Tryz.f175];refine HT_sA ?_;refine HT_scA [⟨false, .tup [.one (.c (.sl 5 (encVs (vars.filter fun v => decide (v.kind = kind))))), li res, li 0], none⟩] ?_ ?_
   · first | exact c _ | exact trivial | simpa [*] using c _
   refine HT_sA ?_;exact HT_rA
 rw [if_neg h] at c;rw [if_neg h, if_neg h];refine con_of_HTA Tryz.func175 ?_;simp only [Tryz.f175];refine HT_sA ?_;refine HT_scA [⟨false, .tup [.one (.c (.lit nilS)), li 0, li 4], none⟩] ?_ ?_
 · first | exact c _ | exact trivial | simpa [*] using c _
 refine HT_sA ?_;exact HT_rA
end Go.Proofs.YtfjidddhehckoaaGreat

namespace Go.Proofs.YtfjidddhehckoaaGreat
open Go Go.Hl
def risAt (l : List Int) (i : Nat) : Bool :=
 match l[i]?, l[i + 1]? with
 | some a, some b => decide (a < b)
 | _, _ => true
def risB (l : List Int) : Bool := (List.range l.length).all (risAt l)
theorem ris_bad {l : List Int} {i : Nat} (hi : i < l.length) (h : risAt l i = false) : risB l = false := by
 unfold risB;rw [List.all_eq_false];exact ⟨i, by simpa using hi, by simp [h]⟩
theorem ris_good {l : List Int} (h : ∀ i : Nat, i + 1 < l.length → risAt l i = true) : risB l = true := by
 unfold risB;rw [List.all_eq_true];intro i hi;simp only [List.mem_range] at hi;by_cases h2 : i + 1 < l.length
 · exact h i h2
 unfold risAt;rw [List.getElem?_eq_none (i := i + 1) (by omega)];cases l[i]? <;> rfl
theorem get_I {l : List Int} {k : Nat} (h : k < l.length) : ∃ b, l[k]? = some b := ⟨l[k], by simp [h]⟩
theorem risingP_con (l : List Int) (hl : l.length ≤ 1000000000) (d : Nat) : Con Tryz.prog 196 true [lI l] (.v (lb (risB l))) none d := by
 refine con_of_HTA Tryz.func196 ?_;simp only [Tryz.f196];refine HT_sA ?_;refine HT_seq <| HT_seq <| HT_runA ?_;refine HT_block <| (HT_loopU [0, 5] (fun (x : Nat) => [(6, .v (li x))]) (fun x => []) (fun x => x ≤ l.length ∧ ∀ j : Nat, j + 1 < x → risAt l j = true) (fun x => l.length - x) (0 : Nat) ⟨Nat.zero_le _, fun j hj => absurd hj (by omega)⟩ ?_ ?_)
 · exact le_mkA (fun n => n) []
 rintro k ⟨hk, hJ⟩;simp only [upS, keepS, insS]
 try simp only [keepS, KN, Nat.reduceBEq, if_true, if_false, ins, Nat.reduceLT]
 refine HT_sA ?_;refine HT_seq <| (HT_cond rfl (fun h4 => HT_skip ?_) (fun h4 => ?_))
 · (try simp only[BN]at h4);have hlt : k < l.length := by omega
   obtain ⟨b, hb⟩ := get_I hlt;have hw := wrap1 hlt hl;have hk1 : k + 1 ≤ l.length := hlt;have hk9 : k ≤ 1000000000 := by omega
   clear hlt h4;refine HT_seq <| HT_block <| HT_seq <| HT_runA ?_;rcases k with _ | j
   · have hw1 : IntKind.i64.wrap 1 = 1 := wrap_in (by omega) (by omega);refine HT_seq <| (HT_drun (by kernel_rfl) (by kernel_rfl) (by rfl) (by simp [*]; rfl) ?_);refine (HT_cs rfl (fun h7 => ?_) fun h7 => ?_)
     · exact absurd h7 (by simp)
     (try simp only[BN]at h7);refine HT_runA ?_;exact ⟨1, ⟨hk1, fun j hj => absurd hj (by omega)⟩, by omega, le_mkA (fun n => n) []⟩
   have hw1 : IntKind.i64.wrap ((j : Int) + 1 + 1) = (j : Int) + 1 + 1 := wrap_in (by omega) (by omega);obtain ⟨a, ha⟩ := get_I (show j < l.length by omega);have hwj : IntKind.i64.wrap (j : Int) = j := wrap_in (by omega) (by omega);have hri : risAt l j = decide (a < b) := by unfold risAt; rw [ha, hb]
   have hj0 : (0 : Int) < (j : Int) + 1 := by omega
   have hj1 : 0 ≤ (j : Int) + 1 := by omega
   have hj2 : ((j : Int) + 1).toNat = j + 1 := by omega
   refine HT_seq <| (HT_drun (by kernel_rfl) (by kernel_rfl) (by rfl) (by simp [*]; rfl) ?_);refine (HT_cs rfl (fun h7 => ?_) fun h7 => ?_)
   · (try simp only[BN]at h7);have hz : risB l = false := ris_bad (i := j) (by omega) (by rw [hri]; simpa using h7);refine HT_sA ?_;exact HT_rA
   (try simp only[BN]at h7);refine HT_runA ?_
   exact ⟨j + 1 + 1, ⟨hk1, fun i hi => by
    rcases Nat.lt_or_eq_of_le (Nat.le_of_lt_succ hi) with h | h
    · exact hJ i (by omega)
    have : i = j := by omega
    rw [this, hri]
    simpa using h7⟩, by omega, le_mkA (fun n => n) []⟩
 (try simp only[BN]at h4);have hz : risB l = true := ris_good fun i hi => hJ i (by omega);refine (HT_exit ?_);refine HT_sA ?_;exact HT_rA
def head0 (l : List Int) : Bool :=
 match l[0]? with
 | some b => decide (0 ≤ b)
 | none => false
def riseB (l : List Int) : Bool := (decide (1 ≤ l.length) && (decide (l.length ≤ 32) && head0 l)) && risB l
theorem nil_or (l : List Int) : l = [] ∨ ∃ b0, l[0]? = some b0 := by
 cases l with
 | nil => exact .inl rfl
 | cons b r => exact .inr ⟨b, rfl⟩
theorem risingR_con (l : List Int) (hl : l.length ≤ 1000000000) (d : Nat) : Con Tryz.prog 125 true [lI l] (.v (lb (riseB l))) none d := by
 obtain ⟨res, hres⟩ : ∃ r, riseB l = r := ⟨_, rfl⟩;rw [hres];refine con_of_HTA Tryz.func125 ?_;simp only [Tryz.f125];refine HT_sA ?_;rcases nil_or l with h0 | ⟨b0, hb0⟩
 · subst h0;replace hres : false = res := hres;refine HT_seq <| HT_seq <| HT_runA ?_;refine (HT_cs rfl (fun h2 => ?_) fun h2 => ?_)
   · (try simp only[BN]at h2);subst hres;refine HT_sA ?_;exact HT_rA
   exact absurd h2 (by simp)
 have hh : head0 l = decide (0 ≤ b0) := by unfold head0; rw [hb0]
 have hpos : 1 ≤ l.length := (List.getElem?_eq_some_iff.1 hb0).1;refine HT_seq <| HT_seq <| HT_runA ?_;refine (HT_cs rfl (fun h2 => ?_) fun h2 => ?_)
 · try simp only[BN]at h2
   have hz : riseB l = false := by
    unfold riseB;rw [hh];simp only [Bool.and_eq_false_iff, decide_eq_false_iff_not];omega
   rw [hz] at hres;subst hres;refine HT_sA ?_;exact HT_rA
 try simp only[BN]at h2
 have hz : riseB l = risB l := by
  unfold riseB;rw [hh];rw [decide_eq_true (by omega), decide_eq_true (by omega), decide_eq_true (by omega)];rfl
 rw [hz] at hres;have hl32 : l.length ≤ 32 := by omega
 clear hz hh h2 hb0;refine HT_seq <| HT_seq <| HT_runA ?_;refine HT_block <| (HT_loopU [0] (fun (x : Nat) => [(3, .v (li ((x : Int) + 1)))]) (fun x => []) (fun x => x + 1 ≤ l.length ∧ ∀ j : Nat, j < x → risAt l j = true) (fun x => l.length - x) (0 : Nat) ⟨hpos, fun j hj => absurd hj (Nat.not_lt_zero j)⟩ ?_ ?_)
 · exact le_mkA (fun n => n) []
 rintro k ⟨hk, hJ⟩;simp only [upS, keepS, insS]
 try simp only [keepS, KN, Nat.reduceBEq, if_true, if_false, ins, Nat.reduceLT]
 refine HT_seq <| HT_seq <| HT_runA ?_;refine (HT_cond rfl (fun h8 => HT_skip ?_) (fun h8 => ?_))
 · (try simp only[BN]at h8);have hlt : k + 1 < l.length := by omega
   obtain ⟨b, hb⟩ := get_I hlt;obtain ⟨a, ha⟩ := get_I (show k < l.length by omega);have hw : IntKind.i64.wrap ((k : Int) + 1 + 1) = (k : Int) + 1 + 1 := wrap_in (by omega) (by omega);have hwj : IntKind.i64.wrap (k : Int) = k := wrap_in (by omega) (by omega);have hri : risAt l k = decide (a < b) := by unfold risAt; rw [ha, hb]
   have hj1 : 0 ≤ (k : Int) + 1 := by omega
   have hj2 : ((k : Int) + 1).toNat = k + 1 := by omega
   have hk1 : k + 1 + 1 ≤ l.length := hlt;clear hlt h8;refine HT_seq <| HT_block <| HT_seq <| (HT_drun (by kernel_rfl) (by kernel_rfl) (by rfl) (by simp [*]; rfl) ?_);refine (HT_cs rfl (fun h10 => ?_) fun h10 => ?_)
   · (try simp only[BN]at h10);have hz : risB l = false := ris_bad (i := k) (by omega) (by rw [hri]; simpa using h10);refine HT_sA ?_;exact HT_rA
   (try simp only[BN]at h10);refine HT_runA ?_
   exact ⟨k + 1, ⟨hk1, fun i hi => by
    rcases Nat.lt_or_eq_of_le (Nat.le_of_lt_succ hi) with h | h
    · exact hJ i h
    rw [h, hri]
    simpa using h10⟩, by omega, le_mkA (fun n => n) []⟩
 (try simp only[BN]at h8);have hz : risB l = true := ris_good fun i hi => hJ i (by omega);refine (HT_exit ?_);refine HT_sA ?_;exact HT_rA
end Go.Proofs.YtfjidddhehckoaaGreat

namespace Go.Proofs.YtfjidddhehckoaaGreat
open Go Go.Hl
theorem at_con (l : List Int) (i : Nat) (d : Nat) : Con Tryz.prog 72 true [lI l, li i] (.tup [li ((l[i]?).getD 0), lb (decide (i < l.length))]) none d := by
 obtain ⟨A, hA⟩ : ∃ x, (l[i]?).getD 0 = x := ⟨_, rfl⟩;obtain ⟨B, hB⟩ : ∃ x, decide (i < l.length) = x := ⟨_, rfl⟩;rw [hA, hB];refine con_of_HTA Tryz.func72 ?_;simp only [Tryz.f72];refine HT_sA ?_;refine HT_seq <| HT_seq <| HT_runA ?_;refine (HT_cs rfl (fun h2 => ?_) fun h2 => ?_)
 · (try simp only[BN]at h2);have h3 : ¬ i < l.length := by omega
   rw [List.getElem?_eq_none (by omega)] at hA;rw [decide_eq_false h3] at hB;simp only [Option.getD_none] at hA;subst hA hB;refine HT_sA ?_;exact HT_rA
 (try simp only[BN]at h2);have h3 : i < l.length := by omega
 obtain ⟨x, hx⟩ := get_I h3;rw [hx] at hA;rw [decide_eq_true h3] at hB;simp only [Option.getD_some] at hA;subst hA hB;clear h3;refine HT_sA ?_;exact HT_rA
def stlL : List Int → Int → Int → Bool → Int
 | [], _, best, _ => best
 | b :: l, t, best, found => if t ≤ b ∧ (found = false ∨ b < best) then stlL l t b true else stlL l t best found
theorem settled_con (bs : List Int) (t : Int) (hl : bs.length ≤ 1000000000) (d : Nat) : Con Tryz.prog 76 true [lI bs, li t] (.v (li (stlL bs t t false))) none d := by
 obtain ⟨res, hres⟩ : ∃ r, stlL bs t t false = r := ⟨_, rfl⟩;rw [hres];refine con_of_HTA Tryz.func76 ?_;simp only [Tryz.f76];refine HT_sA ?_;refine HT_sA ?_;refine HT_seq <| HT_seq <| HT_runA ?_;refine HT_block <| (HT_loopU [0, 1] (fun (x : Nat × Int × Bool) => [(5, .v (li x.2.1)), (6, .v (lb x.2.2)), (7, .v (li x.1))]) (fun x => []) (fun x => x.1 ≤ bs.length ∧ stlL (bs.drop x.1) t x.2.1 x.2.2 = res) (fun x => bs.length - x.1) (0, t, false) ⟨Nat.zero_le _, hres⟩ ?_ ?_)
 · exact le_mkA (fun n => n) []
 rintro ⟨k, best, found⟩ ⟨hk, hJ⟩;simp only [upS, keepS, insS]
 try simp only [keepS, KN, Nat.reduceBEq, if_true, if_false, ins, Nat.reduceLT]
 simp only at hk hJ;clear hres;refine HT_seq <| HT_seq <| HT_runA ?_;refine (HT_cond rfl (fun h5 => HT_skip ?_) (fun h5 => ?_))
 · (try simp only[BN]at h5);have hlt : k < bs.length := by omega
   obtain ⟨b, he, hd⟩ := at_lt hlt;have hw1 := wrap1 hlt (by omega);have hk1 : k + 1 ≤ bs.length := hlt;rw [hd] at hJ;simp only [stlL] at hJ;clear hlt h5 hd;refine HT_seq <| HT_block <| HT_seq <| HT_runA ?_;refine (HT_cs rfl (fun h7 => ?_) fun h7 => ?_)
   · (try simp only[BN]at h7);rw [if_pos (by simpa using h7)] at hJ;refine HT_runA ?_;refine HT_runA ?_;exact ⟨(k + 1, b, true), ⟨hk1, hJ⟩, by simp only; omega, le_mkA (fun n => n) []⟩
   (try simp only[BN]at h7);have h7' : b < t ∨ found = true ∧ best ≤ b := by simpa using h7
   rw [if_neg (by
       rintro ⟨ha, hb⟩;rcases h7' with h | h
       · omega
       rcases hb with hb | hb
       · rw [hb] at h; exact absurd h.1 (by decide)
       omega)] at hJ
   clear h7';refine HT_runA ?_;exact ⟨(k + 1, best, found), ⟨hk1, hJ⟩, by simp only; omega, le_mkA (fun n => n) []⟩
 (try simp only[BN]at h5);have hkl : k = bs.length := by omega
 rw [hkl, List.drop_length] at hJ;simp only [stlL] at hJ;subst hJ;refine (HT_exit ?_);refine HT_sA ?_;exact HT_rA
def hvals (vs : List Int) (l : List Ht) : List Int := l.map fun h => heldI (vT vs h.term) h.low h.high
theorem hvals_con (f : Fl) (vs : List Int) (hvs : vs.length = f.vars.length) (hh : f.hats.length ≤ 1000000) (hf : ∀ h ∈ f.hats, formB f.vars true h.term = true) (d : Nat) :
  Con Tryz.prog 40 false [aF f, lI vs] (.v (lI (hvals vs f.hats))) none d := by
 obtain ⟨vars, hats, body⟩ := f;simp only at hvs hh hf ⊢;have hv0 : hvals vs [] = [] := rfl;refine con_of_HTA Tryz.func40 ?_;simp only [Tryz.f40];simp only [aF, Fl.enc, List.map_cons, List.map_nil];refine HT_sA ?_;refine HT_sA ?_;refine HT_seq <| HT_seq <| HT_runA ?_;refine HT_block <| (HT_loopU [1, 2] (fun (x : Nat) => [(5, .v (.one (.own 1005))), (6, .v (li x))]) (fun x => [(2, .box [.c (.sl 5 (encVs vars)), .c (.sl 6 (encHs hats)), .c (.sl 10 (encSs body))]), (1005, .row 3 1 (encIs (hvals vs (hats.take x))))]) (fun x => x ≤ hats.length) (fun x => hats.length - x) (0 : Nat) (Nat.zero_le _) ?_ ?_)
 · exact le_mkA (fun n => if n = 1005 then 8 else n) []
 rintro k hk;simp only [upS, keepS, insS]
 try simp only [keepS, KN, Nat.reduceBEq, if_true, if_false, ins, Nat.reduceLT]
 refine HT_seq <| HT_seq <| HT_runA ?_;refine (HT_cond rfl (fun h5 => HT_skip ?_) (fun h5 => ?_))
 · (try simp only[BN]at h5);have hlt : k < hats.length := by omega
   obtain ⟨h, he, hd⟩ := at_lt hlt;have hw1 := wrap1 hlt (by omega);have hk1 : k + 1 ≤ hats.length := hlt;have htl : (hvals vs (hats.take k)).length = k := by unfold hvals; rw [List.length_map, List.length_take]; omega
   have hroom : room (k + 1) 8 := room_of (by omega) (by omega);have cv := value_con vars true vs hvs h.term (hf h (List.mem_of_getElem? he))
   have hsn : encIs (hvals vs (hats.take (k + 1))) = encIs (hvals vs (hats.take k)) ++ [[iC (heldI (vT vs h.term) h.low h.high)]] := by
    rw [take_snoc he];simp [hvals, encIs]
   obtain ⟨nm, lo, hi, ⟨o, tn, ks⟩⟩ := h;simp only at cv hsn;obtain ⟨A, hA⟩ : ∃ x, vT vs (.mk o tn ks) = x := ⟨_, rfl⟩;have ch := held_con A lo hi;obtain ⟨H, hH⟩ : ∃ x, heldI A lo hi = x := ⟨_, rfl⟩;rw [hA, hH] at hsn;rw [hA] at cv;rw [hH] at ch;simp only [aT, Tm.enc, List.map_cons, List.map_nil] at cv;clear hlt h5 hd hA hH;refine HT_seq <| HT_block <| HT_seq <| HT_runA ?_;refine (HT_drunc [⟨true, .v (li A), none⟩, ⟨true, .v (li H), none⟩] (by kernel_rfl) (by kernel_rfl) (by rfl) (by simp [*]; first | exact ⟨rfl, Iff.rfl⟩ | exact ⟨rfl, trivial⟩ | rfl) ?_ ?_)
   · first | exact ⟨cv _, ch _⟩ | exact trivial | (repeat' first | exact trivial | exact cv _ | exact ch _ | apply And.intro)
   refine HT_runA ?_;exact ⟨k + 1, hk1, by omega, le_mkA (fun n => if n = 1005 then 32 else n) []⟩
 (try simp only[BN]at h5);have hkl : k = hats.length := by omega
 subst hkl;simp only [List.take_length];refine (HT_exit ?_);refine HT_sA ?_;exact HT_ret ⟨.inr rfl, _, le_frz 1005 rfl, ⟨⟨_, by simp; rfl, by simp [resR]⟩, by simp, fun h => by cases h⟩⟩
theorem encI_set (l : List Int) (i : Nat) (x : Int) : encIs (l.set i x) = (encIs l).set i [iC x] := by simp [encIs, List.map_set]
theorem set_con (f : Fl) (vs : List Int) (v n : Int) (w : Vr) (hvs : vs.length = f.vars.length) (hl : f.vars.length ≤ 1000000) (h0 : 0 ≤ v) (hw : f.vars[v.toNat]? = some w) (d : Nat) :
  Con Tryz.prog 74 false [aF f, lI vs, li v, li n] (.v (lI (vs.set v.toNat (heldI n w.low w.high)))) none d := by
 obtain ⟨vars, hats, body⟩ := f;simp only at hvs hl hw;have hlt : v.toNat < vars.length := (List.getElem?_eq_some_iff.1 hw).1;have hroom : room vars.length 8 := room_of (by omega) (by omega);obtain ⟨x, hx⟩ : ∃ x, vs[v.toNat]? = some x := ⟨vs[v.toNat]'(by omega), by simp⟩;have ch := held_con n w.low w.high;obtain ⟨nm, kd, lo, hi, ini⟩ := w;simp only at ch ⊢;obtain ⟨H, hH⟩ : ∃ x, heldI n lo hi = x := ⟨_, rfl⟩;rw [hH] at ch ⊢;have hes := encI_set vs v.toNat H;clear hlt hH;refine con_of_HTA Tryz.func74 ?_;simp only [Tryz.f74];simp only [aF, Fl.enc, List.map_cons, List.map_nil];refine HT_sA ?_;refine HT_sA ?_;refine HT_seq <| (HT_drunc [⟨true, .v (li H), none⟩] (by kernel_rfl) (by kernel_rfl) (by rfl) (by simp [*]; first | exact ⟨rfl, Iff.rfl⟩ | exact ⟨rfl, trivial⟩ | rfl) ?_ ?_)
 · first | exact ch _ | exact trivial | simpa [*] using ch _
 refine HT_sA ?_;exact HT_ret ⟨.inr rfl, _, le_frz 12 rfl, ⟨⟨_, by simp; rfl, by simp [resR, hes]⟩, by simp, fun h => by cases h⟩⟩
end Go.Proofs.YtfjidddhehckoaaGreat

namespace Go.Proofs.YtfjidddhehckoaaGreat
open Go Go.Hl Go.RowKit
inductive CWk : CV → CV → Prop where
 | refl (x : CV) : CWk x x
 | nil (s : Nat) : CWk (.c (.lit nilS)) (.c (.sl s []))
inductive LWk : List CV → List CV → Prop where
 | nil : LWk [] []
 | cons {x y : CV} {l m : List CV} : CWk x y → LWk l m → LWk (x :: l) (y :: m)
theorem CWk.rel {F : Nat → Prop} {γ : Nat → Value} {w : World} {x y : CV} (h : CWk x y) {v : Value} (hr : CVRel F γ w x v) : CVRel F γ w y v := by
 cases h with
 | refl => exact hr
 | nil s =>
   have : v = nilS := RVRel.lit_eq (γ := γ) (F := F) (w := w) (r := .v (.one (.c (.lit nilS)))) rfl hr;rw [this];exact CRel.nil s
theorem LWk.len {l m : List CV} (h : LWk l m) : m.length = l.length := by
 induction h with
 | nil => rfl
 | cons _ _ ih => simp [ih]
theorem LWk.get {l m : List CV} (h : LWk l m) : ∀ (j : Nat) y, m[j]? = some y → ∃ x, l[j]? = some x ∧ CWk x y := by
 induction h with
 | nil => simp
 | cons hc _ ih =>
   intro j y hj;cases j with
   | zero => cases hj; exact ⟨_, rfl, hc⟩
   | succ j => exact ih j y hj
theorem LWk.rel {F : Nat → Prop} {γ : Nat → Value} {w : World} {l m : List CV} (h : LWk l m) {vs : Array Value} (hr : cellsRel F γ w l vs) : cellsRel F γ w m vs := by
 refine ⟨hr.1.trans h.len.symm, fun j y u hy hu => ?_⟩;obtain ⟨x, hx, hc⟩ := h.get j y hy;exact hc.rel (hr.2 j x u hx hu)
theorem le_reg {s : HS} (k : Nat) {r r' : RV} (hl : lkp s.regs k = some r) (hw : ∀ (F : Nat → Prop) (γ : Nat → Value) (w : World) v, RVRel F γ w r v → RVRel F γ w r' v) : le s { s with regs := ins k r' s.regs } := by
 intro w0 B π F γ a w hr;refine ⟨F, γ, fun _ h => h, fun _ h => .inl h, hr.heap, hr.defers, hr.nt, fun j x hj => ?_⟩;rw [look_ins] at hj;split at hj
 · rename_i e;cases hj;subst e;exact hw _ _ _ _ (hr.regs j r hl)
 exact hr.regs j x hj
theorem le_agg {s : HS} (k : Nat) {xs : List CV} (ys : List CV) (hl : lkp s.regs k = some (.v (.agg xs))) (h : LWk xs ys) : le s { s with regs := ins k (.v (.agg ys)) s.regs } := by
 refine le_reg k hl fun F γ w v hv => ?_;obtain ⟨vs, rfl, hc⟩ := hv;exact ⟨vs, rfl, h.rel hc⟩
theorem le_one {s : HS} (k sz : Nat) (hl : lkp s.regs k = some (.v (.one (.c (.lit nilS))))) : le s { s with regs := ins k (.v (.one (.c (.sl sz [])))) s.regs } :=
 le_reg k hl fun F γ w v hv => CWk.rel (γ := γ) (CWk.nil sz) hv
theorem le_emp {s : HS} (k sz : Nat) {a : Addr} {cap : Nat} (hl : lkp s.regs k = some (.v (.one (.c (.lit (.slice (some a) 0 cap)))))) : le s { s with regs := ins k (.v (.one (.c (.sl sz [])))) s.regs } := by
 refine le_reg k hl fun F γ w v hv => ?_;have : v = .slice (some a) 0 cap := RVRel.lit_eq rfl hv;rw [this];exact CRel.emp sz a cap
theorem le_box {s : HS} (n : Nat) {xs : List CV} (ys : List CV) (hl : lkp s.objs n = some (.box xs)) (h : LWk xs ys) : le s { s with objs := ins n (.box ys) s.objs } := by
 intro w0 B π F γ a w hr
 have hlk : ∀ m o, lkp (ins n (.box ys) s.objs) m = some o → (m = n ∧ o = .box ys) ∨ (m ≠ n ∧ lkp s.objs m = some o) := by
  intro m o hm;rw [look_ins] at hm;split at hm
  · rename_i e; cases hm; exact .inl ⟨e, rfl⟩
  rename_i e; exact .inr ⟨e, hm⟩
 have hex : ∀ m o, lkp (ins n (.box ys) s.objs) m = some o → ∃ o', lkp s.objs m = some o' := by
  intro m o hm;rcases hlk m o hm with ⟨rfl, _⟩ | ⟨_, h2⟩
  · exact ⟨_, hl⟩
  exact ⟨_, h2⟩
 refine ⟨F, γ, fun _ h => h, fun _ h => .inl h, ⟨hr.heap.below, hr.heap.hB, hr.heap.fsz, fun m o hm => ?_, fun m o hm => ?_, fun m k om ok hm hk hne => ?_, hr.heap.pin⟩, hr.defers, hr.nt, hr.regs⟩
 · rcases hlk m o hm with ⟨rfl, rfl⟩ | ⟨_, h2⟩
   · obtain ⟨b, e, vs, hx, hB, hh, hc⟩ := hr.heap.ob m _ hl;exact ⟨b, e, vs, hx, hB, hh, h.rel hc⟩
   exact hr.heap.ob m o h2
 · obtain ⟨o', ho'⟩ := hex m o hm;exact hr.heap.apart m o' ho'
 obtain ⟨o1, h1⟩ := hex m om hm;obtain ⟨o2, h2⟩ := hex k ok hk;exact hr.heap.sep m k o1 o2 h1 h2 hne
theorem le_name {s : HS} (t n d : Nat) {e : TypeId} {sz : Nat} {rows : List (List CD)} (hl : opd s.regs (.tmp t) = .v (.one (.own n))) (ho : lkp s.objs n = some (.row e sz rows)) (hd : d < 1000000) :
  le s ⟨s.nt, [(t, .v (.one (.own d)))], [(d, .row e sz rows)]⟩ := by
 have hp : pinR (fun _ => n) d = n := by unfold pinR; rw [if_neg (by omega)]
 refine le_mk (fun _ => n) [] rfl ?_ ?_ ?_
 · refine ⟨⟨rfl, ?_⟩, trivial⟩;rw [hl];simp only [RV.ren, TV.ren, CV.ren, hp, List.contains_nil, Bool.false_eq_true, if_false]
 · simp only [allL, List.contains_nil, Bool.false_eq_true, if_false, Ob.okNil, hp, ho, Ob.ren, and_self]
 simp only [allL, true_or, and_self]
theorem le_nameN {s : HS} (t d : Nat) (e : TypeId) (sz : Nat) (hl : opd s.regs (.tmp t) = .v (.one (.c (.lit nilS)))) (hs : 0 < sz) (hd : d < 1000000) :
  le s ⟨s.nt, [(t, .v (.one (.own d)))], [(d, .row e sz [])]⟩ := by
 refine le_mk (fun n => n) [d] rfl ?_ ?_ ?_ (by simpa using hd)
 · refine ⟨⟨by simp [RV.okNil, TV.okNil, CV.okNil], ?_⟩, trivial⟩;rw [hl];simp [RV.ren, TV.ren, CV.ren]
 · simp [allL, hs]
 simp [allL]
theorem con_emp {P : Program} {f : FuncId} {fresh : Bool} {r : RV} {ob : Option Ob} {d s : Nat} (h1 : Con P f fresh [.one (.c (.lit nilS))] r ob d) (h2 : ∀ a cap, Con P f fresh [.one (.c (.lit (.slice (some a) 0 cap)))] r ob d) : Con P f fresh [.one (.c (.sl s []))] r ob d := by
 refine ⟨h1.1, fun F w vs hF hsz hargs => ?_⟩;have hv : ∃ u, vs[0]? = some u := ⟨vs[0]'(by rw [hsz]; simp), by simp [hsz]⟩;obtain ⟨u, hu⟩ := hv;have hr : CRel F w (.sl s []) u := hargs 0 _ u rfl hu
 have go : ∀ (v : Value), u = v → Con P f fresh [.one (.c (.lit v))] r ob d → _ := fun v hv hc => hc.2 F w vs hF (by simpa using hsz) fun j t u' ht hu' => by
  cases j with
  | zero =>
    cases ht;rw [hu] at hu';cases hu';subst hv;exact CRel.lit u
  | succ j => cases ht
 rcases CRel.sl_inv hr with ⟨_, hv | ⟨a, cap, hv⟩⟩ | ⟨b, o, cap, cells, hv, _⟩
 · exact go _ hv h1
 · exact go _ hv (h2 a cap)
 exact go _ hv (h2 _ cap)
end Go.Proofs.YtfjidddhehckoaaGreat
