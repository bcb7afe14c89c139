/- Part 3: contracts of functions of the program and of the reference, and plain facts about what they compute; used by the proof of the claimed statement. Conditions: as each theorem states. -/
import Derived.Test.YtfilidjbpomgoaaGreatR2
set_option linter.unusedSimpArgs false
set_option linter.unusedVariables false
set_option linter.unnecessarySimpa false
set_option maxRecDepth 100000
set_option maxHeartbeats 2000000
namespace Go.Proofs.YtfilidjbpomgoaaGreat
open Go Go.Hl

/-! ## values of terms: as the machine computes them -/
abbrev wr (x : Int) : Int := IntKind.i64.wrap x
def flagI (b : Bool) : Int := if b = true then 1 else 0
def divI (a b : Int) : Int :=
  if b = 0 then 0 else if (!decide (a.tmod b = 0) && (decide (a < 0) != decide (b < 0))) = true then wr (wr (a.tdiv b) - 1) else wr (a.tdiv b)
def modI (a b : Int) : Int := if b = 0 then 0 else wr (a - wr (b * divI a b))
def binI (o a b : Int) : Int :=
  if o = 8 then wr (a + b) else if o = 9 then wr (a - b) else if o = 10 then wr (a * b) else if o = 11 then divI a b else if o = 12 then modI a b
  else if o = 13 then flagI (decide (a = b)) else if o = 14 then flagI (!decide (a = b)) else if o = 15 then flagI (decide (a < b)) else if o = 16 then flagI (decide (a ≤ b))
  else if o = 17 then flagI (decide (b < a)) else if o = 18 then flagI (decide (b ≤ a)) else if o = 19 then flagI (!decide (a = 0) && !decide (b = 0))
  else if o = 20 then flagI (!decide (a = 0) || !decide (b = 0)) else if o = 21 then mn a b else mx a b
theorem flag_con (b : Bool) (d : Nat) : Con Tryz.prog 118 true [lb b] (.v (li (flagI b))) none d := by
  refine con_of_HT Tryz.func118 rfl (by kernel_rfl) (Nat.le_of_ble_eq_true rfl) ?_
  simp only [Tryz.f118]
  refine HT_seq <| (HT_run (by simp [*]; rfl) ?_)
  refine HT_seq <| HT_seq <| (HT_run (by simp [*]; rfl) ?_)
  refine (HT_cond rfl (fun h2 => ?_) (fun h2 => HT_skip ?_))
  · try simp only [Bool.or_eq_true, Bool.and_eq_true, Bool.or_eq_false_iff, Bool.and_eq_false_iff, Bool.not_eq_true', Bool.not_eq_false', decide_eq_true_eq, decide_eq_false_iff_not] at h2
    refine HT_seq <| (HT_run (by simp [*]; rfl) ?_)
    exact (HT_retE (fun h => ⟨.inr rfl, h⟩) _ (by simp [*]; rfl) (by first | rfl | (simp [*, flagI]; done) | (simp only [resR, flagI]; (repeat' split) <;> first | rfl | (exfalso; omega) | simp_all)) (by simp))
  · try simp only [Bool.or_eq_true, Bool.and_eq_true, Bool.or_eq_false_iff, Bool.and_eq_false_iff, Bool.not_eq_true', Bool.not_eq_false', decide_eq_true_eq, decide_eq_false_iff_not] at h2
    refine HT_seq <| (HT_run (by simp [*]; rfl) ?_)
    exact (HT_retE (fun h => ⟨.inr rfl, h⟩) _ (by simp [*]; rfl) (by first | rfl | (simp [*, flagI]; done) | (simp only [resR, flagI]; (repeat' split) <;> first | rfl | (exfalso; omega) | simp_all)) (by simp))
theorem div_con (a b : Int) (d : Nat) : Con Tryz.prog 124 true [li a, li b] (.v (li (divI a b))) none d := by
  obtain ⟨res, hres⟩ : ∃ r, divI a b = r := ⟨_, rfl⟩
  rw [hres]
  unfold divI at hres
  refine con_of_HT Tryz.func124 rfl (by kernel_rfl) (Nat.le_of_ble_eq_true rfl) ?_
  simp only [Tryz.f124]
  refine HT_seq <| (HT_run (by simp [*]; rfl) ?_)
  refine HT_seq <| HT_seq <| (HT_run (by simp [*]; rfl) ?_)
  refine (HT_cond rfl (fun h2 => ?_) (fun h2 => HT_skip ?_))
  · try simp only [Bool.or_eq_true, Bool.and_eq_true, Bool.or_eq_false_iff, Bool.and_eq_false_iff, Bool.not_eq_true', Bool.not_eq_false', decide_eq_true_eq, decide_eq_false_iff_not] at h2
    rw [if_pos h2] at hres
    subst hres
    refine HT_seq <| (HT_run (by simp [*]; rfl) ?_)
    exact (HT_retE (fun h => ⟨.inr rfl, h⟩) _ (by simp [*]; rfl) (by first | rfl | (simp [*]; done) | (simp only [resR]; (repeat' split) <;> first | rfl | (exfalso; omega) | simp_all)) (by simp))
  · try simp only [Bool.or_eq_true, Bool.and_eq_true, Bool.or_eq_false_iff, Bool.and_eq_false_iff, Bool.not_eq_true', Bool.not_eq_false', decide_eq_true_eq, decide_eq_false_iff_not] at h2
    rw [if_neg h2] at hres
    refine HT_seq <| (HT_run (by simp [*]; rfl) ?_)
    refine HT_seq <| HT_seq <| (HT_run (by simp [*]; rfl) ?_)
    refine (HT_cond rfl (fun h7 => ?_) (fun h7 => HT_skip ?_))
    · try simp only [Bool.or_eq_true, Bool.and_eq_true, Bool.or_eq_false_iff, Bool.and_eq_false_iff, Bool.not_eq_true', Bool.not_eq_false', decide_eq_true_eq, decide_eq_false_iff_not] at h7
      rw [if_pos (by simpa using h7)] at hres
      subst hres
      refine (HT_run (by simp [*]; rfl) ?_)
      refine HT_seq <| (HT_run (by simp [*]; rfl) ?_)
      exact (HT_retE (fun h => ⟨.inr rfl, h⟩) _ (by simp [*]; rfl) (by first | rfl | (simp [*]; done) | (simp only [resR]; (repeat' split) <;> first | rfl | (exfalso; omega) | simp_all)) (by simp))
    · try simp only [Bool.or_eq_true, Bool.and_eq_true, Bool.or_eq_false_iff, Bool.and_eq_false_iff, Bool.not_eq_true', Bool.not_eq_false', decide_eq_true_eq, decide_eq_false_iff_not] at h7
      rw [if_neg (by
          simp only [Bool.and_eq_true, Bool.not_eq_true', decide_eq_false_iff_not, bne_iff_ne, ne_eq, decide_eq_decide, not_and, Decidable.not_not]
          intro h
          rcases h7 with h7 | h7
          · exact absurd h7 h
          · simpa using h7)] at hres
      subst hres
      refine HT_seq <| (HT_run (by simp [*]; rfl) ?_)
      exact (HT_retE (fun h => ⟨.inr rfl, h⟩) _ (by simp [*]; rfl) (by first | rfl | (simp [*]; done) | (simp only [resR]; (repeat' split) <;> first | rfl | (exfalso; omega) | simp_all)) (by simp))
theorem mod_con (a b : Int) (d : Nat) : Con Tryz.prog 125 true [li a, li b] (.v (li (modI a b))) none d := by
  obtain ⟨res, hres⟩ : ∃ r, modI a b = r := ⟨_, rfl⟩
  rw [hres]
  unfold modI at hres
  refine con_of_HT Tryz.func125 rfl (by kernel_rfl) (Nat.le_of_ble_eq_true rfl) ?_
  simp only [Tryz.f125]
  refine HT_seq <| (HT_run (by simp [*]; rfl) ?_)
  refine HT_seq <| HT_seq <| (HT_run (by simp [*]; rfl) ?_)
  refine (HT_cond rfl (fun h2 => ?_) (fun h2 => HT_skip ?_))
  · try simp only [Bool.or_eq_true, Bool.and_eq_true, Bool.or_eq_false_iff, Bool.and_eq_false_iff, Bool.not_eq_true', Bool.not_eq_false', decide_eq_true_eq, decide_eq_false_iff_not] at h2
    rw [if_pos h2] at hres
    subst hres
    refine HT_seq <| (HT_run (by simp [*]; rfl) ?_)
    exact (HT_retE (fun h => ⟨.inr rfl, h⟩) _ (by simp [*]; rfl) (by first | rfl | (simp [*]; done) | (simp only [resR]; (repeat' split) <;> first | rfl | (exfalso; omega) | simp_all)) (by simp))
  · try simp only [Bool.or_eq_true, Bool.and_eq_true, Bool.or_eq_false_iff, Bool.and_eq_false_iff, Bool.not_eq_true', Bool.not_eq_false', decide_eq_true_eq, decide_eq_false_iff_not] at h2
    rw [if_neg h2] at hres
    subst hres
    refine HT_seq <| (HT_runc [⟨true, .v (li (divI a b)), none⟩] (by simp [*]; first | exact ⟨rfl, Iff.rfl⟩ | exact ⟨rfl, trivial⟩ | rfl) ?_ ?_)
    · first | exact div_con _ _ _ | exact trivial | simpa [*] using div_con _ _ _
    exact (HT_retE (fun h => ⟨.inr rfl, h⟩) _ (by simp [*]; rfl) (by first | rfl | (simp [*]; done) | (simp only [resR]; (repeat' split) <;> first | rfl | (exfalso; omega) | simp_all)) (by simp))
theorem bin_con (o a b : Int) (d : Nat) : Con Tryz.prog 119 true [li o, li a, li b] (.v (li (binI o a b))) none d := by
  obtain ⟨res, hres⟩ : ∃ r, binI o a b = r := ⟨_, rfl⟩
  rw [hres]
  unfold binI at hres
  refine con_of_HT Tryz.func119 rfl (by kernel_rfl) (Nat.le_of_ble_eq_true rfl) ?_
  simp only [Tryz.f119]
  refine HT_seq <| (HT_run (by simp [*]; rfl) ?_)
  refine HT_seq <| HT_seq <| (HT_run (by simp [*]; rfl) ?_)
  refine HT_block <| HT_seq <| (HT_run (by simp [*]; rfl) ?_)
  refine (HT_cond rfl (fun h3 => ?_) (fun h3 => ?_))
  · try simp only [Bool.or_eq_true, Bool.and_eq_true, Bool.or_eq_false_iff, Bool.and_eq_false_iff, Bool.not_eq_true', Bool.not_eq_false', decide_eq_true_eq, decide_eq_false_iff_not] at h3
    rw [if_pos h3] at hres
    subst hres
    refine HT_seq <| (HT_run (by simp [*]; rfl) ?_)
    exact (HT_retE (fun h => ⟨.inr rfl, h⟩) _ (by simp [*]; rfl) (by first | rfl | (simp [*]; done) | (simp only [resR]; (repeat' split) <;> first | rfl | (exfalso; omega) | simp_all)) (by simp))
  · try simp only [Bool.or_eq_true, Bool.and_eq_true, Bool.or_eq_false_iff, Bool.and_eq_false_iff, Bool.not_eq_true', Bool.not_eq_false', decide_eq_true_eq, decide_eq_false_iff_not] at h3
    rw [if_neg h3] at hres
    refine HT_seq <| (HT_run (by simp [*]; rfl) ?_)
    refine (HT_cond rfl (fun h7 => ?_) (fun h7 => ?_))
    · try simp only [Bool.or_eq_true, Bool.and_eq_true, Bool.or_eq_false_iff, Bool.and_eq_false_iff, Bool.not_eq_true', Bool.not_eq_false', decide_eq_true_eq, decide_eq_false_iff_not] at h7
      rw [if_pos h7] at hres
      subst hres
      refine HT_seq <| (HT_run (by simp [*]; rfl) ?_)
      exact (HT_retE (fun h => ⟨.inr rfl, h⟩) _ (by simp [*]; rfl) (by first | rfl | (simp [*]; done) | (simp only [resR]; (repeat' split) <;> first | rfl | (exfalso; omega) | simp_all)) (by simp))
    · try simp only [Bool.or_eq_true, Bool.and_eq_true, Bool.or_eq_false_iff, Bool.and_eq_false_iff, Bool.not_eq_true', Bool.not_eq_false', decide_eq_true_eq, decide_eq_false_iff_not] at h7
      rw [if_neg h7] at hres
      refine HT_seq <| (HT_run (by simp [*]; rfl) ?_)
      refine (HT_cond rfl (fun h11 => ?_) (fun h11 => ?_))
      · try simp only [Bool.or_eq_true, Bool.and_eq_true, Bool.or_eq_false_iff, Bool.and_eq_false_iff, Bool.not_eq_true', Bool.not_eq_false', decide_eq_true_eq, decide_eq_false_iff_not] at h11
        rw [if_pos h11] at hres
        subst hres
        refine HT_seq <| (HT_run (by simp [*]; rfl) ?_)
        exact (HT_retE (fun h => ⟨.inr rfl, h⟩) _ (by simp [*]; rfl) (by first | rfl | (simp [*]; done) | (simp only [resR]; (repeat' split) <;> first | rfl | (exfalso; omega) | simp_all)) (by simp))
      · try simp only [Bool.or_eq_true, Bool.and_eq_true, Bool.or_eq_false_iff, Bool.and_eq_false_iff, Bool.not_eq_true', Bool.not_eq_false', decide_eq_true_eq, decide_eq_false_iff_not] at h11
        rw [if_neg h11] at hres
        refine HT_seq <| (HT_run (by simp [*]; rfl) ?_)
        refine (HT_cond rfl (fun h15 => ?_) (fun h15 => ?_))
        · try simp only [Bool.or_eq_true, Bool.and_eq_true, Bool.or_eq_false_iff, Bool.and_eq_false_iff, Bool.not_eq_true', Bool.not_eq_false', decide_eq_true_eq, decide_eq_false_iff_not] at h15
          rw [if_pos h15] at hres
          subst hres
          refine HT_seq <| (HT_runc [⟨true, .v (li (divI a b)), none⟩] (by simp [*]; first | exact ⟨rfl, Iff.rfl⟩ | exact ⟨rfl, trivial⟩ | rfl) ?_ ?_)
          · first | exact div_con _ _ _ | exact trivial | simpa [*] using div_con _ _ _
          exact (HT_retE (fun h => ⟨.inr rfl, h⟩) _ (by simp [*]; rfl) (by first | rfl | (simp [*]; done) | (simp only [resR]; (repeat' split) <;> first | rfl | (exfalso; omega) | simp_all)) (by simp))
        · try simp only [Bool.or_eq_true, Bool.and_eq_true, Bool.or_eq_false_iff, Bool.and_eq_false_iff, Bool.not_eq_true', Bool.not_eq_false', decide_eq_true_eq, decide_eq_false_iff_not] at h15
          rw [if_neg h15] at hres
          refine HT_seq <| (HT_run (by simp [*]; rfl) ?_)
          refine (HT_cond rfl (fun h19 => ?_) (fun h19 => ?_))
          · try simp only [Bool.or_eq_true, Bool.and_eq_true, Bool.or_eq_false_iff, Bool.and_eq_false_iff, Bool.not_eq_true', Bool.not_eq_false', decide_eq_true_eq, decide_eq_false_iff_not] at h19
            rw [if_pos h19] at hres
            subst hres
            refine HT_seq <| (HT_runc [⟨true, .v (li (modI a b)), none⟩] (by simp [*]; first | exact ⟨rfl, Iff.rfl⟩ | exact ⟨rfl, trivial⟩ | rfl) ?_ ?_)
            · first | exact mod_con _ _ _ | exact trivial | simpa [*] using mod_con _ _ _
            exact (HT_retE (fun h => ⟨.inr rfl, h⟩) _ (by simp [*]; rfl) (by first | rfl | (simp [*]; done) | (simp only [resR]; (repeat' split) <;> first | rfl | (exfalso; omega) | simp_all)) (by simp))
          · try simp only [Bool.or_eq_true, Bool.and_eq_true, Bool.or_eq_false_iff, Bool.and_eq_false_iff, Bool.not_eq_true', Bool.not_eq_false', decide_eq_true_eq, decide_eq_false_iff_not] at h19
            rw [if_neg h19] at hres
            refine HT_seq <| (HT_run (by simp [*]; rfl) ?_)
            refine (HT_cond rfl (fun h23 => ?_) (fun h23 => ?_))
            · try simp only [Bool.or_eq_true, Bool.and_eq_true, Bool.or_eq_false_iff, Bool.and_eq_false_iff, Bool.not_eq_true', Bool.not_eq_false', decide_eq_true_eq, decide_eq_false_iff_not] at h23
              rw [if_pos h23] at hres
              subst hres
              refine HT_seq <| (HT_runc [⟨true, .v (li (flagI (decide (a = b)))), none⟩] (by simp [*]; first | exact ⟨rfl, Iff.rfl⟩ | exact ⟨rfl, trivial⟩ | rfl) ?_ ?_)
              · first | exact flag_con _ _ | exact trivial | simpa [*] using flag_con _ _
              exact (HT_retE (fun h => ⟨.inr rfl, h⟩) _ (by simp [*]; rfl) (by first | rfl | (simp [*]; done) | (simp only [resR]; (repeat' split) <;> first | rfl | (exfalso; omega) | simp_all)) (by simp))
            · try simp only [Bool.or_eq_true, Bool.and_eq_true, Bool.or_eq_false_iff, Bool.and_eq_false_iff, Bool.not_eq_true', Bool.not_eq_false', decide_eq_true_eq, decide_eq_false_iff_not] at h23
              rw [if_neg h23] at hres
              refine HT_seq <| (HT_run (by simp [*]; rfl) ?_)
              refine (HT_cond rfl (fun h27 => ?_) (fun h27 => ?_))
              · try simp only [Bool.or_eq_true, Bool.and_eq_true, Bool.or_eq_false_iff, Bool.and_eq_false_iff, Bool.not_eq_true', Bool.not_eq_false', decide_eq_true_eq, decide_eq_false_iff_not] at h27
                rw [if_pos h27] at hres
                subst hres
                refine HT_seq <| (HT_runc [⟨true, .v (li (flagI (!decide (a = b)))), none⟩] (by simp [*]; first | exact ⟨rfl, Iff.rfl⟩ | exact ⟨rfl, trivial⟩ | rfl) ?_ ?_)
                · first | exact flag_con _ _ | exact trivial | simpa [*] using flag_con _ _
                exact (HT_retE (fun h => ⟨.inr rfl, h⟩) _ (by simp [*]; rfl) (by first | rfl | (simp [*]; done) | (simp only [resR]; (repeat' split) <;> first | rfl | (exfalso; omega) | simp_all)) (by simp))
              · try simp only [Bool.or_eq_true, Bool.and_eq_true, Bool.or_eq_false_iff, Bool.and_eq_false_iff, Bool.not_eq_true', Bool.not_eq_false', decide_eq_true_eq, decide_eq_false_iff_not] at h27
                rw [if_neg h27] at hres
                refine HT_seq <| (HT_run (by simp [*]; rfl) ?_)
                refine (HT_cond rfl (fun h31 => ?_) (fun h31 => ?_))
                · try simp only [Bool.or_eq_true, Bool.and_eq_true, Bool.or_eq_false_iff, Bool.and_eq_false_iff, Bool.not_eq_true', Bool.not_eq_false', decide_eq_true_eq, decide_eq_false_iff_not] at h31
                  rw [if_pos h31] at hres
                  subst hres
                  refine HT_seq <| (HT_runc [⟨true, .v (li (flagI (decide (a < b)))), none⟩] (by simp [*]; first | exact ⟨rfl, Iff.rfl⟩ | exact ⟨rfl, trivial⟩ | rfl) ?_ ?_)
                  · first | exact flag_con _ _ | exact trivial | simpa [*] using flag_con _ _
                  exact (HT_retE (fun h => ⟨.inr rfl, h⟩) _ (by simp [*]; rfl) (by first | rfl | (simp [*]; done) | (simp only [resR]; (repeat' split) <;> first | rfl | (exfalso; omega) | simp_all)) (by simp))
                · try simp only [Bool.or_eq_true, Bool.and_eq_true, Bool.or_eq_false_iff, Bool.and_eq_false_iff, Bool.not_eq_true', Bool.not_eq_false', decide_eq_true_eq, decide_eq_false_iff_not] at h31
                  rw [if_neg h31] at hres
                  refine HT_seq <| (HT_run (by simp [*]; rfl) ?_)
                  refine (HT_cond rfl (fun h35 => ?_) (fun h35 => ?_))
                  · try simp only [Bool.or_eq_true, Bool.and_eq_true, Bool.or_eq_false_iff, Bool.and_eq_false_iff, Bool.not_eq_true', Bool.not_eq_false', decide_eq_true_eq, decide_eq_false_iff_not] at h35
                    rw [if_pos h35] at hres
                    subst hres
                    refine HT_seq <| (HT_runc [⟨true, .v (li (flagI (decide (a ≤ b)))), none⟩] (by simp [*]; first | exact ⟨rfl, Iff.rfl⟩ | exact ⟨rfl, trivial⟩ | rfl) ?_ ?_)
                    · first | exact flag_con _ _ | exact trivial | simpa [*] using flag_con _ _
                    exact (HT_retE (fun h => ⟨.inr rfl, h⟩) _ (by simp [*]; rfl) (by first | rfl | (simp [*]; done) | (simp only [resR]; (repeat' split) <;> first | rfl | (exfalso; omega) | simp_all)) (by simp))
                  · try simp only [Bool.or_eq_true, Bool.and_eq_true, Bool.or_eq_false_iff, Bool.and_eq_false_iff, Bool.not_eq_true', Bool.not_eq_false', decide_eq_true_eq, decide_eq_false_iff_not] at h35
                    rw [if_neg h35] at hres
                    refine HT_seq <| (HT_run (by simp [*]; rfl) ?_)
                    refine (HT_cond rfl (fun h39 => ?_) (fun h39 => ?_))
                    · try simp only [Bool.or_eq_true, Bool.and_eq_true, Bool.or_eq_false_iff, Bool.and_eq_false_iff, Bool.not_eq_true', Bool.not_eq_false', decide_eq_true_eq, decide_eq_false_iff_not] at h39
                      rw [if_pos h39] at hres
                      subst hres
                      refine HT_seq <| (HT_runc [⟨true, .v (li (flagI (decide (b < a)))), none⟩] (by simp [*]; first | exact ⟨rfl, Iff.rfl⟩ | exact ⟨rfl, trivial⟩ | rfl) ?_ ?_)
                      · first | exact flag_con _ _ | exact trivial | simpa [*] using flag_con _ _
                      exact (HT_retE (fun h => ⟨.inr rfl, h⟩) _ (by simp [*]; rfl) (by first | rfl | (simp [*]; done) | (simp only [resR]; (repeat' split) <;> first | rfl | (exfalso; omega) | simp_all)) (by simp))
                    · try simp only [Bool.or_eq_true, Bool.and_eq_true, Bool.or_eq_false_iff, Bool.and_eq_false_iff, Bool.not_eq_true', Bool.not_eq_false', decide_eq_true_eq, decide_eq_false_iff_not] at h39
                      rw [if_neg h39] at hres
                      refine HT_seq <| (HT_run (by simp [*]; rfl) ?_)
                      refine (HT_cond rfl (fun h43 => ?_) (fun h43 => ?_))
                      · try simp only [Bool.or_eq_true, Bool.and_eq_true, Bool.or_eq_false_iff, Bool.and_eq_false_iff, Bool.not_eq_true', Bool.not_eq_false', decide_eq_true_eq, decide_eq_false_iff_not] at h43
                        rw [if_pos h43] at hres
                        subst hres
                        refine HT_seq <| (HT_runc [⟨true, .v (li (flagI (decide (b ≤ a)))), none⟩] (by simp [*]; first | exact ⟨rfl, Iff.rfl⟩ | exact ⟨rfl, trivial⟩ | rfl) ?_ ?_)
                        · first | exact flag_con _ _ | exact trivial | simpa [*] using flag_con _ _
                        exact (HT_retE (fun h => ⟨.inr rfl, h⟩) _ (by simp [*]; rfl) (by first | rfl | (simp [*]; done) | (simp only [resR]; (repeat' split) <;> first | rfl | (exfalso; omega) | simp_all)) (by simp))
                      · try simp only [Bool.or_eq_true, Bool.and_eq_true, Bool.or_eq_false_iff, Bool.and_eq_false_iff, Bool.not_eq_true', Bool.not_eq_false', decide_eq_true_eq, decide_eq_false_iff_not] at h43
                        rw [if_neg h43] at hres
                        refine HT_seq <| (HT_run (by simp [*]; rfl) ?_)
                        refine (HT_cond rfl (fun h47 => ?_) (fun h47 => ?_))
                        · try simp only [Bool.or_eq_true, Bool.and_eq_true, Bool.or_eq_false_iff, Bool.and_eq_false_iff, Bool.not_eq_true', Bool.not_eq_false', decide_eq_true_eq, decide_eq_false_iff_not] at h47
                          rw [if_pos h47] at hres
                          subst hres
                          refine HT_seq <| (HT_runc [⟨true, .v (li (flagI (!decide (a = 0) && !decide (b = 0)))), none⟩] (by simp [*]; first | exact ⟨rfl, Iff.rfl⟩ | exact ⟨rfl, trivial⟩ | rfl) ?_ ?_)
                          · first | exact flag_con _ _ | exact trivial | simpa [*] using flag_con _ _
                          exact (HT_retE (fun h => ⟨.inr rfl, h⟩) _ (by simp [*]; rfl) (by first | rfl | (simp [*]; done) | (simp only [resR]; (repeat' split) <;> first | rfl | (exfalso; omega) | simp_all)) (by simp))
                        · try simp only [Bool.or_eq_true, Bool.and_eq_true, Bool.or_eq_false_iff, Bool.and_eq_false_iff, Bool.not_eq_true', Bool.not_eq_false', decide_eq_true_eq, decide_eq_false_iff_not] at h47
                          rw [if_neg h47] at hres
                          refine HT_seq <| (HT_run (by simp [*]; rfl) ?_)
                          refine (HT_cond rfl (fun h51 => ?_) (fun h51 => ?_))
                          · try simp only [Bool.or_eq_true, Bool.and_eq_true, Bool.or_eq_false_iff, Bool.and_eq_false_iff, Bool.not_eq_true', Bool.not_eq_false', decide_eq_true_eq, decide_eq_false_iff_not] at h51
                            rw [if_pos h51] at hres
                            subst hres
                            refine HT_seq <| (HT_runc [⟨true, .v (li (flagI (!decide (a = 0) || !decide (b = 0)))), none⟩] (by simp [*]; first | exact ⟨rfl, Iff.rfl⟩ | exact ⟨rfl, trivial⟩ | rfl) ?_ ?_)
                            · first | exact flag_con _ _ | exact trivial | simpa [*] using flag_con _ _
                            exact (HT_retE (fun h => ⟨.inr rfl, h⟩) _ (by simp [*]; rfl) (by first | rfl | (simp [*]; done) | (simp only [resR]; (repeat' split) <;> first | rfl | (exfalso; omega) | simp_all)) (by simp))
                          · try simp only [Bool.or_eq_true, Bool.and_eq_true, Bool.or_eq_false_iff, Bool.and_eq_false_iff, Bool.not_eq_true', Bool.not_eq_false', decide_eq_true_eq, decide_eq_false_iff_not] at h51
                            rw [if_neg h51] at hres
                            refine HT_seq <| (HT_run (by simp [*]; rfl) ?_)
                            refine (HT_cond rfl (fun h55 => ?_) (fun h55 => HT_skip ?_))
                            · try simp only [Bool.or_eq_true, Bool.and_eq_true, Bool.or_eq_false_iff, Bool.and_eq_false_iff, Bool.not_eq_true', Bool.not_eq_false', decide_eq_true_eq, decide_eq_false_iff_not] at h55
                              rw [if_pos h55] at hres
                              subst hres
                              refine HT_seq <| (HT_runc [⟨true, .v (li (mn a b)), none⟩] (by simp [*]; first | exact ⟨rfl, Iff.rfl⟩ | exact ⟨rfl, trivial⟩ | rfl) ?_ ?_)
                              · first | exact least_con _ _ _ | exact trivial | simpa [*] using least_con _ _ _
                              exact (HT_retE (fun h => ⟨.inr rfl, h⟩) _ (by simp [*]; rfl) (by first | rfl | (simp [*]; done) | (simp only [resR]; (repeat' split) <;> first | rfl | (exfalso; omega) | simp_all)) (by simp))
                            · try simp only [Bool.or_eq_true, Bool.and_eq_true, Bool.or_eq_false_iff, Bool.and_eq_false_iff, Bool.not_eq_true', Bool.not_eq_false', decide_eq_true_eq, decide_eq_false_iff_not] at h55
                              rw [if_neg h55] at hres
                              subst hres
                              refine HT_seq <| (HT_runc [⟨true, .v (li (mx a b)), none⟩] (by simp [*]; first | exact ⟨rfl, Iff.rfl⟩ | exact ⟨rfl, trivial⟩ | rfl) ?_ ?_)
                              · first | exact most_con _ _ _ | exact trivial | simpa [*] using most_con _ _ _
                              exact (HT_retE (fun h => ⟨.inr rfl, h⟩) _ (by simp [*]; rfl) (by first | rfl | (simp [*]; done) | (simp only [resR]; (repeat' split) <;> first | rfl | (exfalso; omega) | simp_all)) (by simp))
end Go.Proofs.YtfilidjbpomgoaaGreat

namespace Go.Proofs.YtfilidjbpomgoaaGreat
open Go Go.Hl

theorem take_encP (k : List (Int × Int)) (i : Nat) : (encPs k).take i = encPs (k.take i) := by simp [encPs]
theorem takeM {α β : Type} (f : α → β) (l : List α) : (l.map f).take l.length = l.map f := by
  rw [List.take_of_length_le (by simp)]
def modL (b : Int × Int) : Int := if b.1 < 0 then mn (b.1 + 1) 0 else 0
def modH (b : Int × Int) : Int := if 0 < b.2 then mx (b.2 - 1) 0 else 0
@[simp] def g2 (k : List (Int × Int)) (i : Nat) : Int × Int := k[i]?.getD ((0 : Int), (0 : Int))
def ruleP (vars : List Vr) (o n : Int) (k : List (Int × Int)) : Int × Int :=
  if o = 0 then (n, n) else if o = 24 then (match vars[n.toNat]? with | some v => (v.low, v.high) | none => (0, 0))
  else if o = 6 then (-(g2 k 0).2, -(g2 k 0).1)
  else if o = 8 then ((g2 k 0).1 + (g2 k 1).1, (g2 k 0).2 + (g2 k 1).2)
  else if o = 9 then ((g2 k 0).1 - (g2 k 1).2, (g2 k 0).2 - (g2 k 1).1)
  else if o = 10 then mulP (g2 k 0) (g2 k 1)
  else if o = 11 then (if 0 ≤ (g2 k 0).1 ∧ 0 ≤ (g2 k 1).1 then (0, mx (g2 k 0).2 (-(g2 k 0).1)) else (-(mx (g2 k 0).2 (-(g2 k 0).1)), mx (g2 k 0).2 (-(g2 k 0).1)))
  else if o = 12 then (modL (g2 k 1), modH (g2 k 1))
  else if o = 21 then (mn (g2 k 0).1 (g2 k 1).1, mn (g2 k 0).2 (g2 k 1).2)
  else if o = 22 then (mx (g2 k 0).1 (g2 k 1).1, mx (g2 k 0).2 (g2 k 1).2)
  else if o = 23 ∨ o = 25 then hullL (k.drop 2) (g2 k 1) else (0, 1)

theorem kid {k : List (Int × Int)} (hk : ∀ p ∈ k, bnd p) {i : Nat} (h : i + 1 ≤ k.length) : ∃ a1 a2, k[i]? = some (a1, a2) ∧ -1048576 ≤ a1 ∧ a1 ≤ a2 ∧ a2 ≤ 1048576 := by
  have : k[i]? = some k[i] := by simp [show i < k.length from h]
  have h2 := hk k[i] (List.getElem_mem _)
  exact ⟨k[i].1, k[i].2, this, h2⟩
theorem node_ar {vars : List Vr} {inp : Bool} {o n : Int} {len : Nat} (h : nodeB vars inp o n len = true) : 0 ≤ (kidsP o).1 ∧ (kidsP o).1 ≤ len ∧ (len : Int) ≤ (kidsP o).2 := by
  unfold nodeB at h
  simp only [Bool.and_eq_true, Bool.not_eq_true', decide_eq_false_iff_not] at h
  omega
theorem node_ref {vars : List Vr} {inp : Bool} {n : Int} {len : Nat} (h : nodeB vars inp 24 n len = true) : 0 ≤ n ∧ ∃ v, vars[n.toNat]? = some v ∧ (inp = true → v.kind ≠ 0) := by
  unfold nodeB refB at h
  simp only [Bool.and_eq_true, Int.reduceEq, if_false, if_true, decide_eq_true_eq] at h
  obtain ⟨_, h0, h⟩ := h
  refine ⟨h0, ?_⟩
  split at h
  · rename_i v hv
    refine ⟨v, hv, fun hi hk => ?_⟩
    simp [hi, hk] at h
  · cases h
theorem kids1 {o : Int} (h : o = 6 ∨ o = 7) : kidsP o = (1, 1) := by
  unfold kidsP; rw [if_neg (by omega), if_pos h]
theorem kids2 {o : Int} (h : 8 ≤ o ∧ o ≤ 22) : kidsP o = (2, 2) := by
  unfold kidsP; rw [if_neg (by omega), if_neg (by omega), if_pos h]
theorem kids3 : kidsP 23 = (3, 3) := by decide
theorem kids4 : kidsP 25 = (2, 33) := by decide

theorem rule_con (vars : List Vr) (inp : Bool) (o n : Int) (K : CD) (k : List (Int × Int)) (hf : nodeB vars inp o n k.length = true) (hk : ∀ p ∈ k, bnd p) (d : Nat) :
    Con Tryz.prog 122 true [lV vars, .agg [.c (iC o), .c (iC n), .c K], .one (.c (.sl 2 (encPs k)))] (.v (aP (ruleP vars o n k))) none d := by
  have har := node_ar hf
  have hrf : o = 24 → 0 ≤ n ∧ ∃ v, vars[n.toNat]? = some v ∧ (inp = true → v.kind ≠ 0) := fun h => node_ref (by rw [← h]; exact hf)
  clear hf
  have ar1 : o = 6 → 0 + 1 ≤ k.length := fun h => by have := kids1 (.inl h); rw [this] at har; simp only at har; omega
  have ar2 : 8 ≤ o ∧ o ≤ 22 → 0 + 1 ≤ k.length ∧ 1 + 1 ≤ k.length := fun h => by have := kids2 h; rw [this] at har; simp only at har; omega
  have ar3 : o = 23 ∨ o = 25 → 2 ≤ k.length ∧ k.length ≤ 33 := fun h => by
    rcases h with h | h
    · have := kids3; rw [h, this] at har; simp only at har; omega
    · have := kids4; rw [h, this] at har; simp only at har; omega
  clear har
  refine con_of_HT Tryz.func122 rfl (by kernel_rfl) (Nat.le_of_ble_eq_true rfl) ?_
  simp only [Tryz.f122]
  refine HT_seq <| (HT_run (by simp [*]; rfl) ?_)
  refine HT_seq <| HT_seq <| (HT_run (by simp [*]; rfl) ?_)
  refine HT_block <| HT_seq <| (HT_run (by simp [*]; rfl) ?_)
  refine (HT_cond rfl (fun h3 => ?_) (fun h3 => ?_))
  · try simp only [Bool.or_eq_true, Bool.and_eq_true, Bool.or_eq_false_iff, Bool.and_eq_false_iff, Bool.not_eq_true', Bool.not_eq_false', decide_eq_true_eq, decide_eq_false_iff_not] at h3
    refine HT_seq <| (HT_run (by simp [*]; rfl) ?_)
    exact (HT_retE (fun h => ⟨.inr rfl, h⟩) _ (by simp [*]; rfl) (by first | rfl | (simp [*, ruleP]; done) | (simp only [resR, ruleP]; (repeat' split) <;> first | rfl | (exfalso; omega) | simp_all)) (by simp))
  · try simp only [Bool.or_eq_true, Bool.and_eq_true, Bool.or_eq_false_iff, Bool.and_eq_false_iff, Bool.not_eq_true', Bool.not_eq_false', decide_eq_true_eq, decide_eq_false_iff_not] at h3
    refine HT_seq <| (HT_run (by simp [*]; rfl) ?_)
    refine (HT_cond rfl (fun h7 => ?_) (fun h7 => ?_))
    · try simp only [Bool.or_eq_true, Bool.and_eq_true, Bool.or_eq_false_iff, Bool.and_eq_false_iff, Bool.not_eq_true', Bool.not_eq_false', decide_eq_true_eq, decide_eq_false_iff_not] at h7
      obtain ⟨hn0, v, hv, _⟩ := hrf h7
      clear hrf
      refine HT_seq <| (HT_drun (by kernel_rfl) (by kernel_rfl) (by rfl) (by simp [*]; rfl) ?_)
      exact (HT_retE (fun h => ⟨.inr rfl, h⟩) _ (by simp [*]; rfl) (by first | rfl | (simp [*, ruleP]; done) | (simp only [resR, ruleP]; (repeat' split) <;> first | rfl | (exfalso; omega) | simp_all)) (by simp))
    · try simp only [Bool.or_eq_true, Bool.and_eq_true, Bool.or_eq_false_iff, Bool.and_eq_false_iff, Bool.not_eq_true', Bool.not_eq_false', decide_eq_true_eq, decide_eq_false_iff_not] at h7
      refine HT_seq <| (HT_run (by simp [*]; rfl) ?_)
      refine (HT_cond rfl (fun h11 => ?_) (fun h11 => ?_))
      · try simp only [Bool.or_eq_true, Bool.and_eq_true, Bool.or_eq_false_iff, Bool.and_eq_false_iff, Bool.not_eq_true', Bool.not_eq_false', decide_eq_true_eq, decide_eq_false_iff_not] at h11
        obtain ⟨a1, a2, ha, hb1, hb2, hb3⟩ := kid hk (ar1 h11)
        have hw1 : IntKind.i64.wrap (-a1) = -a1 := wrap_in (by omega) (by omega)
        have hw2 : IntKind.i64.wrap (-a2) = -a2 := wrap_in (by omega) (by omega)
        clear ar1 ar2 ar3
        refine HT_seq <| (HT_drun (by kernel_rfl) (by kernel_rfl) (by rfl) (by simp [*]; rfl) ?_)
        exact (HT_retE (fun h => ⟨.inr rfl, h⟩) _ (by simp [*]; rfl) (by first | rfl | (simp [*, ruleP]; done) | (simp only [resR, ruleP]; (repeat' split) <;> first | rfl | (exfalso; omega) | simp_all)) (by simp))
      · try simp only [Bool.or_eq_true, Bool.and_eq_true, Bool.or_eq_false_iff, Bool.and_eq_false_iff, Bool.not_eq_true', Bool.not_eq_false', decide_eq_true_eq, decide_eq_false_iff_not] at h11
        refine HT_seq <| (HT_run (by simp [*]; rfl) ?_)
        refine (HT_cond rfl (fun h15 => ?_) (fun h15 => ?_))
        · try simp only [Bool.or_eq_true, Bool.and_eq_true, Bool.or_eq_false_iff, Bool.and_eq_false_iff, Bool.not_eq_true', Bool.not_eq_false', decide_eq_true_eq, decide_eq_false_iff_not] at h15
          obtain ⟨a1, a2, ha, hb1, hb2, hb3⟩ := kid hk (ar2 (by omega)).1
          obtain ⟨c1, c2, hc, hc1, hc2, hc3⟩ := kid hk (ar2 (by omega)).2
          have hw1 : IntKind.i64.wrap (a1 + c1) = a1 + c1 := wrap_in (by omega) (by omega)
          have hw2 : IntKind.i64.wrap (a2 + c2) = a2 + c2 := wrap_in (by omega) (by omega)
          clear ar1 ar2 ar3
          refine HT_seq <| (HT_drun (by kernel_rfl) (by kernel_rfl) (by rfl) (by simp [*]; rfl) ?_)
          exact (HT_retE (fun h => ⟨.inr rfl, h⟩) _ (by simp [*]; rfl) (by first | rfl | (simp [*, ruleP]; done) | (simp only [resR, ruleP]; (repeat' split) <;> first | rfl | (exfalso; omega) | simp_all)) (by simp))
        · try simp only [Bool.or_eq_true, Bool.and_eq_true, Bool.or_eq_false_iff, Bool.and_eq_false_iff, Bool.not_eq_true', Bool.not_eq_false', decide_eq_true_eq, decide_eq_false_iff_not] at h15
          refine HT_seq <| (HT_run (by simp [*]; rfl) ?_)
          refine (HT_cond rfl (fun h19 => ?_) (fun h19 => ?_))
          · try simp only [Bool.or_eq_true, Bool.and_eq_true, Bool.or_eq_false_iff, Bool.and_eq_false_iff, Bool.not_eq_true', Bool.not_eq_false', decide_eq_true_eq, decide_eq_false_iff_not] at h19
            obtain ⟨a1, a2, ha, hb1, hb2, hb3⟩ := kid hk (ar2 (by omega)).1
            obtain ⟨c1, c2, hc, hc1, hc2, hc3⟩ := kid hk (ar2 (by omega)).2
            have hw1 : IntKind.i64.wrap (a1 - c2) = a1 - c2 := wrap_in (by omega) (by omega)
            have hw2 : IntKind.i64.wrap (a2 - c1) = a2 - c1 := wrap_in (by omega) (by omega)
            clear ar1 ar2 ar3
            refine HT_seq <| (HT_drun (by kernel_rfl) (by kernel_rfl) (by rfl) (by simp [*]; rfl) ?_)
            exact (HT_retE (fun h => ⟨.inr rfl, h⟩) _ (by simp [*]; rfl) (by first | rfl | (simp [*, ruleP]; done) | (simp only [resR, ruleP]; (repeat' split) <;> first | rfl | (exfalso; omega) | simp_all)) (by simp))
          · try simp only [Bool.or_eq_true, Bool.and_eq_true, Bool.or_eq_false_iff, Bool.and_eq_false_iff, Bool.not_eq_true', Bool.not_eq_false', decide_eq_true_eq, decide_eq_false_iff_not] at h19
            refine HT_seq <| (HT_run (by simp [*]; rfl) ?_)
            refine (HT_cond rfl (fun h23 => ?_) (fun h23 => ?_))
            · try simp only [Bool.or_eq_true, Bool.and_eq_true, Bool.or_eq_false_iff, Bool.and_eq_false_iff, Bool.not_eq_true', Bool.not_eq_false', decide_eq_true_eq, decide_eq_false_iff_not] at h23
              obtain ⟨a1, a2, ha, hb1, hb2, hb3⟩ := kid hk (ar2 (by omega)).1
              obtain ⟨c1, c2, hc, hc1, hc2, hc3⟩ := kid hk (ar2 (by omega)).2
              clear ar1 ar2 ar3
              refine HT_seq <| (HT_drunc [⟨true, .v (aP (mulP (a1, a2) (c1, c2))), none⟩] (by kernel_rfl) (by kernel_rfl) (by rfl) (by simp [*]; first | exact ⟨rfl, Iff.rfl⟩ | exact ⟨rfl, trivial⟩ | rfl) ?_ ?_)
              · first | exact corners_con (a1, a2) (c1, c2) ⟨hb1, hb2, hb3⟩ ⟨hc1, hc2, hc3⟩ _ | exact trivial | simpa [*] using corners_con (a1, a2) (c1, c2) ⟨hb1, hb2, hb3⟩ ⟨hc1, hc2, hc3⟩ _
              exact (HT_retE (fun h => ⟨.inr rfl, h⟩) _ (by simp [*]; rfl) (by first | rfl | (simp [*, ruleP]; done) | (simp only [resR, ruleP]; (repeat' split) <;> first | rfl | (exfalso; omega) | simp_all)) (by simp))
            · try simp only [Bool.or_eq_true, Bool.and_eq_true, Bool.or_eq_false_iff, Bool.and_eq_false_iff, Bool.not_eq_true', Bool.not_eq_false', decide_eq_true_eq, decide_eq_false_iff_not] at h23
              refine HT_seq <| (HT_run (by simp [*]; rfl) ?_)
              refine (HT_cond rfl (fun h27 => ?_) (fun h27 => ?_))
              · try simp only [Bool.or_eq_true, Bool.and_eq_true, Bool.or_eq_false_iff, Bool.and_eq_false_iff, Bool.not_eq_true', Bool.not_eq_false', decide_eq_true_eq, decide_eq_false_iff_not] at h27
                obtain ⟨a1, a2, ha, hb1, hb2, hb3⟩ := kid hk (ar2 (by omega)).1
                obtain ⟨c1, c2, hc, hc1, hc2, hc3⟩ := kid hk (ar2 (by omega)).2
                have hw1 : IntKind.i64.wrap (-a1) = -a1 := wrap_in (by omega) (by omega)
                have hm : -1048576 ≤ mx a2 (-a1) ∧ mx a2 (-a1) ≤ 1048576 := by unfold mx; split <;> omega
                have hw2 : IntKind.i64.wrap (-(mx a2 (-a1))) = -(mx a2 (-a1)) := wrap_in (by omega) (by omega)
                have hmx : (if a2 < -a1 then -a1 else a2) = mx a2 (-a1) := rfl
                clear ar1 ar2 ar3
                refine HT_seq <| (HT_drun (by kernel_rfl) (by kernel_rfl) (by rfl) (by simp [*]; rfl) ?_)
                refine HT_seq <| HT_seq <| (HT_run (by simp [*]; rfl) ?_)
                refine (HT_cond rfl (fun h30 => ?_) (fun h30 => HT_skip ?_))
                · try simp only [Bool.or_eq_true, Bool.and_eq_true, Bool.or_eq_false_iff, Bool.and_eq_false_iff, Bool.not_eq_true', Bool.not_eq_false', decide_eq_true_eq, decide_eq_false_iff_not] at h30
                  refine HT_seq <| (HT_run (by simp [*]; rfl) ?_)
                  exact (HT_retE (fun h => ⟨.inr rfl, h⟩) _ (by simp [*]; rfl) (by first | rfl | (simp [*, ruleP]; done) | (simp only [resR, ruleP]; (repeat' split) <;> first | rfl | (exfalso; omega) | simp_all)) (by simp))
                · try simp only [Bool.or_eq_true, Bool.and_eq_true, Bool.or_eq_false_iff, Bool.and_eq_false_iff, Bool.not_eq_true', Bool.not_eq_false', decide_eq_true_eq, decide_eq_false_iff_not] at h30
                  have hng : ¬ (0 ≤ a1 ∧ 0 ≤ c1) := by omega
                  refine HT_seq <| (HT_run (by simp [*]; rfl) ?_)
                  exact (HT_retE (fun h => ⟨.inr rfl, h⟩) _ (by simp [*]; rfl) (by first | rfl | (simp [*, ruleP]; done) | (simp only [resR, ruleP]; (repeat' split) <;> first | rfl | (exfalso; omega) | simp_all)) (by simp))
              · try simp only [Bool.or_eq_true, Bool.and_eq_true, Bool.or_eq_false_iff, Bool.and_eq_false_iff, Bool.not_eq_true', Bool.not_eq_false', decide_eq_true_eq, decide_eq_false_iff_not] at h27
                refine HT_seq <| (HT_run (by simp [*]; rfl) ?_)
                refine (HT_cond rfl (fun h36 => ?_) (fun h36 => ?_))
                · try simp only [Bool.or_eq_true, Bool.and_eq_true, Bool.or_eq_false_iff, Bool.and_eq_false_iff, Bool.not_eq_true', Bool.not_eq_false', decide_eq_true_eq, decide_eq_false_iff_not] at h36
                  obtain ⟨c1, c2, hc, hc1, hc2, hc3⟩ := kid hk (ar2 (by omega)).2
                  have hw1 : IntKind.i64.wrap (c1 + 1) = c1 + 1 := wrap_in (by omega) (by omega)
                  have hw2 : IntKind.i64.wrap (c2 - 1) = c2 - 1 := wrap_in (by omega) (by omega)
                  have hmn : (if 0 < c1 + 1 then 0 else c1 + 1) = mn (c1 + 1) 0 := rfl
                  have hmx : (if c2 - 1 < 0 then 0 else c2 - 1) = mx (c2 - 1) 0 := rfl
                  clear ar1 ar2 ar3
                  refine HT_seq <| (HT_run (by simp [*]; rfl) ?_)
                  refine (HT_cutU [2, 6, 8] (fun (z : Int) => []) (fun (z : Int) => [(6, .box [.c (iC 0), .c (iC 0)]), (8, .box [.c (iC z), .c (iC 0)])]) (fun (z : Int) => z = modL (c1, c2)) ?_ ?_)
                  ·
                    refine HT_seq <| (HT_run (by simp [*]; rfl) ?_)
                    refine (HT_cond rfl (fun h40 => ?_) (fun h40 => HT_skip ?_))
                    · try simp only [Bool.or_eq_true, Bool.and_eq_true, Bool.or_eq_false_iff, Bool.and_eq_false_iff, Bool.not_eq_true', Bool.not_eq_false', decide_eq_true_eq, decide_eq_false_iff_not] at h40
                      have hml : mn (c1 + 1) 0 = modL (c1, c2) := by simp only [modL]; rw [if_pos h40]
                      refine (HT_run (by simp [*]; rfl) ?_)
                      exact ⟨modL (c1, c2), rfl, le_mk (fun n => n) [] rfl (by simp [upS, keepS, *]) (by simp [*, upS]) (by simp [upS])⟩
                    · try simp only [Bool.or_eq_true, Bool.and_eq_true, Bool.or_eq_false_iff, Bool.and_eq_false_iff, Bool.not_eq_true', Bool.not_eq_false', decide_eq_true_eq, decide_eq_false_iff_not] at h40
                      have hml : (0 : Int) = modL (c1, c2) := by simp only [modL]; rw [if_neg h40]
                      exact ⟨modL (c1, c2), rfl, le_mk (fun n => n) [] rfl (by simp [upS, keepS, *]) (by simp [*, upS]) (by simp [upS])⟩
                  rintro _ rfl
                  simp only [upS, keepS, insS]
                  try simp only [keepS, List.contains_cons, List.contains_nil, Bool.or_false, Bool.or_true, Bool.true_or, Bool.false_or, Nat.reduceBEq, BEq.rfl, beq_self_eq_true, if_true, if_false, Bool.false_eq_true, ite_true, ite_false, ins, Nat.reduceLT]
                  refine HT_seq <| HT_seq <| (HT_run (by simp [*]; rfl) ?_)
                  refine (HT_cond rfl (fun h45 => ?_) (fun h45 => HT_skip ?_))
                  · try simp only [Bool.or_eq_true, Bool.and_eq_true, Bool.or_eq_false_iff, Bool.and_eq_false_iff, Bool.not_eq_true', Bool.not_eq_false', decide_eq_true_eq, decide_eq_false_iff_not] at h45
                    have hmh : mx (c2 - 1) 0 = modH (c1, c2) := by simp only [modH]; rw [if_pos h45]
                    refine (HT_run (by simp [*]; rfl) ?_)
                    refine HT_seq <| (HT_run (by simp [*]; rfl) ?_)
                    exact (HT_retE (fun h => ⟨.inr rfl, h⟩) _ (by simp [*]; rfl) (by first | rfl | (simp [*, ruleP]; done) | (simp only [resR, ruleP]; (repeat' split) <;> first | rfl | (exfalso; omega) | simp_all)) (by simp))
                  · try simp only [Bool.or_eq_true, Bool.and_eq_true, Bool.or_eq_false_iff, Bool.and_eq_false_iff, Bool.not_eq_true', Bool.not_eq_false', decide_eq_true_eq, decide_eq_false_iff_not] at h45
                    have hmh : modH (c1, c2) = 0 := by simp only [modH]; rw [if_neg h45]
                    refine HT_seq <| (HT_run (by simp [*]; rfl) ?_)
                    exact (HT_retE (fun h => ⟨.inr rfl, h⟩) _ (by simp [*]; rfl) (by first | rfl | (simp [*, ruleP]; done) | (simp only [resR, ruleP]; (repeat' split) <;> first | rfl | (exfalso; omega) | simp_all)) (by simp))
                · try simp only [Bool.or_eq_true, Bool.and_eq_true, Bool.or_eq_false_iff, Bool.and_eq_false_iff, Bool.not_eq_true', Bool.not_eq_false', decide_eq_true_eq, decide_eq_false_iff_not] at h36
                  refine HT_seq <| (HT_run (by simp [*]; rfl) ?_)
                  refine (HT_cond rfl (fun h52 => ?_) (fun h52 => ?_))
                  · try simp only [Bool.or_eq_true, Bool.and_eq_true, Bool.or_eq_false_iff, Bool.and_eq_false_iff, Bool.not_eq_true', Bool.not_eq_false', decide_eq_true_eq, decide_eq_false_iff_not] at h52
                    obtain ⟨a1, a2, ha, hb1, hb2, hb3⟩ := kid hk (ar2 (by omega)).1
                    obtain ⟨c1, c2, hc, hc1, hc2, hc3⟩ := kid hk (ar2 (by omega)).2
                    clear ar1 ar2 ar3
                    refine HT_seq <| (HT_drun (by kernel_rfl) (by kernel_rfl) (by rfl) (by simp [*]; rfl) ?_)
                    exact (HT_retE (fun h => ⟨.inr rfl, h⟩) _ (by simp [*]; rfl) (by simp [*, ruleP, resR, mn]) (by simp))
                  · try simp only [Bool.or_eq_true, Bool.and_eq_true, Bool.or_eq_false_iff, Bool.and_eq_false_iff, Bool.not_eq_true', Bool.not_eq_false', decide_eq_true_eq, decide_eq_false_iff_not] at h52
                    refine HT_seq <| (HT_run (by simp [*]; rfl) ?_)
                    refine (HT_cond rfl (fun h56 => ?_) (fun h56 => ?_))
                    · try simp only [Bool.or_eq_true, Bool.and_eq_true, Bool.or_eq_false_iff, Bool.and_eq_false_iff, Bool.not_eq_true', Bool.not_eq_false', decide_eq_true_eq, decide_eq_false_iff_not] at h56
                      obtain ⟨a1, a2, ha, hb1, hb2, hb3⟩ := kid hk (ar2 (by omega)).1
                      obtain ⟨c1, c2, hc, hc1, hc2, hc3⟩ := kid hk (ar2 (by omega)).2
                      clear ar1 ar2 ar3
                      refine HT_seq <| (HT_drun (by kernel_rfl) (by kernel_rfl) (by rfl) (by simp [*]; rfl) ?_)
                      exact (HT_retE (fun h => ⟨.inr rfl, h⟩) _ (by simp [*]; rfl) (by simp [*, ruleP, resR, mx]) (by simp))
                    · try simp only [Bool.or_eq_true, Bool.and_eq_true, Bool.or_eq_false_iff, Bool.and_eq_false_iff, Bool.not_eq_true', Bool.not_eq_false', decide_eq_true_eq, decide_eq_false_iff_not] at h56
                      refine (HT_cutU [2, 6] (fun (z : Bool) => [(200, .v (lb z))]) (fun (z : Bool) => [(6, .box [.c (iC 0), .c (iC 0)])]) (fun (z : Bool) => z = decide (o = 23 ∨ o = 25)) ?_ ?_)
                      ·
                        refine HT_seq <| (HT_run (by simp [*]; rfl) ?_)
                        refine (HT_cond rfl (fun h61 => HT_skip ?_) (fun h61 => ?_))
                        · try simp only [Bool.or_eq_true, Bool.and_eq_true, Bool.or_eq_false_iff, Bool.and_eq_false_iff, Bool.not_eq_true', Bool.not_eq_false', decide_eq_true_eq, decide_eq_false_iff_not] at h61
                          exact ⟨true, by simp [h61], le_mk (fun n => n) [] rfl (by simp [upS, keepS, *]) (by simp [*, upS]) (by simp [upS])⟩
                        · try simp only [Bool.or_eq_true, Bool.and_eq_true, Bool.or_eq_false_iff, Bool.and_eq_false_iff, Bool.not_eq_true', Bool.not_eq_false', decide_eq_true_eq, decide_eq_false_iff_not] at h61
                          refine (HT_run (by simp [*]; rfl) ?_)
                          exact ⟨decide (o = 25), by simp [h61], le_mk (fun n => n) [] rfl (by simp [upS, keepS, *]) (by simp [*, upS]) (by simp [upS])⟩
                      rintro z hz
                      simp only [upS, keepS, insS]
                      try simp only [keepS, List.contains_cons, List.contains_nil, Bool.or_false, Bool.or_true, Bool.true_or, Bool.false_or, Nat.reduceBEq, BEq.rfl, beq_self_eq_true, if_true, if_false, Bool.false_eq_true, ite_true, ite_false, ins, Nat.reduceLT]
                      subst hz
                      obtain ⟨res, hres⟩ : ∃ r, ruleP vars o n k = r := ⟨_, rfl⟩
                      rw [hres]
                      simp only [ruleP, h3, h7, h11, h15, h19, h23, h27, h36, h52, h56, if_false] at hres
                      refine (HT_cond rfl (fun h65 => ?_) (fun h65 => HT_skip ?_))
                      · try simp only [Bool.or_eq_true, Bool.and_eq_true, Bool.or_eq_false_iff, Bool.and_eq_false_iff, Bool.not_eq_true', Bool.not_eq_false', decide_eq_true_eq, decide_eq_false_iff_not] at h65
                        have h2 := ar3 h65
                        rw [if_pos h65] at hres
                        clear ar1 ar2 ar3 h65
                        rcases k with _ | ⟨a, _ | ⟨c, r⟩⟩
                        · simp at h2
                        · simp at h2
                        have hr33 : r.length ≤ 31 := by simp only [List.length_cons] at h2; omega
                        clear h2
                        simp at hres
                        refine HT_seq <| (HT_run (by simp [*, encPs]; rfl) ?_)
                        refine HT_seq <| HT_seq <| (HT_run (by simp [*, encPs, takeM]; rfl) ?_)
                        refine HT_block <| (HT_loopU [6, 9, 207, 208] (fun (x : Nat × Int × Int) => [(209, .v (li x.1))]) (fun (x : Nat × Int × Int) => [(6, .box [.c (iC 0), .c (iC 0)]), (9, .box [.c (iC x.2.1), .c (iC x.2.2)])]) (fun (x : Nat × Int × Int) => x.1 ≤ r.length ∧ hullL (r.drop x.1) x.2 = res) (fun (x : Nat × Int × Int) => r.length - x.1) (0, c) ⟨Nat.zero_le _, hres⟩ ?_ ?_)
                        · exact le_mk (fun n => n) [] rfl (by simp [*, upS, keepS]) (by simp [*, upS]) (by simp [upS])
                        rintro ⟨k, m, q⟩ ⟨hk', hJ⟩
                        simp only [upS, keepS, insS]
                        try simp only [keepS, List.contains_cons, List.contains_nil, Bool.or_false, Bool.or_true, Bool.true_or, Bool.false_or, Nat.reduceBEq, BEq.rfl, beq_self_eq_true, if_true, if_false, Bool.false_eq_true, ite_true, ite_false, ins, Nat.reduceLT]
                        simp only at hk' hJ
                        clear hres
                        refine HT_seq <| (HT_run (by simp [*]; rfl) ?_)
                        refine HT_seq <| (HT_cond rfl (fun h70 => HT_skip ?_) (fun h70 => ?_))
                        · try simp only [Bool.or_eq_true, Bool.and_eq_true, Bool.or_eq_false_iff, Bool.and_eq_false_iff, Bool.not_eq_true', Bool.not_eq_false', decide_eq_true_eq, decide_eq_false_iff_not] at h70
                          have hlt : k < r.length := by omega
                          obtain ⟨⟨e1, e2⟩, he, hd⟩ := at_lt hlt
                          have hw1 := wrap1 hlt (by omega)
                          rw [hd] at hJ
                          simp only [hullL] at hJ
                          have hk1 : k + 1 ≤ r.length := hlt
                          clear hlt h70
                          refine HT_seq <| HT_block <| HT_seq <| (HT_run (by simp [*]; rfl) ?_)
                          refine (HT_runc [⟨true, .v (aP (hullP (m, q) (e1, e2))), none⟩] (by simp [*]; first | exact ⟨rfl, Iff.rfl⟩ | exact ⟨rfl, trivial⟩ | rfl) ?_ ?_)
                          · first | exact hull_con (m, q) (e1, e2) _ | exact trivial | simpa [*] using hull_con (m, q) (e1, e2) _
                          refine (HT_run (by simp [*]; rfl) ?_)
                          exact ⟨(k + 1, hullP (m, q) (e1, e2)), ⟨hk1, hJ⟩, by simp only; omega, le_mk (fun n => n) [] rfl (by simp [upS, keepS, *]) (by simp [*, upS]) (by simp [upS])⟩
                        · try simp only [Bool.or_eq_true, Bool.and_eq_true, Bool.or_eq_false_iff, Bool.and_eq_false_iff, Bool.not_eq_true', Bool.not_eq_false', decide_eq_true_eq, decide_eq_false_iff_not] at h70
                          have hkl : k = r.length := by omega
                          rw [hkl, List.drop_length] at hJ
                          simp only [hullL] at hJ
                          refine (HT_exit ?_)
                          refine HT_seq <| (HT_run (by simp [*]; rfl) ?_)
                          exact (HT_retE (fun h => ⟨.inr rfl, h⟩) _ (by simp [*]; rfl) (by subst hJ; rfl) (by simp))
                      · try simp only [Bool.or_eq_true, Bool.and_eq_true, Bool.or_eq_false_iff, Bool.and_eq_false_iff, Bool.not_eq_true', Bool.not_eq_false', decide_eq_true_eq, decide_eq_false_iff_not] at h65
                        rw [if_neg h65] at hres
                        subst hres
                        refine HT_seq <| (HT_run (by simp [*]; rfl) ?_)
                        exact (HT_retE (fun h => ⟨.inr rfl, h⟩) _ (by simp [*]; rfl) (by first | rfl | (simp [*, ruleP]; done) | (simp only [resR, ruleP]; (repeat' split) <;> first | rfl | (exfalso; omega) | simp_all)) (by simp))
end Go.Proofs.YtfilidjbpomgoaaGreat
