/- T13: contracts of functions of the program and of the reference, and plain facts about what they compute; used by the proof of the claimed statement. Conditions: as each theorem states. -/
import Derived.Test.YtfilidjbpomgoaaGreatT3
import Derived.Test.YtfilidjbpomgoaaGreatT2
import Derived.Test.YtfilidjbpomgoaaGreatT5
import Derived.Test.YtfilidjbpomgoaaGreatT6
set_option linter.unusedSimpArgs false
set_option linter.unusedVariables false
set_option maxRecDepth 100000
set_option maxHeartbeats 2000000
namespace Go.Proofs.YtfilidjbpomgoaaGreat
open Go Go.Hl

/-! ## values of terms: as the machine computes them -/
abbrev wr (x : Int) : Int := IntKind.i64.wrap x
def flagI (b : Bool) : Int := if b = true then 1 else 0
def divI (a b : Int) : Int :=
  if b = 0 then 0 else if (!decide (a.tmod b = 0) && (decide (a < 0) != decide (b < 0))) = true then wr (wr (a.tdiv b) - 1) else wr (a.tdiv b)
def modI (a b : Int) : Int := if b = 0 then 0 else wr (a - wr (b * divI a b))
def binI (o a b : Int) : Int :=
  if o = 8 then wr (a + b) else if o = 9 then wr (a - b) else if o = 10 then wr (a * b) else if o = 11 then divI a b else if o = 12 then modI a b
  else if o = 13 then flagI (decide (a = b)) else if o = 14 then flagI (!decide (a = b)) else if o = 15 then flagI (decide (a < b)) else if o = 16 then flagI (decide (a ≤ b))
  else if o = 17 then flagI (decide (b < a)) else if o = 18 then flagI (decide (b ≤ a)) else if o = 19 then flagI (!decide (a = 0) && !decide (b = 0))
  else if o = 20 then flagI (!decide (a = 0) || !decide (b = 0)) else if o = 21 then mn a b else mx a b
theorem flag_con (b : Bool) (d : Nat) : Con Tryz.prog 118 true [lb b] (.v (li (flagI b))) none d := by
  refine con_of_HT Tryz.func118 rfl (by kernel_rfl) (Nat.le_of_ble_eq_true rfl) ?_
  simp only [Tryz.f118]
  refine HT_seq <| (HT_run (by simp [*]; rfl) ?_)
  refine HT_seq <| HT_seq <| (HT_run (by simp [*]; rfl) ?_)
  refine (HT_cond rfl (fun h2 => ?_) (fun h2 => HT_skip ?_))
  · try simp only [Bool.or_eq_true, Bool.and_eq_true, Bool.or_eq_false_iff, Bool.and_eq_false_iff, Bool.not_eq_true', Bool.not_eq_false', decide_eq_true_eq, decide_eq_false_iff_not] at h2
    refine HT_seq <| (HT_run (by simp [*]; rfl) ?_)
    exact (HT_retE (fun h => ⟨.inr rfl, h⟩) _ (by simp [*]; rfl) (by first | rfl | (simp [*, flagI]; done) | (simp only [resR, flagI]; (repeat' split) <;> first | rfl | (exfalso; omega) | simp_all)) (by simp))
  · try simp only [Bool.or_eq_true, Bool.and_eq_true, Bool.or_eq_false_iff, Bool.and_eq_false_iff, Bool.not_eq_true', Bool.not_eq_false', decide_eq_true_eq, decide_eq_false_iff_not] at h2
    refine HT_seq <| (HT_run (by simp [*]; rfl) ?_)
    exact (HT_retE (fun h => ⟨.inr rfl, h⟩) _ (by simp [*]; rfl) (by first | rfl | (simp [*, flagI]; done) | (simp only [resR, flagI]; (repeat' split) <;> first | rfl | (exfalso; omega) | simp_all)) (by simp))
theorem div_con (a b : Int) (d : Nat) : Con Tryz.prog 124 true [li a, li b] (.v (li (divI a b))) none d := by
  obtain ⟨res, hres⟩ : ∃ r, divI a b = r := ⟨_, rfl⟩
  rw [hres]
  unfold divI at hres
  refine con_of_HT Tryz.func124 rfl (by kernel_rfl) (Nat.le_of_ble_eq_true rfl) ?_
  simp only [Tryz.f124]
  refine HT_seq <| (HT_run (by simp [*]; rfl) ?_)
  refine HT_seq <| HT_seq <| (HT_run (by simp [*]; rfl) ?_)
  refine (HT_cond rfl (fun h2 => ?_) (fun h2 => HT_skip ?_))
  · try simp only [Bool.or_eq_true, Bool.and_eq_true, Bool.or_eq_false_iff, Bool.and_eq_false_iff, Bool.not_eq_true', Bool.not_eq_false', decide_eq_true_eq, decide_eq_false_iff_not] at h2
    rw [if_pos h2] at hres
    subst hres
    refine HT_seq <| (HT_run (by simp [*]; rfl) ?_)
    exact (HT_retE (fun h => ⟨.inr rfl, h⟩) _ (by simp [*]; rfl) (by first | rfl | (simp [*]; done) | (simp only [resR]; (repeat' split) <;> first | rfl | (exfalso; omega) | simp_all)) (by simp))
  · try simp only [Bool.or_eq_true, Bool.and_eq_true, Bool.or_eq_false_iff, Bool.and_eq_false_iff, Bool.not_eq_true', Bool.not_eq_false', decide_eq_true_eq, decide_eq_false_iff_not] at h2
    rw [if_neg h2] at hres
    refine HT_seq <| (HT_run (by simp [*]; rfl) ?_)
    refine HT_seq <| HT_seq <| (HT_run (by simp [*]; rfl) ?_)
    refine (HT_cond rfl (fun h7 => ?_) (fun h7 => HT_skip ?_))
    · try simp only [Bool.or_eq_true, Bool.and_eq_true, Bool.or_eq_false_iff, Bool.and_eq_false_iff, Bool.not_eq_true', Bool.not_eq_false', decide_eq_true_eq, decide_eq_false_iff_not] at h7
      rw [if_pos (by simpa using h7)] at hres
      subst hres
      refine (HT_run (by simp [*]; rfl) ?_)
      refine HT_seq <| (HT_run (by simp [*]; rfl) ?_)
      exact (HT_retE (fun h => ⟨.inr rfl, h⟩) _ (by simp [*]; rfl) (by first | rfl | (simp [*]; done) | (simp only [resR]; (repeat' split) <;> first | rfl | (exfalso; omega) | simp_all)) (by simp))
    · try simp only [Bool.or_eq_true, Bool.and_eq_true, Bool.or_eq_false_iff, Bool.and_eq_false_iff, Bool.not_eq_true', Bool.not_eq_false', decide_eq_true_eq, decide_eq_false_iff_not] at h7
      rw [if_neg (by
          simp only [Bool.and_eq_true, Bool.not_eq_true', decide_eq_false_iff_not, bne_iff_ne, ne_eq, decide_eq_decide, not_and, Decidable.not_not]
          intro h
          rcases h7 with h7 | h7
          · exact absurd h7 h
          · simpa using h7)] at hres
      subst hres
      refine HT_seq <| (HT_run (by simp [*]; rfl) ?_)
      exact (HT_retE (fun h => ⟨.inr rfl, h⟩) _ (by simp [*]; rfl) (by first | rfl | (simp [*]; done) | (simp only [resR]; (repeat' split) <;> first | rfl | (exfalso; omega) | simp_all)) (by simp))
theorem mod_con (a b : Int) (d : Nat) : Con Tryz.prog 125 true [li a, li b] (.v (li (modI a b))) none d := by
  obtain ⟨res, hres⟩ : ∃ r, modI a b = r := ⟨_, rfl⟩
  rw [hres]
  unfold modI at hres
  refine con_of_HT Tryz.func125 rfl (by kernel_rfl) (Nat.le_of_ble_eq_true rfl) ?_
  simp only [Tryz.f125]
  refine HT_seq <| (HT_run (by simp [*]; rfl) ?_)
  refine HT_seq <| HT_seq <| (HT_run (by simp [*]; rfl) ?_)
  refine (HT_cond rfl (fun h2 => ?_) (fun h2 => HT_skip ?_))
  · try simp only [Bool.or_eq_true, Bool.and_eq_true, Bool.or_eq_false_iff, Bool.and_eq_false_iff, Bool.not_eq_true', Bool.not_eq_false', decide_eq_true_eq, decide_eq_false_iff_not] at h2
    rw [if_pos h2] at hres
    subst hres
    refine HT_seq <| (HT_run (by simp [*]; rfl) ?_)
    exact (HT_retE (fun h => ⟨.inr rfl, h⟩) _ (by simp [*]; rfl) (by first | rfl | (simp [*]; done) | (simp only [resR]; (repeat' split) <;> first | rfl | (exfalso; omega) | simp_all)) (by simp))
  · try simp only [Bool.or_eq_true, Bool.and_eq_true, Bool.or_eq_false_iff, Bool.and_eq_false_iff, Bool.not_eq_true', Bool.not_eq_false', decide_eq_true_eq, decide_eq_false_iff_not] at h2
    rw [if_neg h2] at hres
    subst hres
    refine HT_seq <| (HT_runc [⟨true, .v (li (divI a b)), none⟩] (by simp [*]; first | exact ⟨rfl, Iff.rfl⟩ | exact ⟨rfl, trivial⟩ | rfl) ?_ ?_)
    · first | exact div_con _ _ _ | exact trivial | simpa [*] using div_con _ _ _
    exact (HT_retE (fun h => ⟨.inr rfl, h⟩) _ (by simp [*]; rfl) (by first | rfl | (simp [*]; done) | (simp only [resR]; (repeat' split) <;> first | rfl | (exfalso; omega) | simp_all)) (by simp))
theorem bin_con (o a b : Int) (d : Nat) : Con Tryz.prog 119 true [li o, li a, li b] (.v (li (binI o a b))) none d := by
  obtain ⟨res, hres⟩ : ∃ r, binI o a b = r := ⟨_, rfl⟩
  rw [hres]
  unfold binI at hres
  refine con_of_HT Tryz.func119 rfl (by kernel_rfl) (Nat.le_of_ble_eq_true rfl) ?_
  simp only [Tryz.f119]
  refine HT_seq <| (HT_run (by simp [*]; rfl) ?_)
  refine HT_seq <| HT_seq <| (HT_run (by simp [*]; rfl) ?_)
  refine HT_block <| HT_seq <| (HT_run (by simp [*]; rfl) ?_)
  refine (HT_cond rfl (fun h3 => ?_) (fun h3 => ?_))
  · try simp only [Bool.or_eq_true, Bool.and_eq_true, Bool.or_eq_false_iff, Bool.and_eq_false_iff, Bool.not_eq_true', Bool.not_eq_false', decide_eq_true_eq, decide_eq_false_iff_not] at h3
    rw [if_pos h3] at hres
    subst hres
    refine HT_seq <| (HT_run (by simp [*]; rfl) ?_)
    exact (HT_retE (fun h => ⟨.inr rfl, h⟩) _ (by simp [*]; rfl) (by first | rfl | (simp [*]; done) | (simp only [resR]; (repeat' split) <;> first | rfl | (exfalso; omega) | simp_all)) (by simp))
  · try simp only [Bool.or_eq_true, Bool.and_eq_true, Bool.or_eq_false_iff, Bool.and_eq_false_iff, Bool.not_eq_true', Bool.not_eq_false', decide_eq_true_eq, decide_eq_false_iff_not] at h3
    rw [if_neg h3] at hres
    refine HT_seq <| (HT_run (by simp [*]; rfl) ?_)
    refine (HT_cond rfl (fun h7 => ?_) (fun h7 => ?_))
    · try simp only [Bool.or_eq_true, Bool.and_eq_true, Bool.or_eq_false_iff, Bool.and_eq_false_iff, Bool.not_eq_true', Bool.not_eq_false', decide_eq_true_eq, decide_eq_false_iff_not] at h7
      rw [if_pos h7] at hres
      subst hres
      refine HT_seq <| (HT_run (by simp [*]; rfl) ?_)
      exact (HT_retE (fun h => ⟨.inr rfl, h⟩) _ (by simp [*]; rfl) (by first | rfl | (simp [*]; done) | (simp only [resR]; (repeat' split) <;> first | rfl | (exfalso; omega) | simp_all)) (by simp))
    · try simp only [Bool.or_eq_true, Bool.and_eq_true, Bool.or_eq_false_iff, Bool.and_eq_false_iff, Bool.not_eq_true', Bool.not_eq_false', decide_eq_true_eq, decide_eq_false_iff_not] at h7
      rw [if_neg h7] at hres
      refine HT_seq <| (HT_run (by simp [*]; rfl) ?_)
      refine (HT_cond rfl (fun h11 => ?_) (fun h11 => ?_))
      · try simp only [Bool.or_eq_true, Bool.and_eq_true, Bool.or_eq_false_iff, Bool.and_eq_false_iff, Bool.not_eq_true', Bool.not_eq_false', decide_eq_true_eq, decide_eq_false_iff_not] at h11
        rw [if_pos h11] at hres
        subst hres
        refine HT_seq <| (HT_run (by simp [*]; rfl) ?_)
        exact (HT_retE (fun h => ⟨.inr rfl, h⟩) _ (by simp [*]; rfl) (by first | rfl | (simp [*]; done) | (simp only [resR]; (repeat' split) <;> first | rfl | (exfalso; omega) | simp_all)) (by simp))
      · try simp only [Bool.or_eq_true, Bool.and_eq_true, Bool.or_eq_false_iff, Bool.and_eq_false_iff, Bool.not_eq_true', Bool.not_eq_false', decide_eq_true_eq, decide_eq_false_iff_not] at h11
        rw [if_neg h11] at hres
        refine HT_seq <| (HT_run (by simp [*]; rfl) ?_)
        refine (HT_cond rfl (fun h15 => ?_) (fun h15 => ?_))
        · try simp only [Bool.or_eq_true, Bool.and_eq_true, Bool.or_eq_false_iff, Bool.and_eq_false_iff, Bool.not_eq_true', Bool.not_eq_false', decide_eq_true_eq, decide_eq_false_iff_not] at h15
          rw [if_pos h15] at hres
          subst hres
          refine HT_seq <| (HT_runc [⟨true, .v (li (divI a b)), none⟩] (by simp [*]; first | exact ⟨rfl, Iff.rfl⟩ | exact ⟨rfl, trivial⟩ | rfl) ?_ ?_)
          · first | exact div_con _ _ _ | exact trivial | simpa [*] using div_con _ _ _
          exact (HT_retE (fun h => ⟨.inr rfl, h⟩) _ (by simp [*]; rfl) (by first | rfl | (simp [*]; done) | (simp only [resR]; (repeat' split) <;> first | rfl | (exfalso; omega) | simp_all)) (by simp))
        · try simp only [Bool.or_eq_true, Bool.and_eq_true, Bool.or_eq_false_iff, Bool.and_eq_false_iff, Bool.not_eq_true', Bool.not_eq_false', decide_eq_true_eq, decide_eq_false_iff_not] at h15
          rw [if_neg h15] at hres
          refine HT_seq <| (HT_run (by simp [*]; rfl) ?_)
          refine (HT_cond rfl (fun h19 => ?_) (fun h19 => ?_))
          · try simp only [Bool.or_eq_true, Bool.and_eq_true, Bool.or_eq_false_iff, Bool.and_eq_false_iff, Bool.not_eq_true', Bool.not_eq_false', decide_eq_true_eq, decide_eq_false_iff_not] at h19
            rw [if_pos h19] at hres
            subst hres
            refine HT_seq <| (HT_runc [⟨true, .v (li (modI a b)), none⟩] (by simp [*]; first | exact ⟨rfl, Iff.rfl⟩ | exact ⟨rfl, trivial⟩ | rfl) ?_ ?_)
            · first | exact mod_con _ _ _ | exact trivial | simpa [*] using mod_con _ _ _
            exact (HT_retE (fun h => ⟨.inr rfl, h⟩) _ (by simp [*]; rfl) (by first | rfl | (simp [*]; done) | (simp only [resR]; (repeat' split) <;> first | rfl | (exfalso; omega) | simp_all)) (by simp))
          · try simp only [Bool.or_eq_true, Bool.and_eq_true, Bool.or_eq_false_iff, Bool.and_eq_false_iff, Bool.not_eq_true', Bool.not_eq_false', decide_eq_true_eq, decide_eq_false_iff_not] at h19
            rw [if_neg h19] at hres
            refine HT_seq <| (HT_run (by simp [*]; rfl) ?_)
            refine (HT_cond rfl (fun h23 => ?_) (fun h23 => ?_))
            · try simp only [Bool.or_eq_true, Bool.and_eq_true, Bool.or_eq_false_iff, Bool.and_eq_false_iff, Bool.not_eq_true', Bool.not_eq_false', decide_eq_true_eq, decide_eq_false_iff_not] at h23
              rw [if_pos h23] at hres
              subst hres
              refine HT_seq <| (HT_runc [⟨true, .v (li (flagI (decide (a = b)))), none⟩] (by simp [*]; first | exact ⟨rfl, Iff.rfl⟩ | exact ⟨rfl, trivial⟩ | rfl) ?_ ?_)
              · first | exact flag_con _ _ | exact trivial | simpa [*] using flag_con _ _
              exact (HT_retE (fun h => ⟨.inr rfl, h⟩) _ (by simp [*]; rfl) (by first | rfl | (simp [*]; done) | (simp only [resR]; (repeat' split) <;> first | rfl | (exfalso; omega) | simp_all)) (by simp))
            · try simp only [Bool.or_eq_true, Bool.and_eq_true, Bool.or_eq_false_iff, Bool.and_eq_false_iff, Bool.not_eq_true', Bool.not_eq_false', decide_eq_true_eq, decide_eq_false_iff_not] at h23
              rw [if_neg h23] at hres
              refine HT_seq <| (HT_run (by simp [*]; rfl) ?_)
              refine (HT_cond rfl (fun h27 => ?_) (fun h27 => ?_))
              · try simp only [Bool.or_eq_true, Bool.and_eq_true, Bool.or_eq_false_iff, Bool.and_eq_false_iff, Bool.not_eq_true', Bool.not_eq_false', decide_eq_true_eq, decide_eq_false_iff_not] at h27
                rw [if_pos h27] at hres
                subst hres
                refine HT_seq <| (HT_runc [⟨true, .v (li (flagI (!decide (a = b)))), none⟩] (by simp [*]; first | exact ⟨rfl, Iff.rfl⟩ | exact ⟨rfl, trivial⟩ | rfl) ?_ ?_)
                · first | exact flag_con _ _ | exact trivial | simpa [*] using flag_con _ _
                exact (HT_retE (fun h => ⟨.inr rfl, h⟩) _ (by simp [*]; rfl) (by first | rfl | (simp [*]; done) | (simp only [resR]; (repeat' split) <;> first | rfl | (exfalso; omega) | simp_all)) (by simp))
              · try simp only [Bool.or_eq_true, Bool.and_eq_true, Bool.or_eq_false_iff, Bool.and_eq_false_iff, Bool.not_eq_true', Bool.not_eq_false', decide_eq_true_eq, decide_eq_false_iff_not] at h27
                rw [if_neg h27] at hres
                refine HT_seq <| (HT_run (by simp [*]; rfl) ?_)
                refine (HT_cond rfl (fun h31 => ?_) (fun h31 => ?_))
                · try simp only [Bool.or_eq_true, Bool.and_eq_true, Bool.or_eq_false_iff, Bool.and_eq_false_iff, Bool.not_eq_true', Bool.not_eq_false', decide_eq_true_eq, decide_eq_false_iff_not] at h31
                  rw [if_pos h31] at hres
                  subst hres
                  refine HT_seq <| (HT_runc [⟨true, .v (li (flagI (decide (a < b)))), none⟩] (by simp [*]; first | exact ⟨rfl, Iff.rfl⟩ | exact ⟨rfl, trivial⟩ | rfl) ?_ ?_)
                  · first | exact flag_con _ _ | exact trivial | simpa [*] using flag_con _ _
                  exact (HT_retE (fun h => ⟨.inr rfl, h⟩) _ (by simp [*]; rfl) (by first | rfl | (simp [*]; done) | (simp only [resR]; (repeat' split) <;> first | rfl | (exfalso; omega) | simp_all)) (by simp))
                · try simp only [Bool.or_eq_true, Bool.and_eq_true, Bool.or_eq_false_iff, Bool.and_eq_false_iff, Bool.not_eq_true', Bool.not_eq_false', decide_eq_true_eq, decide_eq_false_iff_not] at h31
                  rw [if_neg h31] at hres
                  refine HT_seq <| (HT_run (by simp [*]; rfl) ?_)
                  refine (HT_cond rfl (fun h35 => ?_) (fun h35 => ?_))
                  · try simp only [Bool.or_eq_true, Bool.and_eq_true, Bool.or_eq_false_iff, Bool.and_eq_false_iff, Bool.not_eq_true', Bool.not_eq_false', decide_eq_true_eq, decide_eq_false_iff_not] at h35
                    rw [if_pos h35] at hres
                    subst hres
                    refine HT_seq <| (HT_runc [⟨true, .v (li (flagI (decide (a ≤ b)))), none⟩] (by simp [*]; first | exact ⟨rfl, Iff.rfl⟩ | exact ⟨rfl, trivial⟩ | rfl) ?_ ?_)
                    · first | exact flag_con _ _ | exact trivial | simpa [*] using flag_con _ _
                    exact (HT_retE (fun h => ⟨.inr rfl, h⟩) _ (by simp [*]; rfl) (by first | rfl | (simp [*]; done) | (simp only [resR]; (repeat' split) <;> first | rfl | (exfalso; omega) | simp_all)) (by simp))
                  · try simp only [Bool.or_eq_true, Bool.and_eq_true, Bool.or_eq_false_iff, Bool.and_eq_false_iff, Bool.not_eq_true', Bool.not_eq_false', decide_eq_true_eq, decide_eq_false_iff_not] at h35
                    rw [if_neg h35] at hres
                    refine HT_seq <| (HT_run (by simp [*]; rfl) ?_)
                    refine (HT_cond rfl (fun h39 => ?_) (fun h39 => ?_))
                    · try simp only [Bool.or_eq_true, Bool.and_eq_true, Bool.or_eq_false_iff, Bool.and_eq_false_iff, Bool.not_eq_true', Bool.not_eq_false', decide_eq_true_eq, decide_eq_false_iff_not] at h39
                      rw [if_pos h39] at hres
                      subst hres
                      refine HT_seq <| (HT_runc [⟨true, .v (li (flagI (decide (b < a)))), none⟩] (by simp [*]; first | exact ⟨rfl, Iff.rfl⟩ | exact ⟨rfl, trivial⟩ | rfl) ?_ ?_)
                      · first | exact flag_con _ _ | exact trivial | simpa [*] using flag_con _ _
                      exact (HT_retE (fun h => ⟨.inr rfl, h⟩) _ (by simp [*]; rfl) (by first | rfl | (simp [*]; done) | (simp only [resR]; (repeat' split) <;> first | rfl | (exfalso; omega) | simp_all)) (by simp))
                    · try simp only [Bool.or_eq_true, Bool.and_eq_true, Bool.or_eq_false_iff, Bool.and_eq_false_iff, Bool.not_eq_true', Bool.not_eq_false', decide_eq_true_eq, decide_eq_false_iff_not] at h39
                      rw [if_neg h39] at hres
                      refine HT_seq <| (HT_run (by simp [*]; rfl) ?_)
                      refine (HT_cond rfl (fun h43 => ?_) (fun h43 => ?_))
                      · try simp only [Bool.or_eq_true, Bool.and_eq_true, Bool.or_eq_false_iff, Bool.and_eq_false_iff, Bool.not_eq_true', Bool.not_eq_false', decide_eq_true_eq, decide_eq_false_iff_not] at h43
                        rw [if_pos h43] at hres
                        subst hres
                        refine HT_seq <| (HT_runc [⟨true, .v (li (flagI (decide (b ≤ a)))), none⟩] (by simp [*]; first | exact ⟨rfl, Iff.rfl⟩ | exact ⟨rfl, trivial⟩ | rfl) ?_ ?_)
                        · first | exact flag_con _ _ | exact trivial | simpa [*] using flag_con _ _
                        exact (HT_retE (fun h => ⟨.inr rfl, h⟩) _ (by simp [*]; rfl) (by first | rfl | (simp [*]; done) | (simp only [resR]; (repeat' split) <;> first | rfl | (exfalso; omega) | simp_all)) (by simp))
                      · try simp only [Bool.or_eq_true, Bool.and_eq_true, Bool.or_eq_false_iff, Bool.and_eq_false_iff, Bool.not_eq_true', Bool.not_eq_false', decide_eq_true_eq, decide_eq_false_iff_not] at h43
                        rw [if_neg h43] at hres
                        refine HT_seq <| (HT_run (by simp [*]; rfl) ?_)
                        refine (HT_cond rfl (fun h47 => ?_) (fun h47 => ?_))
                        · try simp only [Bool.or_eq_true, Bool.and_eq_true, Bool.or_eq_false_iff, Bool.and_eq_false_iff, Bool.not_eq_true', Bool.not_eq_false', decide_eq_true_eq, decide_eq_false_iff_not] at h47
                          rw [if_pos h47] at hres
                          subst hres
                          refine HT_seq <| (HT_runc [⟨true, .v (li (flagI (!decide (a = 0) && !decide (b = 0)))), none⟩] (by simp [*]; first | exact ⟨rfl, Iff.rfl⟩ | exact ⟨rfl, trivial⟩ | rfl) ?_ ?_)
                          · first | exact flag_con _ _ | exact trivial | simpa [*] using flag_con _ _
                          exact (HT_retE (fun h => ⟨.inr rfl, h⟩) _ (by simp [*]; rfl) (by first | rfl | (simp [*]; done) | (simp only [resR]; (repeat' split) <;> first | rfl | (exfalso; omega) | simp_all)) (by simp))
                        · try simp only [Bool.or_eq_true, Bool.and_eq_true, Bool.or_eq_false_iff, Bool.and_eq_false_iff, Bool.not_eq_true', Bool.not_eq_false', decide_eq_true_eq, decide_eq_false_iff_not] at h47
                          rw [if_neg h47] at hres
                          refine HT_seq <| (HT_run (by simp [*]; rfl) ?_)
                          refine (HT_cond rfl (fun h51 => ?_) (fun h51 => ?_))
                          · try simp only [Bool.or_eq_true, Bool.and_eq_true, Bool.or_eq_false_iff, Bool.and_eq_false_iff, Bool.not_eq_true', Bool.not_eq_false', decide_eq_true_eq, decide_eq_false_iff_not] at h51
                            rw [if_pos h51] at hres
                            subst hres
                            refine HT_seq <| (HT_runc [⟨true, .v (li (flagI (!decide (a = 0) || !decide (b = 0)))), none⟩] (by simp [*]; first | exact ⟨rfl, Iff.rfl⟩ | exact ⟨rfl, trivial⟩ | rfl) ?_ ?_)
                            · first | exact flag_con _ _ | exact trivial | simpa [*] using flag_con _ _
                            exact (HT_retE (fun h => ⟨.inr rfl, h⟩) _ (by simp [*]; rfl) (by first | rfl | (simp [*]; done) | (simp only [resR]; (repeat' split) <;> first | rfl | (exfalso; omega) | simp_all)) (by simp))
                          · try simp only [Bool.or_eq_true, Bool.and_eq_true, Bool.or_eq_false_iff, Bool.and_eq_false_iff, Bool.not_eq_true', Bool.not_eq_false', decide_eq_true_eq, decide_eq_false_iff_not] at h51
                            rw [if_neg h51] at hres
                            refine HT_seq <| (HT_run (by simp [*]; rfl) ?_)
                            refine (HT_cond rfl (fun h55 => ?_) (fun h55 => HT_skip ?_))
                            · try simp only [Bool.or_eq_true, Bool.and_eq_true, Bool.or_eq_false_iff, Bool.and_eq_false_iff, Bool.not_eq_true', Bool.not_eq_false', decide_eq_true_eq, decide_eq_false_iff_not] at h55
                              rw [if_pos h55] at hres
                              subst hres
                              refine HT_seq <| (HT_runc [⟨true, .v (li (mn a b)), none⟩] (by simp [*]; first | exact ⟨rfl, Iff.rfl⟩ | exact ⟨rfl, trivial⟩ | rfl) ?_ ?_)
                              · first | exact least_con _ _ _ | exact trivial | simpa [*] using least_con _ _ _
                              exact (HT_retE (fun h => ⟨.inr rfl, h⟩) _ (by simp [*]; rfl) (by first | rfl | (simp [*]; done) | (simp only [resR]; (repeat' split) <;> first | rfl | (exfalso; omega) | simp_all)) (by simp))
                            · try simp only [Bool.or_eq_true, Bool.and_eq_true, Bool.or_eq_false_iff, Bool.and_eq_false_iff, Bool.not_eq_true', Bool.not_eq_false', decide_eq_true_eq, decide_eq_false_iff_not] at h55
                              rw [if_neg h55] at hres
                              subst hres
                              refine HT_seq <| (HT_runc [⟨true, .v (li (mx a b)), none⟩] (by simp [*]; first | exact ⟨rfl, Iff.rfl⟩ | exact ⟨rfl, trivial⟩ | rfl) ?_ ?_)
                              · first | exact most_con _ _ _ | exact trivial | simpa [*] using most_con _ _ _
                              exact (HT_retE (fun h => ⟨.inr rfl, h⟩) _ (by simp [*]; rfl) (by first | rfl | (simp [*]; done) | (simp only [resR]; (repeat' split) <;> first | rfl | (exfalso; omega) | simp_all)) (by simp))
end Go.Proofs.YtfilidjbpomgoaaGreat

namespace Go.Proofs.YtfilidjbpomgoaaGreat
open Go Go.Hl

def selI (k0 : Int) (len : Nat) : Int := wr (1 + heldI k0 0 (wr ((len : Int) - 2)))
def valN (vs : List Int) (o n : Int) (k : List Int) : Int :=
  if o = 0 then n else if o = 24 then (vs[n.toNat]?).getD 0 else if o = 6 then wr (-((k[0]?).getD 0)) else if o = 7 then flagI (decide ((k[0]?).getD 0 = 0))
  else if o = 23 then (if (k[0]?).getD 0 = 0 then (k[2]?).getD 0 else (k[1]?).getD 0)
  else if o = 25 then (k[(selI ((k[0]?).getD 0) k.length).toNat]?).getD 0
  else binI o ((k[0]?).getD 0) ((k[1]?).getD 0)
mutual
def vT (vs : List Int) : Tm → Int
  | .mk o n ks => valN vs o n (vTs vs ks)
def vTs (vs : List Int) : List Tm → List Int
  | [] => []
  | t :: l => vT vs t :: vTs vs l
end
theorem vTs_map (vs : List Int) : ∀ l : List Tm, vTs vs l = l.map (vT vs)
  | [] => by simp [vTs]
  | t :: l => by simp [vTs, vTs_map vs l]
theorem kq1 {vars : List Vr} {inp : Bool} {o n : Int} {ks : List Tm} (h : nodeB vars inp o n ks.length = true) (ho : o = 6 ∨ o = 7) : ∃ a, ks = [a] := by
  have := node_ar h
  rw [show kidsP o = (1, 1) by unfold kidsP; rw [if_neg (by omega), if_pos ho]] at this
  simp only at this
  match ks, this with
  | [a], _ => exact ⟨a, rfl⟩
  | [], h => simp at h
  | a :: b :: l, h => simp at h; omega
theorem kq2 {vars : List Vr} {inp : Bool} {o n : Int} {ks : List Tm} (h : nodeB vars inp o n ks.length = true) (h1 : ¬ o = 0) (h2 : ¬ o = 24) (h3 : ¬ o = 6) (h4 : ¬ o = 7) (h5 : ¬ o = 23) (h6 : ¬ o = 25) : ∃ a b, ks = [a, b] := by
  have := node_ar h
  have hr : 8 ≤ o ∧ o ≤ 22 := by
    refine Classical.byContradiction fun hc => ?_
    rw [show kidsP o = (-1, -1) by unfold kidsP; rw [if_neg (by omega), if_neg (by omega), if_neg hc, if_neg h5, if_neg h6]] at this
    simp at this
  rw [show kidsP o = (2, 2) by unfold kidsP; rw [if_neg (by omega), if_neg (by omega), if_pos hr]] at this
  simp only at this
  match ks, this with
  | [a, b], _ => exact ⟨a, b, rfl⟩
  | [], h => simp at h
  | [a], h => simp at h
  | a :: b :: c :: l, h => simp at h; omega
theorem kq3 {vars : List Vr} {inp : Bool} {n : Int} {ks : List Tm} (h : nodeB vars inp 23 n ks.length = true) : ∃ a b c, ks = [a, b, c] := by
  have := node_ar h
  rw [show kidsP 23 = (3, 3) by decide] at this
  simp only at this
  match ks, this with
  | [a, b, c], _ => exact ⟨a, b, c, rfl⟩
  | [], h => simp at h
  | [a], h => simp at h
  | [a, b], h => simp at h
  | a :: b :: c :: e :: l, h => simp at h; omega
theorem kqN {vars : List Vr} {inp : Bool} {n : Int} {ks : List Tm} (h : nodeB vars inp 25 n ks.length = true) : 2 ≤ ks.length ∧ ks.length ≤ 33 := by
  have := node_ar h
  rw [show kidsP 25 = (2, 33) by decide] at this
  simp only at this
  omega

theorem value_con (vars : List Vr) (inp : Bool) (vs : List Int) (hvs : vs.length = vars.length) (t : Tm) : formB vars inp t = true → ∀ d : Nat,
    Con Tryz.prog 104 true [lI vs, aT t] (.v (li (vT vs t))) none d := by
  induction t using Tm.ind with
  | h o n ks ih =>
  intro hf d
  simp only [formB, Bool.and_eq_true] at hf
  have hfk := formBs_mem hf.2
  have hf := hf.1
  obtain ⟨res, hres⟩ : ∃ r, vT vs (.mk o n ks) = r := ⟨_, rfl⟩
  rw [hres]
  simp only [vT, valN] at hres
  have ih := fun t ht => ih t ht (hfk t ht)
  clear hfk
  refine con_of_HT Tryz.func104 rfl (by kernel_rfl) (Nat.le_of_ble_eq_true rfl) ?_
  simp only [Tryz.f104]
  simp only [aT, Tm.enc]
  refine HT_seq <| (HT_run (by simp [*]; rfl) ?_)
  refine HT_seq <| HT_seq <| (HT_run (by simp [*]; rfl) ?_)
  refine HT_block <| HT_seq <| (HT_run (by simp [*]; rfl) ?_)
  refine (HT_cond rfl (fun h3 => ?_) (fun h3 => ?_))
  · try simp only [Bool.or_eq_true, Bool.and_eq_true, Bool.or_eq_false_iff, Bool.and_eq_false_iff, Bool.not_eq_true', Bool.not_eq_false', decide_eq_true_eq, decide_eq_false_iff_not] at h3
    rw [if_pos h3] at hres
    subst hres
    refine HT_seq <| (HT_run (by simp [*]; rfl) ?_)
    exact (HT_retE (fun h => ⟨.inr rfl, h⟩) _ (by simp [*]; rfl) (by first | rfl | (simp [*]; done) | (simp only [resR]; (repeat' split) <;> first | rfl | (exfalso; omega) | simp_all)) (by simp))
  · try simp only [Bool.or_eq_true, Bool.and_eq_true, Bool.or_eq_false_iff, Bool.and_eq_false_iff, Bool.not_eq_true', Bool.not_eq_false', decide_eq_true_eq, decide_eq_false_iff_not] at h3
    rw [if_neg h3] at hres
    refine HT_seq <| (HT_run (by simp [*]; rfl) ?_)
    refine (HT_cond rfl (fun h7 => ?_) (fun h7 => ?_))
    · try simp only [Bool.or_eq_true, Bool.and_eq_true, Bool.or_eq_false_iff, Bool.and_eq_false_iff, Bool.not_eq_true', Bool.not_eq_false', decide_eq_true_eq, decide_eq_false_iff_not] at h7
      rw [if_pos h7] at hres
      subst h7
      obtain ⟨hn0, v, hv, _⟩ := node_ref hf
      have hlt : n.toNat < vs.length := by rw [hvs]; exact (List.getElem?_eq_some_iff.1 hv).1
      obtain ⟨x, hx⟩ : ∃ x, vs[n.toNat]? = some x := ⟨vs[n.toNat], by simp [hlt]⟩
      rw [hx] at hres
      simp only [Option.getD_some] at hres
      subst hres
      clear hlt hv
      refine HT_seq <| (HT_run (by simp [*]; rfl) ?_)
      exact (HT_retE (fun h => ⟨.inr rfl, h⟩) _ (by simp [*]; rfl) (by first | rfl | (simp [*]; done) | (simp only [resR]; (repeat' split) <;> first | rfl | (exfalso; omega) | simp_all)) (by simp))
    · try simp only [Bool.or_eq_true, Bool.and_eq_true, Bool.or_eq_false_iff, Bool.and_eq_false_iff, Bool.not_eq_true', Bool.not_eq_false', decide_eq_true_eq, decide_eq_false_iff_not] at h7
      rw [if_neg h7] at hres
      refine HT_seq <| (HT_run (by simp [*]; rfl) ?_)
      refine (HT_cond rfl (fun h11 => ?_) (fun h11 => ?_))
      · try simp only [Bool.or_eq_true, Bool.and_eq_true, Bool.or_eq_false_iff, Bool.and_eq_false_iff, Bool.not_eq_true', Bool.not_eq_false', decide_eq_true_eq, decide_eq_false_iff_not] at h11
        rw [if_pos h11] at hres
        obtain ⟨⟨ao, an, ak⟩, rfl⟩ := kq1 hf (.inl h11)
        have ca := ih _ (List.mem_singleton.2 rfl)
        simp only [aT, Tm.enc, List.map_cons, List.map_nil] at ca
        obtain ⟨A, hA⟩ : ∃ x, vT vs (.mk ao an ak) = x := ⟨_, rfl⟩
        rw [hA] at ca
        rw [show vTs vs [Tm.mk ao an ak] = [A] by simp [vTs, hA]] at hres
        simp only [List.getElem?_cons_zero, Option.getD_some] at hres
        subst hres
        clear ih hA
        refine HT_seq <| (HT_runc [⟨true, .v (li A), none⟩] (by simp [*]; first | exact ⟨rfl, Iff.rfl⟩ | exact ⟨rfl, trivial⟩ | rfl) ?_ ?_)
        · first | exact ca _ | exact trivial | simpa [*] using ca _
        exact (HT_retE (fun h => ⟨.inr rfl, h⟩) _ (by simp [*]; rfl) (by first | rfl | (simp [*]; done) | (simp only [resR]; (repeat' split) <;> first | rfl | (exfalso; omega) | simp_all)) (by simp))
      · try simp only [Bool.or_eq_true, Bool.and_eq_true, Bool.or_eq_false_iff, Bool.and_eq_false_iff, Bool.not_eq_true', Bool.not_eq_false', decide_eq_true_eq, decide_eq_false_iff_not] at h11
        rw [if_neg h11] at hres
        refine HT_seq <| (HT_run (by simp [*]; rfl) ?_)
        refine (HT_cond rfl (fun h15 => ?_) (fun h15 => ?_))
        · try simp only [Bool.or_eq_true, Bool.and_eq_true, Bool.or_eq_false_iff, Bool.and_eq_false_iff, Bool.not_eq_true', Bool.not_eq_false', decide_eq_true_eq, decide_eq_false_iff_not] at h15
          rw [if_pos h15] at hres
          obtain ⟨⟨ao, an, ak⟩, rfl⟩ := kq1 hf (.inr h15)
          have ca := ih _ (List.mem_singleton.2 rfl)
          simp only [aT, Tm.enc, List.map_cons, List.map_nil] at ca
          obtain ⟨A, hA⟩ : ∃ x, vT vs (.mk ao an ak) = x := ⟨_, rfl⟩
          rw [hA] at ca
          rw [show vTs vs [Tm.mk ao an ak] = [A] by simp [vTs, hA]] at hres
          simp only [List.getElem?_cons_zero, Option.getD_some] at hres
          subst hres
          clear ih hA
          refine HT_seq <| (HT_runc [⟨true, .v (li A), none⟩, ⟨true, .v (li (flagI (decide (A = 0)))), none⟩] (by simp [*]; first | exact ⟨rfl, Iff.rfl⟩ | exact ⟨rfl, trivial⟩ | rfl) ?_ ?_)
          · first | exact ⟨ca _, flag_con _ _⟩ | exact trivial | (repeat' first | exact trivial | exact ca _ | exact flag_con _ _ | apply And.intro)
          exact (HT_retE (fun h => ⟨.inr rfl, h⟩) _ (by simp [*]; rfl) (by first | rfl | (simp [*]; done) | (simp only [resR]; (repeat' split) <;> first | rfl | (exfalso; omega) | simp_all)) (by simp))
        · try simp only [Bool.or_eq_true, Bool.and_eq_true, Bool.or_eq_false_iff, Bool.and_eq_false_iff, Bool.not_eq_true', Bool.not_eq_false', decide_eq_true_eq, decide_eq_false_iff_not] at h15
          rw [if_neg h15] at hres
          refine HT_seq <| (HT_run (by simp [*]; rfl) ?_)
          refine (HT_cond rfl (fun h19 => ?_) (fun h19 => ?_))
          · try simp only [Bool.or_eq_true, Bool.and_eq_true, Bool.or_eq_false_iff, Bool.and_eq_false_iff, Bool.not_eq_true', Bool.not_eq_false', decide_eq_true_eq, decide_eq_false_iff_not] at h19
            rw [if_pos h19] at hres
            subst h19
            obtain ⟨⟨ao, an, ak⟩, ⟨bo, bn, bk⟩, ⟨co, cn, ck⟩, rfl⟩ := kq3 hf
            have ca := ih (.mk ao an ak) (by simp)
            have cb := ih (.mk bo bn bk) (by simp)
            have cc := ih (.mk co cn ck) (by simp)
            simp only [aT, Tm.enc, List.map_cons, List.map_nil] at ca cb cc
            obtain ⟨A, hA⟩ : ∃ x, vT vs (.mk ao an ak) = x := ⟨_, rfl⟩
            obtain ⟨B, hB⟩ : ∃ x, vT vs (.mk bo bn bk) = x := ⟨_, rfl⟩
            obtain ⟨C, hC⟩ : ∃ x, vT vs (.mk co cn ck) = x := ⟨_, rfl⟩
            rw [hA] at ca
            rw [hB] at cb
            rw [hC] at cc
            rw [show vTs vs [Tm.mk ao an ak, Tm.mk bo bn bk, Tm.mk co cn ck] = [A, B, C] by simp [vTs, hA, hB, hC]] at hres
            simp only [List.getElem?_cons_zero, List.getElem?_cons_succ, Option.getD_some] at hres
            clear ih hA hB hC
            refine HT_seq <| HT_seq <| (HT_runc [⟨true, .v (li A), none⟩] (by simp [*]; first | exact ⟨rfl, Iff.rfl⟩ | exact ⟨rfl, trivial⟩ | rfl) ?_ ?_)
            · first | exact ca _ | exact trivial | simpa [*] using ca _
            refine (HT_cond rfl (fun h21 => ?_) (fun h21 => HT_skip ?_))
            · try simp only [Bool.or_eq_true, Bool.and_eq_true, Bool.or_eq_false_iff, Bool.and_eq_false_iff, Bool.not_eq_true', Bool.not_eq_false', decide_eq_true_eq, decide_eq_false_iff_not] at h21
              rw [if_neg h21] at hres
              subst hres
              refine HT_seq <| (HT_runc [⟨true, .v (li B), none⟩] (by simp [*]; first | exact ⟨rfl, Iff.rfl⟩ | exact ⟨rfl, trivial⟩ | rfl) ?_ ?_)
              · first | exact cb _ | exact trivial | simpa [*] using cb _
              exact (HT_retE (fun h => ⟨.inr rfl, h⟩) _ (by simp [*]; rfl) (by first | rfl | (simp [*]; done) | (simp only [resR]; (repeat' split) <;> first | rfl | (exfalso; omega) | simp_all)) (by simp))
            · try simp only [Bool.or_eq_true, Bool.and_eq_true, Bool.or_eq_false_iff, Bool.and_eq_false_iff, Bool.not_eq_true', Bool.not_eq_false', decide_eq_true_eq, decide_eq_false_iff_not] at h21
              rw [if_pos (by simpa using h21)] at hres
              subst hres
              refine HT_seq <| (HT_runc [⟨true, .v (li C), none⟩] (by simp [*]; first | exact ⟨rfl, Iff.rfl⟩ | exact ⟨rfl, trivial⟩ | rfl) ?_ ?_)
              · first | exact cc _ | exact trivial | simpa [*] using cc _
              exact (HT_retE (fun h => ⟨.inr rfl, h⟩) _ (by simp [*]; rfl) (by first | rfl | (simp [*]; done) | (simp only [resR]; (repeat' split) <;> first | rfl | (exfalso; omega) | simp_all)) (by simp))
          · try simp only [Bool.or_eq_true, Bool.and_eq_true, Bool.or_eq_false_iff, Bool.and_eq_false_iff, Bool.not_eq_true', Bool.not_eq_false', decide_eq_true_eq, decide_eq_false_iff_not] at h19
            rw [if_neg h19] at hres
            refine HT_seq <| (HT_run (by simp [*]; rfl) ?_)
            refine (HT_cond rfl (fun h27 => ?_) (fun h27 => HT_skip ?_))
            · try simp only [Bool.or_eq_true, Bool.and_eq_true, Bool.or_eq_false_iff, Bool.and_eq_false_iff, Bool.not_eq_true', Bool.not_eq_false', decide_eq_true_eq, decide_eq_false_iff_not] at h27
              rw [if_pos h27] at hres
              subst h27
              have hln := kqN hf
              obtain ⟨⟨ao, an, ak⟩, he0⟩ : ∃ t, ks[0]? = some t := ⟨ks[0], by simp⟩
              have ca := ih _ (List.mem_of_getElem? he0)
              have he0' := get_encT he0
              simp only [aT, Tm.enc, List.map_cons, List.map_nil] at ca he0'
              obtain ⟨A, hA⟩ : ∃ x, vT vs (.mk ao an ak) = x := ⟨_, rfl⟩
              rw [hA] at ca
              rw [vTs_map, List.getElem?_map, List.getElem?_map, he0, Option.map_some, Option.getD_some, hA, List.length_map] at hres
              have hw1 : IntKind.i64.wrap ((ks.length : Int) - 2) = (ks.length : Int) - 2 := wrap_in (by omega) (by omega)
              unfold selI at hres
              simp only [wr, hw1] at hres
              have hh := held_in (n := A) (lo := 0) (hi := (ks.length : Int) - 2) (by omega)
              obtain ⟨H, hH⟩ : ∃ x, heldI A 0 ((ks.length : Int) - 2) = x := ⟨_, rfl⟩
              have cheld := held_con A 0 ((ks.length : Int) - 2)
              rw [hH] at hres hh cheld
              have hw2 : IntKind.i64.wrap (1 + H) = 1 + H := wrap_in (by omega) (by omega)
              rw [hw2] at hres
              obtain ⟨⟨bo, bn, bk⟩, he1⟩ : ∃ t, ks[(1 + H).toNat]? = some t := ⟨ks[(1 + H).toNat]'(by omega), by simp⟩
              have cb := ih _ (List.mem_of_getElem? he1)
              have he1' := get_encT he1
              simp only [aT, Tm.enc, List.map_cons, List.map_nil] at cb he1'
              rw [he1, Option.map_some, Option.getD_some] at hres
              obtain ⟨B, hB⟩ : ∃ x, vT vs (.mk bo bn bk) = x := ⟨_, rfl⟩
              rw [hB] at cb hres
              subst hres
              have hp1 : 0 ≤ 1 + H := by omega
              have hp2 : 1 ≤ ks.length := by omega
              clear ih hA hB hH he0 he1 hln hf hvs
              refine HT_seq <| (HT_drunc [⟨true, .v (li A), none⟩, ⟨true, .v (li H), none⟩, ⟨true, .v (li B), none⟩] (by kernel_rfl) (by kernel_rfl) (by rfl) (by simp [*]; first | exact ⟨rfl, Iff.rfl⟩ | exact ⟨rfl, trivial⟩ | rfl) ?_ ?_)
              · first | exact ⟨ca _, cheld _, cb _⟩ | exact trivial | (repeat' first | exact trivial | exact ca _ | exact cheld _ | exact cb _ | apply And.intro)
              exact (HT_retE (fun h => ⟨.inr rfl, h⟩) _ (by simp [*]; rfl) (by first | rfl | (simp [*]; done) | (simp only [resR]; (repeat' split) <;> first | rfl | (exfalso; omega) | simp_all)) (by simp))
            · try simp only [Bool.or_eq_true, Bool.and_eq_true, Bool.or_eq_false_iff, Bool.and_eq_false_iff, Bool.not_eq_true', Bool.not_eq_false', decide_eq_true_eq, decide_eq_false_iff_not] at h27
              rw [if_neg h27] at hres
              obtain ⟨⟨ao, an, ak⟩, ⟨bo, bn, bk⟩, rfl⟩ := kq2 hf h3 h7 h11 h15 h19 h27
              have ca := ih (.mk ao an ak) (by simp)
              have cb := ih (.mk bo bn bk) (by simp)
              simp only [aT, Tm.enc, List.map_cons, List.map_nil] at ca cb
              simp only [vTs, List.getElem?_cons_zero, List.getElem?_cons_succ, Option.getD_some] at hres
              obtain ⟨A, hA⟩ : ∃ x, vT vs (.mk ao an ak) = x := ⟨_, rfl⟩
              obtain ⟨B, hB⟩ : ∃ x, vT vs (.mk bo bn bk) = x := ⟨_, rfl⟩
              rw [hA] at ca hres
              rw [hB] at cb hres
              subst hres
              clear ih hA hB
              refine HT_seq <| (HT_drunc [⟨true, .v (li A), none⟩, ⟨true, .v (li B), none⟩, ⟨true, .v (li (binI o A B)), none⟩] (by kernel_rfl) (by kernel_rfl) (by rfl) (by simp [*]; first | exact ⟨rfl, Iff.rfl⟩ | exact ⟨rfl, trivial⟩ | rfl) ?_ ?_)
              · first | exact ⟨ca _, cb _, bin_con _ _ _ _⟩ | exact trivial | (repeat' first | exact trivial | exact ca _ | exact cb _ | exact bin_con _ _ _ _ | apply And.intro)
              exact (HT_retE (fun h => ⟨.inr rfl, h⟩) _ (by simp [*]; rfl) (by first | rfl | (simp [*]; done) | (simp only [resR]; (repeat' split) <;> first | rfl | (exfalso; omega) | simp_all)) (by simp))
end Go.Proofs.YtfilidjbpomgoaaGreat

namespace Go.Proofs.YtfilidjbpomgoaaGreat
open Go Go.Hl

theorem at_con (l : List Int) (i : Nat) (d : Nat) : Con Tryz.prog 101 true [lI l, li i] (.tup [li ((l[i]?).getD 0), lb (decide (i < l.length))]) none d := by
  obtain ⟨A, hA⟩ : ∃ x, (l[i]?).getD 0 = x := ⟨_, rfl⟩
  obtain ⟨B, hB⟩ : ∃ x, decide (i < l.length) = x := ⟨_, rfl⟩
  rw [hA, hB]
  refine con_of_HT Tryz.func101 rfl (by kernel_rfl) (Nat.le_of_ble_eq_true rfl) ?_
  simp only [Tryz.f101]
  refine HT_seq <| (HT_run (by simp [*]; rfl) ?_)
  refine HT_seq <| HT_seq <| (HT_run (by simp [*]; rfl) ?_)
  refine (HT_cond rfl (fun h2 => ?_) (fun h2 => HT_skip ?_))
  · try simp only [Bool.or_eq_true, Bool.and_eq_true, Bool.or_eq_false_iff, Bool.and_eq_false_iff, Bool.not_eq_true', Bool.not_eq_false', decide_eq_true_eq, decide_eq_false_iff_not] at h2
    have h3 : ¬ i < l.length := by omega
    rw [List.getElem?_eq_none (by omega)] at hA
    rw [decide_eq_false h3] at hB
    simp only [Option.getD_none] at hA
    subst hA hB
    refine HT_seq <| (HT_run (by simp [*]; rfl) ?_)
    exact (HT_retE (fun h => ⟨.inr rfl, h⟩) _ (by simp [*]; rfl) (by first | rfl | (simp [*]; done) | (simp only [resR]; (repeat' split) <;> first | rfl | (exfalso; omega) | simp_all)) (by simp))
  · try simp only [Bool.or_eq_true, Bool.and_eq_true, Bool.or_eq_false_iff, Bool.and_eq_false_iff, Bool.not_eq_true', Bool.not_eq_false', decide_eq_true_eq, decide_eq_false_iff_not] at h2
    have h3 : i < l.length := by omega
    obtain ⟨x, hx⟩ := get_I h3
    rw [hx] at hA
    rw [decide_eq_true h3] at hB
    simp only [Option.getD_some] at hA
    subst hA hB
    clear h3
    refine HT_seq <| (HT_run (by simp [*]; rfl) ?_)
    exact (HT_retE (fun h => ⟨.inr rfl, h⟩) _ (by simp [*]; rfl) (by first | rfl | (simp [*]; done) | (simp only [resR]; (repeat' split) <;> first | rfl | (exfalso; omega) | simp_all)) (by simp))
def stlL : List Int → Int → Int → Bool → Int
  | [], _, best, _ => best
  | b :: l, t, best, found => if t ≤ b ∧ (found = false ∨ b < best) then stlL l t b true else stlL l t best found
theorem settled_con (bs : List Int) (t : Int) (hl : bs.length ≤ 1000000000) (d : Nat) : Con Tryz.prog 22 true [lI bs, li t] (.v (li (stlL bs t t false))) none d := by
  obtain ⟨res, hres⟩ : ∃ r, stlL bs t t false = r := ⟨_, rfl⟩
  rw [hres]
  refine con_of_HT Tryz.func22 rfl (by kernel_rfl) (Nat.le_of_ble_eq_true rfl) ?_
  simp only [Tryz.f22]
  refine HT_seq <| (HT_run (by simp [*]; rfl) ?_)
  refine HT_seq <| (HT_run (by simp [*]; rfl) ?_)
  refine HT_seq <| HT_seq <| (HT_run (by simp [*]; rfl) ?_)
  refine HT_block <| (HT_loopU [0, 1] (fun (x : Nat × Int × Bool) => [(5, .v (li x.2.1)), (6, .v (lb x.2.2)), (7, .v (li x.1))]) (fun (x : Nat × Int × Bool) => []) (fun (x : Nat × Int × Bool) => x.1 ≤ bs.length ∧ stlL (bs.drop x.1) t x.2.1 x.2.2 = res) (fun (x : Nat × Int × Bool) => bs.length - x.1) (0, t, false) ⟨Nat.zero_le _, hres⟩ ?_ ?_)
  · exact le_mk (fun n => n) [] rfl (by simp [*, upS, keepS]) (by simp [*, upS]) (by simp [upS])
  rintro ⟨k, best, found⟩ ⟨hk, hJ⟩
  simp only [upS, keepS, insS]
  try simp only [keepS, List.contains_cons, List.contains_nil, Bool.or_false, Bool.or_true, Bool.true_or, Bool.false_or, Nat.reduceBEq, BEq.rfl, beq_self_eq_true, if_true, if_false, Bool.false_eq_true, ite_true, ite_false, ins, Nat.reduceLT]
  simp only at hk hJ
  clear hres
  refine HT_seq <| HT_seq <| (HT_run (by simp [*]; rfl) ?_)
  refine (HT_cond rfl (fun h5 => HT_skip ?_) (fun h5 => ?_))
  · try simp only [Bool.or_eq_true, Bool.and_eq_true, Bool.or_eq_false_iff, Bool.and_eq_false_iff, Bool.not_eq_true', Bool.not_eq_false', decide_eq_true_eq, decide_eq_false_iff_not] at h5
    have hlt : k < bs.length := by omega
    obtain ⟨b, he, hd⟩ := at_lt hlt
    have hw1 := wrap1 hlt (by omega)
    have hk1 : k + 1 ≤ bs.length := hlt
    rw [hd] at hJ
    simp only [stlL] at hJ
    clear hlt h5 hd
    refine HT_seq <| HT_block <| HT_seq <| (HT_run (by simp [*]; rfl) ?_)
    refine (HT_cond rfl (fun h7 => ?_) (fun h7 => HT_skip ?_))
    · try simp only [Bool.or_eq_true, Bool.and_eq_true, Bool.or_eq_false_iff, Bool.and_eq_false_iff, Bool.not_eq_true', Bool.not_eq_false', decide_eq_true_eq, decide_eq_false_iff_not] at h7
      rw [if_pos (by simpa using h7)] at hJ
      refine (HT_run (by simp [*]; rfl) ?_)
      refine (HT_run (by simp [*]; rfl) ?_)
      exact ⟨(k + 1, b, true), ⟨hk1, hJ⟩, by simp only; omega, le_mk (fun n => n) [] rfl (by simp [upS, keepS, *]) (by simp [*, upS]) (by simp [upS])⟩
    · try simp only [Bool.or_eq_true, Bool.and_eq_true, Bool.or_eq_false_iff, Bool.and_eq_false_iff, Bool.not_eq_true', Bool.not_eq_false', decide_eq_true_eq, decide_eq_false_iff_not] at h7
      have h7' : b < t ∨ found = true ∧ best ≤ b := by simpa using h7
      rw [if_neg (by
          rintro ⟨ha, hb⟩
          rcases h7' with h | h
          · omega
          · rcases hb with hb | hb
            · rw [hb] at h; exact absurd h.1 (by decide)
            · omega)] at hJ
      clear h7'
      refine (HT_run (by simp [*]; rfl) ?_)
      exact ⟨(k + 1, best, found), ⟨hk1, hJ⟩, by simp only; omega, le_mk (fun n => n) [] rfl (by simp [upS, keepS, *]) (by simp [*, upS]) (by simp [upS])⟩
  · try simp only [Bool.or_eq_true, Bool.and_eq_true, Bool.or_eq_false_iff, Bool.and_eq_false_iff, Bool.not_eq_true', Bool.not_eq_false', decide_eq_true_eq, decide_eq_false_iff_not] at h5
    have hkl : k = bs.length := by omega
    rw [hkl, List.drop_length] at hJ
    simp only [stlL] at hJ
    subst hJ
    refine (HT_exit ?_)
    refine HT_seq <| (HT_run (by simp [*]; rfl) ?_)
    exact (HT_retE (fun h => ⟨.inr rfl, h⟩) _ (by simp [*]; rfl) (by first | rfl | (simp [*]; done) | (simp only [resR]; (repeat' split) <;> first | rfl | (exfalso; omega) | simp_all)) (by simp))
def hvals (vs : List Int) (l : List Ht) : List Int := l.map fun h => heldI (vT vs h.term) h.low h.high
theorem hvals_con (f : Fl) (vs : List Int) (hvs : vs.length = f.vars.length) (hh : f.hats.length ≤ 1000000) (hf : ∀ h ∈ f.hats, formB f.vars true h.term = true) (d : Nat) :
    Con Tryz.prog 81 false [aF f, lI vs] (.v (lI (hvals vs f.hats))) none d := by
  obtain ⟨vars, hats, body⟩ := f
  simp only at hvs hh hf ⊢
  have hv0 : hvals vs [] = [] := rfl
  refine con_of_HT Tryz.func81 rfl (by kernel_rfl) (Nat.le_of_ble_eq_true rfl) ?_
  simp only [Tryz.f81]
  simp only [aF, Fl.enc, List.map_cons, List.map_nil]
  refine HT_seq <| (HT_run (by simp [*]; rfl) ?_)
  refine HT_seq <| (HT_run (by simp [*]; rfl) ?_)
  refine HT_seq <| HT_seq <| (HT_run (by simp [*]; rfl) ?_)
  refine HT_block <| (HT_loopU [1, 2] (fun (x : Nat) => [(5, .v (.one (.own 1005))), (6, .v (li x))]) (fun (x : Nat) => [(2, .box [.c (.sl 5 (encVs vars)), .c (.sl 6 (encHs hats)), .c (.sl 10 (encSs body))]), (1005, .row 3 1 (encIs (hvals vs (hats.take x))))]) (fun (x : Nat) => x ≤ hats.length) (fun (x : Nat) => hats.length - x) (0 : Nat) (Nat.zero_le _) ?_ ?_)
  · exact le_mk (fun n => if n = 1005 then 8 else n) [] rfl (by simp [*, upS, keepS]) (by simp [*, upS]) (by simp [upS])
  rintro k hk
  simp only [upS, keepS, insS]
  try simp only [keepS, List.contains_cons, List.contains_nil, Bool.or_false, Bool.or_true, Bool.true_or, Bool.false_or, Nat.reduceBEq, BEq.rfl, beq_self_eq_true, if_true, if_false, Bool.false_eq_true, ite_true, ite_false, ins, Nat.reduceLT]
  refine HT_seq <| HT_seq <| (HT_run (by simp [*]; rfl) ?_)
  refine (HT_cond rfl (fun h5 => HT_skip ?_) (fun h5 => ?_))
  · try simp only [Bool.or_eq_true, Bool.and_eq_true, Bool.or_eq_false_iff, Bool.and_eq_false_iff, Bool.not_eq_true', Bool.not_eq_false', decide_eq_true_eq, decide_eq_false_iff_not] at h5
    have hlt : k < hats.length := by omega
    obtain ⟨h, he, hd⟩ := at_lt hlt
    have hw1 := wrap1 hlt (by omega)
    have hk1 : k + 1 ≤ hats.length := hlt
    have htl : (hvals vs (hats.take k)).length = k := by unfold hvals; rw [List.length_map, List.length_take]; omega
    have hroom : room (k + 1) 8 := room_of (by omega) (by omega)
    have cv := value_con vars true vs hvs h.term (hf h (List.mem_of_getElem? he))
    have hsn : encIs (hvals vs (hats.take (k + 1))) = encIs (hvals vs (hats.take k)) ++ [[iC (heldI (vT vs h.term) h.low h.high)]] := by
      rw [take_snoc he]
      simp [hvals, encIs]
    obtain ⟨nm, lo, hi, ⟨o, tn, ks⟩⟩ := h
    simp only at cv hsn
    obtain ⟨A, hA⟩ : ∃ x, vT vs (.mk o tn ks) = x := ⟨_, rfl⟩
    have ch := held_con A lo hi
    obtain ⟨H, hH⟩ : ∃ x, heldI A lo hi = x := ⟨_, rfl⟩
    rw [hA, hH] at hsn
    rw [hA] at cv
    rw [hH] at ch
    simp only [aT, Tm.enc, List.map_cons, List.map_nil] at cv
    clear hlt h5 hd hA hH
    refine HT_seq <| HT_block <| HT_seq <| (HT_run (by simp [*]; rfl) ?_)
    refine (HT_drunc [⟨true, .v (li A), none⟩, ⟨true, .v (li H), none⟩] (by kernel_rfl) (by kernel_rfl) (by rfl) (by simp [*]; first | exact ⟨rfl, Iff.rfl⟩ | exact ⟨rfl, trivial⟩ | rfl) ?_ ?_)
    · first | exact ⟨cv _, ch _⟩ | exact trivial | (repeat' first | exact trivial | exact cv _ | exact ch _ | apply And.intro)
    refine (HT_run (by simp [*]; rfl) ?_)
    exact ⟨k + 1, hk1, by omega, le_mk (fun n => if n = 1005 then 32 else n) [] rfl (by simp [upS, keepS, *]) (by simp [*, upS]) (by simp [upS])⟩
  · try simp only [Bool.or_eq_true, Bool.and_eq_true, Bool.or_eq_false_iff, Bool.and_eq_false_iff, Bool.not_eq_true', Bool.not_eq_false', decide_eq_true_eq, decide_eq_false_iff_not] at h5
    have hkl : k = hats.length := by omega
    subst hkl
    simp only [List.take_length]
    refine (HT_exit ?_)
    refine HT_seq <| (HT_run (by simp [*]; rfl) ?_)
    exact HT_ret ⟨.inr rfl, _, le_frz 1005 rfl, ⟨⟨_, by simp; rfl, by simp [resR]⟩, by simp, fun h => by cases h⟩⟩
theorem encI_set (l : List Int) (i : Nat) (x : Int) : encIs (l.set i x) = (encIs l).set i [iC x] := by simp [encIs, List.map_set]
theorem set_con (f : Fl) (vs : List Int) (v n : Int) (w : Vr) (hvs : vs.length = f.vars.length) (hl : f.vars.length ≤ 1000000) (h0 : 0 ≤ v) (hw : f.vars[v.toNat]? = some w) (d : Nat) :
    Con Tryz.prog 103 false [aF f, lI vs, li v, li n] (.v (lI (vs.set v.toNat (heldI n w.low w.high)))) none d := by
  obtain ⟨vars, hats, body⟩ := f
  simp only at hvs hl hw
  have hlt : v.toNat < vars.length := (List.getElem?_eq_some_iff.1 hw).1
  have hroom : room vars.length 8 := room_of (by omega) (by omega)
  obtain ⟨x, hx⟩ : ∃ x, vs[v.toNat]? = some x := ⟨vs[v.toNat]'(by omega), by simp⟩
  have ch := held_con n w.low w.high
  obtain ⟨nm, kd, lo, hi, ini⟩ := w
  simp only at ch ⊢
  obtain ⟨H, hH⟩ : ∃ x, heldI n lo hi = x := ⟨_, rfl⟩
  rw [hH] at ch ⊢
  have hes := encI_set vs v.toNat H
  clear hlt hH
  refine con_of_HT Tryz.func103 rfl (by kernel_rfl) (Nat.le_of_ble_eq_true rfl) ?_
  simp only [Tryz.f103]
  simp only [aF, Fl.enc, List.map_cons, List.map_nil]
  refine HT_seq <| (HT_run (by simp [*]; rfl) ?_)
  refine HT_seq <| (HT_run (by simp [*]; rfl) ?_)
  refine HT_seq <| (HT_drunc [⟨true, .v (li H), none⟩] (by kernel_rfl) (by kernel_rfl) (by rfl) (by simp [*]; first | exact ⟨rfl, Iff.rfl⟩ | exact ⟨rfl, trivial⟩ | rfl) ?_ ?_)
  · first | exact ch _ | exact trivial | simpa [*] using ch _
  refine HT_seq <| (HT_run (by simp [*]; rfl) ?_)
  exact HT_ret ⟨.inr rfl, _, le_frz 12 rfl, ⟨⟨_, by simp; rfl, by simp [resR, hes]⟩, by simp, fun h => by cases h⟩⟩
end Go.Proofs.YtfilidjbpomgoaaGreat
