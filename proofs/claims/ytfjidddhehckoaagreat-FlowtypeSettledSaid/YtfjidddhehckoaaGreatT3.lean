/- Part 3: contracts of functions of the program and of the reference, and plain facts about what they compute; used by the proof of the claimed statement. Conditions: as each theorem states. -/
import Derived.Test.YtfjidddhehckoaaGreatT2
set_option linter.unusedSimpArgs false
set_option linter.unusedVariables false
set_option linter.unnecessarySimpa false
set_option maxRecDepth 100000
set_option maxHeartbeats 2000000
namespace Go.Proofs.YtfjidddhehckoaaGreat
open Go Go.Hl
theorem nodes_mem {ks : List Tm} {t : Tm} (ht : t ∈ ks) : t.nodes ≤ nodesT ks := by
 induction ks with
 | nil => cases ht
 | cons a l ih =>
   simp only [nodesT]
   rcases List.mem_cons.1 ht with rfl | h
   · omega
   · have := ih h; omega
theorem least_con (a b : Int) (d : Nat) : Con Tryz.prog 46 true [li a, li b] (.v (li (mn a b))) none d := by
 refine con_of_HT Tryz.func46 rfl (by kernel_rfl) (Nat.le_of_ble_eq_true rfl) ?_
 simp only [Tryz.f46]
 refine HT_seq <| HT_runA ?_
 refine HT_seq <| HT_seq <| HT_runA ?_
 refine (HT_cond rfl (fun h2 => ?_) (fun h2 => HT_skip ?_))
 · try simp only [BN] at h2
   have hz : mn a b = a := by unfold mn; split <;> omega
   refine HT_seq <| HT_runA ?_
   exact HT_retA fun h => ⟨.inr rfl, h⟩
 · try simp only [BN] at h2
   have hz : mn a b = b := by unfold mn; split <;> omega
   refine HT_seq <| HT_runA ?_
   exact HT_retA fun h => ⟨.inr rfl, h⟩
theorem most_con (a b : Int) (d : Nat) : Con Tryz.prog 45 true [li a, li b] (.v (li (mx a b))) none d := by
 refine con_of_HT Tryz.func45 rfl (by kernel_rfl) (Nat.le_of_ble_eq_true rfl) ?_
 simp only [Tryz.f45]
 refine HT_seq <| HT_runA ?_
 refine HT_seq <| HT_seq <| HT_runA ?_
 refine (HT_cond rfl (fun h2 => ?_) (fun h2 => HT_skip ?_))
 · try simp only [BN] at h2
   have hz : mx a b = a := by unfold mx; split <;> omega
   refine HT_seq <| HT_runA ?_
   exact HT_retA fun h => ⟨.inr rfl, h⟩
 · try simp only [BN] at h2
   have hz : mx a b = b := by unfold mx; split <;> omega
   refine HT_seq <| HT_runA ?_
   exact HT_retA fun h => ⟨.inr rfl, h⟩
def absI (a : Int) : Int := if a < 0 then -a else a
theorem size_con (a : Int) (h : -1048576 ≤ a ∧ a ≤ 1048576) (d : Nat) : Con Tryz.prog 162 true [li a] (.v (li (absI a))) none d := by
 have hw : IntKind.i64.wrap (-a) = -a := wrap_in (by omega) (by omega)
 refine con_of_HT Tryz.func162 rfl (by kernel_rfl) (Nat.le_of_ble_eq_true rfl) ?_
 simp only [Tryz.f162]
 refine HT_seq <| HT_runA ?_
 refine HT_seq <| HT_seq <| HT_runA ?_
 refine (HT_cond rfl (fun h2 => ?_) (fun h2 => HT_skip ?_))
 · try simp only [BN] at h2
   refine HT_seq <| HT_runA ?_
   exact (HT_retE (fun h => ⟨.inr rfl, h⟩) _ (by simp [*]; rfl) (by first | rfl | (simp [*, absI]; done) | (simp only [resR, absI]; (repeat' split) <;> first | rfl | (exfalso; omega) | simp_all)) (by simp))
 · try simp only [BN] at h2
   refine HT_seq <| HT_runA ?_
   exact (HT_retE (fun h => ⟨.inr rfl, h⟩) _ (by simp [*]; rfl) (by first | rfl | (simp [*, absI]; done) | (simp only [resR, absI]; (repeat' split) <;> first | rfl | (exfalso; omega) | simp_all)) (by simp))
def kidsR (o : Int) : Int := if o = 0 ∨ o = 24 then 0 else if o = 6 ∨ o = 7 then 1 else if 8 ≤ o ∧ o ≤ 22 then 2 else if o = 23 then 3 else if o = 25 then -2 else -1
theorem kidsR_con (o : Int) (d : Nat) : Con Tryz.prog 122 true [li o] (.v (li (kidsR o))) none d := by
 refine con_of_HT Tryz.func122 rfl (by kernel_rfl) (Nat.le_of_ble_eq_true rfl) ?_
 simp only [Tryz.f122]
 refine HT_seq <| HT_runA ?_
 refine HT_seq <| HT_seq <| HT_runA ?_
 refine HT_block <| (HT_cutU [3] (fun (z : Bool) => [(4, .v (lb z))]) (fun (z : Bool) => []) (fun (z : Bool) => z = decide (o = 0 ∨ o = 24)) ?_ ?_)
 ·
  refine HT_seq <| HT_runA ?_
  refine (HT_cond rfl (fun h4 => HT_skip ?_) (fun h4 => ?_))
  · try simp only [BN] at h4
    exact ⟨decide (o = 0 ∨ o = 24), rfl, le_mkA (fun n => n) []⟩
  · try simp only [BN] at h4
    refine HT_runA ?_
    exact ⟨decide (o = 0 ∨ o = 24), rfl, le_mkA (fun n => n) []⟩
 rintro _ rfl
 simp only [upS, keepS, insS]
 try simp only [keepS, KN, Nat.reduceBEq, if_true, if_false, ins, Nat.reduceLT]
 refine (HT_cond rfl (fun h8 => ?_) (fun h8 => ?_))
 · try simp only [BN] at h8
   refine HT_seq <| HT_runA ?_
   exact (HT_retE (fun h => ⟨.inr rfl, h⟩) _ (by simp [*]; rfl) (by first | rfl | (simp [*, kidsR]; done) | (simp only [resR, kidsR]; (repeat' split) <;> first | rfl | (exfalso; omega) | simp_all)) (by simp))
 · try simp only [BN] at h8
   refine (HT_cutU [3] (fun (z : Bool) => [(7, .v (lb z))]) (fun (z : Bool) => []) (fun (z : Bool) => z = decide (o = 6 ∨ o = 7)) ?_ ?_)
   ·
    refine HT_seq <| HT_runA ?_
    refine (HT_cond rfl (fun h13 => HT_skip ?_) (fun h13 => ?_))
    · try simp only [BN] at h13
      exact ⟨decide (o = 6 ∨ o = 7), rfl, le_mkA (fun n => n) []⟩
    · try simp only [BN] at h13
      refine HT_runA ?_
      exact ⟨decide (o = 6 ∨ o = 7), rfl, le_mkA (fun n => n) []⟩
   rintro _ rfl
   simp only [upS, keepS, insS]
   try simp only [keepS, KN, Nat.reduceBEq, if_true, if_false, ins, Nat.reduceLT]
   refine (HT_cond rfl (fun h17 => ?_) (fun h17 => ?_))
   · try simp only [BN] at h17
     refine HT_seq <| HT_runA ?_
     exact (HT_retE (fun h => ⟨.inr rfl, h⟩) _ (by simp [*]; rfl) (by first | rfl | (simp [*, kidsR]; done) | (simp only [resR, kidsR]; (repeat' split) <;> first | rfl | (exfalso; omega) | simp_all)) (by simp))
   · try simp only [BN] at h17
     refine (HT_cutU [3] (fun (z : Bool) => [(10, .v (lb z))]) (fun (z : Bool) => []) (fun (z : Bool) => z = decide (8 ≤ o ∧ o ≤ 22)) ?_ ?_)
     ·
      refine HT_seq <| HT_runA ?_
      refine (HT_cond rfl (fun h22 => HT_skip ?_) (fun h22 => ?_))
      · try simp only [BN] at h22
        exact ⟨decide (8 ≤ o ∧ o ≤ 22), rfl, le_mkA (fun n => n) []⟩
      · try simp only [BN] at h22
        refine HT_seq <| HT_runA ?_
        refine (HT_cond rfl (fun h25 => HT_skip ?_) (fun h25 => ?_))
        · try simp only [BN] at h25
          exact ⟨decide (8 ≤ o ∧ o ≤ 22), rfl, le_mkA (fun n => n) []⟩
        · try simp only [BN] at h25
          refine HT_seq <| HT_runA ?_
          refine (HT_cond rfl (fun h28 => HT_skip ?_) (fun h28 => ?_))
          · try simp only [BN] at h28
            exact ⟨decide (8 ≤ o ∧ o ≤ 22), rfl, le_mkA (fun n => n) []⟩
          · try simp only [BN] at h28
            refine HT_seq <| HT_runA ?_
            refine (HT_cond rfl (fun h31 => HT_skip ?_) (fun h31 => ?_))
            · try simp only [BN] at h31
              exact ⟨decide (8 ≤ o ∧ o ≤ 22), rfl, le_mkA (fun n => n) []⟩
            · try simp only [BN] at h31
              refine HT_seq <| HT_runA ?_
              refine (HT_cond rfl (fun h34 => HT_skip ?_) (fun h34 => ?_))
              · try simp only [BN] at h34
                exact ⟨decide (8 ≤ o ∧ o ≤ 22), rfl, le_mkA (fun n => n) []⟩
              · try simp only [BN] at h34
                refine HT_seq <| HT_runA ?_
                refine (HT_cond rfl (fun h37 => HT_skip ?_) (fun h37 => ?_))
                · try simp only [BN] at h37
                  exact ⟨decide (8 ≤ o ∧ o ≤ 22), rfl, le_mkA (fun n => n) []⟩
                · try simp only [BN] at h37
                  refine HT_seq <| HT_runA ?_
                  refine (HT_cond rfl (fun h40 => HT_skip ?_) (fun h40 => ?_))
                  · try simp only [BN] at h40
                    exact ⟨decide (8 ≤ o ∧ o ≤ 22), rfl, le_mkA (fun n => n) []⟩
                  · try simp only [BN] at h40
                    refine HT_seq <| HT_runA ?_
                    refine (HT_cond rfl (fun h43 => HT_skip ?_) (fun h43 => ?_))
                    · try simp only [BN] at h43
                      exact ⟨decide (8 ≤ o ∧ o ≤ 22), rfl, le_mkA (fun n => n) []⟩
                    · try simp only [BN] at h43
                      refine HT_seq <| HT_runA ?_
                      refine (HT_cond rfl (fun h46 => HT_skip ?_) (fun h46 => ?_))
                      · try simp only [BN] at h46
                        exact ⟨decide (8 ≤ o ∧ o ≤ 22), rfl, le_mkA (fun n => n) []⟩
                      · try simp only [BN] at h46
                        refine HT_seq <| HT_runA ?_
                        refine (HT_cond rfl (fun h49 => HT_skip ?_) (fun h49 => ?_))
                        · try simp only [BN] at h49
                          exact ⟨decide (8 ≤ o ∧ o ≤ 22), rfl, le_mkA (fun n => n) []⟩
                        · try simp only [BN] at h49
                          refine HT_seq <| HT_runA ?_
                          refine (HT_cond rfl (fun h52 => HT_skip ?_) (fun h52 => ?_))
                          · try simp only [BN] at h52
                            exact ⟨decide (8 ≤ o ∧ o ≤ 22), rfl, le_mkA (fun n => n) []⟩
                          · try simp only [BN] at h52
                            refine HT_seq <| HT_runA ?_
                            refine (HT_cond rfl (fun h55 => HT_skip ?_) (fun h55 => ?_))
                            · try simp only [BN] at h55
                              exact ⟨decide (8 ≤ o ∧ o ≤ 22), rfl, le_mkA (fun n => n) []⟩
                            · try simp only [BN] at h55
                              refine HT_seq <| HT_runA ?_
                              refine (HT_cond rfl (fun h58 => HT_skip ?_) (fun h58 => ?_))
                              · try simp only [BN] at h58
                                exact ⟨decide (8 ≤ o ∧ o ≤ 22), rfl, le_mkA (fun n => n) []⟩
                              · try simp only [BN] at h58
                                refine HT_seq <| HT_runA ?_
                                refine (HT_cond rfl (fun h61 => HT_skip ?_) (fun h61 => ?_))
                                · try simp only [BN] at h61
                                  exact ⟨decide (8 ≤ o ∧ o ≤ 22), rfl, le_mkA (fun n => n) []⟩
                                · try simp only [BN] at h61
                                  refine HT_runA ?_
                                  have hz : decide (o = 22) = (decide (8 ≤ o) && decide (o ≤ 22)) := by rw [← Bool.decide_and, decide_eq_decide]; omega
                                  exact ⟨decide (8 ≤ o ∧ o ≤ 22), rfl, le_mkA (fun n => n) []⟩
     rintro _ rfl
     simp only [upS, keepS, insS]
     try simp only [keepS, KN, Nat.reduceBEq, if_true, if_false, ins, Nat.reduceLT]
     refine (HT_cond rfl (fun h65 => ?_) (fun h65 => ?_))
     · try simp only [BN] at h65
       refine HT_seq <| HT_runA ?_
       exact (HT_retE (fun h => ⟨.inr rfl, h⟩) _ (by simp [*]; rfl) (by first | rfl | (simp [*, kidsR]; done) | (simp only [resR, kidsR]; (repeat' split) <;> first | rfl | (exfalso; omega) | simp_all)) (by simp))
     · try simp only [BN] at h65
       refine HT_seq <| HT_runA ?_
       refine (HT_cond rfl (fun h69 => ?_) (fun h69 => ?_))
       · try simp only [BN] at h69
         refine HT_seq <| HT_runA ?_
         exact (HT_retE (fun h => ⟨.inr rfl, h⟩) _ (by simp [*]; rfl) (by first | rfl | (simp [*, kidsR]; done) | (simp only [resR, kidsR]; (repeat' split) <;> first | rfl | (exfalso; omega) | simp_all)) (by simp))
       · try simp only [BN] at h69
         refine HT_seq <| HT_runA ?_
         refine (HT_cond rfl (fun h73 => ?_) (fun h73 => HT_skip ?_))
         · try simp only [BN] at h73
           refine HT_seq <| HT_runA ?_
           exact (HT_retE (fun h => ⟨.inr rfl, h⟩) _ (by simp [*]; rfl) (by first | rfl | (simp [*, kidsR]; done) | (simp only [resR, kidsR]; (repeat' split) <;> first | rfl | (exfalso; omega) | simp_all)) (by simp))
         · try simp only [BN] at h73
           refine HT_seq <| HT_runA ?_
           exact (HT_retE (fun h => ⟨.inr rfl, h⟩) _ (by simp [*]; rfl) (by first | rfl | (simp [*, kidsR]; done) | (simp only [resR, kidsR]; (repeat' split) <;> first | rfl | (exfalso; omega) | simp_all)) (by simp))
end Go.Proofs.YtfjidddhehckoaaGreat

namespace Go.Proofs.YtfjidddhehckoaaGreat
open Go Go.Hl
theorem kids_eq (o : Int) (len : Nat) : (!decide (kidsR o = -1) && ((!decide (0 ≤ kidsR o) || decide ((len : Int) = kidsR o)) && (!decide (kidsR o = -2) || (!decide ((len : Int) < 2) && !decide (33 < (len : Int)))))) = (!decide ((kidsP o).1 < 0) && (!decide ((len : Int) < (kidsP o).1) && !decide ((kidsP o).2 < (len : Int)))) := by
 unfold kidsR kidsP
 (repeat' split) <;> simp <;> (try omega)
 all_goals (rw [Bool.eq_iff_iff]; simp only [Bool.and_eq_true, Bool.or_eq_true, Bool.not_eq_true', decide_eq_true_eq, decide_eq_false_iff_not]; omega)
theorem formR_con (vars : List Vr) (inp : Bool) (hv : vars.length ≤ 1000000000) (t : Tm) : t.nodes ≤ 1000000000 → ∀ d : Nat,
  Con Tryz.prog 89 true [lV vars, aT t, lb inp] (.v (lb (formB vars inp t))) none d := by
 induction t using Tm.ind with
 | h o n ks ih =>
 intro hn d
 simp only [Tm.nodes] at hn
 have hlen := len_nodesT ks
 obtain ⟨res, hres⟩ : ∃ r, formB vars inp (.mk o n ks) = r := ⟨_, rfl⟩
 rw [hres]
 simp only [formB] at hres
 have ih' : ∀ t ∈ ks, ∀ d, Con Tryz.prog 89 true [lV vars, aT t, lb inp] (.v (lb (formB vars inp t))) none d := fun t ht d => ih t ht (by have := nodes_mem ht; omega) d
 clear ih
 have hke := kids_eq o ks.length
 refine con_of_HT Tryz.func89 rfl (by kernel_rfl) (Nat.le_of_ble_eq_true rfl) ?_
 simp only [Tryz.f89]
 simp only [aT, Tm.enc]
 refine HT_seq <| HT_runA ?_
 refine HT_seq <| (HT_runcA [⟨true, .v (li (kidsR o)), none⟩] ?_ ?_)
 · first | exact kidsR_con o _ | exact trivial | simpa [*] using kidsR_con o _
 refine HT_seq <| HT_seq <| HT_runA ?_
 refine (HT_cond rfl (fun h3 => ?_) (fun h3 => HT_skip ?_))
 · try simp only [BN] at h3
   have hz : nodeB vars inp o n ks.length = false := by
    unfold nodeB
    rw [← hke, Bool.and_eq_false_iff]
    refine .inl ?_
    simp only [Bool.and_eq_false_iff, Bool.or_eq_false_iff, Bool.not_eq_false', decide_eq_true_eq, decide_eq_false_iff_not]
    omega
   rw [hz, Bool.false_and] at hres
   refine HT_seq <| HT_runA ?_
   exact (HT_retE (fun h => ⟨.inr rfl, h⟩) _ (by simp [*]; rfl) (by first | rfl | simp [*]) (by simp))
 · try simp only [BN] at h3
   have hz : (!decide ((kidsP o).1 < 0) && (!decide ((ks.length : Int) < (kidsP o).1) && !decide ((kidsP o).2 < (ks.length : Int)))) = true := by
    rw [← hke]
    simp only [Bool.and_eq_true, Bool.or_eq_true, Bool.not_eq_true', decide_eq_false_iff_not, decide_eq_true_eq]
    omega
   clear hke
   refine (HT_cutU [0, 2, 4] (fun (z : Unit) => []) (fun (z : Unit) => [(4, .box [.c (iC o), .c (iC n), .c (.sl 3 (encTs ks))])]) (fun (z : Unit) => nodeB vars inp o n ks.length = true) ?_ ?_)
   ·
    refine HT_seq <| HT_runA ?_
    refine (HT_cond rfl (fun h8 => ?_) (fun h8 => ?_))
    · try simp only [BN] at h8
      by_cases hn0 : 0 ≤ n
      · by_cases hn3 : n < vars.length
        · obtain ⟨v, hv1⟩ := get_vars ⟨hn0, hn3⟩
          have hn1 : ¬ (vars.length : Int) ≤ n := by omega
          have hn2 : ¬ n < 0 := by omega
          clear hn3
          refine HT_seq <| HT_runA ?_
          refine (HT_cond rfl (fun h10 => ?_) (fun h10 => HT_skip ?_))
          · try simp only [BN] at h10
            have hz3 : nodeB vars inp o n ks.length = false := by
             unfold nodeB refB
             rw [hz, Bool.true_and, if_neg (by omega), if_pos h8, hv1]
             simp [h10]
            rw [hz3, Bool.false_and] at hres
            refine HT_seq <| HT_runA ?_
            exact (HT_retE (fun h => ⟨.inr rfl, h⟩) _ (by simp [*]; rfl) (by first | rfl | simp [*]) (by simp))
          · try simp only [BN] at h10
            exact ⟨(), by
             unfold nodeB refB
             rw [hz, Bool.true_and, if_neg (by omega), if_pos h8, hv1]
             simp only [Bool.and_eq_true, Bool.not_eq_true', Bool.and_eq_false_iff, decide_eq_true_eq, decide_eq_false_iff_not]
             exact ⟨hn0, h10⟩, le_mkA (fun n => n) []⟩
        · cases inp
          · have hv1 := get_none hn0 hn3
            have hn1 : (vars.length : Int) ≤ n := by omega
            have hn2 : ¬ n < 0 := by omega
            have hz2 : ∀ i, refB vars i n = false := by intro i; simp [refB, hv1]
            clear hn3
            refine HT_seq <| HT_runA ?_
            refine (HT_cond rfl (fun h10 => ?_) (fun h10 => HT_skip ?_))
            · try simp only [BN] at h10
              have hz3 : ∀ i, nodeB vars i o n ks.length = false := by
               intro i
               unfold nodeB
               rw [hz, Bool.true_and, if_neg (by omega), if_pos h8, hz2]
              rw [hz3, Bool.false_and] at hres
              refine HT_seq <| HT_runA ?_
              exact (HT_retE (fun h => ⟨.inr rfl, h⟩) _ (by simp [*]; rfl) (by first | rfl | simp [*]) (by simp))
            · exact absurd h10 (by simp)
          · have hv1 := get_none hn0 hn3
            have hn1 : (vars.length : Int) ≤ n := by omega
            have hn2 : ¬ n < 0 := by omega
            have hz2 : ∀ i, refB vars i n = false := by intro i; simp [refB, hv1]
            clear hn3
            refine HT_seq <| HT_runA ?_
            refine (HT_cond rfl (fun h10 => ?_) (fun h10 => HT_skip ?_))
            · try simp only [BN] at h10
              have hz3 : ∀ i, nodeB vars i o n ks.length = false := by
               intro i
               unfold nodeB
               rw [hz, Bool.true_and, if_neg (by omega), if_pos h8, hz2]
              rw [hz3, Bool.false_and] at hres
              refine HT_seq <| HT_runA ?_
              exact (HT_retE (fun h => ⟨.inr rfl, h⟩) _ (by simp [*]; rfl) (by first | rfl | simp [*]) (by simp))
            · exact absurd h10 (by simp)
      · cases inp
        · have hn2 : n < 0 := by omega
          have hz2 : ∀ i, refB vars i n = false := by intro i; simp [refB, hn0]
          refine HT_seq <| HT_runA ?_
          refine (HT_cond rfl (fun h10 => ?_) (fun h10 => HT_skip ?_))
          · try simp only [BN] at h10
            have hz3 : ∀ i, nodeB vars i o n ks.length = false := by
             intro i
             unfold nodeB
             rw [hz, Bool.true_and, if_neg (by omega), if_pos h8, hz2]
            rw [hz3, Bool.false_and] at hres
            refine HT_seq <| HT_runA ?_
            exact (HT_retE (fun h => ⟨.inr rfl, h⟩) _ (by simp [*]; rfl) (by first | rfl | simp [*]) (by simp))
          · exact absurd h10 (by simp)
        · have hn2 : n < 0 := by omega
          have hz2 : ∀ i, refB vars i n = false := by intro i; simp [refB, hn0]
          refine HT_seq <| HT_runA ?_
          refine (HT_cond rfl (fun h10 => ?_) (fun h10 => HT_skip ?_))
          · try simp only [BN] at h10
            have hz3 : ∀ i, nodeB vars i o n ks.length = false := by
             intro i
             unfold nodeB
             rw [hz, Bool.true_and, if_neg (by omega), if_pos h8, hz2]
            rw [hz3, Bool.false_and] at hres
            refine HT_seq <| HT_runA ?_
            exact (HT_retE (fun h => ⟨.inr rfl, h⟩) _ (by simp [*]; rfl) (by first | rfl | simp [*]) (by simp))
          · exact absurd h10 (by simp)
    · try simp only [BN] at h8
      refine HT_seq <| HT_runA ?_
      refine (HT_cond rfl (fun h15 => ?_) (fun h15 => HT_skip ?_))
      · try simp only [BN] at h15
        have hz3 : nodeB vars inp o n ks.length = false := by
         unfold nodeB
         rw [hz, Bool.true_and, if_neg (by omega), if_neg h8]
         simp only [decide_eq_false_iff_not]
         omega
        rw [hz3, Bool.false_and] at hres
        refine HT_seq <| HT_runA ?_
        exact (HT_retE (fun h => ⟨.inr rfl, h⟩) _ (by simp [*]; rfl) (by first | rfl | simp [*]) (by simp))
      · try simp only [BN] at h15
        exact ⟨(), by
         unfold nodeB
         rw [hz, Bool.true_and]
         split
         · rfl
         · simp only [decide_eq_true_eq]
           omega, le_mkA (fun n => n) []⟩
   rintro z hz
   simp only [upS, keepS, insS]
   try simp only [keepS, KN, Nat.reduceBEq, if_true, if_false, ins, Nat.reduceLT]
   rw [hz, Bool.true_and] at hres
   refine HT_seq <| HT_seq <| HT_runA ?_
   refine HT_block <| (HT_loopU [0, 2, 4] (fun (x : Nat) => [(8, .v (li x))]) (fun (x : Nat) => [(4, .box [.c (iC o), .c (iC n), .c (.sl 3 (encTs ks))])]) (fun (x : Nat) => x ≤ ks.length ∧ formBs vars inp (ks.drop x) = res) (fun (x : Nat) => ks.length - x) (0 : Nat) ⟨Nat.zero_le _, hres⟩ ?_ ?_)
   · exact le_mkA (fun n => n) []
   rintro k ⟨hk, hJ⟩
   simp only [upS, keepS, insS]
   try simp only [keepS, KN, Nat.reduceBEq, if_true, if_false, ins, Nat.reduceLT]
   refine HT_seq <| HT_seq <| HT_runA ?_
   refine (HT_cond rfl (fun h22 => HT_skip ?_) (fun h22 => ?_))
   · try simp only [BN] at h22
     have hlt : k < ks.length := by omega
     obtain ⟨⟨eo, en, ek⟩, he, hd⟩ := at_lt hlt
     have he' := get_encT he
     simp only [Tm.enc] at he'
     have hw1 := wrap1 hlt (by omega)
     rw [hd] at hJ
     simp only [formBs] at hJ
     have hk1 : k + 1 ≤ ks.length := hlt
     have hmem : Tm.mk eo en ek ∈ ks := List.mem_of_getElem? he
     clear hlt h22
     refine HT_seq <| HT_block <| HT_seq <| (HT_runcA [⟨true, .v (lb (formB vars inp (.mk eo en ek))), none⟩] ?_ ?_)
     · first | exact ih' _ hmem _ | exact trivial | simpa [*] using ih' _ hmem _
     refine (HT_cond rfl (fun h24 => ?_) (fun h24 => HT_skip ?_))
     · try simp only [BN] at h24
       rw [h24, Bool.false_and] at hJ
       subst hJ
       refine HT_seq <| HT_runA ?_
       exact (HT_retE (fun h => ⟨.inr rfl, h⟩) _ (by simp [*]; rfl) (by first | rfl | simp [*]) (by simp))
     · try simp only [BN] at h24
       rw [h24, Bool.true_and] at hJ
       refine HT_runA ?_
       exact ⟨k + 1, ⟨hk1, hJ⟩, by omega, le_mkA (fun n => n) []⟩
   · try simp only [BN] at h22
     have hkl : k = ks.length := by omega
     subst hkl
     rw [List.drop_length] at hJ
     simp only [formBs] at hJ
     subst hJ
     refine (HT_exit ?_)
     refine HT_seq <| HT_runA ?_
     exact (HT_retE (fun h => ⟨.inr rfl, h⟩) _ (by simp [*]; rfl) (by first | rfl | simp [*]) (by simp))
end Go.Proofs.YtfjidddhehckoaaGreat

namespace Go.Proofs.YtfjidddhehckoaaGreat
open Go Go.Hl
theorem modS_con (b : Int × Int) (hb : -1048576 ≤ b.1 ∧ b.1 ≤ b.2 ∧ b.2 ≤ 1048576) (d : Nat) : Con Tryz.prog 163 true [li b.1, li b.2] (.tup [li (modL b), li (modH b)]) none d := by
 obtain ⟨c1, c2⟩ := b
 simp only at hb
 have hw1 : IntKind.i64.wrap (c1 + 1) = c1 + 1 := wrap_in (by omega) (by omega)
 have hw2 : IntKind.i64.wrap (c2 - 1) = c2 - 1 := wrap_in (by omega) (by omega)
 refine con_of_HT Tryz.func163 rfl (by kernel_rfl) (Nat.le_of_ble_eq_true rfl) ?_
 simp only [Tryz.f163]
 refine HT_seq <| HT_runA ?_
 refine HT_seq <| HT_runA ?_
 refine (HT_cutU [1, 7] (fun (z : Int) => [(6, .v (li z))]) (fun (z : Int) => []) (fun (z : Int) => z = modL (c1, c2)) ?_ ?_)
 ·
  refine HT_seq <| HT_runA ?_
  refine (HT_cond rfl (fun h4 => ?_) (fun h4 => HT_skip ?_))
  · try simp only [BN] at h4
    have hml : mn 0 (c1 + 1) = modL (c1, c2) := by simp only [modL]; rw [if_pos h4]; unfold mn; (repeat' split) <;> omega
    refine (HT_runcA [⟨true, .v (li (mn 0 (c1 + 1))), none⟩] ?_ ?_)
    · first | exact least_con 0 (c1 + 1) _ | exact trivial | simpa [*] using least_con 0 (c1 + 1) _
    exact ⟨modL (c1, c2), rfl, le_mkA (fun n => n) []⟩
  · try simp only [BN] at h4
    have hml : (0 : Int) = modL (c1, c2) := by simp only [modL]; rw [if_neg h4]
    exact ⟨modL (c1, c2), rfl, le_mkA (fun n => n) []⟩
 rintro _ rfl
 simp only [upS, keepS, insS]
 try simp only [keepS, KN, Nat.reduceBEq, if_true, if_false, ins, Nat.reduceLT]
 refine HT_seq <| HT_seq <| HT_runA ?_
 refine (HT_cond rfl (fun h9 => ?_) (fun h9 => HT_skip ?_))
 · try simp only [BN] at h9
   have hmh : mx 0 (c2 - 1) = modH (c1, c2) := by simp only [modH]; rw [if_pos h9]; unfold mx; (repeat' split) <;> omega
   refine (HT_runcA [⟨true, .v (li (mx 0 (c2 - 1))), none⟩] ?_ ?_)
   · first | exact most_con 0 (c2 - 1) _ | exact trivial | simpa [*] using most_con 0 (c2 - 1) _
   refine HT_seq <| HT_runA ?_
   exact HT_retA fun h => ⟨.inr rfl, h⟩
 · try simp only [BN] at h9
   have hmh : modH (c1, c2) = 0 := by simp only [modH]; rw [if_neg h9]
   refine HT_seq <| HT_runA ?_
   exact HT_retA fun h => ⟨.inr rfl, h⟩
def lows (k : List (Int × Int)) : List (List CD) := k.map fun p => [iC p.1]
def highs (k : List (Int × Int)) : List (List CD) := k.map fun p => [iC p.2]
@[simp] theorem lows_nil : lows [] = [] := rfl
@[simp] theorem highs_nil : highs [] = [] := rfl
@[simp] theorem len_lows (k : List (Int × Int)) : (lows k).length = k.length := by simp [lows]
@[simp] theorem get_lows (k : List (Int × Int)) (i : Nat) : (lows k)[i]? = k[i]?.map fun p => [iC p.1] := by simp [lows]
@[simp] theorem len_highs (k : List (Int × Int)) : (highs k).length = k.length := by simp [highs]
@[simp] theorem get_highs (k : List (Int × Int)) (i : Nat) : (highs k)[i]? = k[i]?.map fun p => [iC p.2] := by simp [highs]
def spanR (vars : List Vr) (o n : Int) (k : List (Int × Int)) : Int × Int :=
 if o = 0 then (if n < -1048576 ∨ 1048576 < n then (-1048577, 1048577) else (n, n)) else ruleP vars o n k
theorem span_con (vars : List Vr) (inp : Bool) (o n : Int) (K : CD) (k : List (Int × Int)) (hf : nodeB vars inp o n k.length = true) (hk : ∀ p ∈ k, bnd p) (d : Nat) :
  Con Tryz.prog 123 true [lV vars, .agg [.c (iC o), .c (iC n), .c K], .one (.c (.sl 1 (lows k))), .one (.c (.sl 1 (highs k)))] (.tup [li (spanR vars o n k).1, li (spanR vars o n k).2]) none d := by
 have har := node_ar hf
 have hrf : o = 24 → 0 ≤ n ∧ ∃ v, vars[n.toNat]? = some v ∧ (inp = true → v.kind ≠ 0) := fun h => node_ref (by rw [← h]; exact hf)
 clear hf
 have ar1 : o = 6 → 0 + 1 ≤ k.length := fun h => by have := kids1 (.inl h); rw [this] at har; simp only at har; omega
 have ar2 : 8 ≤ o ∧ o ≤ 22 → 0 + 1 ≤ k.length ∧ 1 + 1 ≤ k.length := fun h => by have := kids2 h; rw [this] at har; simp only at har; omega
 have ar3 : o = 23 ∨ o = 25 → 2 ≤ k.length ∧ k.length ≤ 33 := fun h => by
  rcases h with h | h
  · have := kids3; rw [h, this] at har; simp only at har; omega
  · have := kids4; rw [h, this] at har; simp only at har; omega
 clear har
 obtain ⟨res, hres⟩ : ∃ r, spanR vars o n k = r := ⟨_, rfl⟩
 rw [hres]
 simp only [spanR, ruleP] at hres
 refine con_of_HT Tryz.func123 rfl (by kernel_rfl) (Nat.le_of_ble_eq_true rfl) ?_
 simp only [Tryz.f123]
 refine HT_seq <| HT_runA ?_
 refine HT_seq <| HT_seq <| HT_runA ?_
 refine HT_block <| HT_seq <| HT_runA ?_
 refine (HT_cond rfl (fun h3 => ?_) (fun h3 => ?_))
 · try simp only [BN] at h3
   rw [if_pos h3] at hres
   refine HT_seq <| HT_seq <| HT_runA ?_
   refine (HT_cond rfl (fun h5 => ?_) (fun h5 => HT_skip ?_))
   · try simp only [BN] at h5
     rw [if_pos h5] at hres
     subst hres
     refine HT_seq <| HT_runA ?_
     exact HT_retA fun h => ⟨.inr rfl, h⟩
   · try simp only [BN] at h5
     rw [if_neg (by omega)] at hres
     subst hres
     refine HT_seq <| (HT_drun (by kernel_rfl) (by kernel_rfl) (by rfl) (by simp [*]; rfl) ?_)
     exact HT_retA fun h => ⟨.inr rfl, h⟩
 · try simp only [BN] at h3
   rw [if_neg h3, if_neg h3] at hres
   refine HT_seq <| HT_runA ?_
   refine (HT_cond rfl (fun h11 => ?_) (fun h11 => ?_))
   · try simp only [BN] at h11
     obtain ⟨hn0, v, hv, _⟩ := hrf h11
     rw [if_pos h11, hv] at hres
     subst hres
     clear hrf
     refine HT_seq <| (HT_drun (by kernel_rfl) (by kernel_rfl) (by rfl) (by simp [*]; rfl) ?_)
     exact HT_retA fun h => ⟨.inr rfl, h⟩
   · try simp only [BN] at h11
     rw [if_neg h11] at hres
     refine HT_seq <| HT_runA ?_
     refine (HT_cond rfl (fun h15 => ?_) (fun h15 => ?_))
     · try simp only [BN] at h15
       obtain ⟨a1, a2, ha, hb1, hb2, hb3⟩ := kid hk (ar1 h15)
       have hw1 : IntKind.i64.wrap (-a1) = -a1 := wrap_in (by omega) (by omega)
       have hw2 : IntKind.i64.wrap (-a2) = -a2 := wrap_in (by omega) (by omega)
       rw [if_pos h15] at hres
       simp only [g2, ha, Option.getD_some] at hres
       subst hres
       clear ar1 ar2 ar3
       refine HT_seq <| (HT_drun (by kernel_rfl) (by kernel_rfl) (by rfl) (by simp [*]; rfl) ?_)
       exact HT_retA fun h => ⟨.inr rfl, h⟩
     · try simp only [BN] at h15
       rw [if_neg h15] at hres
       refine HT_seq <| HT_runA ?_
       refine (HT_cond rfl (fun h19 => ?_) (fun h19 => ?_))
       · try simp only [BN] at h19
         obtain ⟨a1, a2, ha, hb1, hb2, hb3⟩ := kid hk (ar2 (by omega)).1
         obtain ⟨c1, c2, hc, hc1, hc2, hc3⟩ := kid hk (ar2 (by omega)).2
         have hw1 : IntKind.i64.wrap (a1 + c1) = a1 + c1 := wrap_in (by omega) (by omega)
         have hw2 : IntKind.i64.wrap (a2 + c2) = a2 + c2 := wrap_in (by omega) (by omega)
         rw [if_pos h19] at hres
         simp only [g2, ha, hc, Option.getD_some] at hres
         subst hres
         clear ar1 ar2 ar3
         refine HT_seq <| (HT_drun (by kernel_rfl) (by kernel_rfl) (by rfl) (by simp [*]; rfl) ?_)
         exact HT_retA fun h => ⟨.inr rfl, h⟩
       · try simp only [BN] at h19
         rw [if_neg h19] at hres
         refine HT_seq <| HT_runA ?_
         refine (HT_cond rfl (fun h23 => ?_) (fun h23 => ?_))
         · try simp only [BN] at h23
           obtain ⟨a1, a2, ha, hb1, hb2, hb3⟩ := kid hk (ar2 (by omega)).1
           obtain ⟨c1, c2, hc, hc1, hc2, hc3⟩ := kid hk (ar2 (by omega)).2
           have hw1 : IntKind.i64.wrap (a1 - c2) = a1 - c2 := wrap_in (by omega) (by omega)
           have hw2 : IntKind.i64.wrap (a2 - c1) = a2 - c1 := wrap_in (by omega) (by omega)
           rw [if_pos h23] at hres
           simp only [g2, ha, hc, Option.getD_some] at hres
           subst hres
           clear ar1 ar2 ar3
           refine HT_seq <| (HT_drun (by kernel_rfl) (by kernel_rfl) (by rfl) (by simp [*]; rfl) ?_)
           exact HT_retA fun h => ⟨.inr rfl, h⟩
         · try simp only [BN] at h23
           rw [if_neg h23] at hres
           refine HT_seq <| HT_runA ?_
           refine (HT_cond rfl (fun h27 => ?_) (fun h27 => ?_))
           · try simp only [BN] at h27
             obtain ⟨a1, a2, ha, hb1, hb2, hb3⟩ := kid hk (ar2 (by omega)).1
             obtain ⟨c1, c2, hc, hc1, hc2, hc3⟩ := kid hk (ar2 (by omega)).2
             rw [if_pos h27] at hres
             simp only [g2, ha, hc, Option.getD_some] at hres
             clear ar1 ar2 ar3
             have hm1 := mul_le ⟨hb1, by omega⟩ ⟨hc1, by omega⟩ (x := a1) (y := c1)
             have hm2 := mul_le ⟨hb1, by omega⟩ ⟨by omega, hc3⟩ (x := a1) (y := c2)
             have hm3 := mul_le ⟨by omega, hb3⟩ ⟨hc1, by omega⟩ (x := a2) (y := c1)
             have hm4 := mul_le ⟨by omega, hb3⟩ ⟨by omega, hc3⟩ (x := a2) (y := c2)
             have hw1 : IntKind.i64.wrap (a1 * c1) = a1 * c1 := wrap_in (by omega) (by omega)
             have hw2 : IntKind.i64.wrap (a1 * c2) = a1 * c2 := wrap_in (by omega) (by omega)
             have hw3 : IntKind.i64.wrap (a2 * c1) = a2 * c1 := wrap_in (by omega) (by omega)
             have hw4 : IntKind.i64.wrap (a2 * c2) = a2 * c2 := wrap_in (by omega) (by omega)
             have he1 : mn (mn (a1 * c1) (a1 * c2)) (mn (a2 * c1) (a2 * c2)) = res.1 := by
              rw [← hres]
              simp only [mulP, hullP, mn]
              generalize a1 * c1 = p at *
              generalize a1 * c2 = q at *
              generalize a2 * c1 = r at *
              generalize a2 * c2 = s at *
              (repeat' split) <;> omega
             have he2 : mx (mx (a1 * c1) (a1 * c2)) (mx (a2 * c1) (a2 * c2)) = res.2 := by
              rw [← hres]
              simp only [mulP, hullP, mx]
              generalize a1 * c1 = p at *
              generalize a1 * c2 = q at *
              generalize a2 * c1 = r at *
              generalize a2 * c2 = s at *
              (repeat' split) <;> omega
             clear hres hm1 hm2 hm3 hm4
             refine HT_seq <| (HT_drun (by kernel_rfl) (by kernel_rfl) (by rfl) (by simp [*]; rfl) ?_)
             refine HT_seq <| (HT_runcA [⟨true, .v (li (mn (a1 * c1) (a1 * c2))), none⟩, ⟨true, .v (li (mn (a2 * c1) (a2 * c2))), none⟩, ⟨true, .v (li (mn (mn (a1 * c1) (a1 * c2)) (mn (a2 * c1) (a2 * c2)))), none⟩, ⟨true, .v (li (mx (a1 * c1) (a1 * c2))), none⟩, ⟨true, .v (li (mx (a2 * c1) (a2 * c2))), none⟩, ⟨true, .v (li (mx (mx (a1 * c1) (a1 * c2)) (mx (a2 * c1) (a2 * c2)))), none⟩] ?_ ?_)
             · first | exact trivial | exact trivial | (repeat' first | exact trivial | exact least_con _ _ _ | exact least_con _ _ _ | (simpa [he1] using least_con (mn (a1 * c1) (a1 * c2)) (mn (a2 * c1) (a2 * c2)) _) | exact most_con _ _ _ | exact most_con _ _ _ | (simpa [he2] using most_con (mx (a1 * c1) (a1 * c2)) (mx (a2 * c1) (a2 * c2)) _) | apply And.intro)
             exact HT_retA fun h => ⟨.inr rfl, h⟩
           · try simp only [BN] at h27
             rw [if_neg h27] at hres
             refine HT_seq <| HT_runA ?_
             refine (HT_cond rfl (fun h32 => ?_) (fun h32 => ?_))
             · try simp only [BN] at h32
               obtain ⟨a1, a2, ha, hb1, hb2, hb3⟩ := kid hk (ar2 (by omega)).1
               obtain ⟨c1, c2, hc, hc1, hc2, hc3⟩ := kid hk (ar2 (by omega)).2
               rw [if_pos h32] at hres
               simp only [g2, ha, hc, Option.getD_some] at hres
               have hmm : mx (absI a1) (absI a2) = mx a2 (-a1) := by
                unfold mx absI
                (repeat' split) <;> omega
               have hm : -1048576 ≤ mx a2 (-a1) ∧ mx a2 (-a1) ≤ 1048576 := by unfold mx; split <;> omega
               have hw2 : IntKind.i64.wrap (-(mx a2 (-a1))) = -(mx a2 (-a1)) := wrap_in (by omega) (by omega)
               clear ar1 ar2 ar3
               refine HT_seq <| (HT_drunc [⟨true, .v (li (absI a1)), none⟩, ⟨true, .v (li (absI a2)), none⟩, ⟨true, .v (li (mx (absI a1) (absI a2))), none⟩] (by kernel_rfl) (by kernel_rfl) (by rfl) (by simp [*]; first | exact ⟨rfl, Iff.rfl⟩ | exact ⟨rfl, trivial⟩ | rfl) ?_ ?_)
               · first | exact trivial | exact trivial | (repeat' first | exact trivial | exact size_con a1 (by omega) _ | exact size_con a2 (by omega) _ | (simpa [hmm] using most_con (absI a1) (absI a2) _) | apply And.intro)
               refine HT_seq <| HT_seq <| HT_runA ?_
               refine (HT_cond rfl (fun h35 => ?_) (fun h35 => HT_skip ?_))
               · try simp only [BN] at h35
                 rw [if_pos h35] at hres
                 subst hres
                 refine HT_seq <| HT_runA ?_
                 exact HT_retA fun h => ⟨.inr rfl, h⟩
               · try simp only [BN] at h35
                 rw [if_neg (by omega)] at hres
                 subst hres
                 refine HT_seq <| HT_runA ?_
                 exact HT_retA fun h => ⟨.inr rfl, h⟩
             · try simp only [BN] at h32
               rw [if_neg h32] at hres
               refine HT_seq <| HT_runA ?_
               refine (HT_cond rfl (fun h41 => ?_) (fun h41 => ?_))
               · try simp only [BN] at h41
                 obtain ⟨c1, c2, hc, hc1, hc2, hc3⟩ := kid hk (ar2 (by omega)).2
                 rw [if_pos h41] at hres
                 simp only [g2, hc, Option.getD_some] at hres
                 subst hres
                 clear ar1 ar2 ar3
                 refine HT_seq <| (HT_drunc [⟨true, .tup [li (modL (c1, c2)), li (modH (c1, c2))], none⟩] (by kernel_rfl) (by kernel_rfl) (by rfl) (by simp [*]; first | exact ⟨rfl, Iff.rfl⟩ | exact ⟨rfl, trivial⟩ | rfl) ?_ ?_)
                 · first | exact modS_con (c1, c2) ⟨hc1, hc2, hc3⟩ _ | exact trivial | simpa [*] using modS_con (c1, c2) ⟨hc1, hc2, hc3⟩ _
                 exact HT_retA fun h => ⟨.inr rfl, h⟩
               · try simp only [BN] at h41
                 rw [if_neg h41] at hres
                 refine HT_seq <| HT_runA ?_
                 refine (HT_cond rfl (fun h45 => ?_) (fun h45 => ?_))
                 · try simp only [BN] at h45
                   obtain ⟨a1, a2, ha, hb1, hb2, hb3⟩ := kid hk (ar2 (by omega)).1
                   obtain ⟨c1, c2, hc, hc1, hc2, hc3⟩ := kid hk (ar2 (by omega)).2
                   rw [if_pos h45] at hres
                   simp only [g2, ha, hc, Option.getD_some] at hres
                   subst hres
                   clear ar1 ar2 ar3
                   refine HT_seq <| (HT_drunc [⟨true, .v (li (mn a1 c1)), none⟩, ⟨true, .v (li (mn a2 c2)), none⟩] (by kernel_rfl) (by kernel_rfl) (by rfl) (by simp [*]; first | exact ⟨rfl, Iff.rfl⟩ | exact ⟨rfl, trivial⟩ | rfl) ?_ ?_)
                   · first | exact ⟨least_con _ _ _, least_con _ _ _⟩ | exact trivial | (repeat' first | exact trivial | exact least_con _ _ _ | exact least_con _ _ _ | apply And.intro)
                   exact HT_retA fun h => ⟨.inr rfl, h⟩
                 · try simp only [BN] at h45
                   rw [if_neg h45] at hres
                   refine HT_seq <| HT_runA ?_
                   refine (HT_cond rfl (fun h49 => ?_) (fun h49 => ?_))
                   · try simp only [BN] at h49
                     obtain ⟨a1, a2, ha, hb1, hb2, hb3⟩ := kid hk (ar2 (by omega)).1
                     obtain ⟨c1, c2, hc, hc1, hc2, hc3⟩ := kid hk (ar2 (by omega)).2
                     rw [if_pos h49] at hres
                     simp only [g2, ha, hc, Option.getD_some] at hres
                     subst hres
                     clear ar1 ar2 ar3
                     refine HT_seq <| (HT_drunc [⟨true, .v (li (mx a1 c1)), none⟩, ⟨true, .v (li (mx a2 c2)), none⟩] (by kernel_rfl) (by kernel_rfl) (by rfl) (by simp [*]; first | exact ⟨rfl, Iff.rfl⟩ | exact ⟨rfl, trivial⟩ | rfl) ?_ ?_)
                     · first | exact ⟨most_con _ _ _, most_con _ _ _⟩ | exact trivial | (repeat' first | exact trivial | exact most_con _ _ _ | exact most_con _ _ _ | apply And.intro)
                     exact HT_retA fun h => ⟨.inr rfl, h⟩
                   · try simp only [BN] at h49
                     rw [if_neg h49] at hres
                     refine (HT_cutU [2, 3] (fun (z : Bool) => [(202, .v (lb z))]) (fun (z : Bool) => []) (fun (z : Bool) => z = decide (o = 23 ∨ o = 25)) ?_ ?_)
                     ·
                      refine HT_seq <| HT_runA ?_
                      refine (HT_cond rfl (fun h54 => HT_skip ?_) (fun h54 => ?_))
                      · try simp only [BN] at h54
                        exact ⟨true, by simp [h54], le_mkA (fun n => n) []⟩
                      · try simp only [BN] at h54
                        refine HT_runA ?_
                        exact ⟨decide (o = 25), by simp [h54], le_mkA (fun n => n) []⟩
                     rintro z hz
                     simp only [upS, keepS, insS]
                     try simp only [keepS, KN, Nat.reduceBEq, if_true, if_false, ins, Nat.reduceLT]
                     subst hz
                     refine (HT_cond rfl (fun h58 => ?_) (fun h58 => HT_skip ?_))
                     · try simp only [BN] at h58
                       have h2 := ar3 h58
                       rw [if_pos h58] at hres
                       clear ar1 ar2 ar3 h58
                       rcases k with _ | ⟨⟨a1, a2⟩, _ | ⟨⟨c1, c2⟩, r⟩⟩
                       · simp at h2
                       · simp at h2
                       have hr33 : r.length ≤ 31 := by simp only [List.length_cons] at h2; omega
                       clear h2
                       simp at hres
                       refine HT_seq <| (HT_drun (by kernel_rfl) (by kernel_rfl) (by rfl) (by simp [*, lows, highs]; rfl) ?_)
                       refine HT_seq <| HT_seq <| HT_runA ?_
                       refine HT_block <| (HT_loopU [2, 3] (fun (x : Nat × Int × Int) => [(15, .v (li x.2.1)), (16, .v (li x.2.2)), (17, .v (li ((x.1 + 2 : Nat) : Int)))]) (fun (x : Nat × Int × Int) => []) (fun (x : Nat × Int × Int) => x.1 ≤ r.length ∧ hullL (r.drop x.1) x.2 = res) (fun (x : Nat × Int × Int) => r.length - x.1) (0, c1, c2) ⟨Nat.zero_le _, hres⟩ ?_ ?_)
                       · exact le_mkA (fun n => n) []
                       rintro ⟨k, m, q⟩ ⟨hk', hJ⟩
                       simp only [upS, keepS, insS]
                       try simp only [keepS, KN, Nat.reduceBEq, if_true, if_false, ins, Nat.reduceLT]
                       simp only at hk' hJ
                       clear hres
                       have hdec : decide (((k + 2 : Nat) : Int) < ((r.length + 1 + 1 : Nat) : Int)) = decide (k < r.length) := by rw [decide_eq_decide]; omega
                       refine HT_seq <| HT_seq <| (HT_run (by simp [*, lows, highs]; rfl) ?_)
                       refine (HT_cond rfl (fun h63 => HT_skip ?_) (fun h63 => ?_))
                       · try simp only [BN] at h63
                         have hlt : k < r.length := by omega
                         obtain ⟨⟨e1, e2⟩, he, hd⟩ := at_lt hlt
                         have hw1 : IntKind.i64.wrap ((k : Int) + 2 + 1) = (k : Int) + 1 + 2 := by rw [wrap_in (by omega) (by omega)]; omega
                         have htn : ((k : Int) + 2).toNat = k + 2 := by omega
                         have h02 : 0 ≤ (k : Int) + 2 := by omega
                         rw [hd] at hJ
                         simp only [hullL, hullP] at hJ
                         have hk1 : k + 1 ≤ r.length := hlt
                         clear hlt h63
                         refine HT_seq <| HT_block <| (HT_drunc [⟨true, .v (li (mn m e1)), none⟩, ⟨true, .v (li (mx q e2)), none⟩] (by kernel_rfl) (by kernel_rfl) (by rfl) (by simp [*]; first | exact ⟨rfl, Iff.rfl⟩ | exact ⟨rfl, trivial⟩ | rfl) ?_ ?_)
                         · first | exact ⟨least_con _ _ _, most_con _ _ _⟩ | exact trivial | (repeat' first | exact trivial | exact least_con _ _ _ | exact most_con _ _ _ | apply And.intro)
                         refine HT_runA ?_
                         exact ⟨(k + 1, mn m e1, mx q e2), ⟨hk1, hJ⟩, by simp only; omega, le_mkA (fun n => n) []⟩
                       · try simp only [BN] at h63
                         have hkl : k = r.length := by omega
                         rw [hkl, List.drop_length] at hJ
                         simp only [hullL] at hJ
                         refine (HT_exit ?_)
                         refine HT_seq <| HT_runA ?_
                         exact (HT_retE (fun h => ⟨.inr rfl, h⟩) _ (by simp [*]; rfl) (by subst hJ; rfl) (by simp))
                     · try simp only [BN] at h58
                       rw [if_neg h58] at hres
                       subst hres
                       refine HT_seq <| HT_runA ?_
                       exact HT_retA fun h => ⟨.inr rfl, h⟩
end Go.Proofs.YtfjidddhehckoaaGreat

namespace Go.Proofs.YtfjidddhehckoaaGreat
open Go Go.Hl
def okR (p : Int × Int) : Bool := decide (-1048576 ≤ p.1) && decide (p.2 ≤ 1048576)
def rgV (vars : List Vr) (o n : Int) : Option (List (Int × Int)) → (Int × Int) × Bool
 | none => ((0, 0), false)
 | some k => (ruleP vars o n k, okR (ruleP vars o n k))
def rgW (vars : List Vr) (o n : Int) : Option (List (Int × Int)) → (Int × Int) × Bool
 | none => ((0, 0), false)
 | some k => (spanR vars o n k, okR (spanR vars o n k))
mutual
def rgP (vars : List Vr) : Tm → (Int × Int) × Bool
 | .mk o n ks => rgV vars o n (rgTs vars ks)
def rgTs (vars : List Vr) : List Tm → Option (List (Int × Int))
 | [] => some []
 | t :: l => if (rgP vars t).2 = true then (rgTs vars l).map ((rgP vars t).1 :: ·) else none
end
def rgQ (vars : List Vr) : Tm → (Int × Int) × Bool
 | .mk o n ks => rgW vars o n (rgTs vars ks)
theorem rgQ_ok (vars : List Vr) (t : Tm) : (rgQ vars t).2 = (rgP vars t).2 ∧ ((rgP vars t).2 = true → (rgQ vars t).1 = (rgP vars t).1) := by
 obtain ⟨o, n, ks⟩ := t
 simp only [rgQ, rgP]
 cases rgTs vars ks with
 | none => simp [rgV, rgW]
 | some k =>
   simp only [rgV, rgW, spanR]
   by_cases h : o = 0
   · subst h
     simp only [if_true, ruleP]
     by_cases h2 : n < -1048576 ∨ 1048576 < n
     · rw [if_pos h2]
       have : okR (n, n) = false := by simp only [okR, Bool.and_eq_false_iff, decide_eq_false_iff_not]; omega
       rw [this]
       exact ⟨by decide, fun h => by cases h⟩
     · rw [if_neg h2]
       exact ⟨rfl, fun _ => rfl⟩
   · simp only [if_neg h]
     exact ⟨trivial, fun _ => trivial⟩
def goodV (vars : List Vr) : Prop := ∀ v ∈ vars, v.low ≤ v.high ∧ -1048576 ≤ v.low ∧ v.high ≤ 1048576
theorem hull_le {p q : Int × Int} (hp : p.1 ≤ p.2) (hq : q.1 ≤ q.2) : (hullP p q).1 ≤ (hullP p q).2 := by
 simp only [hullP, mn, mx]
 (repeat' split) <;> omega
theorem hullL_le : ∀ {l : List (Int × Int)} {p : Int × Int}, (∀ q ∈ l, bnd q) → p.1 ≤ p.2 → (hullL l p).1 ≤ (hullL l p).2
 | [], p, _, hp => hp
 | q :: l, p, h, hp => hullL_le (l := l) (p := hullP p q) (fun r hr => h r (List.mem_cons_of_mem _ hr)) (hull_le hp (h q (by simp)).2.1)
theorem rule_le {vars : List Vr} {inp : Bool} {o n : Int} {k : List (Int × Int)} (hv : goodV vars) (hf : nodeB vars inp o n k.length = true) (hk : ∀ p ∈ k, bnd p) : (ruleP vars o n k).1 ≤ (ruleP vars o n k).2 := by
 have har := node_ar hf
 have hrf : o = 24 → 0 ≤ n ∧ ∃ v, vars[n.toNat]? = some v ∧ (inp = true → v.kind ≠ 0) := fun h => node_ref (by rw [← h]; exact hf)
 have hg : ∀ i : Nat, (g2 k i).1 ≤ (g2 k i).2 ∧ -1048576 ≤ (g2 k i).1 ∧ (g2 k i).2 ≤ 1048576 := by
  intro i
  unfold g2
  cases hi : k[i]? with
  | none => simp
  | some p => have := hk p (List.mem_of_getElem? hi); exact ⟨this.2.1, this.1, this.2.2⟩
 have h0 := hg 0
 have h1 := hg 1
 unfold ruleP
 generalize g2 k 0 = a at *
 generalize g2 k 1 = b at *
 split
 · exact Int.le_refl _
 split
 · rename_i h24
   obtain ⟨_, v, hv1, _⟩ := hrf h24
   rw [hv1]
   exact (hv v (List.mem_of_getElem? hv1)).1
 split
 · simp only; omega
 split
 · simp only; omega
 split
 · simp only; omega
 split
 · unfold mulP
   exact hull_le (hull_le (hull_le (Int.le_refl _) (Int.le_refl _)) (Int.le_refl _)) (Int.le_refl _)
 split
 · simp only [mx]
   (repeat' split) <;> simp only <;> omega
 split
 · simp only [modL, modH, mn, mx]
   (repeat' split) <;> omega
 split
 · simp only [mn]
   (repeat' split) <;> omega
 split
 · simp only [mx]
   (repeat' split) <;> omega
 split
 · exact hullL_le (fun q hq => hk q (List.mem_of_mem_drop hq)) h1.1
 · simp
theorem rgTs_len {vars : List Vr} : ∀ {l : List Tm} {k : List (Int × Int)}, rgTs vars l = some k → k.length = l.length
 | [], k, h => by simp only [rgTs] at h; cases h; rfl
 | t :: l, k, h => by
   simp only [rgTs] at h
   split at h
   · simp only [Option.map_eq_some_iff] at h
     obtain ⟨k', h', rfl⟩ := h
     simp [rgTs_len h']
   · cases h
mutual
theorem rgP_bnd {vars : List Vr} {inp : Bool} (hv : goodV vars) : ∀ (t : Tm), formB vars inp t = true → (rgP vars t).2 = true → bnd (rgP vars t).1
 | .mk o n ks, hf, h => by
   simp only [formB, Bool.and_eq_true] at hf
   simp only [rgP] at h ⊢
   cases hk : rgTs vars ks with
   | none => rw [hk] at h; cases h
   | some k =>
     rw [hk] at h
     simp only [rgV, okR, Bool.and_eq_true, decide_eq_true_eq] at h ⊢
     have hb := rgTs_bnd hv ks hf.2 k hk
     have hl := rgTs_len hk
     have := rule_le hv (by rw [hl]; exact hf.1) hb
     exact ⟨h.1, this, h.2⟩
theorem rgTs_bnd {vars : List Vr} {inp : Bool} (hv : goodV vars) : ∀ (l : List Tm), formBs vars inp l = true → ∀ k, rgTs vars l = some k → ∀ p ∈ k, bnd p
 | [], _, k, h, p, hp => by simp only [rgTs] at h; cases h; cases hp
 | t :: l, hf, k, h, p, hp => by
   simp only [formBs, Bool.and_eq_true] at hf
   simp only [rgTs] at h
   split at h
   · rename_i hok
     simp only [Option.map_eq_some_iff] at h
     obtain ⟨k', h', rfl⟩ := h
     rcases List.mem_cons.1 hp with rfl | hp
     · exact rgP_bnd hv t hf.1 hok
     · exact rgTs_bnd hv l hf.2 k' h' p hp
   · cases h
end
@[simp] theorem encP_snoc (a : List (Int × Int)) (r : Int × Int) : encPs (a ++ [r]) = encPs a ++ [[iC r.1, iC r.2]] := by simp [encPs]
@[simp] theorem lows_snoc (a : List (Int × Int)) (r : Int × Int) : lows (a ++ [r]) = lows a ++ [[iC r.1]] := by simp [lows]
@[simp] theorem highs_snoc (a : List (Int × Int)) (r : Int × Int) : highs (a ++ [r]) = highs a ++ [[iC r.2]] := by simp [highs]
theorem ranged_con (vars : List Vr) (inp : Bool) (hv : goodV vars) (t : Tm) : formB vars inp t = true → ∀ d : Nat,
  Con Tryz.prog 191 true [lV vars, aT t] (.tup [aP (rgP vars t).1, lb (rgP vars t).2]) none d := by
 induction t using Tm.ind with
 | h o n ks ih =>
 intro hf d
 simp only [formB, Bool.and_eq_true] at hf
 have har := node_ar hf.1
 have hlen : ks.length ≤ 33 := by
  have : (kidsP o).2 ≤ 33 := by unfold kidsP; (repeat' split) <;> simp
  omega
 clear har
 obtain ⟨res, hres⟩ : ∃ r, rgP vars (.mk o n ks) = r := ⟨_, rfl⟩
 rw [hres]
 simp only [rgP] at hres
 have ih' : ∀ t ∈ ks, ∀ d, Con Tryz.prog 191 true [lV vars, aT t] (.tup [aP (rgP vars t).1, lb (rgP vars t).2]) none d := fun t ht d => ih t ht (formBs_mem hf.2 t ht) d
 clear ih
 refine con_of_HT Tryz.func191 rfl (by kernel_rfl) (Nat.le_of_ble_eq_true rfl) ?_
 simp only [Tryz.f191]
 simp only [aT, Tm.enc]
 refine HT_seq <| HT_runA ?_
 refine HT_seq <| HT_runA ?_
 refine HT_seq <| HT_seq <| HT_runA ?_
 refine HT_block <| (HT_loopU [0, 3, 4, 13, 14] (fun (x : Nat × List (Int × Int)) => [(6, .v (.one (.own 1006))), (15, .v (li x.1))]) (fun (x : Nat × List (Int × Int)) => [(3, .box [.c (iC o), .c (iC n), .c (.sl 3 (encTs ks))]), (4, .box [.c (iC 0), .c (iC 0)]), (1006, .row 234 2 (encPs x.2))]) (fun (x : Nat × List (Int × Int)) => x.1 ≤ ks.length ∧ x.2.length = x.1 ∧ rgTs vars ks = (rgTs vars (ks.drop x.1)).map (x.2 ++ ·) ∧ ∀ p ∈ x.2, bnd p) (fun (x : Nat × List (Int × Int)) => ks.length - x.1) (0, []) ⟨Nat.zero_le _, rfl, by simp, by simp⟩ ?_ ?_)
 · exact le_mkA (fun n => n) [1006]
 rintro ⟨k, acc⟩ ⟨hk, hal, hJ, hb⟩
 simp only [upS, keepS, insS]
 try simp only [keepS, KN, Nat.reduceBEq, if_true, if_false, ins, Nat.reduceLT]
 simp only at hk hal hJ hb
 refine HT_seq <| HT_runA ?_
 refine HT_seq <| (HT_cond rfl (fun h5 => HT_skip ?_) (fun h5 => ?_))
 · try simp only [BN] at h5
   have hlt : k < ks.length := by omega
   obtain ⟨⟨eo, en, ek⟩, he, hd⟩ := at_lt hlt
   have he' := get_encT he
   simp only [Tm.enc] at he'
   have hw1 := wrap1 hlt (by omega)
   rw [hd] at hJ
   simp only [rgTs] at hJ
   have hk1 : k + 1 ≤ ks.length := hlt
   have hmem : Tm.mk eo en ek ∈ ks := List.mem_of_getElem? he
   have hpb := rgP_bnd hv _ (formBs_mem hf.2 _ hmem)
   have hroom : room (k + 1) 16 := room_of (by omega) (by omega)
   clear hlt h5
   refine HT_seq <| HT_block <| HT_seq <| HT_runA ?_
   refine HT_seq <| (HT_runcA [⟨true, .tup [aP (rgP vars (.mk eo en ek)).1, lb (rgP vars (.mk eo en ek)).2], none⟩] ?_ ?_)
   · first | exact ih' _ hmem _ | exact trivial | simpa [*] using ih' _ hmem _
   refine HT_seq <| HT_seq <| HT_runA ?_
   refine (HT_cond rfl (fun h9 => ?_) (fun h9 => HT_skip ?_))
   · try simp only [BN] at h9
     rw [h9] at hJ
     simp only [Bool.false_eq_true, if_false, Option.map_none] at hJ
     rw [hJ] at hres
     subst hres
     refine HT_seq <| HT_runA ?_
     exact HT_retA fun h => ⟨.inr rfl, h⟩
   · try simp only [BN] at h9
     rw [if_pos h9] at hJ
     refine HT_runA ?_
     refine HT_runA ?_
     exact ⟨(k + 1, acc ++ [(rgP vars (.mk eo en ek)).1]), ⟨hk1, by simp [hal], by rw [hJ, Option.map_map]; congr 1; funext z; simp, fun p hp => by
      rcases List.mem_append.1 hp with h | h
      · exact hb p h
      · simp only [List.mem_cons, List.not_mem_nil, or_false] at h
        rw [h]
        exact hpb h9⟩, by simp only; omega, le_mkA (fun n => if n = 1006 then 31 else n) []⟩
 · try simp only [BN] at h5
   have hkl : k = ks.length := by omega
   rw [hkl, List.drop_length] at hJ
   simp only [rgTs, Option.map_some, List.append_nil] at hJ
   rw [hJ] at hres
   subst hres
   have hf1 : nodeB vars inp o n acc.length = true := by rw [hal, hkl]; exact hf.1
   refine (HT_exit ?_)
   refine HT_seq <| (HT_runcA [⟨true, .v (aP (ruleP vars o n acc)), none⟩] ?_ ?_)
   · first | exact rule_con vars inp o n _ acc hf1 hb _ | exact trivial | simpa [*] using rule_con vars inp o n _ acc hf1 hb _
   refine HT_seq <| (HT_drunH [(11, 11), (38, 11), (42, 11), (4, 4)] (by kernel_rfl) (by kernel_rfl) (by rfl) (by simp [evsH, hokB, hintOf, *]; rfl) ?_)
   exact (HT_retE (fun h => ⟨.inr rfl, h⟩) _ (by simp [*]; rfl) (by simp [resR, rgV, okR]) (by simp))
theorem Range_con (vars : List Vr) (inp : Bool) (hv : goodV vars) (t : Tm) : formB vars inp t = true → ∀ d : Nat,
  Con Tryz.prog 90 true [lV vars, aT t] (.tup [li (rgQ vars t).1.1, li (rgQ vars t).1.2, lb (rgQ vars t).2]) none d := by
 induction t using Tm.ind with
 | h o n ks ih =>
 intro hf d
 simp only [formB, Bool.and_eq_true] at hf
 have har := node_ar hf.1
 have hlen : ks.length ≤ 33 := by
  have : (kidsP o).2 ≤ 33 := by unfold kidsP; (repeat' split) <;> simp
  omega
 clear har
 obtain ⟨res, hres⟩ : ∃ r, rgQ vars (.mk o n ks) = r := ⟨_, rfl⟩
 rw [hres]
 simp only [rgQ] at hres
 have ih' : ∀ t ∈ ks, ∀ d, Con Tryz.prog 90 true [lV vars, aT t] (.tup [li (rgQ vars t).1.1, li (rgQ vars t).1.2, lb (rgQ vars t).2]) none d := fun t ht d => ih t ht (formBs_mem hf.2 t ht) d
 clear ih
 refine con_of_HT Tryz.func90 rfl (by kernel_rfl) (Nat.le_of_ble_eq_true rfl) ?_
 simp only [Tryz.f90]
 simp only [aT, Tm.enc]
 refine HT_seq <| HT_runA ?_
 refine HT_seq <| HT_runA ?_
 refine HT_seq <| HT_runA ?_
 refine HT_seq <| HT_seq <| HT_runA ?_
 refine HT_block <| (HT_loopU [0, 3] (fun (x : Nat × List (Int × Int)) => [(7, .v (.one (.own 1007))), (8, .v (.one (.own 1008))), (9, .v (li x.1))]) (fun (x : Nat × List (Int × Int)) => [(3, .box [.c (iC o), .c (iC n), .c (.sl 3 (encTs ks))]), (1007, .row 3 1 (lows x.2)), (1008, .row 3 1 (highs x.2))]) (fun (x : Nat × List (Int × Int)) => x.1 ≤ ks.length ∧ x.2.length = x.1 ∧ rgTs vars ks = (rgTs vars (ks.drop x.1)).map (x.2 ++ ·) ∧ ∀ p ∈ x.2, bnd p) (fun (x : Nat × List (Int × Int)) => ks.length - x.1) (0, []) ⟨Nat.zero_le _, rfl, by simp, by simp⟩ ?_ ?_)
 · exact le_mkA (fun n => if n = 1007 then 15 else if n = 1008 then 16 else n) []
 rintro ⟨k, acc⟩ ⟨hk, hal, hJ, hb⟩
 simp only [upS, keepS, insS]
 try simp only [keepS, KN, Nat.reduceBEq, if_true, if_false, ins, Nat.reduceLT]
 simp only at hk hal hJ hb
 refine HT_seq <| HT_seq <| HT_runA ?_
 refine (HT_cond rfl (fun h6 => HT_skip ?_) (fun h6 => ?_))
 · try simp only [BN] at h6
   have hlt : k < ks.length := by omega
   obtain ⟨⟨eo, en, ek⟩, he, hd⟩ := at_lt hlt
   have he' := get_encT he
   simp only [Tm.enc] at he'
   have hw1 := wrap1 hlt (by omega)
   rw [hd] at hJ
   simp only [rgTs] at hJ
   have hk1 : k + 1 ≤ ks.length := hlt
   have hmem : Tm.mk eo en ek ∈ ks := List.mem_of_getElem? he
   have hpb := rgP_bnd hv _ (formBs_mem hf.2 _ hmem)
   have hroom : room (k + 1) 8 := room_of (by omega) (by omega)
   rw [← (rgQ_ok vars (.mk eo en ek)).1] at hJ hpb
   clear hlt h6
   refine HT_seq <| HT_block <| HT_seq <| (HT_runcA [⟨true, .tup [li (rgQ vars (.mk eo en ek)).1.1, li (rgQ vars (.mk eo en ek)).1.2, lb (rgQ vars (.mk eo en ek)).2], none⟩] ?_ ?_)
   · first | exact ih' _ hmem _ | exact trivial | simpa [*] using ih' _ hmem _
   refine HT_seq <| HT_seq <| HT_runA ?_
   refine (HT_cond rfl (fun h9 => ?_) (fun h9 => HT_skip ?_))
   · try simp only [BN] at h9
     rw [h9] at hJ
     simp only [Bool.false_eq_true, if_false, Option.map_none] at hJ
     rw [hJ] at hres
     subst hres
     refine HT_seq <| HT_runA ?_
     exact HT_retA fun h => ⟨.inr rfl, h⟩
   · try simp only [BN] at h9
     rw [if_pos h9] at hJ
     have hq2 := (rgQ_ok vars (.mk eo en ek)).2 (by rw [← (rgQ_ok vars (.mk eo en ek)).1]; exact h9)
     refine HT_seq <| HT_runA ?_
     refine HT_runA ?_
     refine HT_runA ?_
     exact ⟨(k + 1, acc ++ [(rgP vars (.mk eo en ek)).1]), ⟨hk1, by simp [hal], by rw [hJ, Option.map_map]; congr 1; funext z; simp, fun p hp => by
      rcases List.mem_append.1 hp with h | h
      · exact hb p h
      · simp only [List.mem_cons, List.not_mem_nil, or_false] at h
        rw [h]
        exact hpb h9⟩, by simp only; omega, le_mkA (fun n => if n = 1007 then 40 else if n = 1008 then 44 else n) []⟩
 · try simp only [BN] at h6
   have hkl : k = ks.length := by omega
   rw [hkl, List.drop_length] at hJ
   simp only [rgTs, Option.map_some, List.append_nil] at hJ
   rw [hJ] at hres
   subst hres
   have hf1 : nodeB vars inp o n acc.length = true := by rw [hal, hkl]; exact hf.1
   refine (HT_exit ?_)
   refine HT_seq <| (HT_runcA [⟨true, .tup [li (spanR vars o n acc).1, li (spanR vars o n acc).2], none⟩] ?_ ?_)
   · first | exact span_con vars inp o n _ acc hf1 hb _ | exact trivial | simpa [*] using span_con vars inp o n _ acc hf1 hb _
   refine HT_seq <| HT_runA ?_
   exact (HT_retE (fun h => ⟨.inr rfl, h⟩) _ (by simp [*]; rfl) (by simp [resR, rgW, okR]) (by simp))
def termC (vars : List Vr) (inp : Bool) (t : Tm) : Int := if formB vars inp t = true then (if (rgP vars t).2 = true then 0 else 3) else 1
theorem termP_con (vars : List Vr) (inp : Bool) (hv : goodV vars) (hl : vars.length ≤ 1000000000) (t : Tm) (hn : t.nodes ≤ 1000000000) (d : Nat) :
  Con Tryz.prog 178 true [lV vars, aT t, lb inp] (.v (li (termC vars inp t))) none d := by
 have c1 := formP_con vars inp hl t hn
 have c2 := ranged_con vars inp hv t
 obtain ⟨o, n, ks⟩ := t
 obtain ⟨F, hF⟩ : ∃ F, formB vars inp (.mk o n ks) = F := ⟨_, rfl⟩
 obtain ⟨R, hR⟩ : ∃ R, rgP vars (.mk o n ks) = R := ⟨_, rfl⟩
 simp only [termC, hF, hR] at c1 c2 ⊢
 clear hF hR
 refine con_of_HT Tryz.func178 rfl (by kernel_rfl) (Nat.le_of_ble_eq_true rfl) ?_
 simp only [Tryz.f178]
 simp only [aT, Tm.enc] at c1 c2 ⊢
 refine HT_seq <| HT_runA ?_
 refine HT_seq <| HT_seq <| (HT_runcA [⟨true, .v (lb F), none⟩] ?_ ?_)
 · first | exact c1 _ | exact trivial | simpa [*] using c1 _
 refine (HT_cond rfl (fun h2 => ?_) (fun h2 => HT_skip ?_))
 · try simp only [BN] at h2
   refine HT_seq <| HT_runA ?_
   exact HT_retA fun h => ⟨.inr rfl, h⟩
 · try simp only [BN] at h2
   refine HT_seq <| HT_seq <| (HT_runcA [⟨true, .tup [aP R.1, lb R.2], none⟩] ?_ ?_)
   · first | exact c2 h2 _ | exact trivial | simpa [*] using c2 h2 _
   refine HT_seq <| HT_runA ?_
   refine (HT_cond rfl (fun h7 => ?_) (fun h7 => HT_skip ?_))
   · try simp only [BN] at h7
     refine HT_seq <| HT_runA ?_
     exact HT_retA fun h => ⟨.inr rfl, h⟩
   · try simp only [BN] at h7
     refine HT_seq <| HT_runA ?_
     exact HT_retA fun h => ⟨.inr rfl, h⟩
theorem termR_con (vars : List Vr) (inp : Bool) (hv : goodV vars) (hl : vars.length ≤ 1000000000) (t : Tm) (hn : t.nodes ≤ 1000000000) (d : Nat) :
  Con Tryz.prog 51 true [lV vars, aT t, lb inp] (.v (li (termC vars inp t))) none d := by
 have c1 := formR_con vars inp hl t hn
 have c2 := Range_con vars inp hv t
 rw [(rgQ_ok vars t).1] at c2
 obtain ⟨o, n, ks⟩ := t
 obtain ⟨F, hF⟩ : ∃ F, formB vars inp (.mk o n ks) = F := ⟨_, rfl⟩
 obtain ⟨R, hR⟩ : ∃ R, (rgP vars (.mk o n ks)).2 = R := ⟨_, rfl⟩
 obtain ⟨S, hS⟩ : ∃ S, (rgQ vars (.mk o n ks)).1 = S := ⟨_, rfl⟩
 simp only [termC, hF, hR, hS] at c1 c2 ⊢
 clear hF hR hS
 refine con_of_HT Tryz.func51 rfl (by kernel_rfl) (Nat.le_of_ble_eq_true rfl) ?_
 simp only [Tryz.f51]
 simp only [aT, Tm.enc] at c1 c2 ⊢
 refine HT_seq <| HT_runA ?_
 refine HT_seq <| HT_seq <| (HT_runcA [⟨true, .v (lb F), none⟩] ?_ ?_)
 · first | exact c1 _ | exact trivial | simpa [*] using c1 _
 refine (HT_cond rfl (fun h2 => ?_) (fun h2 => HT_skip ?_))
 · try simp only [BN] at h2
   refine HT_seq <| HT_runA ?_
   exact HT_retA fun h => ⟨.inr rfl, h⟩
 · try simp only [BN] at h2
   refine HT_seq <| (HT_runcA [⟨true, .tup [li S.1, li S.2, lb R], none⟩] ?_ ?_)
   · first | exact c2 h2 _ | exact trivial | simpa [*] using c2 h2 _
   refine HT_seq <| HT_seq <| HT_runA ?_
   refine (HT_cond rfl (fun h7 => ?_) (fun h7 => HT_skip ?_))
   · try simp only [BN] at h7
     refine HT_seq <| HT_runA ?_
     exact HT_retA fun h => ⟨.inr rfl, h⟩
   · try simp only [BN] at h7
     refine HT_seq <| HT_runA ?_
     exact HT_retA fun h => ⟨.inr rfl, h⟩
end Go.Proofs.YtfjidddhehckoaaGreat
