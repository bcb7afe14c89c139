/- Part 2: contracts of functions of the program and of the reference, and plain facts about what they compute; used by the proof of the claimed statement. Conditions: as each theorem states. -/
import Derived.Test.YtfilidjbpomgoaaGreatR1
set_option linter.unusedSimpArgs false
set_option linter.unusedVariables false
set_option linter.unnecessarySimpa false
set_option maxRecDepth 100000
set_option maxHeartbeats 2000000
namespace Go.Proofs.YtfilidjbpomgoaaGreat
open Go Go.Hl

/-! ## the form of terms -/
def refB (vars : List Vr) (inp : Bool) (n : Int) : Bool :=
  decide (0 ≤ n) && match vars[n.toNat]? with
    | some v => !(inp && decide (v.kind = 0))
    | none => false
def nodeB (vars : List Vr) (inp : Bool) (o n : Int) (len : Nat) : Bool :=
  (!decide ((kidsP o).1 < 0) && (!decide ((len : Int) < (kidsP o).1) && !decide ((kidsP o).2 < (len : Int)))) && (if o = 0 then true else if o = 24 then refB vars inp n else decide (n = 0))
mutual
def formB (vars : List Vr) (inp : Bool) : Tm → Bool
  | .mk o n ks => nodeB vars inp o n ks.length && formBs vars inp ks
def formBs (vars : List Vr) (inp : Bool) : List Tm → Bool
  | [] => true
  | t :: l => formB vars inp t && formBs vars inp l
end
theorem formBs_mem {vars : List Vr} {inp : Bool} : ∀ {l : List Tm}, formBs vars inp l = true → ∀ t ∈ l, formB vars inp t = true
  | [], _, t, ht => by cases ht
  | a :: l, h, t, ht => by
    simp only [formBs, Bool.and_eq_true] at h
    rcases List.mem_cons.1 ht with rfl | h1
    · exact h.1
    · exact formBs_mem h.2 t h1
theorem get_vars {vars : List Vr} {n : Int} : (0 ≤ n ∧ n < vars.length) → ∃ v, vars[n.toNat]? = some v := by
  rintro ⟨h1, h2⟩
  have : n.toNat < vars.length := by omega
  exact ⟨vars[n.toNat], by simp [this]⟩
theorem get_none {vars : List Vr} {n : Int} (h1 : 0 ≤ n) (h2 : ¬ n < vars.length) : vars[n.toNat]? = none := by
  rw [List.getElem?_eq_none]
  omega

theorem formP_con (vars : List Vr) (inp : Bool) (hv : vars.length ≤ 1000000000) (t : Tm) : t.nodes ≤ 1000000000 → ∀ d : Nat,
    Con Tryz.prog 108 true [lV vars, aT t, lb inp] (.v (lb (formB vars inp t))) none d := by
  induction t using Tm.ind with
  | h o n ks ih =>
  intro hn d
  simp only [Tm.nodes] at hn
  have hlen := len_nodesT ks
  obtain ⟨res, hres⟩ : ∃ r, formB vars inp (.mk o n ks) = r := ⟨_, rfl⟩
  rw [hres]
  simp only [formB] at hres
  have ih' : ∀ t ∈ ks, ∀ d, Con Tryz.prog 108 true [lV vars, aT t, lb inp] (.v (lb (formB vars inp t))) none d := by
    intro t ht d
    refine ih t ht ?_ d
    have : t.nodes ≤ nodesT ks := by
      clear hres ih hn hlen
      induction ks with
      | nil => cases ht
      | cons a l ih =>
        simp only [nodesT]
        rcases List.mem_cons.1 ht with rfl | h
        · omega
        · have := ih h; omega
    omega
  clear ih
  refine con_of_HT Tryz.func108 rfl (by kernel_rfl) (Nat.le_of_ble_eq_true rfl) ?_
  simp only [Tryz.f108]
  simp only [aT, Tm.enc]
  refine HT_seq <| (HT_run (by simp [*]; rfl) ?_)
  refine HT_seq <| (HT_runc [⟨true, .tup [li (kidsP o).1, li (kidsP o).2], none⟩] (by simp [*]; first | exact ⟨rfl, Iff.rfl⟩ | exact ⟨rfl, trivial⟩ | rfl) ?_ ?_)
  · first | exact kidsP_con o _ | exact trivial | simpa [*] using kidsP_con o _
  refine HT_seq <| HT_seq <| (HT_run (by simp [*]; rfl) ?_)
  refine (HT_cond rfl (fun h3 => ?_) (fun h3 => HT_skip ?_))
  · try simp only [Bool.or_eq_true, Bool.and_eq_true, Bool.or_eq_false_iff, Bool.and_eq_false_iff, Bool.not_eq_true', Bool.not_eq_false', decide_eq_true_eq, decide_eq_false_iff_not] at h3
    have hz : nodeB vars inp o n ks.length = false := by
      unfold nodeB
      rw [Bool.and_eq_false_iff]
      refine .inl ?_
      simp only [Bool.and_eq_false_iff, Bool.not_eq_false', decide_eq_true_eq]
      omega
    rw [hz, Bool.false_and] at hres
    refine HT_seq <| (HT_run (by simp [*]; rfl) ?_)
    exact (HT_retE (fun h => ⟨.inr rfl, h⟩) _ (by simp [*]; rfl) (by first | rfl | simp [*]) (by simp))
  · try simp only [Bool.or_eq_true, Bool.and_eq_true, Bool.or_eq_false_iff, Bool.and_eq_false_iff, Bool.not_eq_true', Bool.not_eq_false', decide_eq_true_eq, decide_eq_false_iff_not] at h3
    have hz : (!decide ((kidsP o).1 < 0) && (!decide ((ks.length : Int) < (kidsP o).1) && !decide ((kidsP o).2 < (ks.length : Int)))) = true := by
      simp only [Bool.and_eq_true, Bool.not_eq_true', decide_eq_false_iff_not]
      omega
    refine (HT_cutU [0, 2, 4] (fun (z : Unit) => []) (fun (z : Unit) => [(4, .box [.c (iC o), .c (iC n), .c (.sl 3 (encTs ks))])]) (fun (z : Unit) => nodeB vars inp o n ks.length = true) ?_ ?_)
    ·
      refine HT_seq <| (HT_run (by simp [*]; rfl) ?_)
      refine HT_block <| HT_seq <| (HT_run (by simp [*]; rfl) ?_)
      refine (HT_cond rfl (fun h9 => HT_skip ?_) (fun h9 => ?_))
      · try simp only [Bool.or_eq_true, Bool.and_eq_true, Bool.or_eq_false_iff, Bool.and_eq_false_iff, Bool.not_eq_true', Bool.not_eq_false', decide_eq_true_eq, decide_eq_false_iff_not] at h9
        exact ⟨(), by unfold nodeB; rw [hz, Bool.true_and, if_pos h9], le_mk (fun n => n) [] rfl (by simp [upS, keepS, *]) (by simp [*, upS]) (by simp [upS])⟩
      · try simp only [Bool.or_eq_true, Bool.and_eq_true, Bool.or_eq_false_iff, Bool.and_eq_false_iff, Bool.not_eq_true', Bool.not_eq_false', decide_eq_true_eq, decide_eq_false_iff_not] at h9
        refine HT_seq <| (HT_run (by simp [*]; rfl) ?_)
        refine (HT_cond rfl (fun h12 => ?_) (fun h12 => ?_))
        · try simp only [Bool.or_eq_true, Bool.and_eq_true, Bool.or_eq_false_iff, Bool.and_eq_false_iff, Bool.not_eq_true', Bool.not_eq_false', decide_eq_true_eq, decide_eq_false_iff_not] at h12
          by_cases hn0 : 0 ≤ n
          · by_cases hn3 : n < vars.length
            · obtain ⟨v, hv1⟩ := get_vars ⟨hn0, hn3⟩
              have hn1 : ¬ (vars.length : Int) ≤ n := by omega
              have hn2 : ¬ n < 0 := by omega
              clear hn3
              refine HT_seq <| (HT_run (by simp [*]; rfl) ?_)
              refine (HT_cond rfl (fun h14 => ?_) (fun h14 => HT_skip ?_))
              · try simp only [Bool.or_eq_true, Bool.and_eq_true, Bool.or_eq_false_iff, Bool.and_eq_false_iff, Bool.not_eq_true', Bool.not_eq_false', decide_eq_true_eq, decide_eq_false_iff_not] at h14
                have hz3 : nodeB vars inp o n ks.length = false := by
                  unfold nodeB refB
                  rw [hz, Bool.true_and, if_neg h9, if_pos h12, hv1]
                  simp [h14]
                rw [hz3, Bool.false_and] at hres
                refine HT_seq <| (HT_run (by simp [*]; rfl) ?_)
                exact (HT_retE (fun h => ⟨.inr rfl, h⟩) _ (by simp [*]; rfl) (by first | rfl | simp [*]) (by simp))
              · try simp only [Bool.or_eq_true, Bool.and_eq_true, Bool.or_eq_false_iff, Bool.and_eq_false_iff, Bool.not_eq_true', Bool.not_eq_false', decide_eq_true_eq, decide_eq_false_iff_not] at h14
                exact ⟨(), by
                  unfold nodeB refB
                  rw [hz, Bool.true_and, if_neg h9, if_pos h12, hv1]
                  simp only [Bool.and_eq_true, Bool.not_eq_true', Bool.and_eq_false_iff, decide_eq_true_eq, decide_eq_false_iff_not]
                  exact ⟨hn0, h14⟩, le_mk (fun n => n) [] rfl (by simp [upS, keepS, *]) (by simp [*, upS]) (by simp [upS])⟩
            · cases inp
              · have hv1 := get_none hn0 hn3
                have hn1 : (vars.length : Int) ≤ n := by omega
                have hn2 : ¬ n < 0 := by omega
                have hz2 : ∀ i, refB vars i n = false := by intro i; simp [refB, hv1]
                clear hn3
                refine HT_seq <| (HT_run (by simp [*]; rfl) ?_)
                refine (HT_cond rfl (fun h14 => ?_) (fun h14 => HT_skip ?_))
                · try simp only [Bool.or_eq_true, Bool.and_eq_true, Bool.or_eq_false_iff, Bool.and_eq_false_iff, Bool.not_eq_true', Bool.not_eq_false', decide_eq_true_eq, decide_eq_false_iff_not] at h14
                  have hz3 : ∀ i, nodeB vars i o n ks.length = false := by
                    intro i
                    unfold nodeB
                    rw [hz, Bool.true_and, if_neg h9, if_pos h12, hz2]
                  rw [hz3, Bool.false_and] at hres
                  refine HT_seq <| (HT_run (by simp [*]; rfl) ?_)
                  exact (HT_retE (fun h => ⟨.inr rfl, h⟩) _ (by simp [*]; rfl) (by first | rfl | simp [*]) (by simp))
                · exact absurd h14 (by simp)
              · have hv1 := get_none hn0 hn3
                have hn1 : (vars.length : Int) ≤ n := by omega
                have hn2 : ¬ n < 0 := by omega
                have hz2 : ∀ i, refB vars i n = false := by intro i; simp [refB, hv1]
                clear hn3
                refine HT_seq <| (HT_run (by simp [*]; rfl) ?_)
                refine (HT_cond rfl (fun h14 => ?_) (fun h14 => HT_skip ?_))
                · try simp only [Bool.or_eq_true, Bool.and_eq_true, Bool.or_eq_false_iff, Bool.and_eq_false_iff, Bool.not_eq_true', Bool.not_eq_false', decide_eq_true_eq, decide_eq_false_iff_not] at h14
                  have hz3 : ∀ i, nodeB vars i o n ks.length = false := by
                    intro i
                    unfold nodeB
                    rw [hz, Bool.true_and, if_neg h9, if_pos h12, hz2]
                  rw [hz3, Bool.false_and] at hres
                  refine HT_seq <| (HT_run (by simp [*]; rfl) ?_)
                  exact (HT_retE (fun h => ⟨.inr rfl, h⟩) _ (by simp [*]; rfl) (by first | rfl | simp [*]) (by simp))
                · exact absurd h14 (by simp)
          · cases inp
            · have hn2 : n < 0 := by omega
              have hz2 : ∀ i, refB vars i n = false := by intro i; simp [refB, hn0]
              refine HT_seq <| (HT_run (by simp [*]; rfl) ?_)
              refine (HT_cond rfl (fun h14 => ?_) (fun h14 => HT_skip ?_))
              · try simp only [Bool.or_eq_true, Bool.and_eq_true, Bool.or_eq_false_iff, Bool.and_eq_false_iff, Bool.not_eq_true', Bool.not_eq_false', decide_eq_true_eq, decide_eq_false_iff_not] at h14
                have hz3 : ∀ i, nodeB vars i o n ks.length = false := by
                  intro i
                  unfold nodeB
                  rw [hz, Bool.true_and, if_neg h9, if_pos h12, hz2]
                rw [hz3, Bool.false_and] at hres
                refine HT_seq <| (HT_run (by simp [*]; rfl) ?_)
                exact (HT_retE (fun h => ⟨.inr rfl, h⟩) _ (by simp [*]; rfl) (by first | rfl | simp [*]) (by simp))
              · exact absurd h14 (by simp)
            · have hn2 : n < 0 := by omega
              have hz2 : ∀ i, refB vars i n = false := by intro i; simp [refB, hn0]
              refine HT_seq <| (HT_run (by simp [*]; rfl) ?_)
              refine (HT_cond rfl (fun h14 => ?_) (fun h14 => HT_skip ?_))
              · try simp only [Bool.or_eq_true, Bool.and_eq_true, Bool.or_eq_false_iff, Bool.and_eq_false_iff, Bool.not_eq_true', Bool.not_eq_false', decide_eq_true_eq, decide_eq_false_iff_not] at h14
                have hz3 : ∀ i, nodeB vars i o n ks.length = false := by
                  intro i
                  unfold nodeB
                  rw [hz, Bool.true_and, if_neg h9, if_pos h12, hz2]
                rw [hz3, Bool.false_and] at hres
                refine HT_seq <| (HT_run (by simp [*]; rfl) ?_)
                exact (HT_retE (fun h => ⟨.inr rfl, h⟩) _ (by simp [*]; rfl) (by first | rfl | simp [*]) (by simp))
              · exact absurd h14 (by simp)
        · try simp only [Bool.or_eq_true, Bool.and_eq_true, Bool.or_eq_false_iff, Bool.and_eq_false_iff, Bool.not_eq_true', Bool.not_eq_false', decide_eq_true_eq, decide_eq_false_iff_not] at h12
          refine HT_seq <| (HT_run (by simp [*]; rfl) ?_)
          refine (HT_cond rfl (fun h19 => ?_) (fun h19 => HT_skip ?_))
          · try simp only [Bool.or_eq_true, Bool.and_eq_true, Bool.or_eq_false_iff, Bool.and_eq_false_iff, Bool.not_eq_true', Bool.not_eq_false', decide_eq_true_eq, decide_eq_false_iff_not] at h19
            have hz3 : nodeB vars inp o n ks.length = false := by
              unfold nodeB
              rw [hz, Bool.true_and, if_neg h9, if_neg h12]
              simpa using h19
            rw [hz3, Bool.false_and] at hres
            refine HT_seq <| (HT_run (by simp [*]; rfl) ?_)
            exact (HT_retE (fun h => ⟨.inr rfl, h⟩) _ (by simp [*]; rfl) (by first | rfl | simp [*]) (by simp))
          · try simp only [Bool.or_eq_true, Bool.and_eq_true, Bool.or_eq_false_iff, Bool.and_eq_false_iff, Bool.not_eq_true', Bool.not_eq_false', decide_eq_true_eq, decide_eq_false_iff_not] at h19
            exact ⟨(), by
              unfold nodeB
              rw [hz, Bool.true_and, if_neg h9, if_neg h12]
              simpa using h19, le_mk (fun n => n) [] rfl (by simp [upS, keepS, *]) (by simp [*, upS]) (by simp [upS])⟩
    rintro z hz
    simp only [upS, keepS, insS]
    try simp only [keepS, List.contains_cons, List.contains_nil, Bool.or_false, Bool.or_true, Bool.true_or, Bool.false_or, Nat.reduceBEq, BEq.rfl, beq_self_eq_true, if_true, if_false, Bool.false_eq_true, ite_true, ite_false, ins, Nat.reduceLT]
    rw [hz, Bool.true_and] at hres
    refine HT_seq <| HT_seq <| (HT_run (by simp [*]; rfl) ?_)
    refine HT_block <| (HT_loopU [0, 2, 65, 66] (fun (x : Nat) => [(67, .v (li x))]) (fun (x : Nat) => []) (fun (x : Nat) => x ≤ ks.length ∧ formBs vars inp (ks.drop x) = res) (fun (x : Nat) => ks.length - x) (0 : Nat) ⟨Nat.zero_le _, hres⟩ ?_ ?_)
    · exact le_mk (fun n => n) [] rfl (by simp [*, upS, keepS]) (by simp [*, upS]) (by simp [upS])
    rintro k ⟨hk, hJ⟩
    simp only [upS, keepS, insS]
    try simp only [keepS, List.contains_cons, List.contains_nil, Bool.or_false, Bool.or_true, Bool.true_or, Bool.false_or, Nat.reduceBEq, BEq.rfl, beq_self_eq_true, if_true, if_false, Bool.false_eq_true, ite_true, ite_false, ins, Nat.reduceLT]
    refine HT_seq <| (HT_run (by simp [*]; rfl) ?_)
    refine HT_seq <| (HT_cond rfl (fun h26 => HT_skip ?_) (fun h26 => ?_))
    · try simp only [Bool.or_eq_true, Bool.and_eq_true, Bool.or_eq_false_iff, Bool.and_eq_false_iff, Bool.not_eq_true', Bool.not_eq_false', decide_eq_true_eq, decide_eq_false_iff_not] at h26
      have hlt : k < ks.length := by omega
      obtain ⟨⟨eo, en, ek⟩, he, hd⟩ := at_lt hlt
      have he' := get_encT he
      simp only [Tm.enc] at he'
      have hw1 := wrap1 hlt (by omega)
      rw [hd] at hJ
      simp only [formBs] at hJ
      have hk1 : k + 1 ≤ ks.length := hlt
      have hmem : Tm.mk eo en ek ∈ ks := List.mem_of_getElem? he
      clear hlt h26
      refine HT_seq <| HT_block <| HT_seq <| (HT_run (by simp [*]; rfl) ?_)
      refine HT_seq <| (HT_runc [⟨true, .v (lb (formB vars inp (.mk eo en ek))), none⟩] (by simp [*]; first | exact ⟨rfl, Iff.rfl⟩ | exact ⟨rfl, trivial⟩ | rfl) ?_ ?_)
      · first | exact ih' _ hmem _ | exact trivial | simpa [*] using ih' _ hmem _
      refine (HT_cond rfl (fun h29 => ?_) (fun h29 => HT_skip ?_))
      · try simp only [Bool.or_eq_true, Bool.and_eq_true, Bool.or_eq_false_iff, Bool.and_eq_false_iff, Bool.not_eq_true', Bool.not_eq_false', decide_eq_true_eq, decide_eq_false_iff_not] at h29
        rw [h29, Bool.false_and] at hJ
        subst hJ
        refine HT_seq <| (HT_run (by simp [*]; rfl) ?_)
        exact (HT_retE (fun h => ⟨.inr rfl, h⟩) _ (by simp [*]; rfl) (by first | rfl | simp [*]) (by simp))
      · try simp only [Bool.or_eq_true, Bool.and_eq_true, Bool.or_eq_false_iff, Bool.and_eq_false_iff, Bool.not_eq_true', Bool.not_eq_false', decide_eq_true_eq, decide_eq_false_iff_not] at h29
        rw [h29, Bool.true_and] at hJ
        refine (HT_run (by simp [*]; rfl) ?_)
        exact ⟨k + 1, ⟨hk1, hJ⟩, by omega, le_mk (fun n => n) [] rfl (by simp [upS, keepS, *]) (by simp [*, upS]) (by simp [upS])⟩
    · try simp only [Bool.or_eq_true, Bool.and_eq_true, Bool.or_eq_false_iff, Bool.and_eq_false_iff, Bool.not_eq_true', Bool.not_eq_false', decide_eq_true_eq, decide_eq_false_iff_not] at h26
      have hkl : k = ks.length := by omega
      subst hkl
      rw [List.drop_length] at hJ
      simp only [formBs] at hJ
      subst hJ
      refine (HT_exit ?_)
      refine HT_seq <| (HT_run (by simp [*]; rfl) ?_)
      exact (HT_retE (fun h => ⟨.inr rfl, h⟩) _ (by simp [*]; rfl) (by first | rfl | simp [*]) (by simp))
end Go.Proofs.YtfilidjbpomgoaaGreat

namespace Go.Proofs.YtfilidjbpomgoaaGreat
open Go Go.Hl

theorem nodes_mem {ks : List Tm} {t : Tm} (ht : t ∈ ks) : t.nodes ≤ nodesT ks := by
  induction ks with
  | nil => cases ht
  | cons a l ih =>
    simp only [nodesT]
    rcases List.mem_cons.1 ht with rfl | h
    · omega
    · have := ih h; omega

theorem least_con (a b : Int) (d : Nat) : Con Tryz.prog 48 true [li a, li b] (.v (li (mn a b))) none d := by
  refine con_of_HT Tryz.func48 rfl (by kernel_rfl) (Nat.le_of_ble_eq_true rfl) ?_
  simp only [Tryz.f48]
  refine HT_seq <| (HT_run (by simp [*]; rfl) ?_)
  refine HT_seq <| HT_seq <| (HT_run (by simp [*]; rfl) ?_)
  refine (HT_cond rfl (fun h2 => ?_) (fun h2 => HT_skip ?_))
  · try simp only [Bool.or_eq_true, Bool.and_eq_true, Bool.or_eq_false_iff, Bool.and_eq_false_iff, Bool.not_eq_true', Bool.not_eq_false', decide_eq_true_eq, decide_eq_false_iff_not] at h2
    have hz : mn a b = a := by unfold mn; split <;> omega
    refine HT_seq <| (HT_run (by simp [*]; rfl) ?_)
    exact (HT_retE (fun h => ⟨.inr rfl, h⟩) _ (by simp [*]; rfl) (by first | rfl | (simp [*]; done) | (simp only [resR]; (repeat' split) <;> first | rfl | (exfalso; omega) | simp_all)) (by simp))
  · try simp only [Bool.or_eq_true, Bool.and_eq_true, Bool.or_eq_false_iff, Bool.and_eq_false_iff, Bool.not_eq_true', Bool.not_eq_false', decide_eq_true_eq, decide_eq_false_iff_not] at h2
    have hz : mn a b = b := by unfold mn; split <;> omega
    refine HT_seq <| (HT_run (by simp [*]; rfl) ?_)
    exact (HT_retE (fun h => ⟨.inr rfl, h⟩) _ (by simp [*]; rfl) (by first | rfl | (simp [*]; done) | (simp only [resR]; (repeat' split) <;> first | rfl | (exfalso; omega) | simp_all)) (by simp))
theorem most_con (a b : Int) (d : Nat) : Con Tryz.prog 47 true [li a, li b] (.v (li (mx a b))) none d := by
  refine con_of_HT Tryz.func47 rfl (by kernel_rfl) (Nat.le_of_ble_eq_true rfl) ?_
  simp only [Tryz.f47]
  refine HT_seq <| (HT_run (by simp [*]; rfl) ?_)
  refine HT_seq <| HT_seq <| (HT_run (by simp [*]; rfl) ?_)
  refine (HT_cond rfl (fun h2 => ?_) (fun h2 => HT_skip ?_))
  · try simp only [Bool.or_eq_true, Bool.and_eq_true, Bool.or_eq_false_iff, Bool.and_eq_false_iff, Bool.not_eq_true', Bool.not_eq_false', decide_eq_true_eq, decide_eq_false_iff_not] at h2
    have hz : mx a b = a := by unfold mx; split <;> omega
    refine HT_seq <| (HT_run (by simp [*]; rfl) ?_)
    exact (HT_retE (fun h => ⟨.inr rfl, h⟩) _ (by simp [*]; rfl) (by first | rfl | (simp [*]; done) | (simp only [resR]; (repeat' split) <;> first | rfl | (exfalso; omega) | simp_all)) (by simp))
  · try simp only [Bool.or_eq_true, Bool.and_eq_true, Bool.or_eq_false_iff, Bool.and_eq_false_iff, Bool.not_eq_true', Bool.not_eq_false', decide_eq_true_eq, decide_eq_false_iff_not] at h2
    have hz : mx a b = b := by unfold mx; split <;> omega
    refine HT_seq <| (HT_run (by simp [*]; rfl) ?_)
    exact (HT_retE (fun h => ⟨.inr rfl, h⟩) _ (by simp [*]; rfl) (by first | rfl | (simp [*]; done) | (simp only [resR]; (repeat' split) <;> first | rfl | (exfalso; omega) | simp_all)) (by simp))
def absI (a : Int) : Int := if a < 0 then -a else a
theorem size_con (a : Int) (h : -1048576 ≤ a ∧ a ≤ 1048576) (d : Nat) : Con Tryz.prog 116 true [li a] (.v (li (absI a))) none d := by
  have hw : IntKind.i64.wrap (-a) = -a := wrap_in (by omega) (by omega)
  refine con_of_HT Tryz.func116 rfl (by kernel_rfl) (Nat.le_of_ble_eq_true rfl) ?_
  simp only [Tryz.f116]
  refine HT_seq <| (HT_run (by simp [*]; rfl) ?_)
  refine HT_seq <| HT_seq <| (HT_run (by simp [*]; rfl) ?_)
  refine (HT_cond rfl (fun h2 => ?_) (fun h2 => HT_skip ?_))
  · try simp only [Bool.or_eq_true, Bool.and_eq_true, Bool.or_eq_false_iff, Bool.and_eq_false_iff, Bool.not_eq_true', Bool.not_eq_false', decide_eq_true_eq, decide_eq_false_iff_not] at h2
    refine HT_seq <| (HT_run (by simp [*]; rfl) ?_)
    exact (HT_retE (fun h => ⟨.inr rfl, h⟩) _ (by simp [*]; rfl) (by first | rfl | (simp [*, absI]; done) | (simp only [resR, absI]; (repeat' split) <;> first | rfl | (exfalso; omega) | simp_all)) (by simp))
  · try simp only [Bool.or_eq_true, Bool.and_eq_true, Bool.or_eq_false_iff, Bool.and_eq_false_iff, Bool.not_eq_true', Bool.not_eq_false', decide_eq_true_eq, decide_eq_false_iff_not] at h2
    refine HT_seq <| (HT_run (by simp [*]; rfl) ?_)
    exact (HT_retE (fun h => ⟨.inr rfl, h⟩) _ (by simp [*]; rfl) (by first | rfl | (simp [*, absI]; done) | (simp only [resR, absI]; (repeat' split) <;> first | rfl | (exfalso; omega) | simp_all)) (by simp))

def kidsR (o : Int) : Int := if o = 0 ∨ o = 24 then 0 else if o = 6 ∨ o = 7 then 1 else if 8 ≤ o ∧ o ≤ 22 then 2 else if o = 23 then 3 else if o = 25 then -2 else -1
theorem kidsR_con (o : Int) (d : Nat) : Con Tryz.prog 95 true [li o] (.v (li (kidsR o))) none d := by
  refine con_of_HT Tryz.func95 rfl (by kernel_rfl) (Nat.le_of_ble_eq_true rfl) ?_
  simp only [Tryz.f95]
  refine HT_seq <| (HT_run (by simp [*]; rfl) ?_)
  refine HT_seq <| HT_seq <| (HT_run (by simp [*]; rfl) ?_)
  refine HT_block <| (HT_cutU [3] (fun (z : Bool) => [(4, .v (lb z))]) (fun (z : Bool) => []) (fun (z : Bool) => z = decide (o = 0 ∨ o = 24)) ?_ ?_)
  ·
    refine HT_seq <| (HT_run (by simp [*]; rfl) ?_)
    refine (HT_cond rfl (fun h4 => HT_skip ?_) (fun h4 => ?_))
    · try simp only [Bool.or_eq_true, Bool.and_eq_true, Bool.or_eq_false_iff, Bool.and_eq_false_iff, Bool.not_eq_true', Bool.not_eq_false', decide_eq_true_eq, decide_eq_false_iff_not] at h4
      exact ⟨decide (o = 0 ∨ o = 24), rfl, le_mk (fun n => n) [] rfl (by simp [upS, keepS, *]) (by simp [*, upS]) (by simp [upS])⟩
    · try simp only [Bool.or_eq_true, Bool.and_eq_true, Bool.or_eq_false_iff, Bool.and_eq_false_iff, Bool.not_eq_true', Bool.not_eq_false', decide_eq_true_eq, decide_eq_false_iff_not] at h4
      refine (HT_run (by simp [*]; rfl) ?_)
      exact ⟨decide (o = 0 ∨ o = 24), rfl, le_mk (fun n => n) [] rfl (by simp [upS, keepS, *]) (by simp [*, upS]) (by simp [upS])⟩
  rintro _ rfl
  simp only [upS, keepS, insS]
  try simp only [keepS, List.contains_cons, List.contains_nil, Bool.or_false, Bool.or_true, Bool.true_or, Bool.false_or, Nat.reduceBEq, BEq.rfl, beq_self_eq_true, if_true, if_false, Bool.false_eq_true, ite_true, ite_false, ins, Nat.reduceLT]
  refine (HT_cond rfl (fun h8 => ?_) (fun h8 => ?_))
  · try simp only [Bool.or_eq_true, Bool.and_eq_true, Bool.or_eq_false_iff, Bool.and_eq_false_iff, Bool.not_eq_true', Bool.not_eq_false', decide_eq_true_eq, decide_eq_false_iff_not] at h8
    refine HT_seq <| (HT_run (by simp [*]; rfl) ?_)
    exact (HT_retE (fun h => ⟨.inr rfl, h⟩) _ (by simp [*]; rfl) (by first | rfl | (simp [*, kidsR]; done) | (simp only [resR, kidsR]; (repeat' split) <;> first | rfl | (exfalso; omega) | simp_all)) (by simp))
  · try simp only [Bool.or_eq_true, Bool.and_eq_true, Bool.or_eq_false_iff, Bool.and_eq_false_iff, Bool.not_eq_true', Bool.not_eq_false', decide_eq_true_eq, decide_eq_false_iff_not] at h8
    refine (HT_cutU [3] (fun (z : Bool) => [(7, .v (lb z))]) (fun (z : Bool) => []) (fun (z : Bool) => z = decide (o = 6 ∨ o = 7)) ?_ ?_)
    ·
      refine HT_seq <| (HT_run (by simp [*]; rfl) ?_)
      refine (HT_cond rfl (fun h13 => HT_skip ?_) (fun h13 => ?_))
      · try simp only [Bool.or_eq_true, Bool.and_eq_true, Bool.or_eq_false_iff, Bool.and_eq_false_iff, Bool.not_eq_true', Bool.not_eq_false', decide_eq_true_eq, decide_eq_false_iff_not] at h13
        exact ⟨decide (o = 6 ∨ o = 7), rfl, le_mk (fun n => n) [] rfl (by simp [upS, keepS, *]) (by simp [*, upS]) (by simp [upS])⟩
      · try simp only [Bool.or_eq_true, Bool.and_eq_true, Bool.or_eq_false_iff, Bool.and_eq_false_iff, Bool.not_eq_true', Bool.not_eq_false', decide_eq_true_eq, decide_eq_false_iff_not] at h13
        refine (HT_run (by simp [*]; rfl) ?_)
        exact ⟨decide (o = 6 ∨ o = 7), rfl, le_mk (fun n => n) [] rfl (by simp [upS, keepS, *]) (by simp [*, upS]) (by simp [upS])⟩
    rintro _ rfl
    simp only [upS, keepS, insS]
    try simp only [keepS, List.contains_cons, List.contains_nil, Bool.or_false, Bool.or_true, Bool.true_or, Bool.false_or, Nat.reduceBEq, BEq.rfl, beq_self_eq_true, if_true, if_false, Bool.false_eq_true, ite_true, ite_false, ins, Nat.reduceLT]
    refine (HT_cond rfl (fun h17 => ?_) (fun h17 => ?_))
    · try simp only [Bool.or_eq_true, Bool.and_eq_true, Bool.or_eq_false_iff, Bool.and_eq_false_iff, Bool.not_eq_true', Bool.not_eq_false', decide_eq_true_eq, decide_eq_false_iff_not] at h17
      refine HT_seq <| (HT_run (by simp [*]; rfl) ?_)
      exact (HT_retE (fun h => ⟨.inr rfl, h⟩) _ (by simp [*]; rfl) (by first | rfl | (simp [*, kidsR]; done) | (simp only [resR, kidsR]; (repeat' split) <;> first | rfl | (exfalso; omega) | simp_all)) (by simp))
    · try simp only [Bool.or_eq_true, Bool.and_eq_true, Bool.or_eq_false_iff, Bool.and_eq_false_iff, Bool.not_eq_true', Bool.not_eq_false', decide_eq_true_eq, decide_eq_false_iff_not] at h17
      refine (HT_cutU [3] (fun (z : Bool) => [(10, .v (lb z))]) (fun (z : Bool) => []) (fun (z : Bool) => z = decide (8 ≤ o ∧ o ≤ 22)) ?_ ?_)
      ·
        refine HT_seq <| (HT_run (by simp [*]; rfl) ?_)
        refine (HT_cond rfl (fun h22 => HT_skip ?_) (fun h22 => ?_))
        · try simp only [Bool.or_eq_true, Bool.and_eq_true, Bool.or_eq_false_iff, Bool.and_eq_false_iff, Bool.not_eq_true', Bool.not_eq_false', decide_eq_true_eq, decide_eq_false_iff_not] at h22
          exact ⟨decide (8 ≤ o ∧ o ≤ 22), rfl, le_mk (fun n => n) [] rfl (by simp [upS, keepS, *]) (by simp [*, upS]) (by simp [upS])⟩
        · try simp only [Bool.or_eq_true, Bool.and_eq_true, Bool.or_eq_false_iff, Bool.and_eq_false_iff, Bool.not_eq_true', Bool.not_eq_false', decide_eq_true_eq, decide_eq_false_iff_not] at h22
          refine HT_seq <| (HT_run (by simp [*]; rfl) ?_)
          refine (HT_cond rfl (fun h25 => HT_skip ?_) (fun h25 => ?_))
          · try simp only [Bool.or_eq_true, Bool.and_eq_true, Bool.or_eq_false_iff, Bool.and_eq_false_iff, Bool.not_eq_true', Bool.not_eq_false', decide_eq_true_eq, decide_eq_false_iff_not] at h25
            exact ⟨decide (8 ≤ o ∧ o ≤ 22), rfl, le_mk (fun n => n) [] rfl (by simp [upS, keepS, *]) (by simp [*, upS]) (by simp [upS])⟩
          · try simp only [Bool.or_eq_true, Bool.and_eq_true, Bool.or_eq_false_iff, Bool.and_eq_false_iff, Bool.not_eq_true', Bool.not_eq_false', decide_eq_true_eq, decide_eq_false_iff_not] at h25
            refine HT_seq <| (HT_run (by simp [*]; rfl) ?_)
            refine (HT_cond rfl (fun h28 => HT_skip ?_) (fun h28 => ?_))
            · try simp only [Bool.or_eq_true, Bool.and_eq_true, Bool.or_eq_false_iff, Bool.and_eq_false_iff, Bool.not_eq_true', Bool.not_eq_false', decide_eq_true_eq, decide_eq_false_iff_not] at h28
              exact ⟨decide (8 ≤ o ∧ o ≤ 22), rfl, le_mk (fun n => n) [] rfl (by simp [upS, keepS, *]) (by simp [*, upS]) (by simp [upS])⟩
            · try simp only [Bool.or_eq_true, Bool.and_eq_true, Bool.or_eq_false_iff, Bool.and_eq_false_iff, Bool.not_eq_true', Bool.not_eq_false', decide_eq_true_eq, decide_eq_false_iff_not] at h28
              refine HT_seq <| (HT_run (by simp [*]; rfl) ?_)
              refine (HT_cond rfl (fun h31 => HT_skip ?_) (fun h31 => ?_))
              · try simp only [Bool.or_eq_true, Bool.and_eq_true, Bool.or_eq_false_iff, Bool.and_eq_false_iff, Bool.not_eq_true', Bool.not_eq_false', decide_eq_true_eq, decide_eq_false_iff_not] at h31
                exact ⟨decide (8 ≤ o ∧ o ≤ 22), rfl, le_mk (fun n => n) [] rfl (by simp [upS, keepS, *]) (by simp [*, upS]) (by simp [upS])⟩
              · try simp only [Bool.or_eq_true, Bool.and_eq_true, Bool.or_eq_false_iff, Bool.and_eq_false_iff, Bool.not_eq_true', Bool.not_eq_false', decide_eq_true_eq, decide_eq_false_iff_not] at h31
                refine HT_seq <| (HT_run (by simp [*]; rfl) ?_)
                refine (HT_cond rfl (fun h34 => HT_skip ?_) (fun h34 => ?_))
                · try simp only [Bool.or_eq_true, Bool.and_eq_true, Bool.or_eq_false_iff, Bool.and_eq_false_iff, Bool.not_eq_true', Bool.not_eq_false', decide_eq_true_eq, decide_eq_false_iff_not] at h34
                  exact ⟨decide (8 ≤ o ∧ o ≤ 22), rfl, le_mk (fun n => n) [] rfl (by simp [upS, keepS, *]) (by simp [*, upS]) (by simp [upS])⟩
                · try simp only [Bool.or_eq_true, Bool.and_eq_true, Bool.or_eq_false_iff, Bool.and_eq_false_iff, Bool.not_eq_true', Bool.not_eq_false', decide_eq_true_eq, decide_eq_false_iff_not] at h34
                  refine HT_seq <| (HT_run (by simp [*]; rfl) ?_)
                  refine (HT_cond rfl (fun h37 => HT_skip ?_) (fun h37 => ?_))
                  · try simp only [Bool.or_eq_true, Bool.and_eq_true, Bool.or_eq_false_iff, Bool.and_eq_false_iff, Bool.not_eq_true', Bool.not_eq_false', decide_eq_true_eq, decide_eq_false_iff_not] at h37
                    exact ⟨decide (8 ≤ o ∧ o ≤ 22), rfl, le_mk (fun n => n) [] rfl (by simp [upS, keepS, *]) (by simp [*, upS]) (by simp [upS])⟩
                  · try simp only [Bool.or_eq_true, Bool.and_eq_true, Bool.or_eq_false_iff, Bool.and_eq_false_iff, Bool.not_eq_true', Bool.not_eq_false', decide_eq_true_eq, decide_eq_false_iff_not] at h37
                    refine HT_seq <| (HT_run (by simp [*]; rfl) ?_)
                    refine (HT_cond rfl (fun h40 => HT_skip ?_) (fun h40 => ?_))
                    · try simp only [Bool.or_eq_true, Bool.and_eq_true, Bool.or_eq_false_iff, Bool.and_eq_false_iff, Bool.not_eq_true', Bool.not_eq_false', decide_eq_true_eq, decide_eq_false_iff_not] at h40
                      exact ⟨decide (8 ≤ o ∧ o ≤ 22), rfl, le_mk (fun n => n) [] rfl (by simp [upS, keepS, *]) (by simp [*, upS]) (by simp [upS])⟩
                    · try simp only [Bool.or_eq_true, Bool.and_eq_true, Bool.or_eq_false_iff, Bool.and_eq_false_iff, Bool.not_eq_true', Bool.not_eq_false', decide_eq_true_eq, decide_eq_false_iff_not] at h40
                      refine HT_seq <| (HT_run (by simp [*]; rfl) ?_)
                      refine (HT_cond rfl (fun h43 => HT_skip ?_) (fun h43 => ?_))
                      · try simp only [Bool.or_eq_true, Bool.and_eq_true, Bool.or_eq_false_iff, Bool.and_eq_false_iff, Bool.not_eq_true', Bool.not_eq_false', decide_eq_true_eq, decide_eq_false_iff_not] at h43
                        exact ⟨decide (8 ≤ o ∧ o ≤ 22), rfl, le_mk (fun n => n) [] rfl (by simp [upS, keepS, *]) (by simp [*, upS]) (by simp [upS])⟩
                      · try simp only [Bool.or_eq_true, Bool.and_eq_true, Bool.or_eq_false_iff, Bool.and_eq_false_iff, Bool.not_eq_true', Bool.not_eq_false', decide_eq_true_eq, decide_eq_false_iff_not] at h43
                        refine HT_seq <| (HT_run (by simp [*]; rfl) ?_)
                        refine (HT_cond rfl (fun h46 => HT_skip ?_) (fun h46 => ?_))
                        · try simp only [Bool.or_eq_true, Bool.and_eq_true, Bool.or_eq_false_iff, Bool.and_eq_false_iff, Bool.not_eq_true', Bool.not_eq_false', decide_eq_true_eq, decide_eq_false_iff_not] at h46
                          exact ⟨decide (8 ≤ o ∧ o ≤ 22), rfl, le_mk (fun n => n) [] rfl (by simp [upS, keepS, *]) (by simp [*, upS]) (by simp [upS])⟩
                        · try simp only [Bool.or_eq_true, Bool.and_eq_true, Bool.or_eq_false_iff, Bool.and_eq_false_iff, Bool.not_eq_true', Bool.not_eq_false', decide_eq_true_eq, decide_eq_false_iff_not] at h46
                          refine HT_seq <| (HT_run (by simp [*]; rfl) ?_)
                          refine (HT_cond rfl (fun h49 => HT_skip ?_) (fun h49 => ?_))
                          · try simp only [Bool.or_eq_true, Bool.and_eq_true, Bool.or_eq_false_iff, Bool.and_eq_false_iff, Bool.not_eq_true', Bool.not_eq_false', decide_eq_true_eq, decide_eq_false_iff_not] at h49
                            exact ⟨decide (8 ≤ o ∧ o ≤ 22), rfl, le_mk (fun n => n) [] rfl (by simp [upS, keepS, *]) (by simp [*, upS]) (by simp [upS])⟩
                          · try simp only [Bool.or_eq_true, Bool.and_eq_true, Bool.or_eq_false_iff, Bool.and_eq_false_iff, Bool.not_eq_true', Bool.not_eq_false', decide_eq_true_eq, decide_eq_false_iff_not] at h49
                            refine HT_seq <| (HT_run (by simp [*]; rfl) ?_)
                            refine (HT_cond rfl (fun h52 => HT_skip ?_) (fun h52 => ?_))
                            · try simp only [Bool.or_eq_true, Bool.and_eq_true, Bool.or_eq_false_iff, Bool.and_eq_false_iff, Bool.not_eq_true', Bool.not_eq_false', decide_eq_true_eq, decide_eq_false_iff_not] at h52
                              exact ⟨decide (8 ≤ o ∧ o ≤ 22), rfl, le_mk (fun n => n) [] rfl (by simp [upS, keepS, *]) (by simp [*, upS]) (by simp [upS])⟩
                            · try simp only [Bool.or_eq_true, Bool.and_eq_true, Bool.or_eq_false_iff, Bool.and_eq_false_iff, Bool.not_eq_true', Bool.not_eq_false', decide_eq_true_eq, decide_eq_false_iff_not] at h52
                              refine HT_seq <| (HT_run (by simp [*]; rfl) ?_)
                              refine (HT_cond rfl (fun h55 => HT_skip ?_) (fun h55 => ?_))
                              · try simp only [Bool.or_eq_true, Bool.and_eq_true, Bool.or_eq_false_iff, Bool.and_eq_false_iff, Bool.not_eq_true', Bool.not_eq_false', decide_eq_true_eq, decide_eq_false_iff_not] at h55
                                exact ⟨decide (8 ≤ o ∧ o ≤ 22), rfl, le_mk (fun n => n) [] rfl (by simp [upS, keepS, *]) (by simp [*, upS]) (by simp [upS])⟩
                              · try simp only [Bool.or_eq_true, Bool.and_eq_true, Bool.or_eq_false_iff, Bool.and_eq_false_iff, Bool.not_eq_true', Bool.not_eq_false', decide_eq_true_eq, decide_eq_false_iff_not] at h55
                                refine HT_seq <| (HT_run (by simp [*]; rfl) ?_)
                                refine (HT_cond rfl (fun h58 => HT_skip ?_) (fun h58 => ?_))
                                · try simp only [Bool.or_eq_true, Bool.and_eq_true, Bool.or_eq_false_iff, Bool.and_eq_false_iff, Bool.not_eq_true', Bool.not_eq_false', decide_eq_true_eq, decide_eq_false_iff_not] at h58
                                  exact ⟨decide (8 ≤ o ∧ o ≤ 22), rfl, le_mk (fun n => n) [] rfl (by simp [upS, keepS, *]) (by simp [*, upS]) (by simp [upS])⟩
                                · try simp only [Bool.or_eq_true, Bool.and_eq_true, Bool.or_eq_false_iff, Bool.and_eq_false_iff, Bool.not_eq_true', Bool.not_eq_false', decide_eq_true_eq, decide_eq_false_iff_not] at h58
                                  refine HT_seq <| (HT_run (by simp [*]; rfl) ?_)
                                  refine (HT_cond rfl (fun h61 => HT_skip ?_) (fun h61 => ?_))
                                  · try simp only [Bool.or_eq_true, Bool.and_eq_true, Bool.or_eq_false_iff, Bool.and_eq_false_iff, Bool.not_eq_true', Bool.not_eq_false', decide_eq_true_eq, decide_eq_false_iff_not] at h61
                                    exact ⟨decide (8 ≤ o ∧ o ≤ 22), rfl, le_mk (fun n => n) [] rfl (by simp [upS, keepS, *]) (by simp [*, upS]) (by simp [upS])⟩
                                  · try simp only [Bool.or_eq_true, Bool.and_eq_true, Bool.or_eq_false_iff, Bool.and_eq_false_iff, Bool.not_eq_true', Bool.not_eq_false', decide_eq_true_eq, decide_eq_false_iff_not] at h61
                                    refine (HT_run (by simp [*]; rfl) ?_)
                                    have hz : decide (o = 22) = (decide (8 ≤ o) && decide (o ≤ 22)) := by rw [← Bool.decide_and, decide_eq_decide]; omega
                                    exact ⟨decide (8 ≤ o ∧ o ≤ 22), rfl, le_mk (fun n => n) [] rfl (by simp [upS, keepS, *]) (by simp [*, upS]) (by simp [upS])⟩
      rintro _ rfl
      simp only [upS, keepS, insS]
      try simp only [keepS, List.contains_cons, List.contains_nil, Bool.or_false, Bool.or_true, Bool.true_or, Bool.false_or, Nat.reduceBEq, BEq.rfl, beq_self_eq_true, if_true, if_false, Bool.false_eq_true, ite_true, ite_false, ins, Nat.reduceLT]
      refine (HT_cond rfl (fun h65 => ?_) (fun h65 => ?_))
      · try simp only [Bool.or_eq_true, Bool.and_eq_true, Bool.or_eq_false_iff, Bool.and_eq_false_iff, Bool.not_eq_true', Bool.not_eq_false', decide_eq_true_eq, decide_eq_false_iff_not] at h65
        refine HT_seq <| (HT_run (by simp [*]; rfl) ?_)
        exact (HT_retE (fun h => ⟨.inr rfl, h⟩) _ (by simp [*]; rfl) (by first | rfl | (simp [*, kidsR]; done) | (simp only [resR, kidsR]; (repeat' split) <;> first | rfl | (exfalso; omega) | simp_all)) (by simp))
      · try simp only [Bool.or_eq_true, Bool.and_eq_true, Bool.or_eq_false_iff, Bool.and_eq_false_iff, Bool.not_eq_true', Bool.not_eq_false', decide_eq_true_eq, decide_eq_false_iff_not] at h65
        refine HT_seq <| (HT_run (by simp [*]; rfl) ?_)
        refine (HT_cond rfl (fun h69 => ?_) (fun h69 => ?_))
        · try simp only [Bool.or_eq_true, Bool.and_eq_true, Bool.or_eq_false_iff, Bool.and_eq_false_iff, Bool.not_eq_true', Bool.not_eq_false', decide_eq_true_eq, decide_eq_false_iff_not] at h69
          refine HT_seq <| (HT_run (by simp [*]; rfl) ?_)
          exact (HT_retE (fun h => ⟨.inr rfl, h⟩) _ (by simp [*]; rfl) (by first | rfl | (simp [*, kidsR]; done) | (simp only [resR, kidsR]; (repeat' split) <;> first | rfl | (exfalso; omega) | simp_all)) (by simp))
        · try simp only [Bool.or_eq_true, Bool.and_eq_true, Bool.or_eq_false_iff, Bool.and_eq_false_iff, Bool.not_eq_true', Bool.not_eq_false', decide_eq_true_eq, decide_eq_false_iff_not] at h69
          refine HT_seq <| (HT_run (by simp [*]; rfl) ?_)
          refine (HT_cond rfl (fun h73 => ?_) (fun h73 => HT_skip ?_))
          · try simp only [Bool.or_eq_true, Bool.and_eq_true, Bool.or_eq_false_iff, Bool.and_eq_false_iff, Bool.not_eq_true', Bool.not_eq_false', decide_eq_true_eq, decide_eq_false_iff_not] at h73
            refine HT_seq <| (HT_run (by simp [*]; rfl) ?_)
            exact (HT_retE (fun h => ⟨.inr rfl, h⟩) _ (by simp [*]; rfl) (by first | rfl | (simp [*, kidsR]; done) | (simp only [resR, kidsR]; (repeat' split) <;> first | rfl | (exfalso; omega) | simp_all)) (by simp))
          · try simp only [Bool.or_eq_true, Bool.and_eq_true, Bool.or_eq_false_iff, Bool.and_eq_false_iff, Bool.not_eq_true', Bool.not_eq_false', decide_eq_true_eq, decide_eq_false_iff_not] at h73
            refine HT_seq <| (HT_run (by simp [*]; rfl) ?_)
            exact (HT_retE (fun h => ⟨.inr rfl, h⟩) _ (by simp [*]; rfl) (by first | rfl | (simp [*, kidsR]; done) | (simp only [resR, kidsR]; (repeat' split) <;> first | rfl | (exfalso; omega) | simp_all)) (by simp))
end Go.Proofs.YtfilidjbpomgoaaGreat

namespace Go.Proofs.YtfilidjbpomgoaaGreat
open Go Go.Hl

theorem St.lists {P : List St → Prop} (h : ∀ l, (∀ s ∈ l, P s.then_ ∧ P s.else_) → P l) : ∀ l, P l := by
  have key : ∀ s : St, P s.then_ ∧ P s.else_ := by
    intro s
    induction s using St.ind with
    | h d c v n t a b bs iha ihb => exact ⟨h a iha, h b ihb⟩
  exact fun l => h l fun s _ => key s
theorem nodesS_mem {l : List St} {s : St} (hs : s ∈ l) : 1 + s.term.nodes + nodesS s.then_ + nodesS s.else_ ≤ nodesS l := by
  induction l with
  | nil => cases hs
  | cons x l ih =>
    simp only [nodesS]
    rcases List.mem_cons.1 hs with rfl | h
    · obtain ⟨d, c, v, n, t, a, b, bs⟩ := s
      simp only [St.nodes, St.term, St.then_, St.else_]
      omega
    · have := ih h; omega

/-! ## the times of steps -/
def heldI (n lo hi : Int) : Int := if n < lo then lo else if hi < n then hi else n
theorem clamp_con (n lo hi : Int) (h : lo ≤ hi) (d : Nat) : Con Tryz.prog 123 true [li n, li lo, li hi] (.v (li (heldI n lo hi))) none d := by
  have hz : heldI n lo hi = if hi < (if n < lo then lo else n) then hi else (if n < lo then lo else n) := by
    unfold heldI
    (repeat' split) <;> omega
  refine con_of_HT Tryz.func123 rfl (by kernel_rfl) (Nat.le_of_ble_eq_true rfl) ?_
  simp only [Tryz.f123]
  refine HT_seq <| (HT_run (by simp [*]; rfl) ?_)
  refine HT_seq <| (HT_run (by simp [*]; rfl) ?_)
  exact (HT_retE (fun h => ⟨.inr rfl, h⟩) _ (by simp [*]; rfl) (by first | rfl | (simp [*]; done) | (simp only [resR]; (repeat' split) <;> first | rfl | (exfalso; omega) | simp_all)) (by simp))
theorem held_con (n lo hi : Int) (d : Nat) : Con Tryz.prog 100 true [li n, li lo, li hi] (.v (li (heldI n lo hi))) none d := by
  refine con_of_HT Tryz.func100 rfl (by kernel_rfl) (Nat.le_of_ble_eq_true rfl) ?_
  simp only [Tryz.f100]
  refine HT_seq <| (HT_run (by simp [*]; rfl) ?_)
  refine HT_seq <| HT_seq <| (HT_run (by simp [*]; rfl) ?_)
  refine (HT_cond rfl (fun h2 => ?_) (fun h2 => HT_skip ?_))
  · try simp only [Bool.or_eq_true, Bool.and_eq_true, Bool.or_eq_false_iff, Bool.and_eq_false_iff, Bool.not_eq_true', Bool.not_eq_false', decide_eq_true_eq, decide_eq_false_iff_not] at h2
    refine HT_seq <| (HT_run (by simp [*]; rfl) ?_)
    exact (HT_retE (fun h => ⟨.inr rfl, h⟩) _ (by simp [*]; rfl) (by first | rfl | (simp [*, heldI]; done) | (simp only [resR, heldI]; (repeat' split) <;> first | rfl | (exfalso; omega) | simp_all)) (by simp))
  · try simp only [Bool.or_eq_true, Bool.and_eq_true, Bool.or_eq_false_iff, Bool.and_eq_false_iff, Bool.not_eq_true', Bool.not_eq_false', decide_eq_true_eq, decide_eq_false_iff_not] at h2
    refine HT_seq <| HT_seq <| (HT_run (by simp [*]; rfl) ?_)
    refine (HT_cond rfl (fun h6 => ?_) (fun h6 => HT_skip ?_))
    · try simp only [Bool.or_eq_true, Bool.and_eq_true, Bool.or_eq_false_iff, Bool.and_eq_false_iff, Bool.not_eq_true', Bool.not_eq_false', decide_eq_true_eq, decide_eq_false_iff_not] at h6
      refine HT_seq <| (HT_run (by simp [*]; rfl) ?_)
      exact (HT_retE (fun h => ⟨.inr rfl, h⟩) _ (by simp [*]; rfl) (by first | rfl | (simp [*, heldI]; done) | (simp only [resR, heldI]; (repeat' split) <;> first | rfl | (exfalso; omega) | simp_all)) (by simp))
    · try simp only [Bool.or_eq_true, Bool.and_eq_true, Bool.or_eq_false_iff, Bool.and_eq_false_iff, Bool.not_eq_true', Bool.not_eq_false', decide_eq_true_eq, decide_eq_false_iff_not] at h6
      refine HT_seq <| (HT_run (by simp [*]; rfl) ?_)
      exact (HT_retE (fun h => ⟨.inr rfl, h⟩) _ (by simp [*]; rfl) (by first | rfl | (simp [*, heldI]; done) | (simp only [resR, heldI]; (repeat' split) <;> first | rfl | (exfalso; omega) | simp_all)) (by simp))
theorem held_in {n lo hi : Int} (h : lo ≤ hi) : lo ≤ heldI n lo hi ∧ heldI n lo hi ≤ hi := by
  unfold heldI
  (repeat' split) <;> omega
def onceI (m c : Int) : Int := if 0 < m then c else 0
mutual
def spS : St → Int × Int
  | .mk d c _ n (.mk o tn _) a b _ =>
    if d = 3 then (heldI c 0 67108865 + mn (spL a (0, 0)).1 (spL b (0, 0)).1, heldI c 0 67108865 + mx (spL a (0, 0)).2 (spL b (0, 0)).2)
    else if d = 4 then
      (if o ≠ 0 then (onceI (heldI n 0 4096) (heldI c 0 67108865), heldI n 0 4096 * (heldI c 0 67108865 + (spL a (0, 0)).2))
       else if tn ≠ 0 then (heldI n 0 4096 * (heldI c 0 67108865 + (spL a (0, 0)).1), heldI n 0 4096 * (heldI c 0 67108865 + (spL a (0, 0)).2))
       else (onceI (heldI n 0 4096) (heldI c 0 67108865), onceI (heldI n 0 4096) (heldI c 0 67108865)))
    else (heldI c 0 67108865, heldI c 0 67108865)
def spL : List St → Int × Int → Int × Int
  | [], p => p
  | s :: l, p => spL l (mn (p.1 + (spS s).1) 67108865, mn (p.2 + (spS s).2) 67108865)
end
theorem mulT {m z : Int} (hm : 0 ≤ m ∧ m ≤ 4096) (hz : 0 ≤ z ∧ z ≤ 134217730) : 0 ≤ m * z ∧ m * z ≤ 549755822080 := by
  have h1 : m.natAbs * z.natAbs ≤ 4096 * 134217730 := Nat.mul_le_mul (by omega) (by omega)
  rw [← Int.natAbs_mul] at h1
  have h2 := Int.mul_nonneg hm.1 hz.1
  omega
def inT (p : Int × Int) : Prop := 0 ≤ p.1 ∧ p.1 ≤ 67108865 ∧ 0 ≤ p.2 ∧ p.2 ≤ 67108865
def inU (p : Int × Int) : Prop := 0 ≤ p.1 ∧ p.1 ≤ 549755822080 ∧ 0 ≤ p.2 ∧ p.2 ≤ 549755822080
theorem inT0 : inT (0, 0) := ⟨by decide, by decide, by decide, by decide⟩
theorem once_in {m c : Int} (hc : 0 ≤ c ∧ c ≤ 67108865) : 0 ≤ onceI m c ∧ onceI m c ≤ 67108865 := by
  unfold onceI
  split <;> omega
theorem mn_in {a : Int} (h : 0 ≤ a) : 0 ≤ mn a 67108865 ∧ mn a 67108865 ≤ 67108865 := by
  unfold mn
  split <;> omega
mutual
theorem spS_in : ∀ s : St, inU (spS s)
  | .mk d c v n (.mk o tn ks) a b bs => by
    have ha := spL_in a (0, 0) inT0
    have hb := spL_in b (0, 0) inT0
    have hc := held_in (n := c) (lo := 0) (hi := 67108865) (by decide)
    have hn := held_in (n := n) (lo := 0) (hi := 4096) (by decide)
    have ho := once_in (m := heldI n 0 4096) hc
    unfold inT at ha hb
    have h1 := mulT hn (z := heldI c 0 67108865 + (spL a (0, 0)).1) (by omega)
    have h2 := mulT hn (z := heldI c 0 67108865 + (spL a (0, 0)).2) (by omega)
    unfold inU
    simp only [spS]
    split
    · simp only [mn, mx]
      (repeat' split) <;> omega
    · split
      · split
        · simp only; omega
        · split
          · simp only; omega
          · simp only; omega
      · simp only; omega
theorem spL_in : ∀ (l : List St) (p : Int × Int), inT p → inT (spL l p)
  | [], p, h => h
  | s :: l, p, h => by
    have hs := spS_in s
    simp only [spL]
    refine spL_in l _ ?_
    unfold inT inU at *
    have h1 := mn_in (a := p.1 + (spS s).1) (by omega)
    have h2 := mn_in (a := p.2 + (spS s).2) (by omega)
    simp only
    omega
end

theorem spanP_con (l : List St) : nodesS l ≤ 1000000000 → ∀ d : Nat, Con Tryz.prog 115 true [lS l] (.tup [li (spL l (0, 0)).1, li (spL l (0, 0)).2]) none d := by
  revert l
  apply St.lists
  intro l ih hn d
  have hlen := len_nodesS l
  obtain ⟨res, hres⟩ : ∃ r, spL l (0, 0) = r := ⟨_, rfl⟩
  rw [hres]
  refine con_of_HT Tryz.func115 rfl (by kernel_rfl) (Nat.le_of_ble_eq_true rfl) ?_
  simp only [Tryz.f115]
  refine HT_seq <| (HT_run (by simp [*]; rfl) ?_)
  refine HT_seq <| HT_seq <| (HT_run (by simp [*]; rfl) ?_)
  refine HT_block <| (HT_loopU [17, 18] (fun (x : Nat × Int × Int) => [(2, .v (li x.2.1)), (3, .v (li x.2.2)), (19, .v (li x.1))]) (fun (x : Nat × Int × Int) => []) (fun (x : Nat × Int × Int) => x.1 ≤ l.length ∧ spL (l.drop x.1) x.2 = res ∧ inT x.2) (fun (x : Nat × Int × Int) => l.length - x.1) (0, 0, 0) ⟨Nat.zero_le _, hres, inT0⟩ ?_ ?_)
  · exact le_mk (fun n => n) [] rfl (by simp [*, upS, keepS]) (by simp [*, upS]) (by simp [upS])
  rintro ⟨k, m, q⟩ ⟨hk, hJ, hin⟩
  simp only [upS, keepS, insS]
  try simp only [keepS, List.contains_cons, List.contains_nil, Bool.or_false, Bool.or_true, Bool.true_or, Bool.false_or, Nat.reduceBEq, BEq.rfl, beq_self_eq_true, if_true, if_false, Bool.false_eq_true, ite_true, ite_false, ins, Nat.reduceLT]
  simp only at hk hJ
  unfold inT at hin
  simp only at hin
  clear hres
  refine HT_seq <| (HT_run (by simp [*]; rfl) ?_)
  refine HT_seq <| (HT_cond rfl (fun h4 => HT_skip ?_) (fun h4 => ?_))
  · try simp only [Bool.or_eq_true, Bool.and_eq_true, Bool.or_eq_false_iff, Bool.and_eq_false_iff, Bool.not_eq_true', Bool.not_eq_false', decide_eq_true_eq, decide_eq_false_iff_not] at h4
    have hlt : k < l.length := by omega
    obtain ⟨s, he, hd⟩ := at_lt hlt
    have hmem : s ∈ l := List.mem_of_getElem? he
    have hnm := nodesS_mem hmem
    have iha := fun h => (ih s hmem).1 h
    have ihb := fun h => (ih s hmem).2 h
    have hw1 := wrap1 hlt (by omega)
    have hk1 : k + 1 ≤ l.length := hlt
    rw [hd] at hJ
    simp only [spL] at hJ
    have hsin := spS_in s
    obtain ⟨pq, hpq⟩ : ∃ pq, spS s = pq := ⟨_, rfl⟩
    rw [hpq] at hJ hsin
    obtain ⟨sd, sc, sv, sn, ⟨so, stn, sks⟩, sa, sb, sbs⟩ := s
    simp only [St.then_, St.else_, St.term] at iha ihb hnm
    have ca := iha (by omega)
    have cb := ihb (by omega)
    have he' := get_encS he
    simp only [St.enc, Tm.enc, List.cons_append, List.nil_append] at he'
    simp only [spS] at hpq
    have hxa := spL_in sa (0, 0) inT0
    have hxb := spL_in sb (0, 0) inT0
    obtain ⟨xa, hxa'⟩ : ∃ x, spL sa (0, 0) = x := ⟨_, rfl⟩
    obtain ⟨xb, hxb'⟩ : ∃ x, spL sb (0, 0) = x := ⟨_, rfl⟩
    have hci := held_in (n := sc) (lo := 0) (hi := 67108865) (by decide)
    have hni := held_in (n := sn) (lo := 0) (hi := 4096) (by decide)
    obtain ⟨cc, hcc⟩ : ∃ x, heldI sc 0 67108865 = x := ⟨_, rfl⟩
    obtain ⟨nn, hnn⟩ : ∃ x, heldI sn 0 4096 = x := ⟨_, rfl⟩
    have c1 := clamp_con sc 0 67108865 (by decide)
    have c2 := clamp_con sn 0 4096 (by decide)
    rw [hxa'] at ca hxa hpq
    rw [hxb'] at cb hxb hpq
    rw [hcc] at c1 hci hpq
    rw [hnn] at c2 hni hpq
    unfold inT at hxa hxb
    unfold inU at hsin
    clear hlt h4 iha ihb ih hxa' hxb' hcc hnn hmem hnm hd he
    refine HT_seq <| HT_block <| HT_seq <| (HT_run (by simp [*]; rfl) ?_)
    refine HT_seq <| (HT_drunc [⟨true, .v (li cc), none⟩, ⟨true, .v (li nn), none⟩] (by kernel_rfl) (by kernel_rfl) (by rfl) (by simp [*]; first | exact ⟨rfl, Iff.rfl⟩ | exact ⟨rfl, trivial⟩ | rfl) ?_ ?_)
    · first | exact ⟨c1 _, c2 _⟩ | exact trivial | (repeat' first | exact trivial | exact c1 _ | exact c2 _ | apply And.intro)
    refine HT_seq <| (HT_run (by simp [*]; rfl) ?_)
    refine (HT_cutU [2, 3, 17, 18, 19] (fun (z : Unit) => [(8, .v (li pq.1)), (9, .v (li pq.2))]) (fun (z : Unit) => []) (fun (z : Unit) => True) ?_ ?_)
    ·
      refine HT_seq <| (HT_run (by simp [*]; rfl) ?_)
      refine HT_block <| HT_seq <| (HT_run (by simp [*]; rfl) ?_)
      refine (HT_cond rfl (fun h11 => ?_) (fun h11 => ?_))
      · try simp only [Bool.or_eq_true, Bool.and_eq_true, Bool.or_eq_false_iff, Bool.and_eq_false_iff, Bool.not_eq_true', Bool.not_eq_false', decide_eq_true_eq, decide_eq_false_iff_not] at h11
        rw [if_pos h11] at hpq
        subst hpq
        have hmn : (if xb.1 < xa.1 then xb.1 else xa.1) = mn xa.1 xb.1 := rfl
        have hmx : (if xa.2 < xb.2 then xb.2 else xa.2) = mx xa.2 xb.2 := rfl
        have hw2 : IntKind.i64.wrap (cc + mn xa.1 xb.1) = cc + mn xa.1 xb.1 := wrap_in (by simp only at hsin; omega) (by simp only at hsin; omega)
        have hw3 : IntKind.i64.wrap (cc + mx xa.2 xb.2) = cc + mx xa.2 xb.2 := wrap_in (by simp only at hsin; omega) (by simp only at hsin; omega)
        clear hsin
        refine HT_seq <| (HT_runc [⟨true, .tup [li xa.1, li xa.2], none⟩] (by simp [*]; first | exact ⟨rfl, Iff.rfl⟩ | exact ⟨rfl, trivial⟩ | rfl) ?_ ?_)
        · first | exact ca _ | exact trivial | simpa [*] using ca _
        refine HT_seq <| (HT_runc [⟨true, .tup [li xb.1, li xb.2], none⟩] (by simp [*]; first | exact ⟨rfl, Iff.rfl⟩ | exact ⟨rfl, trivial⟩ | rfl) ?_ ?_)
        · first | exact cb _ | exact trivial | simpa [*] using cb _
        refine (HT_run (by simp [*]; rfl) ?_)
        exact ⟨(), trivial, le_mk (fun n => n) [] rfl (by simp [upS, keepS, *]) (by simp [*, upS]) (by simp [upS])⟩
      · try simp only [Bool.or_eq_true, Bool.and_eq_true, Bool.or_eq_false_iff, Bool.and_eq_false_iff, Bool.not_eq_true', Bool.not_eq_false', decide_eq_true_eq, decide_eq_false_iff_not] at h11
        rw [if_neg h11] at hpq
        refine HT_seq <| (HT_run (by simp [*]; rfl) ?_)
        refine (HT_cond rfl (fun h17 => ?_) (fun h17 => HT_skip ?_))
        · try simp only [Bool.or_eq_true, Bool.and_eq_true, Bool.or_eq_false_iff, Bool.and_eq_false_iff, Bool.not_eq_true', Bool.not_eq_false', decide_eq_true_eq, decide_eq_false_iff_not] at h17
          rw [if_pos h17] at hpq
          have hon : IntKind.i64.wrap ((if 1 < nn then 1 else nn) * cc) = onceI nn cc := by
            have : (if 1 < nn then 1 else nn) * cc = onceI nn cc := by
              unfold onceI
              by_cases h : 0 < nn
              · rw [if_pos h]
                have : (if 1 < nn then 1 else nn) = 1 := by split <;> omega
                rw [this, Int.one_mul]
              · rw [if_neg h]
                have : (if 1 < nn then 1 else nn) = 0 := by split <;> omega
                rw [this, Int.zero_mul]
            rw [this]
            have := once_in (m := nn) hci
            exact wrap_in (by omega) (by omega)
          have hm1 := mulT hni (z := cc + xa.1) (by omega)
          have hm2 := mulT hni (z := cc + xa.2) (by omega)
          have hw2 : IntKind.i64.wrap (cc + xa.1) = cc + xa.1 := wrap_in (by omega) (by omega)
          have hw3 : IntKind.i64.wrap (cc + xa.2) = cc + xa.2 := wrap_in (by omega) (by omega)
          have hw4 : IntKind.i64.wrap (nn * (cc + xa.1)) = nn * (cc + xa.1) := wrap_in (by omega) (by omega)
          have hw5 : IntKind.i64.wrap (nn * (cc + xa.2)) = nn * (cc + xa.2) := wrap_in (by omega) (by omega)
          clear hm1 hm2
          refine HT_seq <| (HT_runc [⟨true, .tup [li xa.1, li xa.2], none⟩] (by simp [*]; first | exact ⟨rfl, Iff.rfl⟩ | exact ⟨rfl, trivial⟩ | rfl) ?_ ?_)
          · first | exact ca _ | exact trivial | simpa [*] using ca _
          refine HT_seq <| (HT_run (by simp [*]; rfl) ?_)
          refine HT_block <| HT_seq <| (HT_run (by simp [*]; rfl) ?_)
          refine (HT_cond rfl (fun h21 => ?_) (fun h21 => ?_))
          · try simp only [Bool.or_eq_true, Bool.and_eq_true, Bool.or_eq_false_iff, Bool.and_eq_false_iff, Bool.not_eq_true', Bool.not_eq_false', decide_eq_true_eq, decide_eq_false_iff_not] at h21
            rw [if_pos h21] at hpq
            subst hpq
            refine (HT_run (by simp [*]; rfl) ?_)
            exact ⟨(), trivial, le_mk (fun n => n) [] rfl (by simp [upS, keepS, *]) (by simp [*, upS]) (by simp [upS])⟩
          · try simp only [Bool.or_eq_true, Bool.and_eq_true, Bool.or_eq_false_iff, Bool.and_eq_false_iff, Bool.not_eq_true', Bool.not_eq_false', decide_eq_true_eq, decide_eq_false_iff_not] at h21
            rw [if_neg (fun h => h h21)] at hpq
            refine HT_seq <| (HT_run (by simp [*]; rfl) ?_)
            refine (HT_cond rfl (fun h25 => ?_) (fun h25 => ?_))
            · try simp only [Bool.or_eq_true, Bool.and_eq_true, Bool.or_eq_false_iff, Bool.and_eq_false_iff, Bool.not_eq_true', Bool.not_eq_false', decide_eq_true_eq, decide_eq_false_iff_not] at h25
              rw [if_pos h25] at hpq
              subst hpq
              refine (HT_run (by simp [*]; rfl) ?_)
              exact ⟨(), trivial, le_mk (fun n => n) [] rfl (by simp [upS, keepS, *]) (by simp [*, upS]) (by simp [upS])⟩
            · try simp only [Bool.or_eq_true, Bool.and_eq_true, Bool.or_eq_false_iff, Bool.and_eq_false_iff, Bool.not_eq_true', Bool.not_eq_false', decide_eq_true_eq, decide_eq_false_iff_not] at h25
              rw [if_neg (fun h => h h25)] at hpq
              subst hpq
              refine (HT_run (by simp [*]; rfl) ?_)
              exact ⟨(), trivial, le_mk (fun n => n) [] rfl (by simp [upS, keepS, *]) (by simp [*, upS]) (by simp [upS])⟩
        · try simp only [Bool.or_eq_true, Bool.and_eq_true, Bool.or_eq_false_iff, Bool.and_eq_false_iff, Bool.not_eq_true', Bool.not_eq_false', decide_eq_true_eq, decide_eq_false_iff_not] at h17
          rw [if_neg h17] at hpq
          subst hpq
          exact ⟨(), trivial, le_mk (fun n => n) [] rfl (by simp [upS, keepS, *]) (by simp [*, upS]) (by simp [upS])⟩
    rintro z hz
    simp only [upS, keepS, insS]
    try simp only [keepS, List.contains_cons, List.contains_nil, Bool.or_false, Bool.or_true, Bool.true_or, Bool.false_or, Nat.reduceBEq, BEq.rfl, beq_self_eq_true, if_true, if_false, Bool.false_eq_true, ite_true, ite_false, ins, Nat.reduceLT]
    clear hpq ca cb c1 c2 hci hni hxa hxb
    have hw2 : IntKind.i64.wrap (m + pq.1) = m + pq.1 := wrap_in (by omega) (by omega)
    have hw3 : IntKind.i64.wrap (q + pq.2) = q + pq.2 := wrap_in (by omega) (by omega)
    have hm1 := mn_in (a := m + pq.1) (by omega)
    have hm2 := mn_in (a := q + pq.2) (by omega)
    have hmn1 : (if 67108865 < m + pq.1 then 67108865 else m + pq.1) = mn (m + pq.1) 67108865 := rfl
    have hmn2 : (if 67108865 < q + pq.2 then 67108865 else q + pq.2) = mn (q + pq.2) 67108865 := rfl
    refine (HT_run (by simp [*]; rfl) ?_)
    refine (HT_run (by simp [*]; rfl) ?_)
    exact ⟨(k + 1, mn (m + pq.1) 67108865, mn (q + pq.2) 67108865), ⟨hk1, hJ, hm1.1, hm1.2, hm2.1, hm2.2⟩, by simp only; omega, le_mk (fun n => n) [] rfl (by simp [upS, keepS, *]) (by simp [*, upS]) (by simp [upS])⟩
  · try simp only [Bool.or_eq_true, Bool.and_eq_true, Bool.or_eq_false_iff, Bool.and_eq_false_iff, Bool.not_eq_true', Bool.not_eq_false', decide_eq_true_eq, decide_eq_false_iff_not] at h4
    have hkl : k = l.length := by omega
    rw [hkl, List.drop_length] at hJ
    simp only [spL] at hJ
    subst hJ
    refine (HT_exit ?_)
    refine HT_seq <| (HT_run (by simp [*]; rfl) ?_)
    exact (HT_retE (fun h => ⟨.inr rfl, h⟩) _ (by simp [*]; rfl) (by first | rfl | (simp [*]; done) | (simp only [resR]; (repeat' split) <;> first | rfl | (exfalso; omega) | simp_all)) (by simp))
end Go.Proofs.YtfilidjbpomgoaaGreat
