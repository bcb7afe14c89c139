/- Part 3: contracts of functions of the program and of the reference, and plain facts about what they compute; used by the proof of the claimed statement. Conditions: as each theorem states. -/
import Derived.Test.YtfjidddhehckoaaT2
set_option linter.unusedSimpArgs false
set_option linter.unusedVariables false
set_option linter.unnecessarySimpa false
set_option maxRecDepth 100000
set_option maxHeartbeats 2000000
namespace Go.Proofs.Ytfjidddhehckoaa
open Go Go.Hl

theorem takeM {α β : Type} (f : α → β) (l : List α) : (l.map f).take l.length = l.map f := by
  rw [List.take_of_length_le (by simp)]
def modL (b : Int × Int) : Int := if b.1 < 0 then mn (b.1 + 1) 0 else 0
def modH (b : Int × Int) : Int := if 0 < b.2 then mx (b.2 - 1) 0 else 0
@[simp] def g2 (k : List (Int × Int)) (i : Nat) : Int × Int := k[i]?.getD ((0 : Int), (0 : Int))
def ruleP (vars : List Vr) (o n : Int) (k : List (Int × Int)) : Int × Int :=
  if o = 0 then (n, n) else if o = 24 then (match vars[n.toNat]? with | some v => (v.low, v.high) | none => (0, 0))
  else if o = 6 then (-(g2 k 0).2, -(g2 k 0).1)
  else if o = 8 then ((g2 k 0).1 + (g2 k 1).1, (g2 k 0).2 + (g2 k 1).2)
  else if o = 9 then ((g2 k 0).1 - (g2 k 1).2, (g2 k 0).2 - (g2 k 1).1)
  else if o = 10 then mulP (g2 k 0) (g2 k 1)
  else if o = 11 then (if 0 ≤ (g2 k 0).1 ∧ 0 ≤ (g2 k 1).1 then (0, mx (g2 k 0).2 (-(g2 k 0).1)) else (-(mx (g2 k 0).2 (-(g2 k 0).1)), mx (g2 k 0).2 (-(g2 k 0).1)))
  else if o = 12 then (modL (g2 k 1), modH (g2 k 1))
  else if o = 21 then (mn (g2 k 0).1 (g2 k 1).1, mn (g2 k 0).2 (g2 k 1).2)
  else if o = 22 then (mx (g2 k 0).1 (g2 k 1).1, mx (g2 k 0).2 (g2 k 1).2)
  else if o = 23 ∨ o = 25 then hullL (k.drop 2) (g2 k 1) else (0, 1)

theorem kid {k : List (Int × Int)} (hk : ∀ p ∈ k, bnd p) {i : Nat} (h : i + 1 ≤ k.length) : ∃ a1 a2, k[i]? = some (a1, a2) ∧ -1048576 ≤ a1 ∧ a1 ≤ a2 ∧ a2 ≤ 1048576 := by
  have : k[i]? = some k[i] := by simp [show i < k.length from h]
  have h2 := hk k[i] (List.getElem_mem _)
  exact ⟨k[i].1, k[i].2, this, h2⟩
theorem node_ar {vars : List Vr} {inp : Bool} {o n : Int} {len : Nat} (h : nodeB vars inp o n len = true) : 0 ≤ (kidsP o).1 ∧ (kidsP o).1 ≤ len ∧ (len : Int) ≤ (kidsP o).2 := by
  unfold nodeB at h
  simp only [Bool.and_eq_true, Bool.not_eq_true', decide_eq_false_iff_not] at h
  omega
theorem node_ref {vars : List Vr} {inp : Bool} {n : Int} {len : Nat} (h : nodeB vars inp 24 n len = true) : 0 ≤ n ∧ ∃ v, vars[n.toNat]? = some v ∧ (inp = true → v.kind ≠ 0) := by
  unfold nodeB refB at h
  simp only [Bool.and_eq_true, Int.reduceEq, if_false, if_true, decide_eq_true_eq] at h
  obtain ⟨_, h0, h⟩ := h
  refine ⟨h0, ?_⟩
  split at h
  · rename_i v hv
    refine ⟨v, hv, fun hi hk => ?_⟩
    simp [hi, hk] at h
  · cases h
theorem kids1 {o : Int} (h : o = 6 ∨ o = 7) : kidsP o = (1, 1) := by
  unfold kidsP; rw [if_neg (by omega), if_pos h]
theorem kids2 {o : Int} (h : 8 ≤ o ∧ o ≤ 22) : kidsP o = (2, 2) := by
  unfold kidsP; rw [if_neg (by omega), if_neg (by omega), if_pos h]
theorem kids3 : kidsP 23 = (3, 3) := by decide
theorem kids4 : kidsP 25 = (2, 33) := by decide

theorem rule_con (vars : List Vr) (inp : Bool) (o n : Int) (K : CD) (k : List (Int × Int)) (hf : nodeB vars inp o n k.length = true) (hk : ∀ p ∈ k, bnd p) (d : Nat) :
    Con Try.prog 94 true [lV vars, .agg [.c (iC o), .c (iC n), .c K], .one (.c (.sl 2 (encPs k)))] (.v (aP (ruleP vars o n k))) none d := by
  have har := node_ar hf
  have hrf : o = 24 → 0 ≤ n ∧ ∃ v, vars[n.toNat]? = some v ∧ (inp = true → v.kind ≠ 0) := fun h => node_ref (by rw [← h]; exact hf)
  clear hf
  have ar1 : o = 6 → 0 + 1 ≤ k.length := fun h => by have := kids1 (.inl h); rw [this] at har; simp only at har; omega
  have ar2 : 8 ≤ o ∧ o ≤ 22 → 0 + 1 ≤ k.length ∧ 1 + 1 ≤ k.length := fun h => by have := kids2 h; rw [this] at har; simp only at har; omega
  have ar3 : o = 23 ∨ o = 25 → 2 ≤ k.length ∧ k.length ≤ 33 := fun h => by
    rcases h with h | h
    · have := kids3; rw [h, this] at har; simp only at har; omega
    · have := kids4; rw [h, this] at har; simp only at har; omega
  clear har
  refine con_of_HT Try.func94 rfl (by kernel_rfl) (Nat.le_of_ble_eq_true rfl) ?_
  simp only [Try.f94]
  refine HT_seq <| HT_runA ?_
  refine HT_seq <| HT_seq <| HT_runA ?_
  refine HT_block <| HT_seq <| HT_runA ?_
  refine (HT_cond rfl (fun h3 => ?_) (fun h3 => ?_))
  · try simp only [BN] at h3
    refine HT_seq <| HT_runA ?_
    exact (HT_retE (fun h => ⟨.inr rfl, h⟩) _ (by simp [*]; rfl) (by first | rfl | (simp [*, ruleP]; done) | (simp only [resR, ruleP]; (repeat' split) <;> first | rfl | (exfalso; omega) | simp_all)) (by simp))
  · try simp only [BN] at h3
    refine HT_seq <| HT_runA ?_
    refine (HT_cond rfl (fun h7 => ?_) (fun h7 => ?_))
    · try simp only [BN] at h7
      obtain ⟨hn0, v, hv, _⟩ := hrf h7
      clear hrf
      refine HT_seq <| (HT_drun (by kernel_rfl) (by kernel_rfl) (by rfl) (by simp [*]; rfl) ?_)
      exact (HT_retE (fun h => ⟨.inr rfl, h⟩) _ (by simp [*]; rfl) (by first | rfl | (simp [*, ruleP]; done) | (simp only [resR, ruleP]; (repeat' split) <;> first | rfl | (exfalso; omega) | simp_all)) (by simp))
    · try simp only [BN] at h7
      refine HT_seq <| HT_runA ?_
      refine (HT_cond rfl (fun h11 => ?_) (fun h11 => ?_))
      · try simp only [BN] at h11
        obtain ⟨a1, a2, ha, hb1, hb2, hb3⟩ := kid hk (ar1 h11)
        have hw1 : IntKind.i64.wrap (-a1) = -a1 := wrap_in (by omega) (by omega)
        have hw2 : IntKind.i64.wrap (-a2) = -a2 := wrap_in (by omega) (by omega)
        clear ar1 ar2 ar3
        refine HT_seq <| (HT_drun (by kernel_rfl) (by kernel_rfl) (by rfl) (by simp [*]; rfl) ?_)
        exact (HT_retE (fun h => ⟨.inr rfl, h⟩) _ (by simp [*]; rfl) (by first | rfl | (simp [*, ruleP]; done) | (simp only [resR, ruleP]; (repeat' split) <;> first | rfl | (exfalso; omega) | simp_all)) (by simp))
      · try simp only [BN] at h11
        refine HT_seq <| HT_runA ?_
        refine (HT_cond rfl (fun h15 => ?_) (fun h15 => ?_))
        · try simp only [BN] at h15
          obtain ⟨a1, a2, ha, hb1, hb2, hb3⟩ := kid hk (ar2 (by omega)).1
          obtain ⟨c1, c2, hc, hc1, hc2, hc3⟩ := kid hk (ar2 (by omega)).2
          have hw1 : IntKind.i64.wrap (a1 + c1) = a1 + c1 := wrap_in (by omega) (by omega)
          have hw2 : IntKind.i64.wrap (a2 + c2) = a2 + c2 := wrap_in (by omega) (by omega)
          clear ar1 ar2 ar3
          refine HT_seq <| (HT_drun (by kernel_rfl) (by kernel_rfl) (by rfl) (by simp [*]; rfl) ?_)
          exact (HT_retE (fun h => ⟨.inr rfl, h⟩) _ (by simp [*]; rfl) (by first | rfl | (simp [*, ruleP]; done) | (simp only [resR, ruleP]; (repeat' split) <;> first | rfl | (exfalso; omega) | simp_all)) (by simp))
        · try simp only [BN] at h15
          refine HT_seq <| HT_runA ?_
          refine (HT_cond rfl (fun h19 => ?_) (fun h19 => ?_))
          · try simp only [BN] at h19
            obtain ⟨a1, a2, ha, hb1, hb2, hb3⟩ := kid hk (ar2 (by omega)).1
            obtain ⟨c1, c2, hc, hc1, hc2, hc3⟩ := kid hk (ar2 (by omega)).2
            have hw1 : IntKind.i64.wrap (a1 - c2) = a1 - c2 := wrap_in (by omega) (by omega)
            have hw2 : IntKind.i64.wrap (a2 - c1) = a2 - c1 := wrap_in (by omega) (by omega)
            clear ar1 ar2 ar3
            refine HT_seq <| (HT_drun (by kernel_rfl) (by kernel_rfl) (by rfl) (by simp [*]; rfl) ?_)
            exact (HT_retE (fun h => ⟨.inr rfl, h⟩) _ (by simp [*]; rfl) (by first | rfl | (simp [*, ruleP]; done) | (simp only [resR, ruleP]; (repeat' split) <;> first | rfl | (exfalso; omega) | simp_all)) (by simp))
          · try simp only [BN] at h19
            refine HT_seq <| HT_runA ?_
            refine (HT_cond rfl (fun h23 => ?_) (fun h23 => ?_))
            · try simp only [BN] at h23
              obtain ⟨a1, a2, ha, hb1, hb2, hb3⟩ := kid hk (ar2 (by omega)).1
              obtain ⟨c1, c2, hc, hc1, hc2, hc3⟩ := kid hk (ar2 (by omega)).2
              clear ar1 ar2 ar3
              refine HT_seq <| (HT_drunc [⟨true, .v (aP (mulP (a1, a2) (c1, c2))), none⟩] (by kernel_rfl) (by kernel_rfl) (by rfl) (by simp [*]; first | exact ⟨rfl, Iff.rfl⟩ | exact ⟨rfl, trivial⟩ | rfl) ?_ ?_)
              · first | exact corners_con (a1, a2) (c1, c2) ⟨hb1, hb2, hb3⟩ ⟨hc1, hc2, hc3⟩ _ | exact trivial | simpa [*] using corners_con (a1, a2) (c1, c2) ⟨hb1, hb2, hb3⟩ ⟨hc1, hc2, hc3⟩ _
              exact (HT_retE (fun h => ⟨.inr rfl, h⟩) _ (by simp [*]; rfl) (by first | rfl | (simp [*, ruleP]; done) | (simp only [resR, ruleP]; (repeat' split) <;> first | rfl | (exfalso; omega) | simp_all)) (by simp))
            · try simp only [BN] at h23
              refine HT_seq <| HT_runA ?_
              refine (HT_cond rfl (fun h27 => ?_) (fun h27 => ?_))
              · try simp only [BN] at h27
                obtain ⟨a1, a2, ha, hb1, hb2, hb3⟩ := kid hk (ar2 (by omega)).1
                obtain ⟨c1, c2, hc, hc1, hc2, hc3⟩ := kid hk (ar2 (by omega)).2
                have hw1 : IntKind.i64.wrap (-a1) = -a1 := wrap_in (by omega) (by omega)
                have hm : -1048576 ≤ mx a2 (-a1) ∧ mx a2 (-a1) ≤ 1048576 := by unfold mx; split <;> omega
                have hw2 : IntKind.i64.wrap (-(mx a2 (-a1))) = -(mx a2 (-a1)) := wrap_in (by omega) (by omega)
                have hmx : (if a2 < -a1 then -a1 else a2) = mx a2 (-a1) := rfl
                clear ar1 ar2 ar3
                refine HT_seq <| (HT_drun (by kernel_rfl) (by kernel_rfl) (by rfl) (by simp [*]; rfl) ?_)
                refine HT_seq <| HT_seq <| HT_runA ?_
                refine (HT_cond rfl (fun h30 => ?_) (fun h30 => HT_skip ?_))
                · try simp only [BN] at h30
                  refine HT_seq <| HT_runA ?_
                  exact (HT_retE (fun h => ⟨.inr rfl, h⟩) _ (by simp [*]; rfl) (by first | rfl | (simp [*, ruleP]; done) | (simp only [resR, ruleP]; (repeat' split) <;> first | rfl | (exfalso; omega) | simp_all)) (by simp))
                · try simp only [BN] at h30
                  have hng : ¬ (0 ≤ a1 ∧ 0 ≤ c1) := by omega
                  refine HT_seq <| HT_runA ?_
                  exact (HT_retE (fun h => ⟨.inr rfl, h⟩) _ (by simp [*]; rfl) (by first | rfl | (simp [*, ruleP]; done) | (simp only [resR, ruleP]; (repeat' split) <;> first | rfl | (exfalso; omega) | simp_all)) (by simp))
              · try simp only [BN] at h27
                refine HT_seq <| HT_runA ?_
                refine (HT_cond rfl (fun h36 => ?_) (fun h36 => ?_))
                · try simp only [BN] at h36
                  obtain ⟨c1, c2, hc, hc1, hc2, hc3⟩ := kid hk (ar2 (by omega)).2
                  have hw1 : IntKind.i64.wrap (c1 + 1) = c1 + 1 := wrap_in (by omega) (by omega)
                  have hw2 : IntKind.i64.wrap (c2 - 1) = c2 - 1 := wrap_in (by omega) (by omega)
                  have hmn : (if 0 < c1 + 1 then 0 else c1 + 1) = mn (c1 + 1) 0 := rfl
                  have hmx : (if c2 - 1 < 0 then 0 else c2 - 1) = mx (c2 - 1) 0 := rfl
                  clear ar1 ar2 ar3
                  refine HT_seq <| HT_runA ?_
                  refine (HT_cutU [2, 6, 8] (fun (z : Int) => []) (fun (z : Int) => [(6, .box [.c (iC 0), .c (iC 0)]), (8, .box [.c (iC z), .c (iC 0)])]) (fun (z : Int) => z = modL (c1, c2)) ?_ ?_)
                  ·
                    refine HT_seq <| HT_runA ?_
                    refine (HT_cond rfl (fun h40 => ?_) (fun h40 => HT_skip ?_))
                    · try simp only [BN] at h40
                      have hml : mn (c1 + 1) 0 = modL (c1, c2) := by simp only [modL]; rw [if_pos h40]
                      refine HT_runA ?_
                      exact ⟨modL (c1, c2), rfl, le_mk (fun n => n) [] rfl (by simp [upS, keepS, *]) (by simp [*, upS]) (by simp [upS])⟩
                    · try simp only [BN] at h40
                      have hml : (0 : Int) = modL (c1, c2) := by simp only [modL]; rw [if_neg h40]
                      exact ⟨modL (c1, c2), rfl, le_mk (fun n => n) [] rfl (by simp [upS, keepS, *]) (by simp [*, upS]) (by simp [upS])⟩
                  rintro _ rfl
                  simp only [upS, keepS, insS]
                  try simp only [keepS, KN, Nat.reduceBEq, if_true, if_false, ins, Nat.reduceLT]
                  refine HT_seq <| HT_seq <| HT_runA ?_
                  refine (HT_cond rfl (fun h45 => ?_) (fun h45 => HT_skip ?_))
                  · try simp only [BN] at h45
                    have hmh : mx (c2 - 1) 0 = modH (c1, c2) := by simp only [modH]; rw [if_pos h45]
                    refine HT_runA ?_
                    refine HT_seq <| HT_runA ?_
                    exact (HT_retE (fun h => ⟨.inr rfl, h⟩) _ (by simp [*]; rfl) (by first | rfl | (simp [*, ruleP]; done) | (simp only [resR, ruleP]; (repeat' split) <;> first | rfl | (exfalso; omega) | simp_all)) (by simp))
                  · try simp only [BN] at h45
                    have hmh : modH (c1, c2) = 0 := by simp only [modH]; rw [if_neg h45]
                    refine HT_seq <| HT_runA ?_
                    exact (HT_retE (fun h => ⟨.inr rfl, h⟩) _ (by simp [*]; rfl) (by first | rfl | (simp [*, ruleP]; done) | (simp only [resR, ruleP]; (repeat' split) <;> first | rfl | (exfalso; omega) | simp_all)) (by simp))
                · try simp only [BN] at h36
                  refine HT_seq <| HT_runA ?_
                  refine (HT_cond rfl (fun h52 => ?_) (fun h52 => ?_))
                  · try simp only [BN] at h52
                    obtain ⟨a1, a2, ha, hb1, hb2, hb3⟩ := kid hk (ar2 (by omega)).1
                    obtain ⟨c1, c2, hc, hc1, hc2, hc3⟩ := kid hk (ar2 (by omega)).2
                    clear ar1 ar2 ar3
                    refine HT_seq <| (HT_drun (by kernel_rfl) (by kernel_rfl) (by rfl) (by simp [*]; rfl) ?_)
                    exact (HT_retE (fun h => ⟨.inr rfl, h⟩) _ (by simp [*]; rfl) (by simp [*, ruleP, resR, mn]) (by simp))
                  · try simp only [BN] at h52
                    refine HT_seq <| HT_runA ?_
                    refine (HT_cond rfl (fun h56 => ?_) (fun h56 => ?_))
                    · try simp only [BN] at h56
                      obtain ⟨a1, a2, ha, hb1, hb2, hb3⟩ := kid hk (ar2 (by omega)).1
                      obtain ⟨c1, c2, hc, hc1, hc2, hc3⟩ := kid hk (ar2 (by omega)).2
                      clear ar1 ar2 ar3
                      refine HT_seq <| (HT_drun (by kernel_rfl) (by kernel_rfl) (by rfl) (by simp [*]; rfl) ?_)
                      exact (HT_retE (fun h => ⟨.inr rfl, h⟩) _ (by simp [*]; rfl) (by simp [*, ruleP, resR, mx]) (by simp))
                    · try simp only [BN] at h56
                      refine (HT_cutU [2, 6] (fun (z : Bool) => [(200, .v (lb z))]) (fun (z : Bool) => [(6, .box [.c (iC 0), .c (iC 0)])]) (fun (z : Bool) => z = decide (o = 23 ∨ o = 25)) ?_ ?_)
                      ·
                        refine HT_seq <| HT_runA ?_
                        refine (HT_cond rfl (fun h61 => HT_skip ?_) (fun h61 => ?_))
                        · try simp only [BN] at h61
                          exact ⟨true, by simp [h61], le_mk (fun n => n) [] rfl (by simp [upS, keepS, *]) (by simp [*, upS]) (by simp [upS])⟩
                        · try simp only [BN] at h61
                          refine HT_runA ?_
                          exact ⟨decide (o = 25), by simp [h61], le_mk (fun n => n) [] rfl (by simp [upS, keepS, *]) (by simp [*, upS]) (by simp [upS])⟩
                      rintro z hz
                      simp only [upS, keepS, insS]
                      try simp only [keepS, KN, Nat.reduceBEq, if_true, if_false, ins, Nat.reduceLT]
                      subst hz
                      obtain ⟨res, hres⟩ : ∃ r, ruleP vars o n k = r := ⟨_, rfl⟩
                      rw [hres]
                      simp only [ruleP, h3, h7, h11, h15, h19, h23, h27, h36, h52, h56, if_false] at hres
                      refine (HT_cond rfl (fun h65 => ?_) (fun h65 => HT_skip ?_))
                      · try simp only [BN] at h65
                        have h2 := ar3 h65
                        rw [if_pos h65] at hres
                        clear ar1 ar2 ar3 h65
                        rcases k with _ | ⟨a, _ | ⟨c, r⟩⟩
                        · simp at h2
                        · simp at h2
                        have hr33 : r.length ≤ 31 := by simp only [List.length_cons] at h2; omega
                        clear h2
                        simp at hres
                        refine HT_seq <| (HT_run (by simp [*, encPs]; rfl) ?_)
                        refine HT_seq <| HT_seq <| (HT_run (by simp [*, encPs, takeM]; rfl) ?_)
                        refine HT_block <| (HT_loopU [6, 9, 207, 208] (fun (x : Nat × Int × Int) => [(209, .v (li x.1))]) (fun (x : Nat × Int × Int) => [(6, .box [.c (iC 0), .c (iC 0)]), (9, .box [.c (iC x.2.1), .c (iC x.2.2)])]) (fun (x : Nat × Int × Int) => x.1 ≤ r.length ∧ hullL (r.drop x.1) x.2 = res) (fun (x : Nat × Int × Int) => r.length - x.1) (0, c) ⟨Nat.zero_le _, hres⟩ ?_ ?_)
                        · exact le_mk (fun n => n) [] rfl (by simp [*, upS, keepS]) (by simp [*, upS]) (by simp [upS])
                        rintro ⟨k, m, q⟩ ⟨hk', hJ⟩
                        simp only [upS, keepS, insS]
                        try simp only [keepS, KN, Nat.reduceBEq, if_true, if_false, ins, Nat.reduceLT]
                        simp only at hk' hJ
                        clear hres
                        refine HT_seq <| HT_runA ?_
                        refine HT_seq <| (HT_cond rfl (fun h70 => HT_skip ?_) (fun h70 => ?_))
                        · try simp only [BN] at h70
                          have hlt : k < r.length := by omega
                          obtain ⟨⟨e1, e2⟩, he, hd⟩ := at_lt hlt
                          have hw1 := wrap1 hlt (by omega)
                          rw [hd] at hJ
                          simp only [hullL] at hJ
                          have hk1 : k + 1 ≤ r.length := hlt
                          clear hlt h70
                          refine HT_seq <| HT_block <| HT_seq <| HT_runA ?_
                          refine (HT_runc [⟨true, .v (aP (hullP (m, q) (e1, e2))), none⟩] (by simp [*]; first | exact ⟨rfl, Iff.rfl⟩ | exact ⟨rfl, trivial⟩ | rfl) ?_ ?_)
                          · first | exact hull_con (m, q) (e1, e2) _ | exact trivial | simpa [*] using hull_con (m, q) (e1, e2) _
                          refine HT_runA ?_
                          exact ⟨(k + 1, hullP (m, q) (e1, e2)), ⟨hk1, hJ⟩, by simp only; omega, le_mk (fun n => n) [] rfl (by simp [upS, keepS, *]) (by simp [*, upS]) (by simp [upS])⟩
                        · try simp only [BN] at h70
                          have hkl : k = r.length := by omega
                          rw [hkl, List.drop_length] at hJ
                          simp only [hullL] at hJ
                          refine (HT_exit ?_)
                          refine HT_seq <| HT_runA ?_
                          exact (HT_retE (fun h => ⟨.inr rfl, h⟩) _ (by simp [*]; rfl) (by subst hJ; rfl) (by simp))
                      · try simp only [BN] at h65
                        rw [if_neg h65] at hres
                        subst hres
                        refine HT_seq <| HT_runA ?_
                        exact (HT_retE (fun h => ⟨.inr rfl, h⟩) _ (by simp [*]; rfl) (by first | rfl | (simp [*, ruleP]; done) | (simp only [resR, ruleP]; (repeat' split) <;> first | rfl | (exfalso; omega) | simp_all)) (by simp))
end Go.Proofs.Ytfjidddhehckoaa


namespace Go.Proofs.Ytfjidddhehckoaa
open Go Go.Hl

theorem nodes_mem {ks : List Tm} {t : Tm} (ht : t ∈ ks) : t.nodes ≤ nodesT ks := by
  induction ks with
  | nil => cases ht
  | cons a l ih =>
    simp only [nodesT]
    rcases List.mem_cons.1 ht with rfl | h
    · omega
    · have := ih h; omega

theorem least_con (a b : Int) (d : Nat) : Con Try.prog 19 true [li a, li b] (.v (li (mn a b))) none d := by
  refine con_of_HT Try.func19 rfl (by kernel_rfl) (Nat.le_of_ble_eq_true rfl) ?_
  simp only [Try.f19]
  refine HT_seq <| HT_runA ?_
  refine HT_seq <| HT_seq <| HT_runA ?_
  refine (HT_cond rfl (fun h2 => ?_) (fun h2 => HT_skip ?_))
  · try simp only [BN] at h2
    have hz : mn a b = a := by unfold mn; split <;> omega
    refine HT_seq <| HT_runA ?_
    exact HT_retA fun h => ⟨.inr rfl, h⟩
  · try simp only [BN] at h2
    have hz : mn a b = b := by unfold mn; split <;> omega
    refine HT_seq <| HT_runA ?_
    exact HT_retA fun h => ⟨.inr rfl, h⟩
theorem most_con (a b : Int) (d : Nat) : Con Try.prog 20 true [li a, li b] (.v (li (mx a b))) none d := by
  refine con_of_HT Try.func20 rfl (by kernel_rfl) (Nat.le_of_ble_eq_true rfl) ?_
  simp only [Try.f20]
  refine HT_seq <| HT_runA ?_
  refine HT_seq <| HT_seq <| HT_runA ?_
  refine (HT_cond rfl (fun h2 => ?_) (fun h2 => HT_skip ?_))
  · try simp only [BN] at h2
    have hz : mx a b = a := by unfold mx; split <;> omega
    refine HT_seq <| HT_runA ?_
    exact HT_retA fun h => ⟨.inr rfl, h⟩
  · try simp only [BN] at h2
    have hz : mx a b = b := by unfold mx; split <;> omega
    refine HT_seq <| HT_runA ?_
    exact HT_retA fun h => ⟨.inr rfl, h⟩
end Go.Proofs.Ytfjidddhehckoaa


namespace Go.Proofs.Ytfjidddhehckoaa
open Go Go.Hl

end Go.Proofs.Ytfjidddhehckoaa


namespace Go.Proofs.Ytfjidddhehckoaa
open Go Go.Hl

def lows (k : List (Int × Int)) : List (List CD) := k.map fun p => [iC p.1]
def highs (k : List (Int × Int)) : List (List CD) := k.map fun p => [iC p.2]
@[simp] theorem lows_nil : lows [] = [] := rfl
@[simp] theorem highs_nil : highs [] = [] := rfl
@[simp] theorem len_lows (k : List (Int × Int)) : (lows k).length = k.length := by simp [lows]
@[simp] theorem get_lows (k : List (Int × Int)) (i : Nat) : (lows k)[i]? = k[i]?.map fun p => [iC p.1] := by simp [lows]
@[simp] theorem len_highs (k : List (Int × Int)) : (highs k).length = k.length := by simp [highs]
@[simp] theorem get_highs (k : List (Int × Int)) (i : Nat) : (highs k)[i]? = k[i]?.map fun p => [iC p.2] := by simp [highs]
end Go.Proofs.Ytfjidddhehckoaa


namespace Go.Proofs.Ytfjidddhehckoaa
open Go Go.Hl

def okR (p : Int × Int) : Bool := decide (-1048576 ≤ p.1) && decide (p.2 ≤ 1048576)
def rgV (vars : List Vr) (o n : Int) : Option (List (Int × Int)) → (Int × Int) × Bool
  | none => ((0, 0), false)
  | some k => (ruleP vars o n k, okR (ruleP vars o n k))
mutual
def rgP (vars : List Vr) : Tm → (Int × Int) × Bool
  | .mk o n ks => rgV vars o n (rgTs vars ks)
def rgTs (vars : List Vr) : List Tm → Option (List (Int × Int))
  | [] => some []
  | t :: l => if (rgP vars t).2 = true then (rgTs vars l).map ((rgP vars t).1 :: ·) else none
end
def goodV (vars : List Vr) : Prop := ∀ v ∈ vars, v.low ≤ v.high ∧ -1048576 ≤ v.low ∧ v.high ≤ 1048576
theorem hull_le {p q : Int × Int} (hp : p.1 ≤ p.2) (hq : q.1 ≤ q.2) : (hullP p q).1 ≤ (hullP p q).2 := by
  simp only [hullP, mn, mx]
  (repeat' split) <;> omega
theorem hullL_le : ∀ {l : List (Int × Int)} {p : Int × Int}, (∀ q ∈ l, bnd q) → p.1 ≤ p.2 → (hullL l p).1 ≤ (hullL l p).2
  | [], p, _, hp => hp
  | q :: l, p, h, hp => hullL_le (l := l) (p := hullP p q) (fun r hr => h r (List.mem_cons_of_mem _ hr)) (hull_le hp (h q (by simp)).2.1)
theorem rule_le {vars : List Vr} {inp : Bool} {o n : Int} {k : List (Int × Int)} (hv : goodV vars) (hf : nodeB vars inp o n k.length = true) (hk : ∀ p ∈ k, bnd p) : (ruleP vars o n k).1 ≤ (ruleP vars o n k).2 := by
  have har := node_ar hf
  have hrf : o = 24 → 0 ≤ n ∧ ∃ v, vars[n.toNat]? = some v ∧ (inp = true → v.kind ≠ 0) := fun h => node_ref (by rw [← h]; exact hf)
  have hg : ∀ i : Nat, (g2 k i).1 ≤ (g2 k i).2 ∧ -1048576 ≤ (g2 k i).1 ∧ (g2 k i).2 ≤ 1048576 := by
    intro i
    unfold g2
    cases hi : k[i]? with
    | none => simp
    | some p => have := hk p (List.mem_of_getElem? hi); exact ⟨this.2.1, this.1, this.2.2⟩
  have h0 := hg 0
  have h1 := hg 1
  unfold ruleP
  generalize g2 k 0 = a at *
  generalize g2 k 1 = b at *
  split
  · exact Int.le_refl _
  split
  · rename_i h24
    obtain ⟨_, v, hv1, _⟩ := hrf h24
    rw [hv1]
    exact (hv v (List.mem_of_getElem? hv1)).1
  split
  · simp only; omega
  split
  · simp only; omega
  split
  · simp only; omega
  split
  · unfold mulP
    exact hull_le (hull_le (hull_le (Int.le_refl _) (Int.le_refl _)) (Int.le_refl _)) (Int.le_refl _)
  split
  · simp only [mx]
    (repeat' split) <;> simp only <;> omega
  split
  · simp only [modL, modH, mn, mx]
    (repeat' split) <;> omega
  split
  · simp only [mn]
    (repeat' split) <;> omega
  split
  · simp only [mx]
    (repeat' split) <;> omega
  split
  · exact hullL_le (fun q hq => hk q (List.mem_of_mem_drop hq)) h1.1
  · simp
theorem rgTs_len {vars : List Vr} : ∀ {l : List Tm} {k : List (Int × Int)}, rgTs vars l = some k → k.length = l.length
  | [], k, h => by simp only [rgTs] at h; cases h; rfl
  | t :: l, k, h => by
    simp only [rgTs] at h
    split at h
    · simp only [Option.map_eq_some_iff] at h
      obtain ⟨k', h', rfl⟩ := h
      simp [rgTs_len h']
    · cases h
mutual
theorem rgP_bnd {vars : List Vr} {inp : Bool} (hv : goodV vars) : ∀ (t : Tm), formB vars inp t = true → (rgP vars t).2 = true → bnd (rgP vars t).1
  | .mk o n ks, hf, h => by
    simp only [formB, Bool.and_eq_true] at hf
    simp only [rgP] at h ⊢
    cases hk : rgTs vars ks with
    | none => rw [hk] at h; cases h
    | some k =>
      rw [hk] at h
      simp only [rgV, okR, Bool.and_eq_true, decide_eq_true_eq] at h ⊢
      have hb := rgTs_bnd hv ks hf.2 k hk
      have hl := rgTs_len hk
      have := rule_le hv (by rw [hl]; exact hf.1) hb
      exact ⟨h.1, this, h.2⟩
theorem rgTs_bnd {vars : List Vr} {inp : Bool} (hv : goodV vars) : ∀ (l : List Tm), formBs vars inp l = true → ∀ k, rgTs vars l = some k → ∀ p ∈ k, bnd p
  | [], _, k, h, p, hp => by simp only [rgTs] at h; cases h; cases hp
  | t :: l, hf, k, h, p, hp => by
    simp only [formBs, Bool.and_eq_true] at hf
    simp only [rgTs] at h
    split at h
    · rename_i hok
      simp only [Option.map_eq_some_iff] at h
      obtain ⟨k', h', rfl⟩ := h
      rcases List.mem_cons.1 hp with rfl | hp
      · exact rgP_bnd hv t hf.1 hok
      · exact rgTs_bnd hv l hf.2 k' h' p hp
    · cases h
end
@[simp] theorem encP_snoc (a : List (Int × Int)) (r : Int × Int) : encPs (a ++ [r]) = encPs a ++ [[iC r.1, iC r.2]] := by simp [encPs]
@[simp] theorem lows_snoc (a : List (Int × Int)) (r : Int × Int) : lows (a ++ [r]) = lows a ++ [[iC r.1]] := by simp [lows]
@[simp] theorem highs_snoc (a : List (Int × Int)) (r : Int × Int) : highs (a ++ [r]) = highs a ++ [[iC r.2]] := by simp [highs]

theorem ranged_con (vars : List Vr) (inp : Bool) (hv : goodV vars) (t : Tm) : formB vars inp t = true → ∀ d : Nat,
    Con Try.prog 84 true [lV vars, aT t] (.tup [aP (rgP vars t).1, lb (rgP vars t).2]) none d := by
  induction t using Tm.ind with
  | h o n ks ih =>
  intro hf d
  simp only [formB, Bool.and_eq_true] at hf
  have har := node_ar hf.1
  have hlen : ks.length ≤ 33 := by
    have : (kidsP o).2 ≤ 33 := by unfold kidsP; (repeat' split) <;> simp
    omega
  clear har
  obtain ⟨res, hres⟩ : ∃ r, rgP vars (.mk o n ks) = r := ⟨_, rfl⟩
  rw [hres]
  simp only [rgP] at hres
  have ih' : ∀ t ∈ ks, ∀ d, Con Try.prog 84 true [lV vars, aT t] (.tup [aP (rgP vars t).1, lb (rgP vars t).2]) none d := fun t ht d => ih t ht (formBs_mem hf.2 t ht) d
  clear ih
  refine con_of_HT Try.func84 rfl (by kernel_rfl) (Nat.le_of_ble_eq_true rfl) ?_
  simp only [Try.f84]
  simp only [aT, Tm.enc]
  refine HT_seq <| HT_runA ?_
  refine HT_seq <| HT_runA ?_
  refine HT_seq <| HT_seq <| HT_runA ?_
  refine HT_block <| (HT_loopU [0, 3, 4, 13, 14] (fun (x : Nat × List (Int × Int)) => [(6, .v (.one (.own 1006))), (15, .v (li x.1))]) (fun (x : Nat × List (Int × Int)) => [(3, .box [.c (iC o), .c (iC n), .c (.sl 3 (encTs ks))]), (4, .box [.c (iC 0), .c (iC 0)]), (1006, .row 147 2 (encPs x.2))]) (fun (x : Nat × List (Int × Int)) => x.1 ≤ ks.length ∧ x.2.length = x.1 ∧ rgTs vars ks = (rgTs vars (ks.drop x.1)).map (x.2 ++ ·) ∧ ∀ p ∈ x.2, bnd p) (fun (x : Nat × List (Int × Int)) => ks.length - x.1) (0, []) ⟨Nat.zero_le _, rfl, by simp, by simp⟩ ?_ ?_)
  · exact le_mk (fun n => n) [1006] rfl (by simp [*, upS, keepS]) (by simp [*, upS]) (by simp [upS])
  rintro ⟨k, acc⟩ ⟨hk, hal, hJ, hb⟩
  simp only [upS, keepS, insS]
  try simp only [keepS, KN, Nat.reduceBEq, if_true, if_false, ins, Nat.reduceLT]
  simp only at hk hal hJ hb
  refine HT_seq <| HT_runA ?_
  refine HT_seq <| (HT_cond rfl (fun h5 => HT_skip ?_) (fun h5 => ?_))
  · try simp only [BN] at h5
    have hlt : k < ks.length := by omega
    obtain ⟨⟨eo, en, ek⟩, he, hd⟩ := at_lt hlt
    have he' := get_encT he
    simp only [Tm.enc] at he'
    have hw1 := wrap1 hlt (by omega)
    rw [hd] at hJ
    simp only [rgTs] at hJ
    have hk1 : k + 1 ≤ ks.length := hlt
    have hmem : Tm.mk eo en ek ∈ ks := List.mem_of_getElem? he
    have hpb := rgP_bnd hv _ (formBs_mem hf.2 _ hmem)
    have hroom : room (k + 1) 16 := room_of (by omega) (by omega)
    clear hlt h5
    refine HT_seq <| HT_block <| HT_seq <| HT_runA ?_
    refine HT_seq <| (HT_runc [⟨true, .tup [aP (rgP vars (.mk eo en ek)).1, lb (rgP vars (.mk eo en ek)).2], none⟩] (by simp [*]; first | exact ⟨rfl, Iff.rfl⟩ | exact ⟨rfl, trivial⟩ | rfl) ?_ ?_)
    · first | exact ih' _ hmem _ | exact trivial | simpa [*] using ih' _ hmem _
    refine HT_seq <| HT_seq <| HT_runA ?_
    refine (HT_cond rfl (fun h9 => ?_) (fun h9 => HT_skip ?_))
    · try simp only [BN] at h9
      rw [h9] at hJ
      simp only [Bool.false_eq_true, if_false, Option.map_none] at hJ
      rw [hJ] at hres
      subst hres
      refine HT_seq <| HT_runA ?_
      exact HT_retA fun h => ⟨.inr rfl, h⟩
    · try simp only [BN] at h9
      rw [if_pos h9] at hJ
      refine HT_runA ?_
      refine HT_runA ?_
      exact ⟨(k + 1, acc ++ [(rgP vars (.mk eo en ek)).1]), ⟨hk1, by simp [hal], by rw [hJ, Option.map_map]; congr 1; funext z; simp, fun p hp => by
        rcases List.mem_append.1 hp with h | h
        · exact hb p h
        · simp only [List.mem_cons, List.not_mem_nil, or_false] at h
          rw [h]
          exact hpb h9⟩, by simp only; omega, le_mk (fun n => if n = 1006 then 31 else n) [] rfl (by simp [upS, keepS, *]) (by simp [*, upS]) (by simp [upS])⟩
  · try simp only [BN] at h5
    have hkl : k = ks.length := by omega
    rw [hkl, List.drop_length] at hJ
    simp only [rgTs, Option.map_some, List.append_nil] at hJ
    rw [hJ] at hres
    subst hres
    have hf1 : nodeB vars inp o n acc.length = true := by rw [hal, hkl]; exact hf.1
    refine (HT_exit ?_)
    refine HT_seq <| (HT_runc [⟨true, .v (aP (ruleP vars o n acc)), none⟩] (by simp [*]; first | exact ⟨rfl, Iff.rfl⟩ | exact ⟨rfl, trivial⟩ | rfl) ?_ ?_)
    · first | exact rule_con vars inp o n _ acc hf1 hb _ | exact trivial | simpa [*] using rule_con vars inp o n _ acc hf1 hb _
    refine HT_seq <| (HT_drunH [(11, 11), (38, 11), (42, 11), (4, 4)] (by kernel_rfl) (by kernel_rfl) (by rfl) (by simp [evsH, hokB, hintOf, *]; rfl) ?_)
    exact (HT_retE (fun h => ⟨.inr rfl, h⟩) _ (by simp [*]; rfl) (by simp [resR, rgV, okR]) (by simp))

def termC (vars : List Vr) (inp : Bool) (t : Tm) : Int := if formB vars inp t = true then (if (rgP vars t).2 = true then 0 else 3) else 1
theorem termP_con (vars : List Vr) (inp : Bool) (hv : goodV vars) (hl : vars.length ≤ 1000000000) (t : Tm) (hn : t.nodes ≤ 1000000000) (d : Nat) :
    Con Try.prog 74 true [lV vars, aT t, lb inp] (.v (li (termC vars inp t))) none d := by
  have c1 := formP_con vars inp hl t hn
  have c2 := ranged_con vars inp hv t
  obtain ⟨o, n, ks⟩ := t
  obtain ⟨F, hF⟩ : ∃ F, formB vars inp (.mk o n ks) = F := ⟨_, rfl⟩
  obtain ⟨R, hR⟩ : ∃ R, rgP vars (.mk o n ks) = R := ⟨_, rfl⟩
  simp only [termC, hF, hR] at c1 c2 ⊢
  clear hF hR
  refine con_of_HT Try.func74 rfl (by kernel_rfl) (Nat.le_of_ble_eq_true rfl) ?_
  simp only [Try.f74]
  simp only [aT, Tm.enc] at c1 c2 ⊢
  refine HT_seq <| HT_runA ?_
  refine HT_seq <| HT_seq <| (HT_runc [⟨true, .v (lb F), none⟩] (by simp [*]; first | exact ⟨rfl, Iff.rfl⟩ | exact ⟨rfl, trivial⟩ | rfl) ?_ ?_)
  · first | exact c1 _ | exact trivial | simpa [*] using c1 _
  refine (HT_cond rfl (fun h2 => ?_) (fun h2 => HT_skip ?_))
  · try simp only [BN] at h2
    refine HT_seq <| HT_runA ?_
    exact HT_retA fun h => ⟨.inr rfl, h⟩
  · try simp only [BN] at h2
    refine HT_seq <| HT_seq <| (HT_runc [⟨true, .tup [aP R.1, lb R.2], none⟩] (by simp [*]; first | exact ⟨rfl, Iff.rfl⟩ | exact ⟨rfl, trivial⟩ | rfl) ?_ ?_)
    · first | exact c2 h2 _ | exact trivial | simpa [*] using c2 h2 _
    refine HT_seq <| HT_runA ?_
    refine (HT_cond rfl (fun h7 => ?_) (fun h7 => HT_skip ?_))
    · try simp only [BN] at h7
      refine HT_seq <| HT_runA ?_
      exact HT_retA fun h => ⟨.inr rfl, h⟩
    · try simp only [BN] at h7
      refine HT_seq <| HT_runA ?_
      exact HT_retA fun h => ⟨.inr rfl, h⟩
end Go.Proofs.Ytfjidddhehckoaa


namespace Go.Proofs.Ytfjidddhehckoaa
open Go Go.Hl

@[simp] theorem take_encV (l : List Vr) (i : Nat) : (encVs l).take i = encVs (l.take i) := by simp [encVs]
@[simp] theorem encV_snoc (l : List Vr) (v : Vr) : encVs (l ++ [v]) = encVs l ++ [v.enc] := by simp [encVs]
theorem take_snoc {α : Type} {l : List α} {k : Nat} {x : α} (h : l[k]? = some x) : l.take (k + 1) = l.take k ++ [x] := by
  rw [List.take_add_one, h]; rfl

/-! ## spaces -/
def sz (v : Vr) : Int := v.high - v.low + 1
def prV : List Vr → Int → Int
  | [], n => n
  | v :: l, n => if 4096 < n * sz v then 4097 else prV l (n * sz v)
def spc (vars : List Vr) (kind : Int) : Int := prV (vars.filter fun v => decide (v.kind = kind)) 1
def goodV' (vars : List Vr) : Prop := ∀ v ∈ vars, v.low ≤ v.high ∧ -1048576 ≤ v.low ∧ v.high ≤ 1048576
theorem sz_in {vars : List Vr} (h : goodV' vars) {v : Vr} (hv : v ∈ vars) : 1 ≤ sz v ∧ sz v ≤ 2097153 := by
  have := h v hv
  unfold sz
  omega
theorem mul_in {n s : Int} (h1 : 1 ≤ n ∧ n ≤ 4096) (h2 : 1 ≤ s ∧ s ≤ 2097153) : 1 ≤ n * s ∧ n * s ≤ 8589938688 := by
  have h3 : n.natAbs * s.natAbs ≤ 4096 * 2097153 := Nat.mul_le_mul (by omega) (by omega)
  have h4 : 1 * 1 ≤ n.natAbs * s.natAbs := Nat.mul_le_mul (by omega) (by omega)
  rw [← Int.natAbs_mul] at h3 h4
  have h5 : 0 ≤ n * s := Int.mul_nonneg (by omega) (by omega)
  omega
theorem prV_in {vars : List Vr} (h : goodV' vars) : ∀ (l : List Vr) (n : Int), (∀ v ∈ l, v ∈ vars) → 1 ≤ n ∧ n ≤ 4096 → 1 ≤ prV l n ∧ prV l n ≤ 4097
  | [], n, _, hn => by simp only [prV]; omega
  | v :: l, n, hl, hn => by
    simp only [prV]
    have := mul_in hn (sz_in h (hl v (by simp)))
    split
    · omega
    · exact prV_in h l _ (fun w hw => hl w (List.mem_cons_of_mem _ hw)) (by omega)

theorem sizeD_con (v : Vr) (hv : -1048576 ≤ v.low ∧ v.low ≤ v.high ∧ v.high ≤ 1048576) (d : Nat) : Con Try.prog 92 true [aV v] (.v (li (sz v))) none d := by
  have hw2 : IntKind.i64.wrap (v.high - v.low) = v.high - v.low := wrap_in (by omega) (by omega)
  have hw3 : IntKind.i64.wrap (v.high - v.low + 1) = sz v := by rw [wrap_in (by omega) (by omega)]; rfl
  refine con_of_HT Try.func92 rfl (by kernel_rfl) (Nat.le_of_ble_eq_true rfl) ?_
  simp only [Try.f92]
  refine HT_seq <| HT_runA ?_
  refine HT_seq <| HT_runA ?_
  exact HT_retA fun h => ⟨.inr rfl, h⟩
def chR (vars : List Vr) (kind : Int) : RV := if spc vars kind ≤ 4096 then .tup [.one (.c (.sl 5 (encVs (vars.filter fun v => decide (v.kind = kind))))), li (spc vars kind), li 0] else .tup [.one (.c (.lit nilS)), li 0, li 4]
theorem chosen_con (vars : List Vr) (kind : Int) (hkd : 1 ≤ kind ∧ kind ≤ 3) (hv : goodV' vars) (hl : vars.length ≤ 1000000) (d : Nat) : Con Try.prog 82 false [lV vars, li kind] (chR vars kind) none d := by
  obtain ⟨S, hS⟩ : ∃ S, vars.filter (fun v => decide (v.kind = kind)) = S := ⟨_, rfl⟩
  obtain ⟨res, hres⟩ : ∃ r, spc vars kind = r := ⟨_, rfl⟩
  unfold chR
  rw [hres, hS]
  unfold spc at hres
  rw [hS] at hres
  refine con_of_HT Try.func82 rfl (by kernel_rfl) (Nat.le_of_ble_eq_true rfl) ?_
  simp only [Try.f82]
  refine HT_seq <| HT_runA ?_
  refine (HT_cutU [0, 1] (fun (z : Unit) => []) (fun (z : Unit) => []) (fun (z : Unit) => True) ?_ ?_)
  ·
    refine HT_seq <| HT_runA ?_
    refine HT_block <| (HT_cutU [0, 1] (fun (z : Bool) => [(14, .v (lb z))]) (fun (z : Bool) => []) (fun (z : Bool) => z = true) ?_ ?_)
    ·
      refine HT_seq <| HT_runA ?_
      refine (HT_cond rfl (fun h5 => HT_skip ?_) (fun h5 => ?_))
      · try simp only [BN] at h5
        exact ⟨true, rfl, le_mk (fun n => n) [] rfl (by simp [upS, keepS, *]) (by simp [*, upS]) (by simp [upS])⟩
      · try simp only [BN] at h5
        refine HT_seq <| HT_runA ?_
        refine (HT_cond rfl (fun h8 => HT_skip ?_) (fun h8 => ?_))
        · try simp only [BN] at h8
          exact ⟨true, rfl, le_mk (fun n => n) [] rfl (by simp [upS, keepS, *]) (by simp [*, upS]) (by simp [upS])⟩
        · try simp only [BN] at h8
          refine HT_seq <| HT_runA ?_
          refine (HT_cond rfl (fun h11 => HT_skip ?_) (fun h11 => ?_))
          · try simp only [BN] at h11
            exact ⟨true, rfl, le_mk (fun n => n) [] rfl (by simp [upS, keepS, *]) (by simp [*, upS]) (by simp [upS])⟩
          · try simp only [BN] at h11
            refine HT_runA ?_
            have hz : decide (kind = 3) = true := by rw [decide_eq_true_eq]; omega
            exact ⟨true, rfl, le_mk (fun n => n) [] rfl (by simp [upS, keepS, *]) (by simp [*, upS]) (by simp [upS])⟩
    rintro _ rfl
    simp only [upS, keepS, insS]
    try simp only [keepS, KN, Nat.reduceBEq, if_true, if_false, ins, Nat.reduceLT]
    refine (HT_cond rfl (fun h15 => HT_skip ?_) (fun h15 => ?_))
    · try simp only [BN] at h15
      exact ⟨(), trivial, le_mk (fun n => n) [] rfl (by simp [upS, keepS, *]) (by simp [*, upS]) (by simp [upS])⟩
    · exact absurd h15 (by simp)
  rintro z hz
  simp only [upS, keepS, insS]
  try simp only [keepS, KN, Nat.reduceBEq, if_true, if_false, ins, Nat.reduceLT]
  refine HT_seq <| HT_runA ?_
  refine HT_seq <| HT_seq <| HT_runA ?_
  refine HT_block <| (HT_loopU [1, 19, 20] (fun (x : Nat × List Vr) => [(7, .v (.one (.own 1007))), (21, .v (li x.1))]) (fun (x : Nat × List Vr) => [(1007, .row 32 5 (encVs x.2))]) (fun (x : Nat × List Vr) => x.1 ≤ vars.length ∧ x.2 = (vars.take x.1).filter fun v => decide (v.kind = kind)) (fun (x : Nat × List Vr) => vars.length - x.1) (0, []) ⟨Nat.zero_le _, by simp⟩ ?_ ?_)
  · exact le_mk (fun n => n) [1007] rfl (by simp [upS, keepS]) (by simp [upS, encVs]) (by simp [upS])
  rintro ⟨k, acc⟩ ⟨hk, hJ⟩
  simp only [upS, keepS, insS]
  try simp only [keepS, KN, Nat.reduceBEq, if_true, if_false, ins, Nat.reduceLT]
  simp only at hk hJ
  replace hJ := hJ.symm
  refine HT_seq <| HT_runA ?_
  refine HT_seq <| (HT_cond rfl (fun h23 => HT_skip ?_) (fun h23 => ?_))
  · try simp only [BN] at h23
    have hlt : k < vars.length := by omega
    obtain ⟨v, he, hd⟩ := at_lt hlt
    have hw1 := wrap1 hlt (by omega)
    have hk1 : k + 1 ≤ vars.length := hlt
    have hmem : v ∈ vars := List.mem_of_getElem? he
    have hb := hv v hmem
    have ht := take_snoc he
    generalize hT : (vars.take k).filter (fun v => decide (v.kind = kind)) = T at hJ
    have hal : acc.length ≤ k := by
      rw [← hJ, ← hT]
      exact Nat.le_trans (List.length_filter_le _ _) (by rw [List.length_take]; omega)
    have hroom : room (acc.length + 1) 48 := room_of (by omega) (by omega)
    clear hlt h23 hv
    refine HT_seq <| HT_block <| HT_seq <| HT_runA ?_
    refine HT_seq <| HT_seq <| HT_runA ?_
    refine (HT_cond rfl (fun h26 => ?_) (fun h26 => HT_skip ?_))
    · try simp only [BN] at h26
      have hf : (vars.take (k + 1)).filter (fun v => decide (v.kind = kind)) = acc := by rw [ht, List.filter_append, hT, hJ, List.filter_cons_of_neg (by simpa using h26)]; simp
      clear hS
      refine (HT_exit ?_)
      refine HT_runA ?_
      exact ⟨(k + 1, acc), ⟨hk1, hf.symm⟩, by simp only; omega, le_mk (fun n => n) [] rfl (by simp [upS, keepS, *]) (by simp [*, upS]) (by simp [upS])⟩
    · try simp only [BN] at h26
      have hf : (vars.take (k + 1)).filter (fun v => decide (v.kind = kind)) = acc ++ [v] := by rw [ht, List.filter_append, hT, hJ, List.filter_cons_of_pos (by simpa using h26)]; simp
      clear hS
      refine HT_seq <| HT_seq <| HT_runA ?_
      refine (HT_cond rfl (fun h30 => ?_) (fun h30 => HT_skip ?_))
      · exfalso
        simp only [Bool.or_eq_true, decide_eq_true_eq] at h30
        omega
      · try simp only [BN] at h30
        refine HT_runA ?_
        refine HT_runA ?_
        exact ⟨(k + 1, acc ++ [v]), ⟨hk1, hf.symm⟩, by simp only; omega, le_mk (fun n => if n = 1007 then 47 else n) [] rfl (by simp [upS, keepS, *]) (by simp [*, upS]) (by simp [upS])⟩
  · try simp only [BN] at h23
    have hkl : k = vars.length := by omega
    rw [hkl, List.take_length, hS] at hJ
    subst hJ
    have hSl : S.length ≤ 1000000 := by rw [← hS]; exact Nat.le_trans (List.length_filter_le _ _) hl
    have hSv : ∀ v ∈ S, v.low ≤ v.high ∧ -1048576 ≤ v.low ∧ v.high ≤ 1048576 := fun v h => hv v (by rw [← hS] at h; exact (List.mem_filter.1 h).1)
    clear hS hv hk hl h23 hkl
    refine (HT_exit ?_)
    refine HT_seq <| HT_runA ?_
    refine HT_seq <| HT_seq <| HT_runA ?_
    refine HT_block <| (HT_loopU [7, 49, 50] (fun (x : Nat × Int) => [(10, .v (li x.2)), (51, .v (li x.1))]) (fun (x : Nat × Int) => [(1007, .row 32 5 (encVs S))]) (fun (x : Nat × Int) => x.1 ≤ S.length ∧ prV (S.drop x.1) x.2 = res ∧ 1 ≤ x.2 ∧ x.2 ≤ 4096) (fun (x : Nat × Int) => S.length - x.1) (0, 1) ⟨Nat.zero_le _, hres, by decide, by decide⟩ ?_ ?_)
    · exact le_mk (fun n => n) [] rfl (by simp [*, upS, keepS]) (by simp [*, upS]) (by simp [upS])
    rintro ⟨k2, n⟩ ⟨hk2, hJ, hn1, hn2⟩
    simp only [upS, keepS, insS]
    try simp only [keepS, KN, Nat.reduceBEq, if_true, if_false, ins, Nat.reduceLT]
    simp only at hk2 hJ hn1 hn2
    clear hres
    refine HT_seq <| HT_runA ?_
    refine HT_seq <| (HT_cond rfl (fun h40 => HT_skip ?_) (fun h40 => ?_))
    · try simp only [BN] at h40
      have hlt : k2 < S.length := by omega
      obtain ⟨v, he, hd⟩ := at_lt hlt
      have hw1 := wrap1 hlt (by omega)
      have hk1 : k2 + 1 ≤ S.length := hlt
      have hb := hSv v (List.mem_of_getElem? he)
      have hs : 1 ≤ sz v ∧ sz v ≤ 2097153 := by unfold sz; omega
      have hm := mul_in ⟨hn1, hn2⟩ hs
      have hw4 : IntKind.i64.wrap (n * sz v) = n * sz v := wrap_in (by omega) (by omega)
      rw [hd] at hJ
      simp only [prV] at hJ
      clear hlt h40
      refine HT_seq <| HT_block <| HT_seq <| HT_runA ?_
      refine HT_seq <| (HT_runc [⟨true, .v (li (sz v)), none⟩] (by simp [*]; first | exact ⟨rfl, Iff.rfl⟩ | exact ⟨rfl, trivial⟩ | rfl) ?_ ?_)
      · first | exact sizeD_con v ⟨hb.2.1, hb.1, hb.2.2⟩ _ | exact trivial | simpa [*] using sizeD_con v ⟨hb.2.1, hb.1, hb.2.2⟩ _
      refine HT_seq <| HT_runA ?_
      refine (HT_cond rfl (fun h44 => ?_) (fun h44 => HT_skip ?_))
      · try simp only [BN] at h44
        rw [if_pos h44] at hJ
        subst hJ
        refine HT_seq <| HT_runA ?_
        exact HT_ret ⟨.inr rfl, _, le_refl _, ⟨⟨_, by simp; rfl, by simp [resR]⟩, by simp, fun h => by cases h⟩⟩
      · try simp only [BN] at h44
        rw [if_neg h44] at hJ
        refine HT_runA ?_
        exact ⟨(k2 + 1, n * sz v), ⟨hk1, hJ, hm.1, by simp only; omega⟩, by simp only; omega, le_mk (fun n => n) [] rfl (by simp [upS, keepS, *]) (by simp [*, upS]) (by simp [upS])⟩
    · try simp only [BN] at h40
      have hkl : k2 = S.length := by omega
      rw [hkl, List.drop_length] at hJ
      simp only [prV] at hJ
      subst hJ
      refine (HT_exit ?_)
      refine HT_seq <| HT_runA ?_
      exact HT_ret ⟨.inr rfl, _, le_frz 1007 rfl, ⟨⟨_, by simp; rfl, by simp [resR, hn2]⟩, by simp, fun h => by cases h⟩⟩
theorem spaceP_con (vars : List Vr) (kind : Int) (hkd : 1 ≤ kind ∧ kind ≤ 3) (hv : goodV' vars) (hl : vars.length ≤ 1000000) (d : Nat) : Con Try.prog 71 true [lV vars, li kind]
    (.tup [li (if spc vars kind ≤ 4096 then spc vars kind else 0), li (if spc vars kind ≤ 4096 then 0 else 4)]) none d := by
  have c := chosen_con vars kind hkd hv hl
  unfold chR at c
  obtain ⟨res, hres⟩ : ∃ r, spc vars kind = r := ⟨_, rfl⟩
  rw [hres] at c ⊢
  clear hres
  by_cases h : res ≤ 4096
  · rw [if_pos h] at c
    rw [if_pos h, if_pos h]
    refine con_of_HT Try.func71 rfl (by kernel_rfl) (Nat.le_of_ble_eq_true rfl) ?_
    simp only [Try.f71]
    refine HT_seq <| HT_runA ?_
    refine HT_seq <| (HT_runc [⟨false, .tup [.one (.c (.sl 5 (encVs (vars.filter fun v => decide (v.kind = kind))))), li res, li 0], none⟩] (by simp [*]; first | exact ⟨rfl, Iff.rfl⟩ | exact ⟨rfl, trivial⟩ | rfl) ?_ ?_)
    · first | exact c _ | exact trivial | simpa [*] using c _
    refine HT_seq <| HT_runA ?_
    exact HT_retA fun h => ⟨.inr rfl, h⟩
  · rw [if_neg h] at c
    rw [if_neg h, if_neg h]
    refine con_of_HT Try.func71 rfl (by kernel_rfl) (Nat.le_of_ble_eq_true rfl) ?_
    simp only [Try.f71]
    refine HT_seq <| HT_runA ?_
    refine HT_seq <| (HT_runc [⟨false, .tup [.one (.c (.lit nilS)), li 0, li 4], none⟩] (by simp [*]; first | exact ⟨rfl, Iff.rfl⟩ | exact ⟨rfl, trivial⟩ | rfl) ?_ ?_)
    · first | exact c _ | exact trivial | simpa [*] using c _
    refine HT_seq <| HT_runA ?_
    exact HT_retA fun h => ⟨.inr rfl, h⟩
end Go.Proofs.Ytfjidddhehckoaa


namespace Go.Proofs.Ytfjidddhehckoaa
open Go Go.Hl

/-! ## ContainsFunc -/
theorem idxV_con (l : List Vr) (g : FuncId) (cap : List CD) (p : Vr → Bool) (hl : l.length ≤ 1000000000) (hp : ∀ v ∈ l, ∀ d, Con Try.prog g true (aV v :: cap.map fun c => .one (.c c)) (.v (lb (p v))) none d) (d : Nat) :
    ∃ r : Int, (∀ d, Con Try.prog 81 true [lV l, .one (.c (.fn g cap))] (.v (li r)) none d) ∧ (0 ≤ r ↔ l.any p = true) := by
  let rec_ : List Vr → Int → Int := fun l k => match l.findIdx? p with
    | some i => k + i
    | none => -1
  refine ⟨(match l.findIdx? p with | some i => (i : Int) | none => -1), fun d => ?_, ?_⟩
  · have hstep : ∀ k : Nat, (∀ j : Nat, j < k → ∀ v, l[j]? = some v → p v = false) → ∀ v, l[k]? = some v → p v = true → l.findIdx? p = some k := by
      intro k hno v hv hpv
      rw [List.findIdx?_eq_some_iff_getElem]
      have hk : k < l.length := (List.getElem?_eq_some_iff.1 hv).1
      refine ⟨hk, ?_, fun j hj => ?_⟩
      · simp only [List.getElem?_eq_getElem hk, Option.some.injEq] at hv
        rw [hv]; exact hpv
      · have := hno j hj l[j] (by simp)
        simp [this]
    have hnone : (∀ j : Nat, j < l.length → ∀ v, l[j]? = some v → p v = false) → l.findIdx? p = none := by
      intro hno
      rw [List.findIdx?_eq_none_iff]
      intro v hv
      obtain ⟨j, hj⟩ := List.mem_iff_getElem?.1 hv
      exact hno j (List.getElem?_eq_some_iff.1 hj).1 v hj
    clear rec_
    refine con_of_HT Try.func81 rfl (by kernel_rfl) (Nat.le_of_ble_eq_true rfl) ?_
    simp only [Try.f81]
    refine HT_seq <| HT_runA ?_
    refine HT_seq <| HT_seq <| HT_runA ?_
    refine HT_block <| (HT_loopU [0, 1, 7] (fun (x : Nat) => [(8, .v (li x))]) (fun (x : Nat) => []) (fun (x : Nat) => x ≤ l.length ∧ ∀ j : Nat, j < x → ∀ v, l[j]? = some v → p v = false) (fun (x : Nat) => l.length - x) (0 : Nat) ⟨Nat.zero_le _, fun j hj => absurd hj (Nat.not_lt_zero j)⟩ ?_ ?_)
    · exact le_mk (fun n => n) [] rfl (by simp [*, upS, keepS]) (by simp [*, upS]) (by simp [upS])
    rintro k ⟨hk, hJ⟩
    simp only [upS, keepS, insS]
    try simp only [keepS, KN, Nat.reduceBEq, if_true, if_false, ins, Nat.reduceLT]
    refine HT_seq <| HT_runA ?_
    refine HT_seq <| (HT_cond rfl (fun h4 => HT_skip ?_) (fun h4 => ?_))
    · try simp only [BN] at h4
      have hlt : k < l.length := by omega
      obtain ⟨v, he, hd⟩ := at_lt hlt
      have hw1 := wrap1 hlt (by omega)
      have hk1 : k + 1 ≤ l.length := hlt
      have hpv := hp v (List.mem_of_getElem? he)
      have hs := hstep k hJ v he
      clear hlt h4 hstep hnone hp
      refine HT_seq <| HT_block <| HT_seq <| HT_runA ?_
      refine HT_seq <| (HT_runc [⟨true, .v (lb (p v)), none⟩] (by simp [*]; first | exact ⟨rfl, Iff.rfl⟩ | exact ⟨rfl, trivial⟩ | rfl) ?_ ?_)
      · first | exact hpv _ | exact trivial | simpa [*] using hpv _
      refine (HT_cond rfl (fun h7 => ?_) (fun h7 => HT_skip ?_))
      · try simp only [BN] at h7
        rw [hs h7]
        refine HT_seq <| HT_runA ?_
        exact HT_retA fun h => ⟨.inr rfl, h⟩
      · try simp only [BN] at h7
        refine HT_runA ?_
        exact ⟨k + 1, ⟨hk1, fun j hj w hw => (Nat.lt_succ_iff_lt_or_eq.1 hj).elim (fun h => hJ j h w hw) (fun e => by subst e; rw [he] at hw; cases hw; exact h7)⟩, by omega, le_mk (fun n => n) [] rfl (by simp [upS, keepS, *]) (by simp [*, upS]) (by simp [upS])⟩
    · try simp only [BN] at h4
      rw [hnone fun j hj => hJ j (by omega)]
      refine (HT_exit ?_)
      refine HT_seq <| HT_runA ?_
      exact HT_retA fun h => ⟨.inr rfl, h⟩
  · rw [List.any_eq]
    cases h : l.findIdx? p with
    | none =>
      rw [List.findIdx?_eq_none_iff] at h
      simp only [decide_eq_true_eq]
      constructor
      · intro h; omega
      · rintro ⟨v, hv, hpv⟩
        have := h v hv
        rw [hpv] at this
        cases this
    | some i =>
      rw [List.findIdx?_eq_some_iff_getElem] at h
      obtain ⟨hi, hpi, _⟩ := h
      simp only [decide_eq_true_eq]
      exact ⟨fun _ => ⟨l[i], List.getElem_mem _, hpi⟩, fun _ => by omega⟩
theorem conV_con (l : List Vr) (g : FuncId) (cap : List CD) (p : Vr → Bool) (hl : l.length ≤ 1000000000) (hp : ∀ v ∈ l, ∀ d, Con Try.prog g true (aV v :: cap.map fun c => .one (.c c)) (.v (lb (p v))) none d) (d : Nat) :
    Con Try.prog 69 true [lV l, .one (.c (.fn g cap))] (.v (lb (l.any p))) none d := by
  obtain ⟨r, hr, hi⟩ := idxV_con l g cap p hl hp 0
  have hd : decide (0 ≤ r) = l.any p := by rw [Bool.eq_iff_iff, decide_eq_true_eq]; exact hi
  clear hi hp
  refine con_of_HT Try.func69 rfl (by kernel_rfl) (Nat.le_of_ble_eq_true rfl) ?_
  simp only [Try.f69]
  refine HT_seq <| HT_runA ?_
  refine HT_seq <| (HT_runc [⟨true, .v (li r), none⟩] (by simp [*]; first | exact ⟨rfl, Iff.rfl⟩ | exact ⟨rfl, trivial⟩ | rfl) ?_ ?_)
  · first | exact hr _ | exact trivial | simpa [*] using hr _
  exact HT_retA fun h => ⟨.inr rfl, h⟩
theorem sameV_con (w v : Vr) (d : Nat) : Con Try.prog 67 true [aV w, .one (.c (.ptr v.enc))] (.v (lb (decide (w.name = v.name)))) none d := by
  refine con_of_HT Try.func67 rfl (by kernel_rfl) (Nat.le_of_ble_eq_true rfl) ?_
  simp only [Try.f67]
  refine HT_seq <| HT_runA ?_
  refine HT_seq <| HT_runA ?_
  exact HT_retA fun h => ⟨.inr rfl, h⟩
end Go.Proofs.Ytfjidddhehckoaa

