/- T9: contracts of functions of the program and of the reference, and plain facts about what they compute; used by the proof of the claimed statement. Conditions: as each theorem states. -/
import Derived.Test.YtfilidjbpomgoaaGreatT5
import Derived.Test.YtfilidjbpomgoaaGreatT8
import Derived.Test.YtfilidjbpomgoaaGreatT7
import Derived.Test.YtfilidjbpomgoaaGreatT3
set_option linter.unusedSimpArgs false
set_option linter.unusedVariables false
set_option maxRecDepth 100000
set_option maxHeartbeats 2000000
namespace Go.Proofs.YtfilidjbpomgoaaGreat
open Go Go.Hl

/-! ## the reference's check of variables -/
theorem spaceBad (vars : List Vr) (hv : goodV' vars) (kd : Int) : badK vars kd = (decide (4096 < spc vars kd) || (decide (kd = 3) && decide (256 < spc vars kd))) := rfl
theorem varsR_con (vars : List Vr) (hl : vars.length ≤ 1000000) (d : Nat) : Con Tryz.prog 32 true [lV vars] (.v (li (varsC vars))) none d := by
  obtain ⟨res, hres⟩ : ∃ r, varsC vars = r := ⟨_, rfl⟩
  rw [hres]
  obtain ⟨cd, hcd⟩ : ∃ r, vcs [] vars = r := ⟨_, rfl⟩
  have hgood : cd = 0 → goodV' vars := fun h => vcs_good vars [] (hcd.trans h)
  unfold varsC at hres
  rw [hcd] at hres
  refine con_of_HT Tryz.func32 rfl (by kernel_rfl) (Nat.le_of_ble_eq_true rfl) ?_
  simp only [Tryz.f32]
  refine HT_seq <| (HT_run (by simp [*]; rfl) ?_)
  refine HT_seq <| HT_seq <| (HT_run (by simp [*]; rfl) ?_)
  refine HT_block <| (HT_loopU [0] (fun (x : Nat) => [(3, .v (li x))]) (fun (x : Nat) => []) (fun (x : Nat) => x ≤ vars.length ∧ vcs (vars.take x) (vars.drop x) = cd) (fun (x : Nat) => vars.length - x) (0 : Nat) ⟨Nat.zero_le _, hcd⟩ ?_ ?_)
  · exact le_mk (fun n => n) [] rfl (by simp [*, upS, keepS]) (by simp [*, upS]) (by simp [upS])
  rintro k ⟨hk, hJ⟩
  simp only [upS, keepS, insS]
  try simp only [keepS, List.contains_cons, List.contains_nil, Bool.or_false, Bool.or_true, Bool.true_or, Bool.false_or, Nat.reduceBEq, BEq.rfl, beq_self_eq_true, if_true, if_false, Bool.false_eq_true, ite_true, ite_false, ins, Nat.reduceLT]
  clear hcd
  refine HT_seq <| HT_seq <| (HT_run (by simp [*]; rfl) ?_)
  refine (HT_cond rfl (fun h4 => HT_skip ?_) (fun h4 => ?_))
  · try simp only [Bool.or_eq_true, Bool.and_eq_true, Bool.or_eq_false_iff, Bool.and_eq_false_iff, Bool.not_eq_true', Bool.not_eq_false', decide_eq_true_eq, decide_eq_false_iff_not] at h4
    have hlt : k < vars.length := by omega
    obtain ⟨v, he, hd⟩ := at_lt hlt
    have hw1 := wrap1 hlt (by omega)
    have hk1 : k + 1 ≤ vars.length := hlt
    have hkl : (vars.take k).length = k := by rw [List.length_take]; omega
    rw [hd] at hJ
    simp only [vcs] at hJ
    rw [← take_snoc he] at hJ
    clear hlt h4 hgood hd
    refine HT_seq <| HT_block <| HT_seq <| (HT_run (by simp [*]; rfl) ?_)
    refine HT_seq <| HT_seq <| (HT_runc [⟨true, .v (lb (nameB v.name)), none⟩] (by simp [*]; first | exact ⟨rfl, Iff.rfl⟩ | exact ⟨rfl, trivial⟩ | rfl) ?_ ?_)
    · first | exact nameR_con _ _ | exact trivial | simpa [*] using nameR_con _ _
    refine (HT_cond rfl (fun h7 => ?_) (fun h7 => HT_skip ?_))
    · try simp only [Bool.or_eq_true, Bool.and_eq_true, Bool.or_eq_false_iff, Bool.and_eq_false_iff, Bool.not_eq_true', Bool.not_eq_false', decide_eq_true_eq, decide_eq_false_iff_not] at h7
      have hc : vcode (vars.take k) v = 7 := by unfold vcode; rw [if_pos h7]
      rw [hc, if_neg (by decide)] at hJ
      subst hJ
      rw [if_neg (by decide)] at hres
      subst hres
      refine HT_seq <| (HT_run (by simp [*]; rfl) ?_)
      exact (HT_retE (fun h => ⟨.inr rfl, h⟩) _ (by simp [*]; rfl) (by first | rfl | (simp [*]; done) | (simp only [resR]; (repeat' split) <;> first | rfl | (exfalso; omega) | simp_all)) (by simp))
    · try simp only [Bool.or_eq_true, Bool.and_eq_true, Bool.or_eq_false_iff, Bool.and_eq_false_iff, Bool.not_eq_true', Bool.not_eq_false', decide_eq_true_eq, decide_eq_false_iff_not] at h7
      refine HT_seq <| HT_seq <| (HT_run (by simp [*]; rfl) ?_)
      refine HT_block <| (HT_loopU [0, 3, 4] (fun (x : Nat) => [(5, .v (li x))]) (fun (x : Nat) => [(4, .box [.c (sC v.name), .c (iC v.kind), .c (iC v.low), .c (iC v.high), .c (iC v.init)])]) (fun (x : Nat) => x ≤ k ∧ ∀ j : Nat, j < x → ∀ w, vars[j]? = some w → w.name ≠ v.name) (fun (x : Nat) => k - x) (0 : Nat) ⟨Nat.zero_le _, fun j hj => absurd hj (Nat.not_lt_zero j)⟩ ?_ ?_)
      · exact le_mk (fun n => n) [] rfl (by simp [*, upS, keepS]) (by simp [*, upS]) (by simp [upS])
      rintro j ⟨hj, hno⟩
      simp only [upS, keepS, insS]
      try simp only [keepS, List.contains_cons, List.contains_nil, Bool.or_false, Bool.or_true, Bool.true_or, Bool.false_or, Nat.reduceBEq, BEq.rfl, beq_self_eq_true, if_true, if_false, Bool.false_eq_true, ite_true, ite_false, ins, Nat.reduceLT]
      refine HT_seq <| HT_seq <| (HT_run (by simp [*]; rfl) ?_)
      refine (HT_cond rfl (fun h13 => HT_skip ?_) (fun h13 => ?_))
      · try simp only [Bool.or_eq_true, Bool.and_eq_true, Bool.or_eq_false_iff, Bool.and_eq_false_iff, Bool.not_eq_true', Bool.not_eq_false', decide_eq_true_eq, decide_eq_false_iff_not] at h13
        have hjk : j < k := by omega
        obtain ⟨w, hw⟩ : ∃ w, vars[j]? = some w := ⟨vars[j], by simp [show j < vars.length by omega]⟩
        have hwj := wrap1 hjk (by omega)
        have hj1 : j + 1 ≤ k := hjk
        have hmemw : w ∈ vars.take k := by
          have : (vars.take k)[j]? = some w := by rw [List.getElem?_take_of_lt hjk]; exact hw
          exact List.mem_of_getElem? this
        clear hjk h13
        refine HT_seq <| HT_block <| HT_seq <| (HT_drun (by kernel_rfl) (by kernel_rfl) (by rfl) (by simp [*]; rfl) ?_)
        refine (HT_cond rfl (fun h15 => ?_) (fun h15 => HT_skip ?_))
        · try simp only [Bool.or_eq_true, Bool.and_eq_true, Bool.or_eq_false_iff, Bool.and_eq_false_iff, Bool.not_eq_true', Bool.not_eq_false', decide_eq_true_eq, decide_eq_false_iff_not] at h15
          have hany : ((vars.take k).any fun w => decide (w.name = v.name)) = true := by
            rw [List.any_eq_true]
            exact ⟨w, hmemw, by simpa using h15⟩
          have hc : vcode (vars.take k) v = 8 := by unfold vcode; rw [if_neg (by simp [h7]), if_pos hany]
          rw [hc, if_neg (by decide)] at hJ
          subst hJ
          rw [if_neg (by decide)] at hres
          subst hres
          refine HT_seq <| (HT_run (by simp [*]; rfl) ?_)
          exact (HT_retE (fun h => ⟨.inr rfl, h⟩) _ (by simp [*]; rfl) (by first | rfl | (simp [*]; done) | (simp only [resR]; (repeat' split) <;> first | rfl | (exfalso; omega) | simp_all)) (by simp))
        · try simp only [Bool.or_eq_true, Bool.and_eq_true, Bool.or_eq_false_iff, Bool.and_eq_false_iff, Bool.not_eq_true', Bool.not_eq_false', decide_eq_true_eq, decide_eq_false_iff_not] at h15
          refine (HT_run (by simp [*]; rfl) ?_)
          exact ⟨j + 1, ⟨hj1, fun i hi u hu => by
            rcases Nat.lt_or_eq_of_le (Nat.le_of_lt_succ hi) with h | h
            · exact hno i h u hu
            · subst h
              rw [hw] at hu
              cases hu
              simpa using h15⟩, by omega, le_mk (fun n => n) [] rfl (by simp [upS, keepS, *]) (by simp [*, upS]) (by simp [upS])⟩
      · try simp only [Bool.or_eq_true, Bool.and_eq_true, Bool.or_eq_false_iff, Bool.and_eq_false_iff, Bool.not_eq_true', Bool.not_eq_false', decide_eq_true_eq, decide_eq_false_iff_not] at h13
        have hjk : j = k := by omega
        subst hjk
        have hany : ((vars.take j).any fun w => decide (w.name = v.name)) = false := by
          rw [List.any_eq_false]
          intro w hw
          obtain ⟨i, hi⟩ := List.mem_iff_getElem?.1 hw
          have hij : i < j := by have := (List.getElem?_eq_some_iff.1 hi).1; omega
          rw [List.getElem?_take_of_lt hij] at hi
          simpa using hno i hij w hi
        clear hno hkl
        refine (HT_exit ?_)
        refine HT_seq <| HT_seq <| (HT_run (by simp [*]; rfl) ?_)
        refine (HT_cond rfl (fun h21 => ?_) (fun h21 => HT_skip ?_))
        · try simp only [Bool.or_eq_true, Bool.and_eq_true, Bool.or_eq_false_iff, Bool.and_eq_false_iff, Bool.not_eq_true', Bool.not_eq_false', decide_eq_true_eq, decide_eq_false_iff_not] at h21
          have hc : vcode (vars.take j) v = 1 := by unfold vcode; rw [if_neg (by simp [h7]), if_neg (by simp [hany]), if_pos (by omega)]
          rw [hc, if_neg (by decide)] at hJ
          subst hJ
          rw [if_neg (by decide)] at hres
          subst hres
          refine HT_seq <| (HT_run (by simp [*]; rfl) ?_)
          exact (HT_retE (fun h => ⟨.inr rfl, h⟩) _ (by simp [*]; rfl) (by first | rfl | (simp [*]; done) | (simp only [resR]; (repeat' split) <;> first | rfl | (exfalso; omega) | simp_all)) (by simp))
        · try simp only [Bool.or_eq_true, Bool.and_eq_true, Bool.or_eq_false_iff, Bool.and_eq_false_iff, Bool.not_eq_true', Bool.not_eq_false', decide_eq_true_eq, decide_eq_false_iff_not] at h21
          have hc : vcode (vars.take j) v = if kindBad v then 3 else 0 := by unfold vcode; rw [if_neg (by simp [h7]), if_neg (by simp [hany]), if_neg (by omega)]
          clear hany
          refine HT_seq <| HT_seq <| (HT_runc [⟨true, .v (lb (boundedB v.low v.high)), none⟩] (by simp [*]; first | exact ⟨rfl, Iff.rfl⟩ | exact ⟨rfl, trivial⟩ | rfl) ?_ ?_)
          · first | exact boundedR_con _ _ _ | exact trivial | simpa [*] using boundedR_con _ _ _
          refine (HT_cond rfl (fun h25 => ?_) (fun h25 => HT_skip ?_))
          · try simp only [Bool.or_eq_true, Bool.and_eq_true, Bool.or_eq_false_iff, Bool.and_eq_false_iff, Bool.not_eq_true', Bool.not_eq_false', decide_eq_true_eq, decide_eq_false_iff_not] at h25
            rw [if_pos (.inl h25)] at hc
            rw [hc, if_neg (by decide)] at hJ
            subst hJ
            rw [if_neg (by decide)] at hres
            subst hres
            refine HT_seq <| (HT_run (by simp [*]; rfl) ?_)
            exact (HT_retE (fun h => ⟨.inr rfl, h⟩) _ (by simp [*]; rfl) (by first | rfl | (simp [*]; done) | (simp only [resR]; (repeat' split) <;> first | rfl | (exfalso; omega) | simp_all)) (by simp))
          · try simp only [Bool.or_eq_true, Bool.and_eq_true, Bool.or_eq_false_iff, Bool.and_eq_false_iff, Bool.not_eq_true', Bool.not_eq_false', decide_eq_true_eq, decide_eq_false_iff_not] at h25
            refine HT_seq <| (HT_run (by simp [*]; rfl) ?_)
            refine (HT_cond rfl (fun h29 => ?_) (fun h29 => HT_skip ?_))
            · try simp only [Bool.or_eq_true, Bool.and_eq_true, Bool.or_eq_false_iff, Bool.and_eq_false_iff, Bool.not_eq_true', Bool.not_eq_false', decide_eq_true_eq, decide_eq_false_iff_not] at h29
              have hkb : kindBad v := by
                unfold kindBad
                omega
              rw [if_pos hkb] at hc
              rw [hc, if_neg (by decide)] at hJ
              subst hJ
              rw [if_neg (by decide)] at hres
              subst hres
              refine HT_seq <| (HT_run (by simp [*]; rfl) ?_)
              exact (HT_retE (fun h => ⟨.inr rfl, h⟩) _ (by simp [*]; rfl) (by first | rfl | (simp [*]; done) | (simp only [resR]; (repeat' split) <;> first | rfl | (exfalso; omega) | simp_all)) (by simp))
            · try simp only [Bool.or_eq_true, Bool.and_eq_true, Bool.or_eq_false_iff, Bool.and_eq_false_iff, Bool.not_eq_true', Bool.not_eq_false', decide_eq_true_eq, decide_eq_false_iff_not] at h29
              have hkb : ¬ kindBad v := by
                unfold kindBad
                rw [h25]
                rintro (h | h | h)
                · cases h
                · omega
                · omega
              rw [if_neg hkb] at hc
              rw [hc, if_pos rfl] at hJ
              refine (HT_run (by simp [*]; rfl) ?_)
              exact ⟨j + 1, ⟨hk1, hJ⟩, by omega, le_mk (fun n => n) [] rfl (by simp [upS, keepS, *]) (by simp [*, upS]) (by simp [upS])⟩
  · try simp only [Bool.or_eq_true, Bool.and_eq_true, Bool.or_eq_false_iff, Bool.and_eq_false_iff, Bool.not_eq_true', Bool.not_eq_false', decide_eq_true_eq, decide_eq_false_iff_not] at h4
    have hkl : k = vars.length := by omega
    rw [hkl, List.drop_length] at hJ
    simp only [vcs] at hJ
    have hv := hgood hJ.symm
    rw [if_pos hJ.symm] at hres
    clear hgood hJ hkl hk h4
    have c1 := spaceR_con vars 1 hv (by omega)
    have c2 := spaceR_con vars 2 hv (by omega)
    have c3 := spaceR_con vars 3 hv (by omega)
    have hb1 : badK vars 1 = decide (4096 < spc vars 1) := by simp [badK]
    have hb2 : badK vars 2 = decide (4096 < spc vars 2) := by simp [badK]
    have hb3 : badK vars 3 = (decide (4096 < spc vars 3) || decide (256 < spc vars 3)) := by simp [badK]
    simp only [List.any_cons, List.any_nil, Bool.or_false, hb1, hb2, hb3] at hres
    clear hb1 hb2 hb3
    generalize spc vars 1 = s1 at *
    generalize spc vars 2 = s2 at *
    generalize spc vars 3 = s3 at *
    refine (HT_exit ?_)
    refine HT_seq <| HT_seq <| (HT_runc [⟨true, .v (li s1), none⟩, ⟨true, .v (li s2), none⟩, ⟨true, .v (li s3), none⟩] (by simp [*]; first | exact ⟨rfl, Iff.rfl⟩ | exact ⟨rfl, trivial⟩ | rfl) ?_ ?_)
    · first | exact ⟨c1 _, c2 _, c3 _⟩ | exact trivial | (repeat' first | exact trivial | exact c1 _ | exact c2 _ | exact c3 _ | apply And.intro)
    refine (HT_cond rfl (fun h35 => ?_) (fun h35 => HT_skip ?_))
    · try simp only [Bool.or_eq_true, Bool.and_eq_true, Bool.or_eq_false_iff, Bool.and_eq_false_iff, Bool.not_eq_true', Bool.not_eq_false', decide_eq_true_eq, decide_eq_false_iff_not] at h35
      have hz : (decide (4096 < s1) || (decide (4096 < s2) || (decide (4096 < s3) || decide (256 < s3)))) = true := by
        simp only [Bool.or_eq_true, decide_eq_true_eq]
        omega
      rw [if_pos hz] at hres
      subst hres
      refine HT_seq <| (HT_run (by simp [*]; rfl) ?_)
      exact (HT_retE (fun h => ⟨.inr rfl, h⟩) _ (by simp [*]; rfl) (by first | rfl | (simp [*]; done) | (simp only [resR]; (repeat' split) <;> first | rfl | (exfalso; omega) | simp_all)) (by simp))
    · try simp only [Bool.or_eq_true, Bool.and_eq_true, Bool.or_eq_false_iff, Bool.and_eq_false_iff, Bool.not_eq_true', Bool.not_eq_false', decide_eq_true_eq, decide_eq_false_iff_not] at h35
      have hz : (decide (4096 < s1) || (decide (4096 < s2) || (decide (4096 < s3) || decide (256 < s3)))) = false := by
        simp only [Bool.or_eq_false_iff, decide_eq_false_iff_not]
        omega
      rw [hz, if_neg (by decide)] at hres
      subst hres
      refine HT_seq <| (HT_run (by simp [*]; rfl) ?_)
      exact (HT_retE (fun h => ⟨.inr rfl, h⟩) _ (by simp [*]; rfl) (by first | rfl | (simp [*]; done) | (simp only [resR]; (repeat' split) <;> first | rfl | (exfalso; omega) | simp_all)) (by simp))
end Go.Proofs.YtfilidjbpomgoaaGreat

namespace Go.Proofs.YtfilidjbpomgoaaGreat
open Go Go.Hl

@[simp] theorem take_encH (l : List Ht) (i : Nat) : (encHs l).take i = encHs (l.take i) := by simp [encHs]
theorem idxH_con (l : List Ht) (g : FuncId) (cap : List CD) (p : Ht → Bool) (hl : l.length ≤ 1000000000) (hp : ∀ v ∈ l, ∀ d, Con Tryz.prog g true (aH v :: cap.map fun c => .one (.c c)) (.v (lb (p v))) none d) (d : Nat) :
    ∃ r : Int, (∀ d, Con Tryz.prog 107 true [.one (.c (.sl 6 (encHs l))), .one (.c (.fn g cap))] (.v (li r)) none d) ∧ (0 ≤ r ↔ l.any p = true) := by
  refine ⟨(match l.findIdx? p with | some i => (i : Int) | none => -1), fun d => ?_, ?_⟩
  · have hstep : ∀ k : Nat, (∀ j : Nat, j < k → ∀ v, l[j]? = some v → p v = false) → ∀ v, l[k]? = some v → p v = true → l.findIdx? p = some k := by
      intro k hno v hv hpv
      rw [List.findIdx?_eq_some_iff_getElem]
      have hk : k < l.length := (List.getElem?_eq_some_iff.1 hv).1
      refine ⟨hk, ?_, fun j hj => ?_⟩
      · simp only [List.getElem?_eq_getElem hk, Option.some.injEq] at hv
        rw [hv]; exact hpv
      · have := hno j hj l[j] (by simp)
        simp [this]
    have hnone : (∀ j : Nat, j < l.length → ∀ v, l[j]? = some v → p v = false) → l.findIdx? p = none := by
      intro hno
      rw [List.findIdx?_eq_none_iff]
      intro v hv
      obtain ⟨j, hj⟩ := List.mem_iff_getElem?.1 hv
      exact hno j (List.getElem?_eq_some_iff.1 hj).1 v hj
    refine con_of_HT Tryz.func107 rfl (by kernel_rfl) (Nat.le_of_ble_eq_true rfl) ?_
    simp only [Tryz.f107]
    refine HT_seq <| (HT_run (by simp [*]; rfl) ?_)
    refine HT_seq <| HT_seq <| (HT_run (by simp [*]; rfl) ?_)
    refine HT_block <| (HT_loopU [0, 1, 7] (fun (x : Nat) => [(8, .v (li x))]) (fun (x : Nat) => []) (fun (x : Nat) => x ≤ l.length ∧ ∀ j : Nat, j < x → ∀ v, l[j]? = some v → p v = false) (fun (x : Nat) => l.length - x) (0 : Nat) ⟨Nat.zero_le _, fun j hj => absurd hj (Nat.not_lt_zero j)⟩ ?_ ?_)
    · exact le_mk (fun n => n) [] rfl (by simp [*, upS, keepS]) (by simp [*, upS]) (by simp [upS])
    rintro k ⟨hk, hJ⟩
    simp only [upS, keepS, insS]
    try simp only [keepS, List.contains_cons, List.contains_nil, Bool.or_false, Bool.or_true, Bool.true_or, Bool.false_or, Nat.reduceBEq, BEq.rfl, beq_self_eq_true, if_true, if_false, Bool.false_eq_true, ite_true, ite_false, ins, Nat.reduceLT]
    refine HT_seq <| (HT_run (by simp [*]; rfl) ?_)
    refine HT_seq <| (HT_cond rfl (fun h4 => HT_skip ?_) (fun h4 => ?_))
    · try simp only [Bool.or_eq_true, Bool.and_eq_true, Bool.or_eq_false_iff, Bool.and_eq_false_iff, Bool.not_eq_true', Bool.not_eq_false', decide_eq_true_eq, decide_eq_false_iff_not] at h4
      have hlt : k < l.length := by omega
      obtain ⟨⟨nm, lo, hi, ⟨o, tn, ks⟩⟩, he, hd⟩ := at_lt hlt
      have hw1 := wrap1 hlt (by omega)
      have hk1 : k + 1 ≤ l.length := hlt
      have hpv := hp _ (List.mem_of_getElem? he)
      have hs := hstep k hJ _ he
      clear hlt h4 hstep hnone hp
      refine HT_seq <| HT_block <| HT_seq <| (HT_run (by simp [*]; rfl) ?_)
      refine HT_seq <| (HT_runc [⟨true, .v (lb (p ⟨nm, lo, hi, .mk o tn ks⟩)), none⟩] (by simp [*]; first | exact ⟨rfl, Iff.rfl⟩ | exact ⟨rfl, trivial⟩ | rfl) ?_ ?_)
      · first | exact hpv _ | exact trivial | simpa [*] using hpv _
      refine (HT_cond rfl (fun h7 => ?_) (fun h7 => HT_skip ?_))
      · try simp only [Bool.or_eq_true, Bool.and_eq_true, Bool.or_eq_false_iff, Bool.and_eq_false_iff, Bool.not_eq_true', Bool.not_eq_false', decide_eq_true_eq, decide_eq_false_iff_not] at h7
        rw [hs h7]
        refine HT_seq <| (HT_run (by simp [*]; rfl) ?_)
        exact (HT_retE (fun h => ⟨.inr rfl, h⟩) _ (by simp [*]; rfl) (by first | rfl | (simp [*]; done) | (simp only [resR]; (repeat' split) <;> first | rfl | (exfalso; omega) | simp_all)) (by simp))
      · try simp only [Bool.or_eq_true, Bool.and_eq_true, Bool.or_eq_false_iff, Bool.and_eq_false_iff, Bool.not_eq_true', Bool.not_eq_false', decide_eq_true_eq, decide_eq_false_iff_not] at h7
        refine (HT_run (by simp [*]; rfl) ?_)
        exact ⟨k + 1, ⟨hk1, fun j hj w hw => (Nat.lt_succ_iff_lt_or_eq.1 hj).elim (fun h => hJ j h w hw) (fun e => by subst e; rw [he] at hw; cases hw; exact h7)⟩, by omega, le_mk (fun n => n) [] rfl (by simp [upS, keepS, *]) (by simp [*, upS]) (by simp [upS])⟩
    · try simp only [Bool.or_eq_true, Bool.and_eq_true, Bool.or_eq_false_iff, Bool.and_eq_false_iff, Bool.not_eq_true', Bool.not_eq_false', decide_eq_true_eq, decide_eq_false_iff_not] at h4
      rw [hnone fun j hj => hJ j (by omega)]
      refine (HT_exit ?_)
      refine HT_seq <| (HT_run (by simp [*]; rfl) ?_)
      exact (HT_retE (fun h => ⟨.inr rfl, h⟩) _ (by simp [*]; rfl) (by first | rfl | (simp [*]; done) | (simp only [resR]; (repeat' split) <;> first | rfl | (exfalso; omega) | simp_all)) (by simp))
  · rw [List.any_eq]
    cases h : l.findIdx? p with
    | none =>
      rw [List.findIdx?_eq_none_iff] at h
      simp only [decide_eq_true_eq]
      constructor
      · intro h; omega
      · rintro ⟨v, hv, hpv⟩
        have := h v hv
        rw [hpv] at this
        cases this
    | some i =>
      rw [List.findIdx?_eq_some_iff_getElem] at h
      obtain ⟨hi, hpi, _⟩ := h
      simp only [decide_eq_true_eq]
      exact ⟨fun _ => ⟨l[i], List.getElem_mem _, hpi⟩, fun _ => by omega⟩
theorem conH_con (l : List Ht) (g : FuncId) (cap : List CD) (p : Ht → Bool) (hl : l.length ≤ 1000000000) (hp : ∀ v ∈ l, ∀ d, Con Tryz.prog g true (aH v :: cap.map fun c => .one (.c c)) (.v (lb (p v))) none d) (d : Nat) :
    Con Tryz.prog 88 true [.one (.c (.sl 6 (encHs l))), .one (.c (.fn g cap))] (.v (lb (l.any p))) none d := by
  obtain ⟨r, hr, hi⟩ := idxH_con l g cap p hl hp 0
  have hd : decide (0 ≤ r) = l.any p := by rw [Bool.eq_iff_iff, decide_eq_true_eq]; exact hi
  clear hi hp
  refine con_of_HT Tryz.func88 rfl (by kernel_rfl) (Nat.le_of_ble_eq_true rfl) ?_
  simp only [Tryz.f88]
  refine HT_seq <| (HT_run (by simp [*]; rfl) ?_)
  refine HT_seq <| (HT_runc [⟨true, .v (li r), none⟩] (by simp [*]; first | exact ⟨rfl, Iff.rfl⟩ | exact ⟨rfl, trivial⟩ | rfl) ?_ ?_)
  · first | exact hr _ | exact trivial | simpa [*] using hr _
  exact (HT_retE (fun h => ⟨.inr rfl, h⟩) _ (by simp [*]; rfl) (by first | rfl | (simp [*]; done) | (simp only [resR]; (repeat' split) <;> first | rfl | (exfalso; omega) | simp_all)) (by simp))
theorem sameH_con (w v : Ht) (d : Nat) : Con Tryz.prog 87 true [aH w, .one (.c (.ptr v.enc))] (.v (lb (decide (w.name = v.name)))) none d := by
  obtain ⟨n1, l1, h1, ⟨o1, t1, k1⟩⟩ := w
  obtain ⟨n2, l2, h2, ⟨o2, t2, k2⟩⟩ := v
  refine con_of_HT Tryz.func87 rfl (by kernel_rfl) (Nat.le_of_ble_eq_true rfl) ?_
  simp only [Tryz.f87]
  simp only [aH, Ht.enc, Tm.enc, List.cons_append, List.nil_append]
  refine HT_seq <| (HT_run (by simp [*]; rfl) ?_)
  refine HT_seq <| (HT_run (by simp [*]; rfl) ?_)
  exact (HT_retE (fun h => ⟨.inr rfl, h⟩) _ (by simp [*]; rfl) (by first | rfl | (simp [*]; done) | (simp only [resR]; (repeat' split) <;> first | rfl | (exfalso; omega) | simp_all)) (by simp))

def hcode (vars : List Vr) (seen : List Ht) (h : Ht) : Int :=
  if nameB h.name = false then 7 else if (seen.any fun w => decide (w.name = h.name)) = true then 8 else if boundedB h.low h.high = false then 3 else termC vars true h.term
def hcs (vars : List Vr) : List Ht → List Ht → Int
  | _, [] => 0
  | seen, h :: l => if hcode vars seen h = 0 then hcs vars (seen ++ [h]) l else hcode vars seen h

theorem hatsP_con (f : Fl) (hv : goodV f.vars) (hl : f.vars.length ≤ 1000000) (hh : f.hats.length ≤ 1000000) (hn : ∀ h ∈ f.hats, h.term.nodes ≤ 1000000000) (d : Nat) :
    Con Tryz.prog 54 true [aF f] (.v (li (hcs f.vars [] f.hats))) none d := by
  obtain ⟨vars, hats, body⟩ := f
  simp only at hv hl hh hn ⊢
  obtain ⟨res, hres⟩ : ∃ r, hcs vars [] hats = r := ⟨_, rfl⟩
  rw [hres]
  refine con_of_HT Tryz.func54 rfl (by kernel_rfl) (Nat.le_of_ble_eq_true rfl) ?_
  simp only [Tryz.f54]
  simp only [aF, Fl.enc, List.map_cons, List.map_nil]
  refine HT_seq <| (HT_run (by simp [*]; rfl) ?_)
  refine HT_seq <| HT_seq <| (HT_run (by simp [*]; rfl) ?_)
  refine HT_block <| (HT_loopU [1, 8, 9] (fun (x : Nat) => [(10, .v (li x))]) (fun (x : Nat) => [(1, .box [.c (.sl 5 (encVs vars)), .c (.sl 6 (encHs hats)), .c (.sl 10 (encSs body))])]) (fun (x : Nat) => x ≤ hats.length ∧ hcs vars (hats.take x) (hats.drop x) = res) (fun (x : Nat) => hats.length - x) (0 : Nat) ⟨Nat.zero_le _, hres⟩ ?_ ?_)
  · exact le_mk (fun n => n) [] rfl (by simp [*, upS, keepS]) (by simp [*, upS]) (by simp [upS])
  rintro k ⟨hk, hJ⟩
  simp only [upS, keepS, insS]
  try simp only [keepS, List.contains_cons, List.contains_nil, Bool.or_false, Bool.or_true, Bool.true_or, Bool.false_or, Nat.reduceBEq, BEq.rfl, beq_self_eq_true, if_true, if_false, Bool.false_eq_true, ite_true, ite_false, ins, Nat.reduceLT]
  clear hres
  refine HT_seq <| (HT_run (by simp [*]; rfl) ?_)
  refine HT_seq <| (HT_cond rfl (fun h4 => HT_skip ?_) (fun h4 => ?_))
  · try simp only [Bool.or_eq_true, Bool.and_eq_true, Bool.or_eq_false_iff, Bool.and_eq_false_iff, Bool.not_eq_true', Bool.not_eq_false', decide_eq_true_eq, decide_eq_false_iff_not] at h4
    have hlt : k < hats.length := by omega
    obtain ⟨h, he, hd⟩ := at_lt hlt
    have hw1 := wrap1 hlt (by omega)
    have hk1 : k + 1 ≤ hats.length := hlt
    have hkl : (hats.take k).length ≤ 1000000000 := by rw [List.length_take]; omega
    rw [hd] at hJ
    simp only [hcs] at hJ
    rw [← take_snoc he] at hJ
    have ct := termP_con vars true hv (by omega) h.term (hn h (List.mem_of_getElem? he))
    have cc := conH_con (hats.take k) 87 [.ptr h.enc] (fun w => decide (w.name = h.name)) hkl (fun w _ d => sameH_con w h d)
    obtain ⟨nm, lo, hi, ⟨o, tn, ks⟩⟩ := h
    obtain ⟨HC, hHC⟩ : ∃ x, hcode vars (hats.take k) ⟨nm, lo, hi, .mk o tn ks⟩ = x := ⟨_, rfl⟩
    rw [hHC] at hJ
    simp only [hcode] at hHC
    simp only [Ht.enc, Tm.enc, List.cons_append, List.nil_append] at cc
    simp only at ct
    obtain ⟨TC, hTC⟩ : ∃ r, termC vars true (.mk o tn ks) = r := ⟨_, rfl⟩
    rw [hTC] at ct hHC
    clear hlt h4 hd hn hTC
    refine HT_seq <| HT_block <| HT_seq <| (HT_run (by simp [*]; rfl) ?_)
    refine HT_seq <| (HT_run (by simp [*]; rfl) ?_)
    refine HT_seq <| HT_block <| HT_seq <| (HT_runc [⟨true, .v (lb (nameB nm)), none⟩] (by simp [*]; first | exact ⟨rfl, Iff.rfl⟩ | exact ⟨rfl, trivial⟩ | rfl) ?_ ?_)
    · first | exact nameP_con _ _ | exact trivial | simpa [*] using nameP_con _ _
    refine (HT_cond rfl (fun h8 => ?_) (fun h8 => ?_))
    · try simp only [Bool.or_eq_true, Bool.and_eq_true, Bool.or_eq_false_iff, Bool.and_eq_false_iff, Bool.not_eq_true', Bool.not_eq_false', decide_eq_true_eq, decide_eq_false_iff_not] at h8
      rw [if_pos h8] at hHC
      subst hHC
      rw [if_neg (by decide)] at hJ
      subst hJ
      refine HT_seq <| (HT_run (by simp [*]; rfl) ?_)
      exact (HT_retE (fun h => ⟨.inr rfl, h⟩) _ (by simp [*]; rfl) (by first | rfl | (simp [*]; done) | (simp only [resR]; (repeat' split) <;> first | rfl | (exfalso; omega) | simp_all)) (by simp))
    · try simp only [Bool.or_eq_true, Bool.and_eq_true, Bool.or_eq_false_iff, Bool.and_eq_false_iff, Bool.not_eq_true', Bool.not_eq_false', decide_eq_true_eq, decide_eq_false_iff_not] at h8
      refine HT_seq <| (HT_runc [⟨true, .v (lb ((hats.take k).any fun w => decide (w.name = nm))), none⟩] (by simp [*]; first | exact ⟨rfl, Iff.rfl⟩ | exact ⟨rfl, trivial⟩ | rfl) ?_ ?_)
      · first | exact cc _ | exact trivial | simpa [*] using cc _
      refine (HT_cond rfl (fun h12 => ?_) (fun h12 => ?_))
      · try simp only [Bool.or_eq_true, Bool.and_eq_true, Bool.or_eq_false_iff, Bool.and_eq_false_iff, Bool.not_eq_true', Bool.not_eq_false', decide_eq_true_eq, decide_eq_false_iff_not] at h12
        rw [if_neg (by simp [h8]), if_pos h12] at hHC
        subst hHC
        rw [if_neg (by decide)] at hJ
        subst hJ
        refine HT_seq <| (HT_run (by simp [*]; rfl) ?_)
        exact (HT_retE (fun h => ⟨.inr rfl, h⟩) _ (by simp [*]; rfl) (by first | rfl | (simp [*]; done) | (simp only [resR]; (repeat' split) <;> first | rfl | (exfalso; omega) | simp_all)) (by simp))
      · try simp only [Bool.or_eq_true, Bool.and_eq_true, Bool.or_eq_false_iff, Bool.and_eq_false_iff, Bool.not_eq_true', Bool.not_eq_false', decide_eq_true_eq, decide_eq_false_iff_not] at h12
        refine HT_seq <| (HT_runc [⟨true, .v (lb (boundedB lo hi)), none⟩] (by simp [*]; first | exact ⟨rfl, Iff.rfl⟩ | exact ⟨rfl, trivial⟩ | rfl) ?_ ?_)
        · first | exact boundedP_con _ _ _ | exact trivial | simpa [*] using boundedP_con _ _ _
        refine (HT_cond rfl (fun h16 => ?_) (fun h16 => HT_skip ?_))
        · try simp only [Bool.or_eq_true, Bool.and_eq_true, Bool.or_eq_false_iff, Bool.and_eq_false_iff, Bool.not_eq_true', Bool.not_eq_false', decide_eq_true_eq, decide_eq_false_iff_not] at h16
          rw [if_neg (by simp [h8]), if_neg (by simp [h12]), if_pos h16] at hHC
          subst hHC
          rw [if_neg (by decide)] at hJ
          subst hJ
          refine HT_seq <| (HT_run (by simp [*]; rfl) ?_)
          exact (HT_retE (fun h => ⟨.inr rfl, h⟩) _ (by simp [*]; rfl) (by first | rfl | (simp [*]; done) | (simp only [resR]; (repeat' split) <;> first | rfl | (exfalso; omega) | simp_all)) (by simp))
        · try simp only [Bool.or_eq_true, Bool.and_eq_true, Bool.or_eq_false_iff, Bool.and_eq_false_iff, Bool.not_eq_true', Bool.not_eq_false', decide_eq_true_eq, decide_eq_false_iff_not] at h16
          rw [if_neg (by simp [h8]), if_neg (by simp [h12]), if_neg (by simp [h16])] at hHC
          subst hHC
          refine HT_seq <| (HT_runc [⟨true, .v (li TC), none⟩] (by simp [*]; first | exact ⟨rfl, Iff.rfl⟩ | exact ⟨rfl, trivial⟩ | rfl) ?_ ?_)
          · first | exact ct _ | exact trivial | simpa [*] using ct _
          refine HT_seq <| (HT_run (by simp [*]; rfl) ?_)
          refine (HT_cond rfl (fun h21 => ?_) (fun h21 => HT_skip ?_))
          · try simp only [Bool.or_eq_true, Bool.and_eq_true, Bool.or_eq_false_iff, Bool.and_eq_false_iff, Bool.not_eq_true', Bool.not_eq_false', decide_eq_true_eq, decide_eq_false_iff_not] at h21
            rw [if_neg h21] at hJ
            subst hJ
            refine HT_seq <| (HT_run (by simp [*]; rfl) ?_)
            exact (HT_retE (fun h => ⟨.inr rfl, h⟩) _ (by simp [*]; rfl) (by first | rfl | (simp [*]; done) | (simp only [resR]; (repeat' split) <;> first | rfl | (exfalso; omega) | simp_all)) (by simp))
          · try simp only [Bool.or_eq_true, Bool.and_eq_true, Bool.or_eq_false_iff, Bool.and_eq_false_iff, Bool.not_eq_true', Bool.not_eq_false', decide_eq_true_eq, decide_eq_false_iff_not] at h21
            rw [if_pos (by simpa using h21)] at hJ
            refine (HT_run (by simp [*]; rfl) ?_)
            exact ⟨k + 1, ⟨hk1, hJ⟩, by omega, le_mk (fun n => n) [] rfl (by simp [upS, keepS, *]) (by simp [*, upS]) (by simp [upS])⟩
  · try simp only [Bool.or_eq_true, Bool.and_eq_true, Bool.or_eq_false_iff, Bool.and_eq_false_iff, Bool.not_eq_true', Bool.not_eq_false', decide_eq_true_eq, decide_eq_false_iff_not] at h4
    have hkl : k = hats.length := by omega
    rw [hkl, List.drop_length] at hJ
    simp only [hcs] at hJ
    subst hJ
    refine (HT_exit ?_)
    refine HT_seq <| (HT_run (by simp [*]; rfl) ?_)
    exact (HT_retE (fun h => ⟨.inr rfl, h⟩) _ (by simp [*]; rfl) (by first | rfl | (simp [*]; done) | (simp only [resR]; (repeat' split) <;> first | rfl | (exfalso; omega) | simp_all)) (by simp))
end Go.Proofs.YtfilidjbpomgoaaGreat

namespace Go.Proofs.YtfilidjbpomgoaaGreat
open Go Go.Hl

theorem nodesT_mem' {ks : List Tm} {t : Tm} (ht : t ∈ ks) : t.nodes ≤ nodesT ks := nodes_mem ht
theorem tnodes_con (t : Tm) : t.nodes ≤ 1000000000 → ∀ d : Nat, Con Tryz.prog 64 true [aT t] (.v (li t.nodes)) none d := by
  induction t using Tm.ind with
  | h o n ks ih =>
  intro hn d
  simp only [Tm.nodes] at hn ⊢
  have hlen := len_nodesT ks
  obtain ⟨res, hres⟩ : ∃ r, nodesT ks = r := ⟨_, rfl⟩
  rw [hres] at hn ⊢
  refine con_of_HT Tryz.func64 rfl (by kernel_rfl) (Nat.le_of_ble_eq_true rfl) ?_
  simp only [Tryz.f64]
  simp only [aT, Tm.enc]
  refine HT_seq <| (HT_run (by simp [*]; rfl) ?_)
  refine HT_seq <| (HT_run (by simp [*]; rfl) ?_)
  refine HT_seq <| HT_seq <| (HT_run (by simp [*]; rfl) ?_)
  refine HT_block <| (HT_loopU [1] (fun (x : Nat × Nat) => [(3, .v (li ((x.2 : Nat) : Int))), (4, .v (li x.1))]) (fun (x : Nat × Nat) => [(1, .box [.c (iC o), .c (iC n), .c (.sl 3 (encTs ks))])]) (fun (x : Nat × Nat) => x.1 ≤ ks.length ∧ x.2 + nodesT (ks.drop x.1) = 1 + res) (fun (x : Nat × Nat) => ks.length - x.1) (0, 1) ⟨Nat.zero_le _, by simp [hres]⟩ ?_ ?_)
  · exact le_mk (fun n => n) [] rfl (by simp [*, upS, keepS]) (by simp [*, upS]) (by simp [upS])
  rintro ⟨k, m⟩ ⟨hk, hJ⟩
  simp only [upS, keepS, insS]
  try simp only [keepS, List.contains_cons, List.contains_nil, Bool.or_false, Bool.or_true, Bool.true_or, Bool.false_or, Nat.reduceBEq, BEq.rfl, beq_self_eq_true, if_true, if_false, Bool.false_eq_true, ite_true, ite_false, ins, Nat.reduceLT]
  simp only at hk hJ
  refine HT_seq <| HT_seq <| (HT_run (by simp [*]; rfl) ?_)
  refine (HT_cond rfl (fun h5 => HT_skip ?_) (fun h5 => ?_))
  · try simp only [Bool.or_eq_true, Bool.and_eq_true, Bool.or_eq_false_iff, Bool.and_eq_false_iff, Bool.not_eq_true', Bool.not_eq_false', decide_eq_true_eq, decide_eq_false_iff_not] at h5
    have hlt : k < ks.length := by omega
    obtain ⟨⟨eo, en, ek⟩, he, hd⟩ := at_lt hlt
    have he' := get_encT he
    simp only [Tm.enc] at he'
    have hmem : Tm.mk eo en ek ∈ ks := List.mem_of_getElem? he
    have hnm := nodes_mem hmem
    have c := ih _ hmem (by omega)
    have hw1 := wrap1 hlt (by omega)
    have hk1 : k + 1 ≤ ks.length := hlt
    rw [hd] at hJ
    simp only [nodesT] at hJ
    generalize Tm.nodes (.mk eo en ek) = q at *
    have hw2 : IntKind.i64.wrap ((m : Int) + (q : Int)) = (m : Int) + (q : Int) := wrap_in (by omega) (by omega)
    clear hlt h5 ih hmem
    refine HT_seq <| HT_block <| (HT_runc [⟨true, .v (li (q : Int)), none⟩] (by simp [*]; first | exact ⟨rfl, Iff.rfl⟩ | exact ⟨rfl, trivial⟩ | rfl) ?_ ?_)
    · first | exact c _ | exact trivial | simpa [*] using c _
    refine (HT_run (by simp [*]; rfl) ?_)
    exact ⟨(k + 1, m + q), ⟨hk1, by simp only; omega⟩, by simp only; omega, le_mk (fun n => n) [] rfl (by simp [upS, keepS, *]) (by simp [*, upS]) (by simp [upS])⟩
  · try simp only [Bool.or_eq_true, Bool.and_eq_true, Bool.or_eq_false_iff, Bool.and_eq_false_iff, Bool.not_eq_true', Bool.not_eq_false', decide_eq_true_eq, decide_eq_false_iff_not] at h5
    have hkl : k = ks.length := by omega
    rw [hkl, List.drop_length] at hJ
    simp only [nodesT] at hJ
    have hm : (m : Int) = 1 + (res : Int) := by omega
    refine (HT_exit ?_)
    refine HT_seq <| (HT_run (by simp [*]; rfl) ?_)
    exact (HT_retE (fun h => ⟨.inr rfl, h⟩) _ (by simp [*]; rfl) (by first | rfl | (simp [*]; done) | (simp only [resR]; (repeat' split) <;> first | rfl | (exfalso; omega) | simp_all)) (by simp))
theorem nodes_con (l : List St) : nodesS l ≤ 1000000000 → ∀ d : Nat, Con Tryz.prog 63 true [lS l] (.v (li (nodesS l))) none d := by
  revert l
  apply St.lists
  intro l ih hn d
  have hlen := len_nodesS l
  obtain ⟨res, hres⟩ : ∃ r, nodesS l = r := ⟨_, rfl⟩
  rw [hres]
  refine con_of_HT Tryz.func63 rfl (by kernel_rfl) (Nat.le_of_ble_eq_true rfl) ?_
  simp only [Tryz.f63]
  refine HT_seq <| (HT_run (by simp [*]; rfl) ?_)
  refine HT_seq <| (HT_run (by simp [*]; rfl) ?_)
  refine HT_seq <| HT_seq <| (HT_run (by simp [*]; rfl) ?_)
  refine HT_block <| (HT_loopU [0] (fun (x : Nat × Nat) => [(3, .v (li ((x.2 : Nat) : Int))), (4, .v (li x.1))]) (fun (x : Nat × Nat) => []) (fun (x : Nat × Nat) => x.1 ≤ l.length ∧ x.2 + nodesS (l.drop x.1) = res) (fun (x : Nat × Nat) => l.length - x.1) (0, 0) ⟨Nat.zero_le _, by simp [hres]⟩ ?_ ?_)
  · exact le_mk (fun n => n) [] rfl (by simp [*, upS, keepS]) (by simp [*, upS]) (by simp [upS])
  rintro ⟨k, m⟩ ⟨hk, hJ⟩
  simp only [upS, keepS, insS]
  try simp only [keepS, List.contains_cons, List.contains_nil, Bool.or_false, Bool.or_true, Bool.true_or, Bool.false_or, Nat.reduceBEq, BEq.rfl, beq_self_eq_true, if_true, if_false, Bool.false_eq_true, ite_true, ite_false, ins, Nat.reduceLT]
  simp only at hk hJ
  refine HT_seq <| HT_seq <| (HT_run (by simp [*]; rfl) ?_)
  refine (HT_cond rfl (fun h5 => HT_skip ?_) (fun h5 => ?_))
  · try simp only [Bool.or_eq_true, Bool.and_eq_true, Bool.or_eq_false_iff, Bool.and_eq_false_iff, Bool.not_eq_true', Bool.not_eq_false', decide_eq_true_eq, decide_eq_false_iff_not] at h5
    have hlt : k < l.length := by omega
    obtain ⟨s, he, hd⟩ := at_lt hlt
    have hmem : s ∈ l := List.mem_of_getElem? he
    have hnm := nodesS_mem hmem
    have iha := fun h => (ih s hmem).1 h
    have ihb := fun h => (ih s hmem).2 h
    have hw1 := wrap1 hlt (by omega)
    have hk1 : k + 1 ≤ l.length := hlt
    have ct := tnodes_con s.term
    rw [hd] at hJ
    obtain ⟨sd, sc, sv, sn, ⟨so, stn, sks⟩, sa, sb, sbs⟩ := s
    simp only [St.then_, St.else_, St.term] at iha ihb hnm ct
    simp only [nodesS, St.nodes] at hJ
    have ca := iha (by omega)
    have cb := ihb (by omega)
    have ct := ct (by omega)
    have he' := get_encS he
    simp only [St.enc, Tm.enc, List.cons_append, List.nil_append] at he'
    generalize Tm.nodes (.mk so stn sks) = q at *
    generalize nodesS sa = na at *
    generalize nodesS sb = nb at *
    have hw2 : IntKind.i64.wrap ((m : Int) + 1) = (m : Int) + 1 := wrap_in (by omega) (by omega)
    have hw3 : IntKind.i64.wrap ((m : Int) + 1 + (q : Int)) = (m : Int) + 1 + (q : Int) := wrap_in (by omega) (by omega)
    have hw4 : IntKind.i64.wrap ((m : Int) + 1 + (q : Int) + (na : Int)) = (m : Int) + 1 + (q : Int) + (na : Int) := wrap_in (by omega) (by omega)
    have hw5 : IntKind.i64.wrap ((m : Int) + 1 + (q : Int) + (na : Int) + (nb : Int)) = (m : Int) + 1 + (q : Int) + (na : Int) + (nb : Int) := wrap_in (by omega) (by omega)
    clear hlt h5 ih hmem iha ihb
    refine HT_seq <| HT_block <| (HT_drunc [⟨true, .v (li (q : Int)), none⟩, ⟨true, .v (li (na : Int)), none⟩, ⟨true, .v (li (nb : Int)), none⟩] (by kernel_rfl) (by kernel_rfl) (by rfl) (by simp [*]; first | exact ⟨rfl, Iff.rfl⟩ | exact ⟨rfl, trivial⟩ | rfl) ?_ ?_)
    · first | exact ⟨ct _, ca _, cb _⟩ | exact trivial | (repeat' first | exact trivial | exact ct _ | exact ca _ | exact cb _ | apply And.intro)
    refine (HT_run (by simp [*]; rfl) ?_)
    exact ⟨(k + 1, m + 1 + q + na + nb), ⟨hk1, by simp only; omega⟩, by simp only; omega, le_mk (fun n => n) [] rfl (by simp [upS, keepS, *]) (by simp [*, upS]) (by simp [upS])⟩
  · try simp only [Bool.or_eq_true, Bool.and_eq_true, Bool.or_eq_false_iff, Bool.and_eq_false_iff, Bool.not_eq_true', Bool.not_eq_false', decide_eq_true_eq, decide_eq_false_iff_not] at h5
    have hkl : k = l.length := by omega
    rw [hkl, List.drop_length] at hJ
    simp only [nodesS] at hJ
    have hm : m = res := by omega
    refine (HT_exit ?_)
    refine HT_seq <| (HT_run (by simp [*]; rfl) ?_)
    exact (HT_retE (fun h => ⟨.inr rfl, h⟩) _ (by simp [*]; rfl) (by first | rfl | (simp [*]; done) | (simp only [resR]; (repeat' split) <;> first | rfl | (exfalso; omega) | simp_all)) (by simp))

mutual
def tdT : Tm → Nat
  | .mk _ _ ks => tdTs ks + 1
def tdTs : List Tm → Nat
  | [] => 0
  | t :: l => max (tdT t) (tdTs l)
end
mutual
theorem td_le : ∀ t : Tm, tdT t ≤ t.nodes
  | .mk o n ks => by have := tds_le ks; simp only [tdT, Tm.nodes]; omega
theorem tds_le : ∀ l : List Tm, tdTs l ≤ nodesT l
  | [] => by simp [tdTs]
  | t :: l => by have := td_le t; have := tds_le l; simp only [tdTs, nodesT]; omega
end
theorem tdepth_con (t : Tm) : t.nodes ≤ 1000000000 → ∀ d : Nat, Con Tryz.prog 65 true [aT t] (.v (li (tdT t))) none d := by
  induction t using Tm.ind with
  | h o n ks ih =>
  intro hn d
  simp only [Tm.nodes] at hn
  simp only [tdT]
  have hlen := len_nodesT ks
  have htl := tds_le ks
  obtain ⟨res, hres⟩ : ∃ r, tdTs ks = r := ⟨_, rfl⟩
  rw [hres] at htl ⊢
  refine con_of_HT Tryz.func65 rfl (by kernel_rfl) (Nat.le_of_ble_eq_true rfl) ?_
  simp only [Tryz.f65]
  simp only [aT, Tm.enc]
  refine HT_seq <| (HT_run (by simp [*]; rfl) ?_)
  refine HT_seq <| (HT_run (by simp [*]; rfl) ?_)
  refine HT_seq <| HT_seq <| (HT_run (by simp [*]; rfl) ?_)
  refine HT_block <| (HT_loopU [1] (fun (x : Nat × Nat) => [(3, .v (li ((x.2 : Nat) : Int))), (4, .v (li x.1))]) (fun (x : Nat × Nat) => [(1, .box [.c (iC o), .c (iC n), .c (.sl 3 (encTs ks))])]) (fun (x : Nat × Nat) => x.1 ≤ ks.length ∧ max x.2 (tdTs (ks.drop x.1)) = res) (fun (x : Nat × Nat) => ks.length - x.1) (0, 0) ⟨Nat.zero_le _, by simp [hres]⟩ ?_ ?_)
  · exact le_mk (fun n => n) [] rfl (by simp [*, upS, keepS]) (by simp [*, upS]) (by simp [upS])
  rintro ⟨k, m⟩ ⟨hk, hJ⟩
  simp only [upS, keepS, insS]
  try simp only [keepS, List.contains_cons, List.contains_nil, Bool.or_false, Bool.or_true, Bool.true_or, Bool.false_or, Nat.reduceBEq, BEq.rfl, beq_self_eq_true, if_true, if_false, Bool.false_eq_true, ite_true, ite_false, ins, Nat.reduceLT]
  simp only at hk hJ
  refine HT_seq <| HT_seq <| (HT_run (by simp [*]; rfl) ?_)
  refine (HT_cond rfl (fun h5 => HT_skip ?_) (fun h5 => ?_))
  · try simp only [Bool.or_eq_true, Bool.and_eq_true, Bool.or_eq_false_iff, Bool.and_eq_false_iff, Bool.not_eq_true', Bool.not_eq_false', decide_eq_true_eq, decide_eq_false_iff_not] at h5
    have hlt : k < ks.length := by omega
    obtain ⟨⟨eo, en, ek⟩, he, hd⟩ := at_lt hlt
    have he' := get_encT he
    simp only [Tm.enc] at he'
    have hmem : Tm.mk eo en ek ∈ ks := List.mem_of_getElem? he
    have hnm := nodes_mem hmem
    have c := ih _ hmem (by omega)
    have hw1 := wrap1 hlt (by omega)
    have hk1 : k + 1 ≤ ks.length := hlt
    rw [hd] at hJ
    simp only [tdTs] at hJ
    generalize tdT (.mk eo en ek) = q at *
    clear hlt h5 ih hmem
    refine HT_seq <| HT_block <| HT_seq <| (HT_runc [⟨true, .v (li (q : Int)), none⟩] (by simp [*]; first | exact ⟨rfl, Iff.rfl⟩ | exact ⟨rfl, trivial⟩ | rfl) ?_ ?_)
    · first | exact c _ | exact trivial | simpa [*] using c _
    refine HT_seq <| (HT_run (by simp [*]; rfl) ?_)
    refine (HT_cond rfl (fun h8 => ?_) (fun h8 => HT_skip ?_))
    · try simp only [Bool.or_eq_true, Bool.and_eq_true, Bool.or_eq_false_iff, Bool.and_eq_false_iff, Bool.not_eq_true', Bool.not_eq_false', decide_eq_true_eq, decide_eq_false_iff_not] at h8
      refine (HT_run (by simp [*]; rfl) ?_)
      refine (HT_run (by simp [*]; rfl) ?_)
      exact ⟨(k + 1, q), ⟨hk1, by simp only; omega⟩, by simp only; omega, le_mk (fun n => n) [] rfl (by simp [upS, keepS, *]) (by simp [*, upS]) (by simp [upS])⟩
    · try simp only [Bool.or_eq_true, Bool.and_eq_true, Bool.or_eq_false_iff, Bool.and_eq_false_iff, Bool.not_eq_true', Bool.not_eq_false', decide_eq_true_eq, decide_eq_false_iff_not] at h8
      refine (HT_run (by simp [*]; rfl) ?_)
      exact ⟨(k + 1, m), ⟨hk1, by simp only; omega⟩, by simp only; omega, le_mk (fun n => n) [] rfl (by simp [upS, keepS, *]) (by simp [*, upS]) (by simp [upS])⟩
  · try simp only [Bool.or_eq_true, Bool.and_eq_true, Bool.or_eq_false_iff, Bool.and_eq_false_iff, Bool.not_eq_true', Bool.not_eq_false', decide_eq_true_eq, decide_eq_false_iff_not] at h5
    have hkl : k = ks.length := by omega
    rw [hkl, List.drop_length] at hJ
    simp only [tdTs] at hJ
    have hm : m = res := by omega
    subst hm
    have hw : IntKind.i64.wrap ((m : Int) + 1) = (m : Int) + 1 := wrap_in (by omega) (by omega)
    refine (HT_exit ?_)
    refine HT_seq <| (HT_run (by simp [*]; rfl) ?_)
    exact (HT_retE (fun h => ⟨.inr rfl, h⟩) _ (by simp [*]; rfl) (by first | rfl | (simp [*]; done) | (simp only [resR]; (repeat' split) <;> first | rfl | (exfalso; omega) | simp_all)) (by simp))
def sdL : List St → Nat
  | [] => 0
  | .mk _ _ _ _ _ a b _ :: l => max (max (sdL a + 1) (sdL b + 1)) (sdL l)
theorem sd_le : ∀ l : List St, sdL l ≤ nodesS l
  | [] => by simp [sdL]
  | .mk _ _ _ _ t a b _ :: l => by have := sd_le a; have := sd_le b; have := sd_le l; have := nodes_pos t; simp only [sdL, nodesS, St.nodes]; omega
theorem sdepth_con (l : List St) : nodesS l ≤ 1000000000 → ∀ d : Nat, Con Tryz.prog 66 true [lS l] (.v (li (sdL l))) none d := by
  revert l
  apply St.lists
  intro l ih hn d
  have hlen := len_nodesS l
  obtain ⟨res, hres⟩ : ∃ r, sdL l = r := ⟨_, rfl⟩
  rw [hres]
  refine con_of_HT Tryz.func66 rfl (by kernel_rfl) (Nat.le_of_ble_eq_true rfl) ?_
  simp only [Tryz.f66]
  refine HT_seq <| (HT_run (by simp [*]; rfl) ?_)
  refine HT_seq <| (HT_run (by simp [*]; rfl) ?_)
  refine HT_seq <| HT_seq <| (HT_run (by simp [*]; rfl) ?_)
  refine HT_block <| (HT_loopU [0] (fun (x : Nat × Nat) => [(3, .v (li ((x.2 : Nat) : Int))), (4, .v (li x.1))]) (fun (x : Nat × Nat) => []) (fun (x : Nat × Nat) => x.1 ≤ l.length ∧ max x.2 (sdL (l.drop x.1)) = res) (fun (x : Nat × Nat) => l.length - x.1) (0, 0) ⟨Nat.zero_le _, by simp [hres]⟩ ?_ ?_)
  · exact le_mk (fun n => n) [] rfl (by simp [*, upS, keepS]) (by simp [*, upS]) (by simp [upS])
  rintro ⟨k, m⟩ ⟨hk, hJ⟩
  simp only [upS, keepS, insS]
  try simp only [keepS, List.contains_cons, List.contains_nil, Bool.or_false, Bool.or_true, Bool.true_or, Bool.false_or, Nat.reduceBEq, BEq.rfl, beq_self_eq_true, if_true, if_false, Bool.false_eq_true, ite_true, ite_false, ins, Nat.reduceLT]
  simp only at hk hJ
  refine HT_seq <| HT_seq <| (HT_run (by simp [*]; rfl) ?_)
  refine (HT_cond rfl (fun h5 => HT_skip ?_) (fun h5 => ?_))
  · try simp only [Bool.or_eq_true, Bool.and_eq_true, Bool.or_eq_false_iff, Bool.and_eq_false_iff, Bool.not_eq_true', Bool.not_eq_false', decide_eq_true_eq, decide_eq_false_iff_not] at h5
    have hlt : k < l.length := by omega
    obtain ⟨s, he, hd⟩ := at_lt hlt
    have hmem : s ∈ l := List.mem_of_getElem? he
    have hnm := nodesS_mem hmem
    have iha := fun h => (ih s hmem).1 h
    have ihb := fun h => (ih s hmem).2 h
    have hw1 := wrap1 hlt (by omega)
    have hk1 : k + 1 ≤ l.length := hlt
    rw [hd] at hJ
    obtain ⟨sd, sc, sv, sn, ⟨so, stn, sks⟩, sa, sb, sbs⟩ := s
    simp only [St.then_, St.else_, St.term] at iha ihb hnm
    simp only [sdL] at hJ
    have ca := iha (by omega)
    have cb := ihb (by omega)
    have ha := sd_le sa
    have hb := sd_le sb
    have he' := get_encS he
    simp only [St.enc, Tm.enc, List.cons_append, List.nil_append] at he'
    generalize sdL sa = na at *
    generalize sdL sb = nb at *
    have hw2 : IntKind.i64.wrap ((na : Int) + 1) = (na : Int) + 1 := wrap_in (by omega) (by omega)
    have hw3 : IntKind.i64.wrap ((nb : Int) + 1) = (nb : Int) + 1 := wrap_in (by omega) (by omega)
    clear hlt h5 ih hmem iha ihb
    refine HT_seq <| HT_block <| HT_seq <| (HT_runc [⟨true, .v (li (na : Int)), none⟩] (by simp [*]; first | exact ⟨rfl, Iff.rfl⟩ | exact ⟨rfl, trivial⟩ | rfl) ?_ ?_)
    · first | exact ca _ | exact trivial | simpa [*] using ca _
    refine HT_seq <| (HT_runc [⟨true, .v (li (nb : Int)), none⟩] (by simp [*]; first | exact ⟨rfl, Iff.rfl⟩ | exact ⟨rfl, trivial⟩ | rfl) ?_ ?_)
    · first | exact cb _ | exact trivial | simpa [*] using cb _
    refine (HT_cutU [0, 4, 6] (fun (z : Nat) => [(3, .v (li (z : Int)))]) (fun (z : Nat) => []) (fun (z : Nat) => z = max m (na + 1)) ?_ ?_)
    ·
      refine HT_seq <| (HT_run (by simp [*]; rfl) ?_)
      refine (HT_cond rfl (fun h10 => ?_) (fun h10 => HT_skip ?_))
      · try simp only [Bool.or_eq_true, Bool.and_eq_true, Bool.or_eq_false_iff, Bool.and_eq_false_iff, Bool.not_eq_true', Bool.not_eq_false', decide_eq_true_eq, decide_eq_false_iff_not] at h10
        have hz : max m (na + 1) = na + 1 := by omega
        refine (HT_run (by simp [*]; rfl) ?_)
        exact ⟨na + 1, hz.symm, le_mk (fun n => n) [] rfl (by simp [upS, keepS, *]) (by simp [*, upS]) (by simp [upS])⟩
      · try simp only [Bool.or_eq_true, Bool.and_eq_true, Bool.or_eq_false_iff, Bool.and_eq_false_iff, Bool.not_eq_true', Bool.not_eq_false', decide_eq_true_eq, decide_eq_false_iff_not] at h10
        have hz : max m (na + 1) = m := by omega
        exact ⟨m, hz.symm, le_mk (fun n => n) [] rfl (by simp [upS, keepS, *]) (by simp [*, upS]) (by simp [upS])⟩
    rintro z hz
    simp only [upS, keepS, insS]
    try simp only [keepS, List.contains_cons, List.contains_nil, Bool.or_false, Bool.or_true, Bool.true_or, Bool.false_or, Nat.reduceBEq, BEq.rfl, beq_self_eq_true, if_true, if_false, Bool.false_eq_true, ite_true, ite_false, ins, Nat.reduceLT]
    refine HT_seq <| (HT_run (by simp [*]; rfl) ?_)
    refine (HT_cond rfl (fun h15 => ?_) (fun h15 => HT_skip ?_))
    · try simp only [Bool.or_eq_true, Bool.and_eq_true, Bool.or_eq_false_iff, Bool.and_eq_false_iff, Bool.not_eq_true', Bool.not_eq_false', decide_eq_true_eq, decide_eq_false_iff_not] at h15
      refine (HT_run (by simp [*]; rfl) ?_)
      refine (HT_run (by simp [*]; rfl) ?_)
      exact ⟨(k + 1, nb + 1), ⟨hk1, by simp only; omega⟩, by simp only; omega, le_mk (fun n => n) [] rfl (by simp [upS, keepS, *]) (by simp [*, upS]) (by simp [upS])⟩
    · try simp only [Bool.or_eq_true, Bool.and_eq_true, Bool.or_eq_false_iff, Bool.and_eq_false_iff, Bool.not_eq_true', Bool.not_eq_false', decide_eq_true_eq, decide_eq_false_iff_not] at h15
      refine (HT_run (by simp [*]; rfl) ?_)
      exact ⟨(k + 1, z), ⟨hk1, by simp only; omega⟩, by simp only; omega, le_mk (fun n => n) [] rfl (by simp [upS, keepS, *]) (by simp [*, upS]) (by simp [upS])⟩
  · try simp only [Bool.or_eq_true, Bool.and_eq_true, Bool.or_eq_false_iff, Bool.and_eq_false_iff, Bool.not_eq_true', Bool.not_eq_false', decide_eq_true_eq, decide_eq_false_iff_not] at h5
    have hkl : k = l.length := by omega
    rw [hkl, List.drop_length] at hJ
    simp only [sdL] at hJ
    have hm : m = res := by omega
    refine (HT_exit ?_)
    refine HT_seq <| (HT_run (by simp [*]; rfl) ?_)
    exact (HT_retE (fun h => ⟨.inr rfl, h⟩) _ (by simp [*]; rfl) (by first | rfl | (simp [*]; done) | (simp only [resR]; (repeat' split) <;> first | rfl | (exfalso; omega) | simp_all)) (by simp))
def tdeep : List St → Bool
  | [] => false
  | .mk _ _ _ _ t a b _ :: l => ((decide (12 < tdT t) || tdeep a) || tdeep b) || tdeep l
theorem tdeep_con (l : List St) : nodesS l ≤ 1000000000 → ∀ d : Nat, Con Tryz.prog 67 true [lS l] (.v (lb (tdeep l))) none d := by
  revert l
  apply St.lists
  intro l ih hn d
  have hlen := len_nodesS l
  obtain ⟨res, hres⟩ : ∃ r, tdeep l = r := ⟨_, rfl⟩
  rw [hres]
  refine con_of_HT Tryz.func67 rfl (by kernel_rfl) (Nat.le_of_ble_eq_true rfl) ?_
  simp only [Tryz.f67]
  refine HT_seq <| (HT_run (by simp [*]; rfl) ?_)
  refine HT_seq <| HT_seq <| (HT_run (by simp [*]; rfl) ?_)
  refine HT_block <| (HT_loopU [0] (fun (x : Nat) => [(3, .v (li x))]) (fun (x : Nat) => []) (fun (x : Nat) => x ≤ l.length ∧ tdeep (l.drop x) = res) (fun (x : Nat) => l.length - x) (0 : Nat) ⟨Nat.zero_le _, hres⟩ ?_ ?_)
  · exact le_mk (fun n => n) [] rfl (by simp [*, upS, keepS]) (by simp [*, upS]) (by simp [upS])
  rintro k ⟨hk, hJ⟩
  simp only [upS, keepS, insS]
  try simp only [keepS, List.contains_cons, List.contains_nil, Bool.or_false, Bool.or_true, Bool.true_or, Bool.false_or, Nat.reduceBEq, BEq.rfl, beq_self_eq_true, if_true, if_false, Bool.false_eq_true, ite_true, ite_false, ins, Nat.reduceLT]
  refine HT_seq <| HT_seq <| (HT_run (by simp [*]; rfl) ?_)
  refine (HT_cond rfl (fun h4 => HT_skip ?_) (fun h4 => ?_))
  · try simp only [Bool.or_eq_true, Bool.and_eq_true, Bool.or_eq_false_iff, Bool.and_eq_false_iff, Bool.not_eq_true', Bool.not_eq_false', decide_eq_true_eq, decide_eq_false_iff_not] at h4
    have hlt : k < l.length := by omega
    obtain ⟨s, he, hd⟩ := at_lt hlt
    have hmem : s ∈ l := List.mem_of_getElem? he
    have hnm := nodesS_mem hmem
    have iha := fun h => (ih s hmem).1 h
    have ihb := fun h => (ih s hmem).2 h
    have hw1 := wrap1 hlt (by omega)
    have hk1 : k + 1 ≤ l.length := hlt
    have ct := tdepth_con s.term
    rw [hd] at hJ
    obtain ⟨sd, sc, sv, sn, ⟨so, stn, sks⟩, sa, sb, sbs⟩ := s
    simp only [St.then_, St.else_, St.term] at iha ihb hnm ct
    simp only [tdeep] at hJ
    have ca := iha (by omega)
    have cb := ihb (by omega)
    have ct := ct (by omega)
    have he' := get_encS he
    simp only [St.enc, Tm.enc, List.cons_append, List.nil_append] at he'
    generalize tdT (.mk so stn sks) = q at *
    generalize tdeep sa = na at *
    generalize tdeep sb = nb at *
    clear hlt h4 ih hmem iha ihb
    refine HT_seq <| HT_block <| HT_seq <| (HT_runc [⟨true, .v (li (q : Int)), none⟩, ⟨true, .v (lb na), none⟩, ⟨true, .v (lb nb), none⟩] (by simp [*]; first | exact ⟨rfl, Iff.rfl⟩ | exact ⟨rfl, trivial⟩ | rfl) ?_ ?_)
    · first | exact ⟨ct _, ca _, cb _⟩ | exact trivial | (repeat' first | exact trivial | exact ct _ | exact ca _ | exact cb _ | apply And.intro)
    refine (HT_cond rfl (fun h6 => ?_) (fun h6 => HT_skip ?_))
    · try simp only [Bool.or_eq_true, Bool.and_eq_true, Bool.or_eq_false_iff, Bool.and_eq_false_iff, Bool.not_eq_true', Bool.not_eq_false', decide_eq_true_eq, decide_eq_false_iff_not] at h6
      have hz : res = true := by
        rw [← hJ]
        simp only [Bool.or_eq_true, decide_eq_true_eq]
        rcases h6 with (h | h) | h
        · exact .inl (.inl (.inl (by omega)))
        · exact .inl (.inl (.inr h))
        · exact .inl (.inr h)
      refine HT_seq <| (HT_run (by simp [*]; rfl) ?_)
      exact (HT_retE (fun h => ⟨.inr rfl, h⟩) _ (by simp [*]; rfl) (by first | rfl | (simp [*]; done) | (simp only [resR]; (repeat' split) <;> first | rfl | (exfalso; omega) | simp_all)) (by simp))
    · try simp only [Bool.or_eq_true, Bool.and_eq_true, Bool.or_eq_false_iff, Bool.and_eq_false_iff, Bool.not_eq_true', Bool.not_eq_false', decide_eq_true_eq, decide_eq_false_iff_not] at h6
      have hz : tdeep (l.drop (k + 1)) = res := by
        rw [← hJ]
        have h12 : decide (12 < q) = false := decide_eq_false (by omega)
        rw [h12, h6.1.2, h6.2]
        rfl
      clear hJ
      refine (HT_run (by simp [*]; rfl) ?_)
      exact ⟨k + 1, ⟨hk1, hz⟩, by omega, le_mk (fun n => n) [] rfl (by simp [upS, keepS, *]) (by simp [*, upS]) (by simp [upS])⟩
  · try simp only [Bool.or_eq_true, Bool.and_eq_true, Bool.or_eq_false_iff, Bool.and_eq_false_iff, Bool.not_eq_true', Bool.not_eq_false', decide_eq_true_eq, decide_eq_false_iff_not] at h4
    have hkl : k = l.length := by omega
    rw [hkl, List.drop_length] at hJ
    simp only [tdeep] at hJ
    subst hJ
    refine (HT_exit ?_)
    refine HT_seq <| (HT_run (by simp [*]; rfl) ?_)
    exact (HT_retE (fun h => ⟨.inr rfl, h⟩) _ (by simp [*]; rfl) (by first | rfl | (simp [*]; done) | (simp only [resR]; (repeat' split) <;> first | rfl | (exfalso; omega) | simp_all)) (by simp))
end Go.Proofs.YtfilidjbpomgoaaGreat
