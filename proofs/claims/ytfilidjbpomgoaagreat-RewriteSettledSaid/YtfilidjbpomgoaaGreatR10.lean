/- Part 10: contracts of functions of the program and of the reference, and plain facts about what they compute; used by the proof of the claimed statement. Conditions: as each theorem states. -/
import Derived.Test.YtfilidjbpomgoaaGreatR6
import Derived.Test.YtfilidjbpomgoaaGreatR8
import Derived.Test.YtfilidjbpomgoaaGreatR2
import Derived.Test.YtfilidjbpomgoaaGreatR1
set_option linter.unusedSimpArgs false
set_option linter.unusedVariables false
set_option linter.unnecessarySimpa false
set_option maxRecDepth 100000
set_option maxHeartbeats 2000000
namespace Go.Proofs.YtfilidjbpomgoaaGreat
open Go Go.Hl

@[simp] theorem take_encH (l : List Ht) (i : Nat) : (encHs l).take i = encHs (l.take i) := by simp [encHs]
theorem idxH_con (l : List Ht) (g : FuncId) (cap : List CD) (p : Ht → Bool) (hl : l.length ≤ 1000000000) (hp : ∀ v ∈ l, ∀ d, Con Tryz.prog g true (aH v :: cap.map fun c => .one (.c c)) (.v (lb (p v))) none d) (d : Nat) :
    ∃ r : Int, (∀ d, Con Tryz.prog 107 true [.one (.c (.sl 6 (encHs l))), .one (.c (.fn g cap))] (.v (li r)) none d) ∧ (0 ≤ r ↔ l.any p = true) := by
  refine ⟨(match l.findIdx? p with | some i => (i : Int) | none => -1), fun d => ?_, ?_⟩
  · have hstep : ∀ k : Nat, (∀ j : Nat, j < k → ∀ v, l[j]? = some v → p v = false) → ∀ v, l[k]? = some v → p v = true → l.findIdx? p = some k := by
      intro k hno v hv hpv
      rw [List.findIdx?_eq_some_iff_getElem]
      have hk : k < l.length := (List.getElem?_eq_some_iff.1 hv).1
      refine ⟨hk, ?_, fun j hj => ?_⟩
      · simp only [List.getElem?_eq_getElem hk, Option.some.injEq] at hv
        rw [hv]; exact hpv
      · have := hno j hj l[j] (by simp)
        simp [this]
    have hnone : (∀ j : Nat, j < l.length → ∀ v, l[j]? = some v → p v = false) → l.findIdx? p = none := by
      intro hno
      rw [List.findIdx?_eq_none_iff]
      intro v hv
      obtain ⟨j, hj⟩ := List.mem_iff_getElem?.1 hv
      exact hno j (List.getElem?_eq_some_iff.1 hj).1 v hj
    refine con_of_HT Tryz.func107 rfl (by kernel_rfl) (Nat.le_of_ble_eq_true rfl) ?_
    simp only [Tryz.f107]
    refine HT_seq <| (HT_run (by simp [*]; rfl) ?_)
    refine HT_seq <| HT_seq <| (HT_run (by simp [*]; rfl) ?_)
    refine HT_block <| (HT_loopU [0, 1, 7] (fun (x : Nat) => [(8, .v (li x))]) (fun (x : Nat) => []) (fun (x : Nat) => x ≤ l.length ∧ ∀ j : Nat, j < x → ∀ v, l[j]? = some v → p v = false) (fun (x : Nat) => l.length - x) (0 : Nat) ⟨Nat.zero_le _, fun j hj => absurd hj (Nat.not_lt_zero j)⟩ ?_ ?_)
    · exact le_mk (fun n => n) [] rfl (by simp [*, upS, keepS]) (by simp [*, upS]) (by simp [upS])
    rintro k ⟨hk, hJ⟩
    simp only [upS, keepS, insS]
    try simp only [keepS, List.contains_cons, List.contains_nil, Bool.or_false, Bool.or_true, Bool.true_or, Bool.false_or, Nat.reduceBEq, BEq.rfl, beq_self_eq_true, if_true, if_false, Bool.false_eq_true, ite_true, ite_false, ins, Nat.reduceLT]
    refine HT_seq <| (HT_run (by simp [*]; rfl) ?_)
    refine HT_seq <| (HT_cond rfl (fun h4 => HT_skip ?_) (fun h4 => ?_))
    · try simp only [Bool.or_eq_true, Bool.and_eq_true, Bool.or_eq_false_iff, Bool.and_eq_false_iff, Bool.not_eq_true', Bool.not_eq_false', decide_eq_true_eq, decide_eq_false_iff_not] at h4
      have hlt : k < l.length := by omega
      obtain ⟨⟨nm, lo, hi, ⟨o, tn, ks⟩⟩, he, hd⟩ := at_lt hlt
      have hw1 := wrap1 hlt (by omega)
      have hk1 : k + 1 ≤ l.length := hlt
      have hpv := hp _ (List.mem_of_getElem? he)
      have hs := hstep k hJ _ he
      clear hlt h4 hstep hnone hp
      refine HT_seq <| HT_block <| HT_seq <| (HT_run (by simp [*]; rfl) ?_)
      refine HT_seq <| (HT_runc [⟨true, .v (lb (p ⟨nm, lo, hi, .mk o tn ks⟩)), none⟩] (by simp [*]; first | exact ⟨rfl, Iff.rfl⟩ | exact ⟨rfl, trivial⟩ | rfl) ?_ ?_)
      · first | exact hpv _ | exact trivial | simpa [*] using hpv _
      refine (HT_cond rfl (fun h7 => ?_) (fun h7 => HT_skip ?_))
      · try simp only [Bool.or_eq_true, Bool.and_eq_true, Bool.or_eq_false_iff, Bool.and_eq_false_iff, Bool.not_eq_true', Bool.not_eq_false', decide_eq_true_eq, decide_eq_false_iff_not] at h7
        rw [hs h7]
        refine HT_seq <| (HT_run (by simp [*]; rfl) ?_)
        exact (HT_retE (fun h => ⟨.inr rfl, h⟩) _ (by simp [*]; rfl) (by first | rfl | (simp [*]; done) | (simp only [resR]; (repeat' split) <;> first | rfl | (exfalso; omega) | simp_all)) (by simp))
      · try simp only [Bool.or_eq_true, Bool.and_eq_true, Bool.or_eq_false_iff, Bool.and_eq_false_iff, Bool.not_eq_true', Bool.not_eq_false', decide_eq_true_eq, decide_eq_false_iff_not] at h7
        refine (HT_run (by simp [*]; rfl) ?_)
        exact ⟨k + 1, ⟨hk1, fun j hj w hw => (Nat.lt_succ_iff_lt_or_eq.1 hj).elim (fun h => hJ j h w hw) (fun e => by subst e; rw [he] at hw; cases hw; exact h7)⟩, by omega, le_mk (fun n => n) [] rfl (by simp [upS, keepS, *]) (by simp [*, upS]) (by simp [upS])⟩
    · try simp only [Bool.or_eq_true, Bool.and_eq_true, Bool.or_eq_false_iff, Bool.and_eq_false_iff, Bool.not_eq_true', Bool.not_eq_false', decide_eq_true_eq, decide_eq_false_iff_not] at h4
      rw [hnone fun j hj => hJ j (by omega)]
      refine (HT_exit ?_)
      refine HT_seq <| (HT_run (by simp [*]; rfl) ?_)
      exact (HT_retE (fun h => ⟨.inr rfl, h⟩) _ (by simp [*]; rfl) (by first | rfl | (simp [*]; done) | (simp only [resR]; (repeat' split) <;> first | rfl | (exfalso; omega) | simp_all)) (by simp))
  · rw [List.any_eq]
    cases h : l.findIdx? p with
    | none =>
      rw [List.findIdx?_eq_none_iff] at h
      simp only [decide_eq_true_eq]
      constructor
      · intro h; omega
      · rintro ⟨v, hv, hpv⟩
        have := h v hv
        rw [hpv] at this
        cases this
    | some i =>
      rw [List.findIdx?_eq_some_iff_getElem] at h
      obtain ⟨hi, hpi, _⟩ := h
      simp only [decide_eq_true_eq]
      exact ⟨fun _ => ⟨l[i], List.getElem_mem _, hpi⟩, fun _ => by omega⟩
theorem conH_con (l : List Ht) (g : FuncId) (cap : List CD) (p : Ht → Bool) (hl : l.length ≤ 1000000000) (hp : ∀ v ∈ l, ∀ d, Con Tryz.prog g true (aH v :: cap.map fun c => .one (.c c)) (.v (lb (p v))) none d) (d : Nat) :
    Con Tryz.prog 88 true [.one (.c (.sl 6 (encHs l))), .one (.c (.fn g cap))] (.v (lb (l.any p))) none d := by
  obtain ⟨r, hr, hi⟩ := idxH_con l g cap p hl hp 0
  have hd : decide (0 ≤ r) = l.any p := by rw [Bool.eq_iff_iff, decide_eq_true_eq]; exact hi
  clear hi hp
  refine con_of_HT Tryz.func88 rfl (by kernel_rfl) (Nat.le_of_ble_eq_true rfl) ?_
  simp only [Tryz.f88]
  refine HT_seq <| (HT_run (by simp [*]; rfl) ?_)
  refine HT_seq <| (HT_runc [⟨true, .v (li r), none⟩] (by simp [*]; first | exact ⟨rfl, Iff.rfl⟩ | exact ⟨rfl, trivial⟩ | rfl) ?_ ?_)
  · first | exact hr _ | exact trivial | simpa [*] using hr _
  exact (HT_retE (fun h => ⟨.inr rfl, h⟩) _ (by simp [*]; rfl) (by first | rfl | (simp [*]; done) | (simp only [resR]; (repeat' split) <;> first | rfl | (exfalso; omega) | simp_all)) (by simp))
theorem sameH_con (w v : Ht) (d : Nat) : Con Tryz.prog 87 true [aH w, .one (.c (.ptr v.enc))] (.v (lb (decide (w.name = v.name)))) none d := by
  obtain ⟨n1, l1, h1, ⟨o1, t1, k1⟩⟩ := w
  obtain ⟨n2, l2, h2, ⟨o2, t2, k2⟩⟩ := v
  refine con_of_HT Tryz.func87 rfl (by kernel_rfl) (Nat.le_of_ble_eq_true rfl) ?_
  simp only [Tryz.f87]
  simp only [aH, Ht.enc, Tm.enc, List.cons_append, List.nil_append]
  refine HT_seq <| (HT_run (by simp [*]; rfl) ?_)
  refine HT_seq <| (HT_run (by simp [*]; rfl) ?_)
  exact (HT_retE (fun h => ⟨.inr rfl, h⟩) _ (by simp [*]; rfl) (by first | rfl | (simp [*]; done) | (simp only [resR]; (repeat' split) <;> first | rfl | (exfalso; omega) | simp_all)) (by simp))

def hcode (vars : List Vr) (seen : List Ht) (h : Ht) : Int :=
  if nameB h.name = false then 7 else if (seen.any fun w => decide (w.name = h.name)) = true then 8 else if boundedB h.low h.high = false then 3 else termC vars true h.term
def hcs (vars : List Vr) : List Ht → List Ht → Int
  | _, [] => 0
  | seen, h :: l => if hcode vars seen h = 0 then hcs vars (seen ++ [h]) l else hcode vars seen h

theorem hatsP_con (f : Fl) (hv : goodV f.vars) (hl : f.vars.length ≤ 1000000) (hh : f.hats.length ≤ 1000000) (hn : ∀ h ∈ f.hats, h.term.nodes ≤ 1000000000) (d : Nat) :
    Con Tryz.prog 54 true [aF f] (.v (li (hcs f.vars [] f.hats))) none d := by
  obtain ⟨vars, hats, body⟩ := f
  simp only at hv hl hh hn ⊢
  obtain ⟨res, hres⟩ : ∃ r, hcs vars [] hats = r := ⟨_, rfl⟩
  rw [hres]
  refine con_of_HT Tryz.func54 rfl (by kernel_rfl) (Nat.le_of_ble_eq_true rfl) ?_
  simp only [Tryz.f54]
  simp only [aF, Fl.enc, List.map_cons, List.map_nil]
  refine HT_seq <| (HT_run (by simp [*]; rfl) ?_)
  refine HT_seq <| HT_seq <| (HT_run (by simp [*]; rfl) ?_)
  refine HT_block <| (HT_loopU [1, 8, 9] (fun (x : Nat) => [(10, .v (li x))]) (fun (x : Nat) => [(1, .box [.c (.sl 5 (encVs vars)), .c (.sl 6 (encHs hats)), .c (.sl 10 (encSs body))])]) (fun (x : Nat) => x ≤ hats.length ∧ hcs vars (hats.take x) (hats.drop x) = res) (fun (x : Nat) => hats.length - x) (0 : Nat) ⟨Nat.zero_le _, hres⟩ ?_ ?_)
  · exact le_mk (fun n => n) [] rfl (by simp [*, upS, keepS]) (by simp [*, upS]) (by simp [upS])
  rintro k ⟨hk, hJ⟩
  simp only [upS, keepS, insS]
  try simp only [keepS, List.contains_cons, List.contains_nil, Bool.or_false, Bool.or_true, Bool.true_or, Bool.false_or, Nat.reduceBEq, BEq.rfl, beq_self_eq_true, if_true, if_false, Bool.false_eq_true, ite_true, ite_false, ins, Nat.reduceLT]
  clear hres
  refine HT_seq <| (HT_run (by simp [*]; rfl) ?_)
  refine HT_seq <| (HT_cond rfl (fun h4 => HT_skip ?_) (fun h4 => ?_))
  · try simp only [Bool.or_eq_true, Bool.and_eq_true, Bool.or_eq_false_iff, Bool.and_eq_false_iff, Bool.not_eq_true', Bool.not_eq_false', decide_eq_true_eq, decide_eq_false_iff_not] at h4
    have hlt : k < hats.length := by omega
    obtain ⟨h, he, hd⟩ := at_lt hlt
    have hw1 := wrap1 hlt (by omega)
    have hk1 : k + 1 ≤ hats.length := hlt
    have hkl : (hats.take k).length ≤ 1000000000 := by rw [List.length_take]; omega
    rw [hd] at hJ
    simp only [hcs] at hJ
    rw [← take_snoc he] at hJ
    have ct := termP_con vars true hv (by omega) h.term (hn h (List.mem_of_getElem? he))
    have cc := conH_con (hats.take k) 87 [.ptr h.enc] (fun w => decide (w.name = h.name)) hkl (fun w _ d => sameH_con w h d)
    obtain ⟨nm, lo, hi, ⟨o, tn, ks⟩⟩ := h
    obtain ⟨HC, hHC⟩ : ∃ x, hcode vars (hats.take k) ⟨nm, lo, hi, .mk o tn ks⟩ = x := ⟨_, rfl⟩
    rw [hHC] at hJ
    simp only [hcode] at hHC
    simp only [Ht.enc, Tm.enc, List.cons_append, List.nil_append] at cc
    simp only at ct
    obtain ⟨TC, hTC⟩ : ∃ r, termC vars true (.mk o tn ks) = r := ⟨_, rfl⟩
    rw [hTC] at ct hHC
    clear hlt h4 hd hn hTC
    refine HT_seq <| HT_block <| HT_seq <| (HT_run (by simp [*]; rfl) ?_)
    refine HT_seq <| (HT_run (by simp [*]; rfl) ?_)
    refine HT_seq <| HT_block <| HT_seq <| (HT_runc [⟨true, .v (lb (nameB nm)), none⟩] (by simp [*]; first | exact ⟨rfl, Iff.rfl⟩ | exact ⟨rfl, trivial⟩ | rfl) ?_ ?_)
    · first | exact nameP_con _ _ | exact trivial | simpa [*] using nameP_con _ _
    refine (HT_cond rfl (fun h8 => ?_) (fun h8 => ?_))
    · try simp only [Bool.or_eq_true, Bool.and_eq_true, Bool.or_eq_false_iff, Bool.and_eq_false_iff, Bool.not_eq_true', Bool.not_eq_false', decide_eq_true_eq, decide_eq_false_iff_not] at h8
      rw [if_pos h8] at hHC
      subst hHC
      rw [if_neg (by decide)] at hJ
      subst hJ
      refine HT_seq <| (HT_run (by simp [*]; rfl) ?_)
      exact (HT_retE (fun h => ⟨.inr rfl, h⟩) _ (by simp [*]; rfl) (by first | rfl | (simp [*]; done) | (simp only [resR]; (repeat' split) <;> first | rfl | (exfalso; omega) | simp_all)) (by simp))
    · try simp only [Bool.or_eq_true, Bool.and_eq_true, Bool.or_eq_false_iff, Bool.and_eq_false_iff, Bool.not_eq_true', Bool.not_eq_false', decide_eq_true_eq, decide_eq_false_iff_not] at h8
      refine HT_seq <| (HT_runc [⟨true, .v (lb ((hats.take k).any fun w => decide (w.name = nm))), none⟩] (by simp [*]; first | exact ⟨rfl, Iff.rfl⟩ | exact ⟨rfl, trivial⟩ | rfl) ?_ ?_)
      · first | exact cc _ | exact trivial | simpa [*] using cc _
      refine (HT_cond rfl (fun h12 => ?_) (fun h12 => ?_))
      · try simp only [Bool.or_eq_true, Bool.and_eq_true, Bool.or_eq_false_iff, Bool.and_eq_false_iff, Bool.not_eq_true', Bool.not_eq_false', decide_eq_true_eq, decide_eq_false_iff_not] at h12
        rw [if_neg (by simp [h8]), if_pos h12] at hHC
        subst hHC
        rw [if_neg (by decide)] at hJ
        subst hJ
        refine HT_seq <| (HT_run (by simp [*]; rfl) ?_)
        exact (HT_retE (fun h => ⟨.inr rfl, h⟩) _ (by simp [*]; rfl) (by first | rfl | (simp [*]; done) | (simp only [resR]; (repeat' split) <;> first | rfl | (exfalso; omega) | simp_all)) (by simp))
      · try simp only [Bool.or_eq_true, Bool.and_eq_true, Bool.or_eq_false_iff, Bool.and_eq_false_iff, Bool.not_eq_true', Bool.not_eq_false', decide_eq_true_eq, decide_eq_false_iff_not] at h12
        refine HT_seq <| (HT_runc [⟨true, .v (lb (boundedB lo hi)), none⟩] (by simp [*]; first | exact ⟨rfl, Iff.rfl⟩ | exact ⟨rfl, trivial⟩ | rfl) ?_ ?_)
        · first | exact boundedP_con _ _ _ | exact trivial | simpa [*] using boundedP_con _ _ _
        refine (HT_cond rfl (fun h16 => ?_) (fun h16 => HT_skip ?_))
        · try simp only [Bool.or_eq_true, Bool.and_eq_true, Bool.or_eq_false_iff, Bool.and_eq_false_iff, Bool.not_eq_true', Bool.not_eq_false', decide_eq_true_eq, decide_eq_false_iff_not] at h16
          rw [if_neg (by simp [h8]), if_neg (by simp [h12]), if_pos h16] at hHC
          subst hHC
          rw [if_neg (by decide)] at hJ
          subst hJ
          refine HT_seq <| (HT_run (by simp [*]; rfl) ?_)
          exact (HT_retE (fun h => ⟨.inr rfl, h⟩) _ (by simp [*]; rfl) (by first | rfl | (simp [*]; done) | (simp only [resR]; (repeat' split) <;> first | rfl | (exfalso; omega) | simp_all)) (by simp))
        · try simp only [Bool.or_eq_true, Bool.and_eq_true, Bool.or_eq_false_iff, Bool.and_eq_false_iff, Bool.not_eq_true', Bool.not_eq_false', decide_eq_true_eq, decide_eq_false_iff_not] at h16
          rw [if_neg (by simp [h8]), if_neg (by simp [h12]), if_neg (by simp [h16])] at hHC
          subst hHC
          refine HT_seq <| (HT_runc [⟨true, .v (li TC), none⟩] (by simp [*]; first | exact ⟨rfl, Iff.rfl⟩ | exact ⟨rfl, trivial⟩ | rfl) ?_ ?_)
          · first | exact ct _ | exact trivial | simpa [*] using ct _
          refine HT_seq <| (HT_run (by simp [*]; rfl) ?_)
          refine (HT_cond rfl (fun h21 => ?_) (fun h21 => HT_skip ?_))
          · try simp only [Bool.or_eq_true, Bool.and_eq_true, Bool.or_eq_false_iff, Bool.and_eq_false_iff, Bool.not_eq_true', Bool.not_eq_false', decide_eq_true_eq, decide_eq_false_iff_not] at h21
            rw [if_neg h21] at hJ
            subst hJ
            refine HT_seq <| (HT_run (by simp [*]; rfl) ?_)
            exact (HT_retE (fun h => ⟨.inr rfl, h⟩) _ (by simp [*]; rfl) (by first | rfl | (simp [*]; done) | (simp only [resR]; (repeat' split) <;> first | rfl | (exfalso; omega) | simp_all)) (by simp))
          · try simp only [Bool.or_eq_true, Bool.and_eq_true, Bool.or_eq_false_iff, Bool.and_eq_false_iff, Bool.not_eq_true', Bool.not_eq_false', decide_eq_true_eq, decide_eq_false_iff_not] at h21
            rw [if_pos (by simpa using h21)] at hJ
            refine (HT_run (by simp [*]; rfl) ?_)
            exact ⟨k + 1, ⟨hk1, hJ⟩, by omega, le_mk (fun n => n) [] rfl (by simp [upS, keepS, *]) (by simp [*, upS]) (by simp [upS])⟩
  · try simp only [Bool.or_eq_true, Bool.and_eq_true, Bool.or_eq_false_iff, Bool.and_eq_false_iff, Bool.not_eq_true', Bool.not_eq_false', decide_eq_true_eq, decide_eq_false_iff_not] at h4
    have hkl : k = hats.length := by omega
    rw [hkl, List.drop_length] at hJ
    simp only [hcs] at hJ
    subst hJ
    refine (HT_exit ?_)
    refine HT_seq <| (HT_run (by simp [*]; rfl) ?_)
    exact (HT_retE (fun h => ⟨.inr rfl, h⟩) _ (by simp [*]; rfl) (by first | rfl | (simp [*]; done) | (simp only [resR]; (repeat' split) <;> first | rfl | (exfalso; omega) | simp_all)) (by simp))
end Go.Proofs.YtfilidjbpomgoaaGreat

namespace Go.Proofs.YtfilidjbpomgoaaGreat
open Go Go.Hl

theorem nodesT_mem' {ks : List Tm} {t : Tm} (ht : t ∈ ks) : t.nodes ≤ nodesT ks := nodes_mem ht
theorem tnodes_con (t : Tm) : t.nodes ≤ 1000000000 → ∀ d : Nat, Con Tryz.prog 64 true [aT t] (.v (li t.nodes)) none d := by
  induction t using Tm.ind with
  | h o n ks ih =>
  intro hn d
  simp only [Tm.nodes] at hn ⊢
  have hlen := len_nodesT ks
  obtain ⟨res, hres⟩ : ∃ r, nodesT ks = r := ⟨_, rfl⟩
  rw [hres] at hn ⊢
  refine con_of_HT Tryz.func64 rfl (by kernel_rfl) (Nat.le_of_ble_eq_true rfl) ?_
  simp only [Tryz.f64]
  simp only [aT, Tm.enc]
  refine HT_seq <| (HT_run (by simp [*]; rfl) ?_)
  refine HT_seq <| (HT_run (by simp [*]; rfl) ?_)
  refine HT_seq <| HT_seq <| (HT_run (by simp [*]; rfl) ?_)
  refine HT_block <| (HT_loopU [1] (fun (x : Nat × Nat) => [(3, .v (li ((x.2 : Nat) : Int))), (4, .v (li x.1))]) (fun (x : Nat × Nat) => [(1, .box [.c (iC o), .c (iC n), .c (.sl 3 (encTs ks))])]) (fun (x : Nat × Nat) => x.1 ≤ ks.length ∧ x.2 + nodesT (ks.drop x.1) = 1 + res) (fun (x : Nat × Nat) => ks.length - x.1) (0, 1) ⟨Nat.zero_le _, by simp [hres]⟩ ?_ ?_)
  · exact le_mk (fun n => n) [] rfl (by simp [*, upS, keepS]) (by simp [*, upS]) (by simp [upS])
  rintro ⟨k, m⟩ ⟨hk, hJ⟩
  simp only [upS, keepS, insS]
  try simp only [keepS, List.contains_cons, List.contains_nil, Bool.or_false, Bool.or_true, Bool.true_or, Bool.false_or, Nat.reduceBEq, BEq.rfl, beq_self_eq_true, if_true, if_false, Bool.false_eq_true, ite_true, ite_false, ins, Nat.reduceLT]
  simp only at hk hJ
  refine HT_seq <| HT_seq <| (HT_run (by simp [*]; rfl) ?_)
  refine (HT_cond rfl (fun h5 => HT_skip ?_) (fun h5 => ?_))
  · try simp only [Bool.or_eq_true, Bool.and_eq_true, Bool.or_eq_false_iff, Bool.and_eq_false_iff, Bool.not_eq_true', Bool.not_eq_false', decide_eq_true_eq, decide_eq_false_iff_not] at h5
    have hlt : k < ks.length := by omega
    obtain ⟨⟨eo, en, ek⟩, he, hd⟩ := at_lt hlt
    have he' := get_encT he
    simp only [Tm.enc] at he'
    have hmem : Tm.mk eo en ek ∈ ks := List.mem_of_getElem? he
    have hnm := nodes_mem hmem
    have c := ih _ hmem (by omega)
    have hw1 := wrap1 hlt (by omega)
    have hk1 : k + 1 ≤ ks.length := hlt
    rw [hd] at hJ
    simp only [nodesT] at hJ
    generalize Tm.nodes (.mk eo en ek) = q at *
    have hw2 : IntKind.i64.wrap ((m : Int) + (q : Int)) = (m : Int) + (q : Int) := wrap_in (by omega) (by omega)
    clear hlt h5 ih hmem
    refine HT_seq <| HT_block <| (HT_runc [⟨true, .v (li (q : Int)), none⟩] (by simp [*]; first | exact ⟨rfl, Iff.rfl⟩ | exact ⟨rfl, trivial⟩ | rfl) ?_ ?_)
    · first | exact c _ | exact trivial | simpa [*] using c _
    refine (HT_run (by simp [*]; rfl) ?_)
    exact ⟨(k + 1, m + q), ⟨hk1, by simp only; omega⟩, by simp only; omega, le_mk (fun n => n) [] rfl (by simp [upS, keepS, *]) (by simp [*, upS]) (by simp [upS])⟩
  · try simp only [Bool.or_eq_true, Bool.and_eq_true, Bool.or_eq_false_iff, Bool.and_eq_false_iff, Bool.not_eq_true', Bool.not_eq_false', decide_eq_true_eq, decide_eq_false_iff_not] at h5
    have hkl : k = ks.length := by omega
    rw [hkl, List.drop_length] at hJ
    simp only [nodesT] at hJ
    have hm : (m : Int) = 1 + (res : Int) := by omega
    refine (HT_exit ?_)
    refine HT_seq <| (HT_run (by simp [*]; rfl) ?_)
    exact (HT_retE (fun h => ⟨.inr rfl, h⟩) _ (by simp [*]; rfl) (by first | rfl | (simp [*]; done) | (simp only [resR]; (repeat' split) <;> first | rfl | (exfalso; omega) | simp_all)) (by simp))
theorem nodes_con (l : List St) : nodesS l ≤ 1000000000 → ∀ d : Nat, Con Tryz.prog 63 true [lS l] (.v (li (nodesS l))) none d := by
  revert l
  apply St.lists
  intro l ih hn d
  have hlen := len_nodesS l
  obtain ⟨res, hres⟩ : ∃ r, nodesS l = r := ⟨_, rfl⟩
  rw [hres]
  refine con_of_HT Tryz.func63 rfl (by kernel_rfl) (Nat.le_of_ble_eq_true rfl) ?_
  simp only [Tryz.f63]
  refine HT_seq <| (HT_run (by simp [*]; rfl) ?_)
  refine HT_seq <| (HT_run (by simp [*]; rfl) ?_)
  refine HT_seq <| HT_seq <| (HT_run (by simp [*]; rfl) ?_)
  refine HT_block <| (HT_loopU [0] (fun (x : Nat × Nat) => [(3, .v (li ((x.2 : Nat) : Int))), (4, .v (li x.1))]) (fun (x : Nat × Nat) => []) (fun (x : Nat × Nat) => x.1 ≤ l.length ∧ x.2 + nodesS (l.drop x.1) = res) (fun (x : Nat × Nat) => l.length - x.1) (0, 0) ⟨Nat.zero_le _, by simp [hres]⟩ ?_ ?_)
  · exact le_mk (fun n => n) [] rfl (by simp [*, upS, keepS]) (by simp [*, upS]) (by simp [upS])
  rintro ⟨k, m⟩ ⟨hk, hJ⟩
  simp only [upS, keepS, insS]
  try simp only [keepS, List.contains_cons, List.contains_nil, Bool.or_false, Bool.or_true, Bool.true_or, Bool.false_or, Nat.reduceBEq, BEq.rfl, beq_self_eq_true, if_true, if_false, Bool.false_eq_true, ite_true, ite_false, ins, Nat.reduceLT]
  simp only at hk hJ
  refine HT_seq <| HT_seq <| (HT_run (by simp [*]; rfl) ?_)
  refine (HT_cond rfl (fun h5 => HT_skip ?_) (fun h5 => ?_))
  · try simp only [Bool.or_eq_true, Bool.and_eq_true, Bool.or_eq_false_iff, Bool.and_eq_false_iff, Bool.not_eq_true', Bool.not_eq_false', decide_eq_true_eq, decide_eq_false_iff_not] at h5
    have hlt : k < l.length := by omega
    obtain ⟨s, he, hd⟩ := at_lt hlt
    have hmem : s ∈ l := List.mem_of_getElem? he
    have hnm := nodesS_mem hmem
    have iha := fun h => (ih s hmem).1 h
    have ihb := fun h => (ih s hmem).2 h
    have hw1 := wrap1 hlt (by omega)
    have hk1 : k + 1 ≤ l.length := hlt
    have ct := tnodes_con s.term
    rw [hd] at hJ
    obtain ⟨sd, sc, sv, sn, ⟨so, stn, sks⟩, sa, sb, sbs⟩ := s
    simp only [St.then_, St.else_, St.term] at iha ihb hnm ct
    simp only [nodesS, St.nodes] at hJ
    have ca := iha (by omega)
    have cb := ihb (by omega)
    have ct := ct (by omega)
    have he' := get_encS he
    simp only [St.enc, Tm.enc, List.cons_append, List.nil_append] at he'
    generalize Tm.nodes (.mk so stn sks) = q at *
    generalize nodesS sa = na at *
    generalize nodesS sb = nb at *
    have hw2 : IntKind.i64.wrap ((m : Int) + 1) = (m : Int) + 1 := wrap_in (by omega) (by omega)
    have hw3 : IntKind.i64.wrap ((m : Int) + 1 + (q : Int)) = (m : Int) + 1 + (q : Int) := wrap_in (by omega) (by omega)
    have hw4 : IntKind.i64.wrap ((m : Int) + 1 + (q : Int) + (na : Int)) = (m : Int) + 1 + (q : Int) + (na : Int) := wrap_in (by omega) (by omega)
    have hw5 : IntKind.i64.wrap ((m : Int) + 1 + (q : Int) + (na : Int) + (nb : Int)) = (m : Int) + 1 + (q : Int) + (na : Int) + (nb : Int) := wrap_in (by omega) (by omega)
    clear hlt h5 ih hmem iha ihb
    refine HT_seq <| HT_block <| (HT_drunc [⟨true, .v (li (q : Int)), none⟩, ⟨true, .v (li (na : Int)), none⟩, ⟨true, .v (li (nb : Int)), none⟩] (by kernel_rfl) (by kernel_rfl) (by rfl) (by simp [*]; first | exact ⟨rfl, Iff.rfl⟩ | exact ⟨rfl, trivial⟩ | rfl) ?_ ?_)
    · first | exact ⟨ct _, ca _, cb _⟩ | exact trivial | (repeat' first | exact trivial | exact ct _ | exact ca _ | exact cb _ | apply And.intro)
    refine (HT_run (by simp [*]; rfl) ?_)
    exact ⟨(k + 1, m + 1 + q + na + nb), ⟨hk1, by simp only; omega⟩, by simp only; omega, le_mk (fun n => n) [] rfl (by simp [upS, keepS, *]) (by simp [*, upS]) (by simp [upS])⟩
  · try simp only [Bool.or_eq_true, Bool.and_eq_true, Bool.or_eq_false_iff, Bool.and_eq_false_iff, Bool.not_eq_true', Bool.not_eq_false', decide_eq_true_eq, decide_eq_false_iff_not] at h5
    have hkl : k = l.length := by omega
    rw [hkl, List.drop_length] at hJ
    simp only [nodesS] at hJ
    have hm : m = res := by omega
    refine (HT_exit ?_)
    refine HT_seq <| (HT_run (by simp [*]; rfl) ?_)
    exact (HT_retE (fun h => ⟨.inr rfl, h⟩) _ (by simp [*]; rfl) (by first | rfl | (simp [*]; done) | (simp only [resR]; (repeat' split) <;> first | rfl | (exfalso; omega) | simp_all)) (by simp))

mutual
def tdT : Tm → Nat
  | .mk _ _ ks => tdTs ks + 1
def tdTs : List Tm → Nat
  | [] => 0
  | t :: l => max (tdT t) (tdTs l)
end
mutual
theorem td_le : ∀ t : Tm, tdT t ≤ t.nodes
  | .mk o n ks => by have := tds_le ks; simp only [tdT, Tm.nodes]; omega
theorem tds_le : ∀ l : List Tm, tdTs l ≤ nodesT l
  | [] => by simp [tdTs]
  | t :: l => by have := td_le t; have := tds_le l; simp only [tdTs, nodesT]; omega
end
theorem tdepth_con (t : Tm) : t.nodes ≤ 1000000000 → ∀ d : Nat, Con Tryz.prog 65 true [aT t] (.v (li (tdT t))) none d := by
  induction t using Tm.ind with
  | h o n ks ih =>
  intro hn d
  simp only [Tm.nodes] at hn
  simp only [tdT]
  have hlen := len_nodesT ks
  have htl := tds_le ks
  obtain ⟨res, hres⟩ : ∃ r, tdTs ks = r := ⟨_, rfl⟩
  rw [hres] at htl ⊢
  refine con_of_HT Tryz.func65 rfl (by kernel_rfl) (Nat.le_of_ble_eq_true rfl) ?_
  simp only [Tryz.f65]
  simp only [aT, Tm.enc]
  refine HT_seq <| (HT_run (by simp [*]; rfl) ?_)
  refine HT_seq <| (HT_run (by simp [*]; rfl) ?_)
  refine HT_seq <| HT_seq <| (HT_run (by simp [*]; rfl) ?_)
  refine HT_block <| (HT_loopU [1] (fun (x : Nat × Nat) => [(3, .v (li ((x.2 : Nat) : Int))), (4, .v (li x.1))]) (fun (x : Nat × Nat) => [(1, .box [.c (iC o), .c (iC n), .c (.sl 3 (encTs ks))])]) (fun (x : Nat × Nat) => x.1 ≤ ks.length ∧ max x.2 (tdTs (ks.drop x.1)) = res) (fun (x : Nat × Nat) => ks.length - x.1) (0, 0) ⟨Nat.zero_le _, by simp [hres]⟩ ?_ ?_)
  · exact le_mk (fun n => n) [] rfl (by simp [*, upS, keepS]) (by simp [*, upS]) (by simp [upS])
  rintro ⟨k, m⟩ ⟨hk, hJ⟩
  simp only [upS, keepS, insS]
  try simp only [keepS, List.contains_cons, List.contains_nil, Bool.or_false, Bool.or_true, Bool.true_or, Bool.false_or, Nat.reduceBEq, BEq.rfl, beq_self_eq_true, if_true, if_false, Bool.false_eq_true, ite_true, ite_false, ins, Nat.reduceLT]
  simp only at hk hJ
  refine HT_seq <| HT_seq <| (HT_run (by simp [*]; rfl) ?_)
  refine (HT_cond rfl (fun h5 => HT_skip ?_) (fun h5 => ?_))
  · try simp only [Bool.or_eq_true, Bool.and_eq_true, Bool.or_eq_false_iff, Bool.and_eq_false_iff, Bool.not_eq_true', Bool.not_eq_false', decide_eq_true_eq, decide_eq_false_iff_not] at h5
    have hlt : k < ks.length := by omega
    obtain ⟨⟨eo, en, ek⟩, he, hd⟩ := at_lt hlt
    have he' := get_encT he
    simp only [Tm.enc] at he'
    have hmem : Tm.mk eo en ek ∈ ks := List.mem_of_getElem? he
    have hnm := nodes_mem hmem
    have c := ih _ hmem (by omega)
    have hw1 := wrap1 hlt (by omega)
    have hk1 : k + 1 ≤ ks.length := hlt
    rw [hd] at hJ
    simp only [tdTs] at hJ
    generalize tdT (.mk eo en ek) = q at *
    clear hlt h5 ih hmem
    refine HT_seq <| HT_block <| HT_seq <| (HT_runc [⟨true, .v (li (q : Int)), none⟩] (by simp [*]; first | exact ⟨rfl, Iff.rfl⟩ | exact ⟨rfl, trivial⟩ | rfl) ?_ ?_)
    · first | exact c _ | exact trivial | simpa [*] using c _
    refine HT_seq <| (HT_run (by simp [*]; rfl) ?_)
    refine (HT_cond rfl (fun h8 => ?_) (fun h8 => HT_skip ?_))
    · try simp only [Bool.or_eq_true, Bool.and_eq_true, Bool.or_eq_false_iff, Bool.and_eq_false_iff, Bool.not_eq_true', Bool.not_eq_false', decide_eq_true_eq, decide_eq_false_iff_not] at h8
      refine (HT_run (by simp [*]; rfl) ?_)
      refine (HT_run (by simp [*]; rfl) ?_)
      exact ⟨(k + 1, q), ⟨hk1, by simp only; omega⟩, by simp only; omega, le_mk (fun n => n) [] rfl (by simp [upS, keepS, *]) (by simp [*, upS]) (by simp [upS])⟩
    · try simp only [Bool.or_eq_true, Bool.and_eq_true, Bool.or_eq_false_iff, Bool.and_eq_false_iff, Bool.not_eq_true', Bool.not_eq_false', decide_eq_true_eq, decide_eq_false_iff_not] at h8
      refine (HT_run (by simp [*]; rfl) ?_)
      exact ⟨(k + 1, m), ⟨hk1, by simp only; omega⟩, by simp only; omega, le_mk (fun n => n) [] rfl (by simp [upS, keepS, *]) (by simp [*, upS]) (by simp [upS])⟩
  · try simp only [Bool.or_eq_true, Bool.and_eq_true, Bool.or_eq_false_iff, Bool.and_eq_false_iff, Bool.not_eq_true', Bool.not_eq_false', decide_eq_true_eq, decide_eq_false_iff_not] at h5
    have hkl : k = ks.length := by omega
    rw [hkl, List.drop_length] at hJ
    simp only [tdTs] at hJ
    have hm : m = res := by omega
    subst hm
    have hw : IntKind.i64.wrap ((m : Int) + 1) = (m : Int) + 1 := wrap_in (by omega) (by omega)
    refine (HT_exit ?_)
    refine HT_seq <| (HT_run (by simp [*]; rfl) ?_)
    exact (HT_retE (fun h => ⟨.inr rfl, h⟩) _ (by simp [*]; rfl) (by first | rfl | (simp [*]; done) | (simp only [resR]; (repeat' split) <;> first | rfl | (exfalso; omega) | simp_all)) (by simp))
def sdL : List St → Nat
  | [] => 0
  | .mk _ _ _ _ _ a b _ :: l => max (max (sdL a + 1) (sdL b + 1)) (sdL l)
theorem sd_le : ∀ l : List St, sdL l ≤ nodesS l
  | [] => by simp [sdL]
  | .mk _ _ _ _ t a b _ :: l => by have := sd_le a; have := sd_le b; have := sd_le l; have := nodes_pos t; simp only [sdL, nodesS, St.nodes]; omega
theorem sdepth_con (l : List St) : nodesS l ≤ 1000000000 → ∀ d : Nat, Con Tryz.prog 66 true [lS l] (.v (li (sdL l))) none d := by
  revert l
  apply St.lists
  intro l ih hn d
  have hlen := len_nodesS l
  obtain ⟨res, hres⟩ : ∃ r, sdL l = r := ⟨_, rfl⟩
  rw [hres]
  refine con_of_HT Tryz.func66 rfl (by kernel_rfl) (Nat.le_of_ble_eq_true rfl) ?_
  simp only [Tryz.f66]
  refine HT_seq <| (HT_run (by simp [*]; rfl) ?_)
  refine HT_seq <| (HT_run (by simp [*]; rfl) ?_)
  refine HT_seq <| HT_seq <| (HT_run (by simp [*]; rfl) ?_)
  refine HT_block <| (HT_loopU [0] (fun (x : Nat × Nat) => [(3, .v (li ((x.2 : Nat) : Int))), (4, .v (li x.1))]) (fun (x : Nat × Nat) => []) (fun (x : Nat × Nat) => x.1 ≤ l.length ∧ max x.2 (sdL (l.drop x.1)) = res) (fun (x : Nat × Nat) => l.length - x.1) (0, 0) ⟨Nat.zero_le _, by simp [hres]⟩ ?_ ?_)
  · exact le_mk (fun n => n) [] rfl (by simp [*, upS, keepS]) (by simp [*, upS]) (by simp [upS])
  rintro ⟨k, m⟩ ⟨hk, hJ⟩
  simp only [upS, keepS, insS]
  try simp only [keepS, List.contains_cons, List.contains_nil, Bool.or_false, Bool.or_true, Bool.true_or, Bool.false_or, Nat.reduceBEq, BEq.rfl, beq_self_eq_true, if_true, if_false, Bool.false_eq_true, ite_true, ite_false, ins, Nat.reduceLT]
  simp only at hk hJ
  refine HT_seq <| HT_seq <| (HT_run (by simp [*]; rfl) ?_)
  refine (HT_cond rfl (fun h5 => HT_skip ?_) (fun h5 => ?_))
  · try simp only [Bool.or_eq_true, Bool.and_eq_true, Bool.or_eq_false_iff, Bool.and_eq_false_iff, Bool.not_eq_true', Bool.not_eq_false', decide_eq_true_eq, decide_eq_false_iff_not] at h5
    have hlt : k < l.length := by omega
    obtain ⟨s, he, hd⟩ := at_lt hlt
    have hmem : s ∈ l := List.mem_of_getElem? he
    have hnm := nodesS_mem hmem
    have iha := fun h => (ih s hmem).1 h
    have ihb := fun h => (ih s hmem).2 h
    have hw1 := wrap1 hlt (by omega)
    have hk1 : k + 1 ≤ l.length := hlt
    rw [hd] at hJ
    obtain ⟨sd, sc, sv, sn, ⟨so, stn, sks⟩, sa, sb, sbs⟩ := s
    simp only [St.then_, St.else_, St.term] at iha ihb hnm
    simp only [sdL] at hJ
    have ca := iha (by omega)
    have cb := ihb (by omega)
    have ha := sd_le sa
    have hb := sd_le sb
    have he' := get_encS he
    simp only [St.enc, Tm.enc, List.cons_append, List.nil_append] at he'
    generalize sdL sa = na at *
    generalize sdL sb = nb at *
    have hw2 : IntKind.i64.wrap ((na : Int) + 1) = (na : Int) + 1 := wrap_in (by omega) (by omega)
    have hw3 : IntKind.i64.wrap ((nb : Int) + 1) = (nb : Int) + 1 := wrap_in (by omega) (by omega)
    clear hlt h5 ih hmem iha ihb
    refine HT_seq <| HT_block <| HT_seq <| (HT_runc [⟨true, .v (li (na : Int)), none⟩] (by simp [*]; first | exact ⟨rfl, Iff.rfl⟩ | exact ⟨rfl, trivial⟩ | rfl) ?_ ?_)
    · first | exact ca _ | exact trivial | simpa [*] using ca _
    refine HT_seq <| (HT_runc [⟨true, .v (li (nb : Int)), none⟩] (by simp [*]; first | exact ⟨rfl, Iff.rfl⟩ | exact ⟨rfl, trivial⟩ | rfl) ?_ ?_)
    · first | exact cb _ | exact trivial | simpa [*] using cb _
    refine (HT_cutU [0, 4, 6] (fun (z : Nat) => [(3, .v (li (z : Int)))]) (fun (z : Nat) => []) (fun (z : Nat) => z = max m (na + 1)) ?_ ?_)
    ·
      refine HT_seq <| (HT_run (by simp [*]; rfl) ?_)
      refine (HT_cond rfl (fun h10 => ?_) (fun h10 => HT_skip ?_))
      · try simp only [Bool.or_eq_true, Bool.and_eq_true, Bool.or_eq_false_iff, Bool.and_eq_false_iff, Bool.not_eq_true', Bool.not_eq_false', decide_eq_true_eq, decide_eq_false_iff_not] at h10
        have hz : max m (na + 1) = na + 1 := by omega
        refine (HT_run (by simp [*]; rfl) ?_)
        exact ⟨na + 1, hz.symm, le_mk (fun n => n) [] rfl (by simp [upS, keepS, *]) (by simp [*, upS]) (by simp [upS])⟩
      · try simp only [Bool.or_eq_true, Bool.and_eq_true, Bool.or_eq_false_iff, Bool.and_eq_false_iff, Bool.not_eq_true', Bool.not_eq_false', decide_eq_true_eq, decide_eq_false_iff_not] at h10
        have hz : max m (na + 1) = m := by omega
        exact ⟨m, hz.symm, le_mk (fun n => n) [] rfl (by simp [upS, keepS, *]) (by simp [*, upS]) (by simp [upS])⟩
    rintro z hz
    simp only [upS, keepS, insS]
    try simp only [keepS, List.contains_cons, List.contains_nil, Bool.or_false, Bool.or_true, Bool.true_or, Bool.false_or, Nat.reduceBEq, BEq.rfl, beq_self_eq_true, if_true, if_false, Bool.false_eq_true, ite_true, ite_false, ins, Nat.reduceLT]
    refine HT_seq <| (HT_run (by simp [*]; rfl) ?_)
    refine (HT_cond rfl (fun h15 => ?_) (fun h15 => HT_skip ?_))
    · try simp only [Bool.or_eq_true, Bool.and_eq_true, Bool.or_eq_false_iff, Bool.and_eq_false_iff, Bool.not_eq_true', Bool.not_eq_false', decide_eq_true_eq, decide_eq_false_iff_not] at h15
      refine (HT_run (by simp [*]; rfl) ?_)
      refine (HT_run (by simp [*]; rfl) ?_)
      exact ⟨(k + 1, nb + 1), ⟨hk1, by simp only; omega⟩, by simp only; omega, le_mk (fun n => n) [] rfl (by simp [upS, keepS, *]) (by simp [*, upS]) (by simp [upS])⟩
    · try simp only [Bool.or_eq_true, Bool.and_eq_true, Bool.or_eq_false_iff, Bool.and_eq_false_iff, Bool.not_eq_true', Bool.not_eq_false', decide_eq_true_eq, decide_eq_false_iff_not] at h15
      refine (HT_run (by simp [*]; rfl) ?_)
      exact ⟨(k + 1, z), ⟨hk1, by simp only; omega⟩, by simp only; omega, le_mk (fun n => n) [] rfl (by simp [upS, keepS, *]) (by simp [*, upS]) (by simp [upS])⟩
  · try simp only [Bool.or_eq_true, Bool.and_eq_true, Bool.or_eq_false_iff, Bool.and_eq_false_iff, Bool.not_eq_true', Bool.not_eq_false', decide_eq_true_eq, decide_eq_false_iff_not] at h5
    have hkl : k = l.length := by omega
    rw [hkl, List.drop_length] at hJ
    simp only [sdL] at hJ
    have hm : m = res := by omega
    refine (HT_exit ?_)
    refine HT_seq <| (HT_run (by simp [*]; rfl) ?_)
    exact (HT_retE (fun h => ⟨.inr rfl, h⟩) _ (by simp [*]; rfl) (by first | rfl | (simp [*]; done) | (simp only [resR]; (repeat' split) <;> first | rfl | (exfalso; omega) | simp_all)) (by simp))
def tdeep : List St → Bool
  | [] => false
  | .mk _ _ _ _ t a b _ :: l => ((decide (12 < tdT t) || tdeep a) || tdeep b) || tdeep l
theorem tdeep_con (l : List St) : nodesS l ≤ 1000000000 → ∀ d : Nat, Con Tryz.prog 67 true [lS l] (.v (lb (tdeep l))) none d := by
  revert l
  apply St.lists
  intro l ih hn d
  have hlen := len_nodesS l
  obtain ⟨res, hres⟩ : ∃ r, tdeep l = r := ⟨_, rfl⟩
  rw [hres]
  refine con_of_HT Tryz.func67 rfl (by kernel_rfl) (Nat.le_of_ble_eq_true rfl) ?_
  simp only [Tryz.f67]
  refine HT_seq <| (HT_run (by simp [*]; rfl) ?_)
  refine HT_seq <| HT_seq <| (HT_run (by simp [*]; rfl) ?_)
  refine HT_block <| (HT_loopU [0] (fun (x : Nat) => [(3, .v (li x))]) (fun (x : Nat) => []) (fun (x : Nat) => x ≤ l.length ∧ tdeep (l.drop x) = res) (fun (x : Nat) => l.length - x) (0 : Nat) ⟨Nat.zero_le _, hres⟩ ?_ ?_)
  · exact le_mk (fun n => n) [] rfl (by simp [*, upS, keepS]) (by simp [*, upS]) (by simp [upS])
  rintro k ⟨hk, hJ⟩
  simp only [upS, keepS, insS]
  try simp only [keepS, List.contains_cons, List.contains_nil, Bool.or_false, Bool.or_true, Bool.true_or, Bool.false_or, Nat.reduceBEq, BEq.rfl, beq_self_eq_true, if_true, if_false, Bool.false_eq_true, ite_true, ite_false, ins, Nat.reduceLT]
  refine HT_seq <| HT_seq <| (HT_run (by simp [*]; rfl) ?_)
  refine (HT_cond rfl (fun h4 => HT_skip ?_) (fun h4 => ?_))
  · try simp only [Bool.or_eq_true, Bool.and_eq_true, Bool.or_eq_false_iff, Bool.and_eq_false_iff, Bool.not_eq_true', Bool.not_eq_false', decide_eq_true_eq, decide_eq_false_iff_not] at h4
    have hlt : k < l.length := by omega
    obtain ⟨s, he, hd⟩ := at_lt hlt
    have hmem : s ∈ l := List.mem_of_getElem? he
    have hnm := nodesS_mem hmem
    have iha := fun h => (ih s hmem).1 h
    have ihb := fun h => (ih s hmem).2 h
    have hw1 := wrap1 hlt (by omega)
    have hk1 : k + 1 ≤ l.length := hlt
    have ct := tdepth_con s.term
    rw [hd] at hJ
    obtain ⟨sd, sc, sv, sn, ⟨so, stn, sks⟩, sa, sb, sbs⟩ := s
    simp only [St.then_, St.else_, St.term] at iha ihb hnm ct
    simp only [tdeep] at hJ
    have ca := iha (by omega)
    have cb := ihb (by omega)
    have ct := ct (by omega)
    have he' := get_encS he
    simp only [St.enc, Tm.enc, List.cons_append, List.nil_append] at he'
    generalize tdT (.mk so stn sks) = q at *
    generalize tdeep sa = na at *
    generalize tdeep sb = nb at *
    clear hlt h4 ih hmem iha ihb
    refine HT_seq <| HT_block <| HT_seq <| (HT_runc [⟨true, .v (li (q : Int)), none⟩, ⟨true, .v (lb na), none⟩, ⟨true, .v (lb nb), none⟩] (by simp [*]; first | exact ⟨rfl, Iff.rfl⟩ | exact ⟨rfl, trivial⟩ | rfl) ?_ ?_)
    · first | exact ⟨ct _, ca _, cb _⟩ | exact trivial | (repeat' first | exact trivial | exact ct _ | exact ca _ | exact cb _ | apply And.intro)
    refine (HT_cond rfl (fun h6 => ?_) (fun h6 => HT_skip ?_))
    · try simp only [Bool.or_eq_true, Bool.and_eq_true, Bool.or_eq_false_iff, Bool.and_eq_false_iff, Bool.not_eq_true', Bool.not_eq_false', decide_eq_true_eq, decide_eq_false_iff_not] at h6
      have hz : res = true := by
        rw [← hJ]
        simp only [Bool.or_eq_true, decide_eq_true_eq]
        rcases h6 with (h | h) | h
        · exact .inl (.inl (.inl (by omega)))
        · exact .inl (.inl (.inr h))
        · exact .inl (.inr h)
      refine HT_seq <| (HT_run (by simp [*]; rfl) ?_)
      exact (HT_retE (fun h => ⟨.inr rfl, h⟩) _ (by simp [*]; rfl) (by first | rfl | (simp [*]; done) | (simp only [resR]; (repeat' split) <;> first | rfl | (exfalso; omega) | simp_all)) (by simp))
    · try simp only [Bool.or_eq_true, Bool.and_eq_true, Bool.or_eq_false_iff, Bool.and_eq_false_iff, Bool.not_eq_true', Bool.not_eq_false', decide_eq_true_eq, decide_eq_false_iff_not] at h6
      have hz : tdeep (l.drop (k + 1)) = res := by
        rw [← hJ]
        have h12 : decide (12 < q) = false := decide_eq_false (by omega)
        rw [h12, h6.1.2, h6.2]
        rfl
      clear hJ
      refine (HT_run (by simp [*]; rfl) ?_)
      exact ⟨k + 1, ⟨hk1, hz⟩, by omega, le_mk (fun n => n) [] rfl (by simp [upS, keepS, *]) (by simp [*, upS]) (by simp [upS])⟩
  · try simp only [Bool.or_eq_true, Bool.and_eq_true, Bool.or_eq_false_iff, Bool.and_eq_false_iff, Bool.not_eq_true', Bool.not_eq_false', decide_eq_true_eq, decide_eq_false_iff_not] at h4
    have hkl : k = l.length := by omega
    rw [hkl, List.drop_length] at hJ
    simp only [tdeep] at hJ
    subst hJ
    refine (HT_exit ?_)
    refine HT_seq <| (HT_run (by simp [*]; rfl) ?_)
    exact (HT_retE (fun h => ⟨.inr rfl, h⟩) _ (by simp [*]; rfl) (by first | rfl | (simp [*]; done) | (simp only [resR]; (repeat' split) <;> first | rfl | (exfalso; omega) | simp_all)) (by simp))
end Go.Proofs.YtfilidjbpomgoaaGreat

namespace Go.Proofs.YtfilidjbpomgoaaGreat
open Go Go.Hl

def mSs : List St → Int → Int × Bool → Int × Bool
  | [], _, s => s
  | .mk _ _ _ _ t a b _ :: l, dep, s =>
    if ((s.2 || decide (12 < dep)) || decide (1024 < s.1 + 1)) = true then (s.1 + 1, s.2 || decide (12 < dep))
    else mSs l dep (mSs b (dep + 1) (mSs a (dep + 1) (mTm t 1 (s.1 + 1, s.2 || decide (12 < dep)))))
theorem mSs_le : ∀ (l : List St) (dep : Int) (s : Int × Bool), s.1 ≤ (mSs l dep s).1 ∧ (mSs l dep s).1 ≤ s.1 + nodesS l
  | [], dep, s => by simp [mSs, nodesS]
  | .mk d c v n t a b bs :: l, dep, s => by
    simp only [mSs, nodesS, St.nodes]
    have h1 := mTm_le t 1 (s.1 + 1, s.2 || decide (12 < dep))
    have h2 := mSs_le a (dep + 1) (mTm t 1 (s.1 + 1, s.2 || decide (12 < dep)))
    have h3 := mSs_le b (dep + 1) (mSs a (dep + 1) (mTm t 1 (s.1 + 1, s.2 || decide (12 < dep))))
    have h4 := mSs_le l dep (mSs b (dep + 1) (mSs a (dep + 1) (mTm t 1 (s.1 + 1, s.2 || decide (12 < dep)))))
    split
    · simp only; omega
    · simp only at h1; omega

theorem msteps_con (l : List St) : ∀ (dep c : Int) (b : Bool), 0 ≤ dep → 0 ≤ c → c + nodesS l ≤ 1000000000 →
    ConIO Tryz.prog 50 [iC c, bC b] [lS l, li dep] (.tup []) [iC (mSs l dep (c, b)).1, bC (mSs l dep (c, b)).2] := by
  revert l
  apply St.lists
  intro l ih dep c b hdep hc hn
  have hlen := len_nodesS l
  obtain ⟨res, hres⟩ : ∃ r, mSs l dep (c, b) = r := ⟨_, rfl⟩
  rw [hres]
  refine con_io_of_HT Tryz.func50 rfl (by kernel_rfl) (Nat.le_of_ble_eq_true rfl) ?_
  simp only [Tryz.f50]
  refine HT_seq <| (HT_run (by simp [*]; rfl) ?_)
  refine HT_block <| (HT_loopU [0, 2, 8, 9] (fun (x : Nat × Int × Bool) => [(10, .v (li x.1))]) (fun (x : Nat × Int × Bool) => [(1000000, .box [.c (iC x.2.1), .c (bC x.2.2)])]) (fun (x : Nat × Int × Bool) => x.1 ≤ l.length ∧ mSs (l.drop x.1) dep x.2 = res ∧ 0 ≤ x.2.1 ∧ x.2.1 + nodesS (l.drop x.1) ≤ 1000000000) (fun (x : Nat × Int × Bool) => l.length - x.1) (0, c, b) ⟨Nat.zero_le _, hres, hc, by simpa using hn⟩ ?_ ?_)
  · exact le_mk (fun n => n) [] rfl (by simp [*, upS, keepS]) (by simp [*, upS]) (by simp [upS])
  rintro ⟨k, m, q⟩ ⟨hk, hJ, hm, hb⟩
  simp only [upS, keepS, insS]
  try simp only [keepS, List.contains_cons, List.contains_nil, Bool.or_false, Bool.or_true, Bool.true_or, Bool.false_or, Nat.reduceBEq, BEq.rfl, beq_self_eq_true, if_true, if_false, Bool.false_eq_true, ite_true, ite_false, ins, Nat.reduceLT]
  simp only at hk hJ hm hb
  clear hres
  refine HT_seq <| (HT_run (by simp [*]; rfl) ?_)
  refine HT_seq <| (HT_cond rfl (fun h3 => HT_skip ?_) (fun h3 => ?_))
  · try simp only [Bool.or_eq_true, Bool.and_eq_true, Bool.or_eq_false_iff, Bool.and_eq_false_iff, Bool.not_eq_true', Bool.not_eq_false', decide_eq_true_eq, decide_eq_false_iff_not] at h3
    have hlt : k < l.length := by omega
    obtain ⟨s, he, hd⟩ := at_lt hlt
    have hmem : s ∈ l := List.mem_of_getElem? he
    have iha := (ih s hmem).1
    have ihb := (ih s hmem).2
    have hw1 := wrap1 hlt (by omega)
    have hk1 : k + 1 ≤ l.length := hlt
    rw [hd] at hJ hb
    obtain ⟨sd, sc, sv, sn, ⟨so, stn, sks⟩, sa, sb, sbs⟩ := s
    simp only [St.then_, St.else_] at iha ihb
    simp only [mSs] at hJ
    simp only [nodesS, St.nodes] at hb
    have he' := get_encS he
    simp only [St.enc, Tm.enc, List.cons_append, List.nil_append] at he'
    have hw2 : IntKind.i64.wrap (m + 1) = m + 1 := wrap_in (by omega) (by omega)
    clear hlt h3 ih hmem hd he
    refine HT_seq <| HT_block <| HT_seq <| (HT_run (by simp [*]; rfl) ?_)
    refine HT_seq <| (HT_run (by simp [*]; rfl) ?_)
    refine HT_seq <| (HT_run (by simp [*]; rfl) ?_)
    refine HT_seq <| HT_seq <| (HT_runc [⟨true, .v (lb ((q || decide (12 < dep)) || decide (1024 < m + 1))), none⟩] (by simp [*]; first | exact ⟨rfl, Iff.rfl⟩ | exact ⟨rfl, trivial⟩ | rfl) ?_ ?_)
    · first | exact overP_con _ _ _ | exact trivial | simpa [*] using overP_con _ _ _
    refine (HT_cond rfl (fun h8 => ?_) (fun h8 => HT_skip ?_))
    · try simp only [Bool.or_eq_true, Bool.and_eq_true, Bool.or_eq_false_iff, Bool.and_eq_false_iff, Bool.not_eq_true', Bool.not_eq_false', decide_eq_true_eq, decide_eq_false_iff_not] at h8
      rw [if_pos (by simpa using h8)] at hJ
      subst hJ
      exact HT_ret (⟨.inr rfl, _, le_refl _, ⟨_, by simp [*]; rfl, by simp [resR]⟩, by simp [*]⟩)
    · try simp only [Bool.or_eq_true, Bool.and_eq_true, Bool.or_eq_false_iff, Bool.and_eq_false_iff, Bool.not_eq_true', Bool.not_eq_false', decide_eq_true_eq, decide_eq_false_iff_not] at h8
      rw [if_neg (by simpa using h8)] at hJ
      have hq0 : q = false := h8.1.1
      have hdep2 : dep ≤ 12 := by omega
      have hwd : IntKind.i64.wrap (dep + 1) = dep + 1 := wrap_in (by omega) (by omega)
      have hqd : (q || decide (12 < dep)) = false := by rw [hq0]; simp; omega
      rw [hqd] at hJ
      have e1 := mTm_le (.mk so stn sks) 1 (m + 1, false)
      obtain ⟨p1, hp1⟩ : ∃ p, mTm (.mk so stn sks) 1 (m + 1, false) = p := ⟨_, rfl⟩
      have cio1 := mterm_con (.mk so stn sks) 1 (m + 1) false (by omega) (by omega) (by omega)
      rw [hp1] at cio1 e1 hJ
      obtain ⟨c1, b1⟩ := p1
      simp only at cio1 e1
      have e2 := mSs_le sa (dep + 1) (c1, b1)
      have cio2 := iha (dep + 1) c1 b1 (by omega) (by omega) (by omega)
      obtain ⟨p2, hp2⟩ : ∃ p, mSs sa (dep + 1) (c1, b1) = p := ⟨_, rfl⟩
      rw [hp2] at cio2 e2 hJ
      obtain ⟨c2, b2⟩ := p2
      simp only at cio2 e2
      have e3 := mSs_le sb (dep + 1) (c2, b2)
      have cio3 := ihb (dep + 1) c2 b2 (by omega) (by omega) (by omega)
      obtain ⟨p3, hp3⟩ : ∃ p, mSs sb (dep + 1) (c2, b2) = p := ⟨_, rfl⟩
      rw [hp3] at cio3 e3 hJ
      obtain ⟨c3, b3⟩ := p3
      simp only at cio3 e3
      clear iha ihb hp1 hp2 hp3 h8 hqd
      refine HT_seq <| (HT_runIO 3 (.tup []) ([iC c1, bC b1]) rfl (by simp [*]; rfl) (by simp [ioOf, *]; first | exact ⟨rfl, rfl, rfl, rfl, rfl⟩ | exact ⟨rfl, rfl, rfl, rfl⟩ | exact ⟨rfl, rfl, rfl⟩ | exact ⟨rfl, rfl⟩ | rfl) (cio1) (by simp) (by simp [*]; rfl) ?_)
      refine HT_seq <| (HT_runIO 5 (.tup []) ([iC c2, bC b2]) rfl (by simp [*]; rfl) (by simp [ioOf, *]; first | exact ⟨rfl, rfl, rfl, rfl, rfl⟩ | exact ⟨rfl, rfl, rfl, rfl⟩ | exact ⟨rfl, rfl, rfl⟩ | exact ⟨rfl, rfl⟩ | rfl) (cio2) (by simp) (by simp [*]; rfl) ?_)
      refine (HT_runIO 5 (.tup []) ([iC c3, bC b3]) rfl (by simp [*]; rfl) (by simp [ioOf, *]; first | exact ⟨rfl, rfl, rfl, rfl, rfl⟩ | exact ⟨rfl, rfl, rfl, rfl⟩ | exact ⟨rfl, rfl, rfl⟩ | exact ⟨rfl, rfl⟩ | rfl) (cio3) (by simp) (by simp [*]; rfl) ?_)
      refine (HT_run (by simp [*]; rfl) ?_)
      exact ⟨(k + 1, c3, b3), ⟨hk1, hJ, by simp only; omega, by simp only; omega⟩, by simp only; omega, le_mk (fun n => n) [] rfl (by simp [upS, keepS, *]) (by simp [*, upS]) (by simp [upS])⟩
  · try simp only [Bool.or_eq_true, Bool.and_eq_true, Bool.or_eq_false_iff, Bool.and_eq_false_iff, Bool.not_eq_true', Bool.not_eq_false', decide_eq_true_eq, decide_eq_false_iff_not] at h3
    have hkl : k = l.length := by omega
    subst hkl
    rw [List.drop_length] at hJ
    simp only [mSs] at hJ
    subst hJ
    refine (HT_exit ?_)
    exact (⟨.inl rfl, _, le_refl _, ⟨_, by simp [*]; rfl, by simp [resR]⟩, by simp [*]⟩)

/-! ## what the measure finds -/
def over (s : Int × Bool) : Bool := s.2 || decide (1024 < s.1)
theorem over_f {s : Int × Bool} (h : over s = false) : s.2 = false ∧ s.1 ≤ 1024 := by
  simp only [over, Bool.or_eq_false_iff, decide_eq_false_iff_not] at h
  exact ⟨h.1, by omega⟩
mutual
theorem mTm_over : ∀ (t : Tm) (dep : Int) (s : Int × Bool), 0 ≤ s.1 → over s = true → over (mTm t dep s) = true
  | .mk o n ks, dep, s, h0, h => by
    have h1 : over (s.1 + 1, s.2 || decide (12 < dep)) = true := by
      simp only [over, Bool.or_eq_true, decide_eq_true_eq] at h ⊢
      rcases h with h | h
      · exact .inl (.inl h)
      · exact .inr (by omega)
    simp only [mTm]
    split
    · exact h1
    · exact mTms_over ks (dep + 1) _ (by simp only; omega) h1
theorem mTms_over : ∀ (l : List Tm) (dep : Int) (s : Int × Bool), 0 ≤ s.1 → over s = true → over (mTms l dep s) = true
  | [], dep, s, _, h => h
  | t :: l, dep, s, h0, h => mTms_over l dep _ (Int.le_trans h0 (mTm_le t dep s).1) (mTm_over t dep s h0 h)
end
mutual
theorem mTm_fit : ∀ (t : Tm) (dep : Int) (s : Int × Bool), 0 ≤ s.1 → dep ≤ 13 → over s = false →
    (s.1 + t.nodes ≤ 1024 ∧ dep + tdT t ≤ 13 → mTm t dep s = (s.1 + t.nodes, false)) ∧ (¬ (s.1 + t.nodes ≤ 1024 ∧ dep + tdT t ≤ 13) → over (mTm t dep s) = true)
  | .mk o n ks, dep, s, h0, hd, h => by
    obtain ⟨h1, h2⟩ := over_f h
    simp only [mTm, Tm.nodes, tdT, h1, Bool.false_or]
    by_cases hc : (decide (12 < dep) || decide (1024 < s.1 + 1)) = true
    · rw [if_pos hc]
      simp only [Bool.or_eq_true, decide_eq_true_eq] at hc
      refine ⟨fun hf => by omega, fun _ => ?_⟩
      simp only [over, Bool.or_eq_true, decide_eq_true_eq]
      omega
    · rw [if_neg hc]
      simp only [Bool.or_eq_true, decide_eq_true_eq, not_or] at hc
      have hdd : decide (12 < dep) = false := decide_eq_false hc.1
      rw [hdd]
      have hov : over (s.1 + 1, false) = false := by simp only [over, Bool.false_or, decide_eq_false_iff_not]; omega
      have := mTms_fit ks (dep + 1) (s.1 + 1, false) (by simp only; omega) (by omega) hov
      simp only at this
      refine ⟨fun hf => ?_, fun hf => this.2 (by omega)⟩
      rw [this.1 (by omega)]
      simp only [Prod.mk.injEq, and_true]
      omega
theorem mTms_fit : ∀ (l : List Tm) (dep : Int) (s : Int × Bool), 0 ≤ s.1 → dep ≤ 13 → over s = false →
    (s.1 + nodesT l ≤ 1024 ∧ dep + tdTs l ≤ 13 → mTms l dep s = (s.1 + nodesT l, false)) ∧ (¬ (s.1 + nodesT l ≤ 1024 ∧ dep + tdTs l ≤ 13) → over (mTms l dep s) = true)
  | [], dep, s, h0, hd, h => by
    obtain ⟨h1, h2⟩ := over_f h
    obtain ⟨c, b⟩ := s
    simp only at h1 h2
    subst h1
    simp only [mTms, nodesT, tdTs]
    refine ⟨fun _ => by simp, fun hf => by omega⟩
  | t :: l, dep, s, h0, hd, h => by
    simp only [mTms, nodesT, tdTs]
    have ht := mTm_fit t dep s h0 hd h
    by_cases hf : s.1 + t.nodes ≤ 1024 ∧ dep + tdT t ≤ 13
    · rw [ht.1 hf]
      have hov : over (s.1 + t.nodes, false) = false := by simp only [over, Bool.false_or, decide_eq_false_iff_not]; omega
      have hl := mTms_fit l dep (s.1 + t.nodes, false) (by simp only; omega) hd hov
      simp only at hl
      refine ⟨fun h2 => ?_, fun h2 => hl.2 (by omega)⟩
      rw [hl.1 (by omega)]
      simp only [Prod.mk.injEq, and_true]
      omega
    · refine ⟨fun h2 => by omega, fun _ => mTms_over l dep _ (Int.le_trans h0 (mTm_le t dep s).1) (ht.2 hf)⟩
end
theorem mSs_over : ∀ (l : List St) (dep : Int) (s : Int × Bool), 0 ≤ s.1 → over s = true → over (mSs l dep s) = true
  | [], dep, s, _, h => by simp only [mSs]; exact h
  | .mk d c v n t a b bs :: l, dep, s, h0, h => by
    have h1 : over (s.1 + 1, s.2 || decide (12 < dep)) = true := by
      simp only [over, Bool.or_eq_true, decide_eq_true_eq] at h ⊢
      rcases h with h | h
      · exact .inl (.inl h)
      · exact .inr (by omega)
    simp only [mSs]
    split
    · exact h1
    · rename_i hc
      exact absurd h1 hc
theorem mSs_fit : ∀ (l : List St) (dep : Int) (s : Int × Bool), 0 ≤ s.1 → dep ≤ 13 → over s = false →
    (s.1 + nodesS l ≤ 1024 ∧ dep + sdL l ≤ 13 ∧ tdeep l = false → mSs l dep s = (s.1 + nodesS l, false)) ∧ (¬ (s.1 + nodesS l ≤ 1024 ∧ dep + sdL l ≤ 13 ∧ tdeep l = false) → over (mSs l dep s) = true)
  | [], dep, s, h0, hd, h => by
    obtain ⟨h1, h2⟩ := over_f h
    obtain ⟨c, b⟩ := s
    simp only at h1 h2
    subst h1
    simp only [mSs, nodesS, sdL, tdeep]
    refine ⟨fun _ => by simp, fun hf => absurd ⟨by omega, by omega, trivial⟩ hf⟩
  | .mk d c v n t a b bs :: l, dep, s, h0, hd, h => by
    obtain ⟨h1, h2⟩ := over_f h
    simp only [mSs, nodesS, St.nodes, sdL, tdeep, h1, Bool.false_or, Bool.or_eq_false_iff, decide_eq_false_iff_not]
    by_cases hc : (decide (12 < dep) || decide (1024 < s.1 + 1)) = true
    · rw [if_pos hc]
      simp only [Bool.or_eq_true, decide_eq_true_eq] at hc
      refine ⟨fun hf => by omega, fun _ => ?_⟩
      simp only [over, Bool.or_eq_true, decide_eq_true_eq]
      omega
    · rw [if_neg hc]
      simp only [Bool.or_eq_true, decide_eq_true_eq, not_or] at hc
      have hdd : decide (12 < dep) = false := decide_eq_false hc.1
      rw [hdd]
      have ov : ∀ x : Int, x ≤ 1024 → over (x, false) = false := by
        intro x hx
        simp only [over, Bool.false_or, decide_eq_false_iff_not]
        omega
      have ht := mTm_fit t 1 (s.1 + 1, false) (by simp only; omega) (by omega) (ov _ (by omega))
      have g1 := (mTm_le t 1 (s.1 + 1, false)).1
      have g2 := (mSs_le a (dep + 1) (mTm t 1 (s.1 + 1, false))).1
      have g3 := (mSs_le b (dep + 1) (mSs a (dep + 1) (mTm t 1 (s.1 + 1, false)))).1
      simp only at ht g1
      by_cases f1 : s.1 + 1 + t.nodes ≤ 1024 ∧ 1 + (tdT t : Int) ≤ 13
      · rw [ht.1 f1]
        have ha := mSs_fit a (dep + 1) (s.1 + 1 + t.nodes, false) (by simp only; omega) (by omega) (ov _ (by omega))
        simp only at ha
        by_cases f2 : s.1 + 1 + t.nodes + nodesS a ≤ 1024 ∧ dep + 1 + sdL a ≤ 13 ∧ tdeep a = false
        · rw [ha.1 f2]
          have hb := mSs_fit b (dep + 1) (s.1 + 1 + t.nodes + nodesS a, false) (by simp only; omega) (by omega) (ov _ (by omega))
          simp only at hb
          by_cases f3 : s.1 + 1 + t.nodes + nodesS a + nodesS b ≤ 1024 ∧ dep + 1 + sdL b ≤ 13 ∧ tdeep b = false
          · rw [hb.1 f3]
            have hl := mSs_fit l dep (s.1 + 1 + t.nodes + nodesS a + nodesS b, false) (by simp only; omega) hd (ov _ (by omega))
            simp only at hl
            refine ⟨fun hf => ?_, fun hf => hl.2 fun h4 => hf ⟨by omega, by omega, ⟨⟨by omega, f2.2.2⟩, f3.2.2⟩, h4.2.2⟩⟩
            rw [hl.1 ⟨by omega, by omega, hf.2.2.2⟩]
            simp only [Prod.mk.injEq, and_true]
            omega
          · refine ⟨fun hf => absurd ⟨by omega, by omega, hf.2.2.1.2⟩ f3, fun _ => mSs_over l dep _ ?_ (hb.2 f3)⟩
            have := (mSs_le b (dep + 1) (s.1 + 1 + t.nodes + nodesS a, false)).1
            simp only at this
            omega
        · refine ⟨fun hf => absurd ⟨by omega, by omega, hf.2.2.1.1.2⟩ f2, fun _ => ?_⟩
          have q1 := (mSs_le a (dep + 1) (s.1 + 1 + t.nodes, false)).1
          have q2 := (mSs_le b (dep + 1) (mSs a (dep + 1) (s.1 + 1 + t.nodes, false))).1
          simp only at q1
          exact mSs_over l dep _ (by omega) (mSs_over b (dep + 1) _ (by omega) (ha.2 f2))
      · refine ⟨fun hf => absurd ⟨by omega, by omega⟩ f1, fun _ => ?_⟩
        exact mSs_over l dep _ (by omega) (mSs_over b (dep + 1) _ (by omega) (mSs_over a (dep + 1) _ (by omega) (ht.2 f1)))
end Go.Proofs.YtfilidjbpomgoaaGreat
