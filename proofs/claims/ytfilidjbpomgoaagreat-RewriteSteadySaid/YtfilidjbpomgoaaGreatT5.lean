/- T5: contracts of functions of the program and of the reference, and plain facts about what they compute; used by the proof of the claimed statement. Conditions: as each theorem states. -/
import Derived.Test.YtfilidjbpomgoaaGreatT3
import Derived.Test.YtfilidjbpomgoaaGreatT2
import Derived.Test.YtfilidjbpomgoaaGreatT4
set_option linter.unusedSimpArgs false
set_option linter.unusedVariables false
set_option maxRecDepth 100000
set_option maxHeartbeats 2000000
namespace Go.Proofs.YtfilidjbpomgoaaGreat
open Go Go.Hl

def okR (p : Int × Int) : Bool := decide (-1048576 ≤ p.1) && decide (p.2 ≤ 1048576)
def rgV (vars : List Vr) (o n : Int) : Option (List (Int × Int)) → (Int × Int) × Bool
  | none => ((0, 0), false)
  | some k => (ruleP vars o n k, okR (ruleP vars o n k))
def rgW (vars : List Vr) (o n : Int) : Option (List (Int × Int)) → (Int × Int) × Bool
  | none => ((0, 0), false)
  | some k => (spanR vars o n k, okR (spanR vars o n k))
mutual
def rgP (vars : List Vr) : Tm → (Int × Int) × Bool
  | .mk o n ks => rgV vars o n (rgTs vars ks)
def rgTs (vars : List Vr) : List Tm → Option (List (Int × Int))
  | [] => some []
  | t :: l => if (rgP vars t).2 = true then (rgTs vars l).map ((rgP vars t).1 :: ·) else none
end
def rgQ (vars : List Vr) : Tm → (Int × Int) × Bool
  | .mk o n ks => rgW vars o n (rgTs vars ks)
theorem rgQ_ok (vars : List Vr) (t : Tm) : (rgQ vars t).2 = (rgP vars t).2 ∧ ((rgP vars t).2 = true → (rgQ vars t).1 = (rgP vars t).1) := by
  obtain ⟨o, n, ks⟩ := t
  simp only [rgQ, rgP]
  cases rgTs vars ks with
  | none => simp [rgV, rgW]
  | some k =>
    simp only [rgV, rgW, spanR]
    by_cases h : o = 0
    · subst h
      simp only [if_true, ruleP]
      by_cases h2 : n < -1048576 ∨ 1048576 < n
      · rw [if_pos h2]
        have : okR (n, n) = false := by simp only [okR, Bool.and_eq_false_iff, decide_eq_false_iff_not]; omega
        rw [this]
        exact ⟨by decide, fun h => by cases h⟩
      · rw [if_neg h2]
        exact ⟨rfl, fun _ => rfl⟩
    · simp only [if_neg h]
      exact ⟨trivial, fun _ => trivial⟩
def goodV (vars : List Vr) : Prop := ∀ v ∈ vars, v.low ≤ v.high ∧ -1048576 ≤ v.low ∧ v.high ≤ 1048576
theorem hull_le {p q : Int × Int} (hp : p.1 ≤ p.2) (hq : q.1 ≤ q.2) : (hullP p q).1 ≤ (hullP p q).2 := by
  simp only [hullP, mn, mx]
  (repeat' split) <;> omega
theorem hullL_le : ∀ {l : List (Int × Int)} {p : Int × Int}, (∀ q ∈ l, bnd q) → p.1 ≤ p.2 → (hullL l p).1 ≤ (hullL l p).2
  | [], p, _, hp => hp
  | q :: l, p, h, hp => hullL_le (l := l) (p := hullP p q) (fun r hr => h r (List.mem_cons_of_mem _ hr)) (hull_le hp (h q (by simp)).2.1)
theorem rule_le {vars : List Vr} {inp : Bool} {o n : Int} {k : List (Int × Int)} (hv : goodV vars) (hf : nodeB vars inp o n k.length = true) (hk : ∀ p ∈ k, bnd p) : (ruleP vars o n k).1 ≤ (ruleP vars o n k).2 := by
  have har := node_ar hf
  have hrf : o = 24 → 0 ≤ n ∧ ∃ v, vars[n.toNat]? = some v ∧ (inp = true → v.kind ≠ 0) := fun h => node_ref (by rw [← h]; exact hf)
  have hg : ∀ i : Nat, (g2 k i).1 ≤ (g2 k i).2 ∧ -1048576 ≤ (g2 k i).1 ∧ (g2 k i).2 ≤ 1048576 := by
    intro i
    unfold g2
    cases hi : k[i]? with
    | none => simp
    | some p => have := hk p (List.mem_of_getElem? hi); exact ⟨this.2.1, this.1, this.2.2⟩
  have h0 := hg 0
  have h1 := hg 1
  unfold ruleP
  generalize g2 k 0 = a at *
  generalize g2 k 1 = b at *
  split
  · exact Int.le_refl _
  split
  · rename_i h24
    obtain ⟨_, v, hv1, _⟩ := hrf h24
    rw [hv1]
    exact (hv v (List.mem_of_getElem? hv1)).1
  split
  · simp only; omega
  split
  · simp only; omega
  split
  · simp only; omega
  split
  · unfold mulP
    exact hull_le (hull_le (hull_le (Int.le_refl _) (Int.le_refl _)) (Int.le_refl _)) (Int.le_refl _)
  split
  · simp only [mx]
    (repeat' split) <;> simp only <;> omega
  split
  · simp only [modL, modH, mn, mx]
    (repeat' split) <;> omega
  split
  · simp only [mn]
    (repeat' split) <;> omega
  split
  · simp only [mx]
    (repeat' split) <;> omega
  split
  · exact hullL_le (fun q hq => hk q (List.mem_of_mem_drop hq)) h1.1
  · simp
theorem rgTs_len {vars : List Vr} : ∀ {l : List Tm} {k : List (Int × Int)}, rgTs vars l = some k → k.length = l.length
  | [], k, h => by simp only [rgTs] at h; cases h; rfl
  | t :: l, k, h => by
    simp only [rgTs] at h
    split at h
    · simp only [Option.map_eq_some_iff] at h
      obtain ⟨k', h', rfl⟩ := h
      simp [rgTs_len h']
    · cases h
mutual
theorem rgP_bnd {vars : List Vr} {inp : Bool} (hv : goodV vars) : ∀ (t : Tm), formB vars inp t = true → (rgP vars t).2 = true → bnd (rgP vars t).1
  | .mk o n ks, hf, h => by
    simp only [formB, Bool.and_eq_true] at hf
    simp only [rgP] at h ⊢
    cases hk : rgTs vars ks with
    | none => rw [hk] at h; cases h
    | some k =>
      rw [hk] at h
      simp only [rgV, okR, Bool.and_eq_true, decide_eq_true_eq] at h ⊢
      have hb := rgTs_bnd hv ks hf.2 k hk
      have hl := rgTs_len hk
      have := rule_le hv (by rw [hl]; exact hf.1) hb
      exact ⟨h.1, this, h.2⟩
theorem rgTs_bnd {vars : List Vr} {inp : Bool} (hv : goodV vars) : ∀ (l : List Tm), formBs vars inp l = true → ∀ k, rgTs vars l = some k → ∀ p ∈ k, bnd p
  | [], _, k, h, p, hp => by simp only [rgTs] at h; cases h; cases hp
  | t :: l, hf, k, h, p, hp => by
    simp only [formBs, Bool.and_eq_true] at hf
    simp only [rgTs] at h
    split at h
    · rename_i hok
      simp only [Option.map_eq_some_iff] at h
      obtain ⟨k', h', rfl⟩ := h
      rcases List.mem_cons.1 hp with rfl | hp
      · exact rgP_bnd hv t hf.1 hok
      · exact rgTs_bnd hv l hf.2 k' h' p hp
    · cases h
end
@[simp] theorem encP_snoc (a : List (Int × Int)) (r : Int × Int) : encPs (a ++ [r]) = encPs a ++ [[iC r.1, iC r.2]] := by simp [encPs]
@[simp] theorem lows_snoc (a : List (Int × Int)) (r : Int × Int) : lows (a ++ [r]) = lows a ++ [[iC r.1]] := by simp [lows]
@[simp] theorem highs_snoc (a : List (Int × Int)) (r : Int × Int) : highs (a ++ [r]) = highs a ++ [[iC r.2]] := by simp [highs]

theorem ranged_con (vars : List Vr) (inp : Bool) (hv : goodV vars) (t : Tm) : formB vars inp t = true → ∀ d : Nat,
    Con Tryz.prog 109 true [lV vars, aT t] (.tup [aP (rgP vars t).1, lb (rgP vars t).2]) none d := by
  induction t using Tm.ind with
  | h o n ks ih =>
  intro hf d
  simp only [formB, Bool.and_eq_true] at hf
  have har := node_ar hf.1
  have hlen : ks.length ≤ 33 := by
    have : (kidsP o).2 ≤ 33 := by unfold kidsP; (repeat' split) <;> simp
    omega
  clear har
  obtain ⟨res, hres⟩ : ∃ r, rgP vars (.mk o n ks) = r := ⟨_, rfl⟩
  rw [hres]
  simp only [rgP] at hres
  have ih' : ∀ t ∈ ks, ∀ d, Con Tryz.prog 109 true [lV vars, aT t] (.tup [aP (rgP vars t).1, lb (rgP vars t).2]) none d := fun t ht d => ih t ht (formBs_mem hf.2 t ht) d
  clear ih
  refine con_of_HT Tryz.func109 rfl (by kernel_rfl) (Nat.le_of_ble_eq_true rfl) ?_
  simp only [Tryz.f109]
  simp only [aT, Tm.enc]
  refine HT_seq <| (HT_run (by simp [*]; rfl) ?_)
  refine HT_seq <| (HT_run (by simp [*]; rfl) ?_)
  refine HT_seq <| HT_seq <| (HT_run (by simp [*]; rfl) ?_)
  refine HT_block <| (HT_loopU [0, 3, 4, 13, 14] (fun (x : Nat × List (Int × Int)) => [(6, .v (.one (.own 1006))), (15, .v (li x.1))]) (fun (x : Nat × List (Int × Int)) => [(3, .box [.c (iC o), .c (iC n), .c (.sl 3 (encTs ks))]), (4, .box [.c (iC 0), .c (iC 0)]), (1006, .row 147 2 (encPs x.2))]) (fun (x : Nat × List (Int × Int)) => x.1 ≤ ks.length ∧ x.2.length = x.1 ∧ rgTs vars ks = (rgTs vars (ks.drop x.1)).map (x.2 ++ ·) ∧ ∀ p ∈ x.2, bnd p) (fun (x : Nat × List (Int × Int)) => ks.length - x.1) (0, []) ⟨Nat.zero_le _, rfl, by simp, by simp⟩ ?_ ?_)
  · exact le_mk (fun n => n) [1006] rfl (by simp [*, upS, keepS]) (by simp [*, upS]) (by simp [upS])
  rintro ⟨k, acc⟩ ⟨hk, hal, hJ, hb⟩
  simp only [upS, keepS, insS]
  try simp only [keepS, List.contains_cons, List.contains_nil, Bool.or_false, Bool.or_true, Bool.true_or, Bool.false_or, Nat.reduceBEq, BEq.rfl, beq_self_eq_true, if_true, if_false, Bool.false_eq_true, ite_true, ite_false, ins, Nat.reduceLT]
  simp only at hk hal hJ hb
  refine HT_seq <| (HT_run (by simp [*]; rfl) ?_)
  refine HT_seq <| (HT_cond rfl (fun h5 => HT_skip ?_) (fun h5 => ?_))
  · try simp only [Bool.or_eq_true, Bool.and_eq_true, Bool.or_eq_false_iff, Bool.and_eq_false_iff, Bool.not_eq_true', Bool.not_eq_false', decide_eq_true_eq, decide_eq_false_iff_not] at h5
    have hlt : k < ks.length := by omega
    obtain ⟨⟨eo, en, ek⟩, he, hd⟩ := at_lt hlt
    have he' := get_encT he
    simp only [Tm.enc] at he'
    have hw1 := wrap1 hlt (by omega)
    rw [hd] at hJ
    simp only [rgTs] at hJ
    have hk1 : k + 1 ≤ ks.length := hlt
    have hmem : Tm.mk eo en ek ∈ ks := List.mem_of_getElem? he
    have hpb := rgP_bnd hv _ (formBs_mem hf.2 _ hmem)
    have hroom : room (k + 1) 16 := room_of (by omega) (by omega)
    clear hlt h5
    refine HT_seq <| HT_block <| HT_seq <| (HT_run (by simp [*]; rfl) ?_)
    refine HT_seq <| (HT_runc [⟨true, .tup [aP (rgP vars (.mk eo en ek)).1, lb (rgP vars (.mk eo en ek)).2], none⟩] (by simp [*]; first | exact ⟨rfl, Iff.rfl⟩ | exact ⟨rfl, trivial⟩ | rfl) ?_ ?_)
    · first | exact ih' _ hmem _ | exact trivial | simpa [*] using ih' _ hmem _
    refine HT_seq <| HT_seq <| (HT_run (by simp [*]; rfl) ?_)
    refine (HT_cond rfl (fun h9 => ?_) (fun h9 => HT_skip ?_))
    · try simp only [Bool.or_eq_true, Bool.and_eq_true, Bool.or_eq_false_iff, Bool.and_eq_false_iff, Bool.not_eq_true', Bool.not_eq_false', decide_eq_true_eq, decide_eq_false_iff_not] at h9
      rw [h9] at hJ
      simp only [Bool.false_eq_true, if_false, Option.map_none] at hJ
      rw [hJ] at hres
      subst hres
      refine HT_seq <| (HT_run (by simp [*]; rfl) ?_)
      exact (HT_retE (fun h => ⟨.inr rfl, h⟩) _ (by simp [*]; rfl) (by first | rfl | (simp [*]; done) | (simp only [resR]; (repeat' split) <;> first | rfl | (exfalso; omega) | simp_all)) (by simp))
    · try simp only [Bool.or_eq_true, Bool.and_eq_true, Bool.or_eq_false_iff, Bool.and_eq_false_iff, Bool.not_eq_true', Bool.not_eq_false', decide_eq_true_eq, decide_eq_false_iff_not] at h9
      rw [if_pos h9] at hJ
      refine (HT_run (by simp [*]; rfl) ?_)
      refine (HT_run (by simp [*]; rfl) ?_)
      exact ⟨(k + 1, acc ++ [(rgP vars (.mk eo en ek)).1]), ⟨hk1, by simp [hal], by rw [hJ, Option.map_map]; congr 1; funext z; simp, fun p hp => by
        rcases List.mem_append.1 hp with h | h
        · exact hb p h
        · simp only [List.mem_cons, List.not_mem_nil, or_false] at h
          rw [h]
          exact hpb h9⟩, by simp only; omega, le_mk (fun n => if n = 1006 then 31 else n) [] rfl (by simp [upS, keepS, *]) (by simp [*, upS]) (by simp [upS])⟩
  · try simp only [Bool.or_eq_true, Bool.and_eq_true, Bool.or_eq_false_iff, Bool.and_eq_false_iff, Bool.not_eq_true', Bool.not_eq_false', decide_eq_true_eq, decide_eq_false_iff_not] at h5
    have hkl : k = ks.length := by omega
    rw [hkl, List.drop_length] at hJ
    simp only [rgTs, Option.map_some, List.append_nil] at hJ
    rw [hJ] at hres
    subst hres
    have hf1 : nodeB vars inp o n acc.length = true := by rw [hal, hkl]; exact hf.1
    refine (HT_exit ?_)
    refine HT_seq <| (HT_runc [⟨true, .v (aP (ruleP vars o n acc)), none⟩] (by simp [*]; first | exact ⟨rfl, Iff.rfl⟩ | exact ⟨rfl, trivial⟩ | rfl) ?_ ?_)
    · first | exact rule_con vars inp o n _ acc hf1 hb _ | exact trivial | simpa [*] using rule_con vars inp o n _ acc hf1 hb _
    refine HT_seq <| (HT_drunH [(11, 11), (38, 11), (42, 11), (4, 4)] (by kernel_rfl) (by kernel_rfl) (by rfl) (by simp [evsH, hokB, hintOf, *]; rfl) ?_)
    exact (HT_retE (fun h => ⟨.inr rfl, h⟩) _ (by simp [*]; rfl) (by simp [resR, rgV, okR]) (by simp))

theorem Range_con (vars : List Vr) (inp : Bool) (hv : goodV vars) (t : Tm) : formB vars inp t = true → ∀ d : Nat,
    Con Tryz.prog 70 true [lV vars, aT t] (.tup [li (rgQ vars t).1.1, li (rgQ vars t).1.2, lb (rgQ vars t).2]) none d := by
  induction t using Tm.ind with
  | h o n ks ih =>
  intro hf d
  simp only [formB, Bool.and_eq_true] at hf
  have har := node_ar hf.1
  have hlen : ks.length ≤ 33 := by
    have : (kidsP o).2 ≤ 33 := by unfold kidsP; (repeat' split) <;> simp
    omega
  clear har
  obtain ⟨res, hres⟩ : ∃ r, rgQ vars (.mk o n ks) = r := ⟨_, rfl⟩
  rw [hres]
  simp only [rgQ] at hres
  have ih' : ∀ t ∈ ks, ∀ d, Con Tryz.prog 70 true [lV vars, aT t] (.tup [li (rgQ vars t).1.1, li (rgQ vars t).1.2, lb (rgQ vars t).2]) none d := fun t ht d => ih t ht (formBs_mem hf.2 t ht) d
  clear ih
  refine con_of_HT Tryz.func70 rfl (by kernel_rfl) (Nat.le_of_ble_eq_true rfl) ?_
  simp only [Tryz.f70]
  simp only [aT, Tm.enc]
  refine HT_seq <| (HT_run (by simp [*]; rfl) ?_)
  refine HT_seq <| (HT_run (by simp [*]; rfl) ?_)
  refine HT_seq <| (HT_run (by simp [*]; rfl) ?_)
  refine HT_seq <| HT_seq <| (HT_run (by simp [*]; rfl) ?_)
  refine HT_block <| (HT_loopU [0, 3] (fun (x : Nat × List (Int × Int)) => [(7, .v (.one (.own 1007))), (8, .v (.one (.own 1008))), (9, .v (li x.1))]) (fun (x : Nat × List (Int × Int)) => [(3, .box [.c (iC o), .c (iC n), .c (.sl 3 (encTs ks))]), (1007, .row 3 1 (lows x.2)), (1008, .row 3 1 (highs x.2))]) (fun (x : Nat × List (Int × Int)) => x.1 ≤ ks.length ∧ x.2.length = x.1 ∧ rgTs vars ks = (rgTs vars (ks.drop x.1)).map (x.2 ++ ·) ∧ ∀ p ∈ x.2, bnd p) (fun (x : Nat × List (Int × Int)) => ks.length - x.1) (0, []) ⟨Nat.zero_le _, rfl, by simp, by simp⟩ ?_ ?_)
  · exact le_mk (fun n => if n = 1007 then 15 else if n = 1008 then 16 else n) [] rfl (by simp [*, upS, keepS]) (by simp [*, upS]) (by simp [upS])
  rintro ⟨k, acc⟩ ⟨hk, hal, hJ, hb⟩
  simp only [upS, keepS, insS]
  try simp only [keepS, List.contains_cons, List.contains_nil, Bool.or_false, Bool.or_true, Bool.true_or, Bool.false_or, Nat.reduceBEq, BEq.rfl, beq_self_eq_true, if_true, if_false, Bool.false_eq_true, ite_true, ite_false, ins, Nat.reduceLT]
  simp only at hk hal hJ hb
  refine HT_seq <| HT_seq <| (HT_run (by simp [*]; rfl) ?_)
  refine (HT_cond rfl (fun h6 => HT_skip ?_) (fun h6 => ?_))
  · try simp only [Bool.or_eq_true, Bool.and_eq_true, Bool.or_eq_false_iff, Bool.and_eq_false_iff, Bool.not_eq_true', Bool.not_eq_false', decide_eq_true_eq, decide_eq_false_iff_not] at h6
    have hlt : k < ks.length := by omega
    obtain ⟨⟨eo, en, ek⟩, he, hd⟩ := at_lt hlt
    have he' := get_encT he
    simp only [Tm.enc] at he'
    have hw1 := wrap1 hlt (by omega)
    rw [hd] at hJ
    simp only [rgTs] at hJ
    have hk1 : k + 1 ≤ ks.length := hlt
    have hmem : Tm.mk eo en ek ∈ ks := List.mem_of_getElem? he
    have hpb := rgP_bnd hv _ (formBs_mem hf.2 _ hmem)
    have hroom : room (k + 1) 8 := room_of (by omega) (by omega)
    rw [← (rgQ_ok vars (.mk eo en ek)).1] at hJ hpb
    clear hlt h6
    refine HT_seq <| HT_block <| HT_seq <| (HT_runc [⟨true, .tup [li (rgQ vars (.mk eo en ek)).1.1, li (rgQ vars (.mk eo en ek)).1.2, lb (rgQ vars (.mk eo en ek)).2], none⟩] (by simp [*]; first | exact ⟨rfl, Iff.rfl⟩ | exact ⟨rfl, trivial⟩ | rfl) ?_ ?_)
    · first | exact ih' _ hmem _ | exact trivial | simpa [*] using ih' _ hmem _
    refine HT_seq <| HT_seq <| (HT_run (by simp [*]; rfl) ?_)
    refine (HT_cond rfl (fun h9 => ?_) (fun h9 => HT_skip ?_))
    · try simp only [Bool.or_eq_true, Bool.and_eq_true, Bool.or_eq_false_iff, Bool.and_eq_false_iff, Bool.not_eq_true', Bool.not_eq_false', decide_eq_true_eq, decide_eq_false_iff_not] at h9
      rw [h9] at hJ
      simp only [Bool.false_eq_true, if_false, Option.map_none] at hJ
      rw [hJ] at hres
      subst hres
      refine HT_seq <| (HT_run (by simp [*]; rfl) ?_)
      exact (HT_retE (fun h => ⟨.inr rfl, h⟩) _ (by simp [*]; rfl) (by first | rfl | (simp [*]; done) | (simp only [resR]; (repeat' split) <;> first | rfl | (exfalso; omega) | simp_all)) (by simp))
    · try simp only [Bool.or_eq_true, Bool.and_eq_true, Bool.or_eq_false_iff, Bool.and_eq_false_iff, Bool.not_eq_true', Bool.not_eq_false', decide_eq_true_eq, decide_eq_false_iff_not] at h9
      rw [if_pos h9] at hJ
      have hq2 := (rgQ_ok vars (.mk eo en ek)).2 (by rw [← (rgQ_ok vars (.mk eo en ek)).1]; exact h9)
      refine HT_seq <| (HT_run (by simp [*]; rfl) ?_)
      refine (HT_run (by simp [*]; rfl) ?_)
      refine (HT_run (by simp [*]; rfl) ?_)
      exact ⟨(k + 1, acc ++ [(rgP vars (.mk eo en ek)).1]), ⟨hk1, by simp [hal], by rw [hJ, Option.map_map]; congr 1; funext z; simp, fun p hp => by
        rcases List.mem_append.1 hp with h | h
        · exact hb p h
        · simp only [List.mem_cons, List.not_mem_nil, or_false] at h
          rw [h]
          exact hpb h9⟩, by simp only; omega, le_mk (fun n => if n = 1007 then 40 else if n = 1008 then 44 else n) [] rfl (by simp [upS, keepS, *]) (by simp [*, upS]) (by simp [upS])⟩
  · try simp only [Bool.or_eq_true, Bool.and_eq_true, Bool.or_eq_false_iff, Bool.and_eq_false_iff, Bool.not_eq_true', Bool.not_eq_false', decide_eq_true_eq, decide_eq_false_iff_not] at h6
    have hkl : k = ks.length := by omega
    rw [hkl, List.drop_length] at hJ
    simp only [rgTs, Option.map_some, List.append_nil] at hJ
    rw [hJ] at hres
    subst hres
    have hf1 : nodeB vars inp o n acc.length = true := by rw [hal, hkl]; exact hf.1
    refine (HT_exit ?_)
    refine HT_seq <| (HT_runc [⟨true, .tup [li (spanR vars o n acc).1, li (spanR vars o n acc).2], none⟩] (by simp [*]; first | exact ⟨rfl, Iff.rfl⟩ | exact ⟨rfl, trivial⟩ | rfl) ?_ ?_)
    · first | exact span_con vars inp o n _ acc hf1 hb _ | exact trivial | simpa [*] using span_con vars inp o n _ acc hf1 hb _
    refine HT_seq <| (HT_run (by simp [*]; rfl) ?_)
    exact (HT_retE (fun h => ⟨.inr rfl, h⟩) _ (by simp [*]; rfl) (by simp [resR, rgW, okR]) (by simp))

def termC (vars : List Vr) (inp : Bool) (t : Tm) : Int := if formB vars inp t = true then (if (rgP vars t).2 = true then 0 else 3) else 1
theorem termP_con (vars : List Vr) (inp : Bool) (hv : goodV vars) (hl : vars.length ≤ 1000000000) (t : Tm) (hn : t.nodes ≤ 1000000000) (d : Nat) :
    Con Tryz.prog 89 true [lV vars, aT t, lb inp] (.v (li (termC vars inp t))) none d := by
  have c1 := formP_con vars inp hl t hn
  have c2 := ranged_con vars inp hv t
  obtain ⟨o, n, ks⟩ := t
  obtain ⟨F, hF⟩ : ∃ F, formB vars inp (.mk o n ks) = F := ⟨_, rfl⟩
  obtain ⟨R, hR⟩ : ∃ R, rgP vars (.mk o n ks) = R := ⟨_, rfl⟩
  simp only [termC, hF, hR] at c1 c2 ⊢
  clear hF hR
  refine con_of_HT Tryz.func89 rfl (by kernel_rfl) (Nat.le_of_ble_eq_true rfl) ?_
  simp only [Tryz.f89]
  simp only [aT, Tm.enc] at c1 c2 ⊢
  refine HT_seq <| (HT_run (by simp [*]; rfl) ?_)
  refine HT_seq <| HT_seq <| (HT_runc [⟨true, .v (lb F), none⟩] (by simp [*]; first | exact ⟨rfl, Iff.rfl⟩ | exact ⟨rfl, trivial⟩ | rfl) ?_ ?_)
  · first | exact c1 _ | exact trivial | simpa [*] using c1 _
  refine (HT_cond rfl (fun h2 => ?_) (fun h2 => HT_skip ?_))
  · try simp only [Bool.or_eq_true, Bool.and_eq_true, Bool.or_eq_false_iff, Bool.and_eq_false_iff, Bool.not_eq_true', Bool.not_eq_false', decide_eq_true_eq, decide_eq_false_iff_not] at h2
    refine HT_seq <| (HT_run (by simp [*]; rfl) ?_)
    exact (HT_retE (fun h => ⟨.inr rfl, h⟩) _ (by simp [*]; rfl) (by first | rfl | (simp [*]; done) | (simp only [resR]; (repeat' split) <;> first | rfl | (exfalso; omega) | simp_all)) (by simp))
  · try simp only [Bool.or_eq_true, Bool.and_eq_true, Bool.or_eq_false_iff, Bool.and_eq_false_iff, Bool.not_eq_true', Bool.not_eq_false', decide_eq_true_eq, decide_eq_false_iff_not] at h2
    refine HT_seq <| HT_seq <| (HT_runc [⟨true, .tup [aP R.1, lb R.2], none⟩] (by simp [*]; first | exact ⟨rfl, Iff.rfl⟩ | exact ⟨rfl, trivial⟩ | rfl) ?_ ?_)
    · first | exact c2 h2 _ | exact trivial | simpa [*] using c2 h2 _
    refine HT_seq <| (HT_run (by simp [*]; rfl) ?_)
    refine (HT_cond rfl (fun h7 => ?_) (fun h7 => HT_skip ?_))
    · try simp only [Bool.or_eq_true, Bool.and_eq_true, Bool.or_eq_false_iff, Bool.and_eq_false_iff, Bool.not_eq_true', Bool.not_eq_false', decide_eq_true_eq, decide_eq_false_iff_not] at h7
      refine HT_seq <| (HT_run (by simp [*]; rfl) ?_)
      exact (HT_retE (fun h => ⟨.inr rfl, h⟩) _ (by simp [*]; rfl) (by first | rfl | (simp [*]; done) | (simp only [resR]; (repeat' split) <;> first | rfl | (exfalso; omega) | simp_all)) (by simp))
    · try simp only [Bool.or_eq_true, Bool.and_eq_true, Bool.or_eq_false_iff, Bool.and_eq_false_iff, Bool.not_eq_true', Bool.not_eq_false', decide_eq_true_eq, decide_eq_false_iff_not] at h7
      refine HT_seq <| (HT_run (by simp [*]; rfl) ?_)
      exact (HT_retE (fun h => ⟨.inr rfl, h⟩) _ (by simp [*]; rfl) (by first | rfl | (simp [*]; done) | (simp only [resR]; (repeat' split) <;> first | rfl | (exfalso; omega) | simp_all)) (by simp))
theorem termR_con (vars : List Vr) (inp : Bool) (hv : goodV vars) (hl : vars.length ≤ 1000000000) (t : Tm) (hn : t.nodes ≤ 1000000000) (d : Nat) :
    Con Tryz.prog 35 true [lV vars, aT t, lb inp] (.v (li (termC vars inp t))) none d := by
  have c1 := formR_con vars inp hl t hn
  have c2 := Range_con vars inp hv t
  rw [(rgQ_ok vars t).1] at c2
  obtain ⟨o, n, ks⟩ := t
  obtain ⟨F, hF⟩ : ∃ F, formB vars inp (.mk o n ks) = F := ⟨_, rfl⟩
  obtain ⟨R, hR⟩ : ∃ R, (rgP vars (.mk o n ks)).2 = R := ⟨_, rfl⟩
  obtain ⟨S, hS⟩ : ∃ S, (rgQ vars (.mk o n ks)).1 = S := ⟨_, rfl⟩
  simp only [termC, hF, hR, hS] at c1 c2 ⊢
  clear hF hR hS
  refine con_of_HT Tryz.func35 rfl (by kernel_rfl) (Nat.le_of_ble_eq_true rfl) ?_
  simp only [Tryz.f35]
  simp only [aT, Tm.enc] at c1 c2 ⊢
  refine HT_seq <| (HT_run (by simp [*]; rfl) ?_)
  refine HT_seq <| HT_seq <| (HT_runc [⟨true, .v (lb F), none⟩] (by simp [*]; first | exact ⟨rfl, Iff.rfl⟩ | exact ⟨rfl, trivial⟩ | rfl) ?_ ?_)
  · first | exact c1 _ | exact trivial | simpa [*] using c1 _
  refine (HT_cond rfl (fun h2 => ?_) (fun h2 => HT_skip ?_))
  · try simp only [Bool.or_eq_true, Bool.and_eq_true, Bool.or_eq_false_iff, Bool.and_eq_false_iff, Bool.not_eq_true', Bool.not_eq_false', decide_eq_true_eq, decide_eq_false_iff_not] at h2
    refine HT_seq <| (HT_run (by simp [*]; rfl) ?_)
    exact (HT_retE (fun h => ⟨.inr rfl, h⟩) _ (by simp [*]; rfl) (by first | rfl | (simp [*]; done) | (simp only [resR]; (repeat' split) <;> first | rfl | (exfalso; omega) | simp_all)) (by simp))
  · try simp only [Bool.or_eq_true, Bool.and_eq_true, Bool.or_eq_false_iff, Bool.and_eq_false_iff, Bool.not_eq_true', Bool.not_eq_false', decide_eq_true_eq, decide_eq_false_iff_not] at h2
    refine HT_seq <| (HT_runc [⟨true, .tup [li S.1, li S.2, lb R], none⟩] (by simp [*]; first | exact ⟨rfl, Iff.rfl⟩ | exact ⟨rfl, trivial⟩ | rfl) ?_ ?_)
    · first | exact c2 h2 _ | exact trivial | simpa [*] using c2 h2 _
    refine HT_seq <| HT_seq <| (HT_run (by simp [*]; rfl) ?_)
    refine (HT_cond rfl (fun h7 => ?_) (fun h7 => HT_skip ?_))
    · try simp only [Bool.or_eq_true, Bool.and_eq_true, Bool.or_eq_false_iff, Bool.and_eq_false_iff, Bool.not_eq_true', Bool.not_eq_false', decide_eq_true_eq, decide_eq_false_iff_not] at h7
      refine HT_seq <| (HT_run (by simp [*]; rfl) ?_)
      exact (HT_retE (fun h => ⟨.inr rfl, h⟩) _ (by simp [*]; rfl) (by first | rfl | (simp [*]; done) | (simp only [resR]; (repeat' split) <;> first | rfl | (exfalso; omega) | simp_all)) (by simp))
    · try simp only [Bool.or_eq_true, Bool.and_eq_true, Bool.or_eq_false_iff, Bool.and_eq_false_iff, Bool.not_eq_true', Bool.not_eq_false', decide_eq_true_eq, decide_eq_false_iff_not] at h7
      refine HT_seq <| (HT_run (by simp [*]; rfl) ?_)
      exact (HT_retE (fun h => ⟨.inr rfl, h⟩) _ (by simp [*]; rfl) (by first | rfl | (simp [*]; done) | (simp only [resR]; (repeat' split) <;> first | rfl | (exfalso; omega) | simp_all)) (by simp))
end Go.Proofs.YtfilidjbpomgoaaGreat

namespace Go.Proofs.YtfilidjbpomgoaaGreat
open Go Go.Hl

@[simp] theorem take_encV (l : List Vr) (i : Nat) : (encVs l).take i = encVs (l.take i) := by simp [encVs]
@[simp] theorem encV_snoc (l : List Vr) (v : Vr) : encVs (l ++ [v]) = encVs l ++ [v.enc] := by simp [encVs]
theorem take_snoc {α : Type} {l : List α} {k : Nat} {x : α} (h : l[k]? = some x) : l.take (k + 1) = l.take k ++ [x] := by
  rw [List.take_add_one, h]; rfl

theorem nameR_con (s : ByteArray) (d : Nat) : Con Tryz.prog 33 true [sv s] (.v (lb (nameB s))) none d := by
  refine con_of_HT Tryz.func33 rfl (by kernel_rfl) (Nat.le_of_ble_eq_true rfl) ?_
  simp only [Tryz.f33]
  refine HT_seq <| (HT_run (by simp [*]; rfl) ?_)
  refine HT_seq <| HT_seq <| (HT_run (by simp [*]; rfl) ?_)
  refine (HT_cond rfl (fun h2 => ?_) (fun h2 => HT_skip ?_))
  · try simp only [Bool.or_eq_true, Bool.and_eq_true, Bool.or_eq_false_iff, Bool.and_eq_false_iff, Bool.not_eq_true', Bool.not_eq_false', decide_eq_true_eq, decide_eq_false_iff_not] at h2
    have hz : nameB s = false := by
      unfold nameB
      rw [Bool.and_eq_false_iff, Bool.and_eq_false_iff]
      simp only [decide_eq_false_iff_not]
      omega
    refine HT_seq <| (HT_run (by simp [*]; rfl) ?_)
    exact (HT_retE (fun h => ⟨.inr rfl, h⟩) _ (by simp [*]; rfl) (by first | rfl | (simp [*]; done) | (simp only [resR]; (repeat' split) <;> first | rfl | (exfalso; omega) | simp_all)) (by simp))
  · try simp only [Bool.or_eq_true, Bool.and_eq_true, Bool.or_eq_false_iff, Bool.and_eq_false_iff, Bool.not_eq_true', Bool.not_eq_false', decide_eq_true_eq, decide_eq_false_iff_not] at h2
    have h1 : 1 ≤ s.size := by omega
    have h40 : s.size ≤ 40 := by omega
    refine HT_seq <| HT_seq <| (HT_run (by simp [*]; rfl) ?_)
    refine HT_block <| (HT_loopU [0] (fun (x : Nat) => [(3, .v (li x))]) (fun (x : Nat) => []) (fun (x : Nat) => x ≤ s.size ∧ ∀ j : Nat, j < x → chOk s j = true) (fun (x : Nat) => s.size - x) (0 : Nat) ⟨Nat.zero_le _, fun j hj => absurd hj (Nat.not_lt_zero j)⟩ ?_ ?_)
    · exact le_mk (fun n => n) [] rfl (by simp [*, upS, keepS]) (by simp [*, upS]) (by simp [upS])
    rintro k ⟨hk, hall⟩
    simp only [upS, keepS, insS]
    try simp only [keepS, List.contains_cons, List.contains_nil, Bool.or_false, Bool.or_true, Bool.true_or, Bool.false_or, Nat.reduceBEq, BEq.rfl, beq_self_eq_true, if_true, if_false, Bool.false_eq_true, ite_true, ite_false, ins, Nat.reduceLT]
    refine HT_seq <| HT_seq <| (HT_run (by simp [*]; rfl) ?_)
    refine (HT_cond rfl (fun h8 => HT_skip ?_) (fun h8 => ?_))
    · try simp only [Bool.or_eq_true, Bool.and_eq_true, Bool.or_eq_false_iff, Bool.and_eq_false_iff, Bool.not_eq_true', Bool.not_eq_false', decide_eq_true_eq, decide_eq_false_iff_not] at h8
      have hlt : k < s.size := by omega
      obtain ⟨b, hb⟩ := get_bytes hlt
      have hw := wrap1 hlt (by omega)
      have hk1 : k + 1 ≤ s.size := hlt
      clear hlt h8
      refine HT_seq <| HT_block <| HT_seq <| (HT_run (by simp [*]; rfl) ?_)
      refine HT_seq <| (HT_run (by simp [*]; rfl) ?_)
      refine HT_seq <| (HT_run (by simp [*]; rfl) ?_)
      refine HT_seq <| (HT_run (by simp [*]; rfl) ?_)
      refine (HT_cond rfl (fun h13 => ?_) (fun h13 => HT_skip ?_))
      · try simp only [Bool.or_eq_true, Bool.and_eq_true, Bool.or_eq_false_iff, Bool.and_eq_false_iff, Bool.not_eq_true', Bool.not_eq_false', decide_eq_true_eq, decide_eq_false_iff_not] at h13
        have hbad : chOk s k = false := by
          unfold chOk
          rw [hb]
          simp only [Bool.or_eq_false_iff, Bool.and_eq_false_iff, decide_eq_false_iff_not]
          omega
        have hz := nameB_bad hk1 hbad
        refine HT_seq <| (HT_run (by simp [*]; rfl) ?_)
        exact (HT_retE (fun h => ⟨.inr rfl, h⟩) _ (by simp [*]; rfl) (by first | rfl | (simp [*]; done) | (simp only [resR]; (repeat' split) <;> first | rfl | (exfalso; omega) | simp_all)) (by simp))
      · try simp only [Bool.or_eq_true, Bool.and_eq_true, Bool.or_eq_false_iff, Bool.and_eq_false_iff, Bool.not_eq_true', Bool.not_eq_false', decide_eq_true_eq, decide_eq_false_iff_not] at h13
        have hgood : chOk s k = true := by
          unfold chOk
          rw [hb]
          simp only [Bool.or_eq_true, Bool.and_eq_true, decide_eq_true_eq]
          omega
        refine (HT_run (by simp [*]; rfl) ?_)
        exact ⟨k + 1, ⟨by omega, fun j hj => (Nat.lt_succ_iff_lt_or_eq.1 hj).elim (hall j) (fun e => e ▸ hgood)⟩, by omega, le_mk (fun n => n) [] rfl (by simp [upS, keepS, *]) (by simp [*, upS]) (by simp [upS])⟩
    · try simp only [Bool.or_eq_true, Bool.and_eq_true, Bool.or_eq_false_iff, Bool.and_eq_false_iff, Bool.not_eq_true', Bool.not_eq_false', decide_eq_true_eq, decide_eq_false_iff_not] at h8
      have hz := nameB_good h1 h40 (fun j hj => hall j (by omega))
      refine (HT_exit ?_)
      refine HT_seq <| (HT_run (by simp [*]; rfl) ?_)
      exact (HT_retE (fun h => ⟨.inr rfl, h⟩) _ (by simp [*]; rfl) (by first | rfl | (simp [*]; done) | (simp only [resR]; (repeat' split) <;> first | rfl | (exfalso; omega) | simp_all)) (by simp))

/-! ## spaces -/
def sz (v : Vr) : Int := v.high - v.low + 1
def prV : List Vr → Int → Int
  | [], n => n
  | v :: l, n => if 4096 < n * sz v then 4097 else prV l (n * sz v)
def spc (vars : List Vr) (kind : Int) : Int := prV (vars.filter fun v => decide (v.kind = kind)) 1
def goodV' (vars : List Vr) : Prop := ∀ v ∈ vars, v.low ≤ v.high ∧ -1048576 ≤ v.low ∧ v.high ≤ 1048576
theorem sz_in {vars : List Vr} (h : goodV' vars) {v : Vr} (hv : v ∈ vars) : 1 ≤ sz v ∧ sz v ≤ 2097153 := by
  have := h v hv
  unfold sz
  omega
theorem mul_in {n s : Int} (h1 : 1 ≤ n ∧ n ≤ 4096) (h2 : 1 ≤ s ∧ s ≤ 2097153) : 1 ≤ n * s ∧ n * s ≤ 8589938688 := by
  have h3 : n.natAbs * s.natAbs ≤ 4096 * 2097153 := Nat.mul_le_mul (by omega) (by omega)
  have h4 : 1 * 1 ≤ n.natAbs * s.natAbs := Nat.mul_le_mul (by omega) (by omega)
  rw [← Int.natAbs_mul] at h3 h4
  have h5 : 0 ≤ n * s := Int.mul_nonneg (by omega) (by omega)
  omega
theorem prV_in {vars : List Vr} (h : goodV' vars) : ∀ (l : List Vr) (n : Int), (∀ v ∈ l, v ∈ vars) → 1 ≤ n ∧ n ≤ 4096 → 1 ≤ prV l n ∧ prV l n ≤ 4097
  | [], n, _, hn => by simp only [prV]; omega
  | v :: l, n, hl, hn => by
    simp only [prV]
    have := mul_in hn (sz_in h (hl v (by simp)))
    split
    · omega
    · exact prV_in h l _ (fun w hw => hl w (List.mem_cons_of_mem _ hw)) (by omega)

theorem spaceR_con (vars : List Vr) (kind : Int) (hv : goodV' vars) (hl : vars.length ≤ 1000000000) (d : Nat) : Con Tryz.prog 68 true [lV vars, li kind] (.v (li (spc vars kind))) none d := by
  obtain ⟨res, hres⟩ : ∃ r, spc vars kind = r := ⟨_, rfl⟩
  rw [hres]
  unfold spc at hres
  refine con_of_HT Tryz.func68 rfl (by kernel_rfl) (Nat.le_of_ble_eq_true rfl) ?_
  simp only [Tryz.f68]
  refine HT_seq <| (HT_run (by simp [*]; rfl) ?_)
  refine HT_seq <| (HT_run (by simp [*]; rfl) ?_)
  refine HT_seq <| HT_seq <| (HT_run (by simp [*]; rfl) ?_)
  refine HT_block <| (HT_loopU [0, 1] (fun (x : Nat × Int) => [(5, .v (li x.2)), (6, .v (li x.1))]) (fun (x : Nat × Int) => []) (fun (x : Nat × Int) => x.1 ≤ vars.length ∧ prV ((vars.drop x.1).filter fun v => decide (v.kind = kind)) x.2 = res ∧ 1 ≤ x.2 ∧ x.2 ≤ 4096) (fun (x : Nat × Int) => vars.length - x.1) (0, 1) ⟨Nat.zero_le _, hres, by decide, by decide⟩ ?_ ?_)
  · exact le_mk (fun n => n) [] rfl (by simp [*, upS, keepS]) (by simp [*, upS]) (by simp [upS])
  rintro ⟨k, n⟩ ⟨hk, hJ, hn1, hn2⟩
  simp only [upS, keepS, insS]
  try simp only [keepS, List.contains_cons, List.contains_nil, Bool.or_false, Bool.or_true, Bool.true_or, Bool.false_or, Nat.reduceBEq, BEq.rfl, beq_self_eq_true, if_true, if_false, Bool.false_eq_true, ite_true, ite_false, ins, Nat.reduceLT]
  simp only at hk hJ hn1 hn2
  clear hres
  refine HT_seq <| HT_seq <| (HT_run (by simp [*]; rfl) ?_)
  refine (HT_cond rfl (fun h5 => HT_skip ?_) (fun h5 => ?_))
  · try simp only [Bool.or_eq_true, Bool.and_eq_true, Bool.or_eq_false_iff, Bool.and_eq_false_iff, Bool.not_eq_true', Bool.not_eq_false', decide_eq_true_eq, decide_eq_false_iff_not] at h5
    have hlt : k < vars.length := by omega
    obtain ⟨v, he, hd⟩ := at_lt hlt
    have hw1 := wrap1 hlt (by omega)
    have hk1 : k + 1 ≤ vars.length := hlt
    have hmem : v ∈ vars := List.mem_of_getElem? he
    have hs := sz_in hv hmem
    have hm := mul_in ⟨hn1, hn2⟩ hs
    have hb := hv v hmem
    have hw2 : IntKind.i64.wrap (v.high - v.low) = v.high - v.low := wrap_in (by omega) (by omega)
    have hw3 : IntKind.i64.wrap (v.high - v.low + 1) = sz v := by rw [wrap_in (by omega) (by omega)]; rfl
    have hw4 : IntKind.i64.wrap (n * sz v) = n * sz v := wrap_in (by omega) (by omega)
    rw [hd] at hJ
    clear hlt h5 hv
    refine HT_seq <| HT_block <| HT_seq <| HT_seq <| (HT_run (by simp [*]; rfl) ?_)
    refine (HT_cond rfl (fun h7 => ?_) (fun h7 => HT_skip ?_))
    · try simp only [Bool.or_eq_true, Bool.and_eq_true, Bool.or_eq_false_iff, Bool.and_eq_false_iff, Bool.not_eq_true', Bool.not_eq_false', decide_eq_true_eq, decide_eq_false_iff_not] at h7
      rw [List.filter_cons_of_neg (by simpa using h7)] at hJ
      refine (HT_exit ?_)
      refine (HT_run (by simp [*]; rfl) ?_)
      exact ⟨(k + 1, n), ⟨hk1, hJ, hn1, hn2⟩, by simp only; omega, le_mk (fun n => n) [] rfl (by simp [upS, keepS, *]) (by simp [*, upS]) (by simp [upS])⟩
    · try simp only [Bool.or_eq_true, Bool.and_eq_true, Bool.or_eq_false_iff, Bool.and_eq_false_iff, Bool.not_eq_true', Bool.not_eq_false', decide_eq_true_eq, decide_eq_false_iff_not] at h7
      rw [List.filter_cons_of_pos (by simpa using h7)] at hJ
      simp only [prV] at hJ
      refine HT_seq <| (HT_drun (by kernel_rfl) (by kernel_rfl) (by rfl) (by simp [*]; rfl) ?_)
      refine HT_seq <| (HT_run (by simp [*]; rfl) ?_)
      refine (HT_cond rfl (fun h12 => ?_) (fun h12 => HT_skip ?_))
      · try simp only [Bool.or_eq_true, Bool.and_eq_true, Bool.or_eq_false_iff, Bool.and_eq_false_iff, Bool.not_eq_true', Bool.not_eq_false', decide_eq_true_eq, decide_eq_false_iff_not] at h12
        rw [if_pos h12] at hJ
        subst hJ
        refine HT_seq <| (HT_run (by simp [*]; rfl) ?_)
        exact (HT_retE (fun h => ⟨.inr rfl, h⟩) _ (by simp [*]; rfl) (by first | rfl | (simp [*]; done) | (simp only [resR]; (repeat' split) <;> first | rfl | (exfalso; omega) | simp_all)) (by simp))
      · try simp only [Bool.or_eq_true, Bool.and_eq_true, Bool.or_eq_false_iff, Bool.and_eq_false_iff, Bool.not_eq_true', Bool.not_eq_false', decide_eq_true_eq, decide_eq_false_iff_not] at h12
        rw [if_neg h12] at hJ
        refine (HT_run (by simp [*]; rfl) ?_)
        exact ⟨(k + 1, n * sz v), ⟨hk1, hJ, hm.1, by simp only; omega⟩, by simp only; omega, le_mk (fun n => n) [] rfl (by simp [upS, keepS, *]) (by simp [*, upS]) (by simp [upS])⟩
  · try simp only [Bool.or_eq_true, Bool.and_eq_true, Bool.or_eq_false_iff, Bool.and_eq_false_iff, Bool.not_eq_true', Bool.not_eq_false', decide_eq_true_eq, decide_eq_false_iff_not] at h5
    have hkl : k = vars.length := by omega
    rw [hkl, List.drop_length] at hJ
    simp only [List.filter_nil, prV] at hJ
    refine (HT_exit ?_)
    refine HT_seq <| (HT_run (by simp [*]; rfl) ?_)
    exact (HT_retE (fun h => ⟨.inr rfl, h⟩) _ (by simp [*]; rfl) (by subst hJ; rfl) (by simp))

theorem sizeD_con (v : Vr) (hv : -1048576 ≤ v.low ∧ v.low ≤ v.high ∧ v.high ≤ 1048576) (d : Nat) : Con Tryz.prog 120 true [aV v] (.v (li (sz v))) none d := by
  have hw2 : IntKind.i64.wrap (v.high - v.low) = v.high - v.low := wrap_in (by omega) (by omega)
  have hw3 : IntKind.i64.wrap (v.high - v.low + 1) = sz v := by rw [wrap_in (by omega) (by omega)]; rfl
  refine con_of_HT Tryz.func120 rfl (by kernel_rfl) (Nat.le_of_ble_eq_true rfl) ?_
  simp only [Tryz.f120]
  refine HT_seq <| (HT_run (by simp [*]; rfl) ?_)
  refine HT_seq <| (HT_run (by simp [*]; rfl) ?_)
  exact (HT_retE (fun h => ⟨.inr rfl, h⟩) _ (by simp [*]; rfl) (by first | rfl | (simp [*]; done) | (simp only [resR]; (repeat' split) <;> first | rfl | (exfalso; omega) | simp_all)) (by simp))
def chR (vars : List Vr) (kind : Int) : RV := if spc vars kind ≤ 4096 then .tup [.one (.c (.sl 5 (encVs (vars.filter fun v => decide (v.kind = kind))))), li (spc vars kind), li 0] else .tup [.one (.c (.lit nilS)), li 0, li 4]
theorem chosen_con (vars : List Vr) (kind : Int) (hkd : 1 ≤ kind ∧ kind ≤ 3) (hv : goodV' vars) (hl : vars.length ≤ 1000000) (d : Nat) : Con Tryz.prog 106 false [lV vars, li kind] (chR vars kind) none d := by
  obtain ⟨S, hS⟩ : ∃ S, vars.filter (fun v => decide (v.kind = kind)) = S := ⟨_, rfl⟩
  obtain ⟨res, hres⟩ : ∃ r, spc vars kind = r := ⟨_, rfl⟩
  unfold chR
  rw [hres, hS]
  unfold spc at hres
  rw [hS] at hres
  refine con_of_HT Tryz.func106 rfl (by kernel_rfl) (Nat.le_of_ble_eq_true rfl) ?_
  simp only [Tryz.f106]
  refine HT_seq <| (HT_run (by simp [*]; rfl) ?_)
  refine (HT_cutU [0, 1] (fun (z : Unit) => []) (fun (z : Unit) => []) (fun (z : Unit) => True) ?_ ?_)
  ·
    refine HT_seq <| (HT_run (by simp [*]; rfl) ?_)
    refine HT_block <| (HT_cutU [0, 1] (fun (z : Bool) => [(14, .v (lb z))]) (fun (z : Bool) => []) (fun (z : Bool) => z = true) ?_ ?_)
    ·
      refine HT_seq <| (HT_run (by simp [*]; rfl) ?_)
      refine (HT_cond rfl (fun h5 => HT_skip ?_) (fun h5 => ?_))
      · try simp only [Bool.or_eq_true, Bool.and_eq_true, Bool.or_eq_false_iff, Bool.and_eq_false_iff, Bool.not_eq_true', Bool.not_eq_false', decide_eq_true_eq, decide_eq_false_iff_not] at h5
        exact ⟨true, rfl, le_mk (fun n => n) [] rfl (by simp [upS, keepS, *]) (by simp [*, upS]) (by simp [upS])⟩
      · try simp only [Bool.or_eq_true, Bool.and_eq_true, Bool.or_eq_false_iff, Bool.and_eq_false_iff, Bool.not_eq_true', Bool.not_eq_false', decide_eq_true_eq, decide_eq_false_iff_not] at h5
        refine HT_seq <| (HT_run (by simp [*]; rfl) ?_)
        refine (HT_cond rfl (fun h8 => HT_skip ?_) (fun h8 => ?_))
        · try simp only [Bool.or_eq_true, Bool.and_eq_true, Bool.or_eq_false_iff, Bool.and_eq_false_iff, Bool.not_eq_true', Bool.not_eq_false', decide_eq_true_eq, decide_eq_false_iff_not] at h8
          exact ⟨true, rfl, le_mk (fun n => n) [] rfl (by simp [upS, keepS, *]) (by simp [*, upS]) (by simp [upS])⟩
        · try simp only [Bool.or_eq_true, Bool.and_eq_true, Bool.or_eq_false_iff, Bool.and_eq_false_iff, Bool.not_eq_true', Bool.not_eq_false', decide_eq_true_eq, decide_eq_false_iff_not] at h8
          refine HT_seq <| (HT_run (by simp [*]; rfl) ?_)
          refine (HT_cond rfl (fun h11 => HT_skip ?_) (fun h11 => ?_))
          · try simp only [Bool.or_eq_true, Bool.and_eq_true, Bool.or_eq_false_iff, Bool.and_eq_false_iff, Bool.not_eq_true', Bool.not_eq_false', decide_eq_true_eq, decide_eq_false_iff_not] at h11
            exact ⟨true, rfl, le_mk (fun n => n) [] rfl (by simp [upS, keepS, *]) (by simp [*, upS]) (by simp [upS])⟩
          · try simp only [Bool.or_eq_true, Bool.and_eq_true, Bool.or_eq_false_iff, Bool.and_eq_false_iff, Bool.not_eq_true', Bool.not_eq_false', decide_eq_true_eq, decide_eq_false_iff_not] at h11
            refine (HT_run (by simp [*]; rfl) ?_)
            have hz : decide (kind = 3) = true := by rw [decide_eq_true_eq]; omega
            exact ⟨true, rfl, le_mk (fun n => n) [] rfl (by simp [upS, keepS, *]) (by simp [*, upS]) (by simp [upS])⟩
    rintro _ rfl
    simp only [upS, keepS, insS]
    try simp only [keepS, List.contains_cons, List.contains_nil, Bool.or_false, Bool.or_true, Bool.true_or, Bool.false_or, Nat.reduceBEq, BEq.rfl, beq_self_eq_true, if_true, if_false, Bool.false_eq_true, ite_true, ite_false, ins, Nat.reduceLT]
    refine (HT_cond rfl (fun h15 => HT_skip ?_) (fun h15 => ?_))
    · try simp only [Bool.or_eq_true, Bool.and_eq_true, Bool.or_eq_false_iff, Bool.and_eq_false_iff, Bool.not_eq_true', Bool.not_eq_false', decide_eq_true_eq, decide_eq_false_iff_not] at h15
      exact ⟨(), trivial, le_mk (fun n => n) [] rfl (by simp [upS, keepS, *]) (by simp [*, upS]) (by simp [upS])⟩
    · exact absurd h15 (by simp)
  rintro z hz
  simp only [upS, keepS, insS]
  try simp only [keepS, List.contains_cons, List.contains_nil, Bool.or_false, Bool.or_true, Bool.true_or, Bool.false_or, Nat.reduceBEq, BEq.rfl, beq_self_eq_true, if_true, if_false, Bool.false_eq_true, ite_true, ite_false, ins, Nat.reduceLT]
  refine HT_seq <| (HT_run (by simp [*]; rfl) ?_)
  refine HT_seq <| HT_seq <| (HT_run (by simp [*]; rfl) ?_)
  refine HT_block <| (HT_loopU [1, 19, 20] (fun (x : Nat × List Vr) => [(7, .v (.one (.own 1007))), (21, .v (li x.1))]) (fun (x : Nat × List Vr) => [(1007, .row 65 5 (encVs x.2))]) (fun (x : Nat × List Vr) => x.1 ≤ vars.length ∧ x.2 = (vars.take x.1).filter fun v => decide (v.kind = kind)) (fun (x : Nat × List Vr) => vars.length - x.1) (0, []) ⟨Nat.zero_le _, by simp⟩ ?_ ?_)
  · exact le_mk (fun n => n) [1007] rfl (by simp [upS, keepS]) (by simp [upS, encVs]) (by simp [upS])
  rintro ⟨k, acc⟩ ⟨hk, hJ⟩
  simp only [upS, keepS, insS]
  try simp only [keepS, List.contains_cons, List.contains_nil, Bool.or_false, Bool.or_true, Bool.true_or, Bool.false_or, Nat.reduceBEq, BEq.rfl, beq_self_eq_true, if_true, if_false, Bool.false_eq_true, ite_true, ite_false, ins, Nat.reduceLT]
  simp only at hk hJ
  replace hJ := hJ.symm
  refine HT_seq <| (HT_run (by simp [*]; rfl) ?_)
  refine HT_seq <| (HT_cond rfl (fun h23 => HT_skip ?_) (fun h23 => ?_))
  · try simp only [Bool.or_eq_true, Bool.and_eq_true, Bool.or_eq_false_iff, Bool.and_eq_false_iff, Bool.not_eq_true', Bool.not_eq_false', decide_eq_true_eq, decide_eq_false_iff_not] at h23
    have hlt : k < vars.length := by omega
    obtain ⟨v, he, hd⟩ := at_lt hlt
    have hw1 := wrap1 hlt (by omega)
    have hk1 : k + 1 ≤ vars.length := hlt
    have hmem : v ∈ vars := List.mem_of_getElem? he
    have hb := hv v hmem
    have ht := take_snoc he
    generalize hT : (vars.take k).filter (fun v => decide (v.kind = kind)) = T at hJ
    have hal : acc.length ≤ k := by
      rw [← hJ, ← hT]
      exact Nat.le_trans (List.length_filter_le _ _) (by rw [List.length_take]; omega)
    have hroom : room (acc.length + 1) 48 := room_of (by omega) (by omega)
    clear hlt h23 hv
    refine HT_seq <| HT_block <| HT_seq <| (HT_run (by simp [*]; rfl) ?_)
    refine HT_seq <| HT_seq <| (HT_run (by simp [*]; rfl) ?_)
    refine (HT_cond rfl (fun h26 => ?_) (fun h26 => HT_skip ?_))
    · try simp only [Bool.or_eq_true, Bool.and_eq_true, Bool.or_eq_false_iff, Bool.and_eq_false_iff, Bool.not_eq_true', Bool.not_eq_false', decide_eq_true_eq, decide_eq_false_iff_not] at h26
      have hf : (vars.take (k + 1)).filter (fun v => decide (v.kind = kind)) = acc := by rw [ht, List.filter_append, hT, hJ, List.filter_cons_of_neg (by simpa using h26)]; simp
      clear hS
      refine (HT_exit ?_)
      refine (HT_run (by simp [*]; rfl) ?_)
      exact ⟨(k + 1, acc), ⟨hk1, hf.symm⟩, by simp only; omega, le_mk (fun n => n) [] rfl (by simp [upS, keepS, *]) (by simp [*, upS]) (by simp [upS])⟩
    · try simp only [Bool.or_eq_true, Bool.and_eq_true, Bool.or_eq_false_iff, Bool.and_eq_false_iff, Bool.not_eq_true', Bool.not_eq_false', decide_eq_true_eq, decide_eq_false_iff_not] at h26
      have hf : (vars.take (k + 1)).filter (fun v => decide (v.kind = kind)) = acc ++ [v] := by rw [ht, List.filter_append, hT, hJ, List.filter_cons_of_pos (by simpa using h26)]; simp
      clear hS
      refine HT_seq <| HT_seq <| (HT_run (by simp [*]; rfl) ?_)
      refine (HT_cond rfl (fun h30 => ?_) (fun h30 => HT_skip ?_))
      · exfalso
        simp only [Bool.or_eq_true, decide_eq_true_eq] at h30
        omega
      · try simp only [Bool.or_eq_true, Bool.and_eq_true, Bool.or_eq_false_iff, Bool.and_eq_false_iff, Bool.not_eq_true', Bool.not_eq_false', decide_eq_true_eq, decide_eq_false_iff_not] at h30
        refine (HT_run (by simp [*]; rfl) ?_)
        refine (HT_run (by simp [*]; rfl) ?_)
        exact ⟨(k + 1, acc ++ [v]), ⟨hk1, hf.symm⟩, by simp only; omega, le_mk (fun n => if n = 1007 then 47 else n) [] rfl (by simp [upS, keepS, *]) (by simp [*, upS]) (by simp [upS])⟩
  · try simp only [Bool.or_eq_true, Bool.and_eq_true, Bool.or_eq_false_iff, Bool.and_eq_false_iff, Bool.not_eq_true', Bool.not_eq_false', decide_eq_true_eq, decide_eq_false_iff_not] at h23
    have hkl : k = vars.length := by omega
    rw [hkl, List.take_length, hS] at hJ
    subst hJ
    have hSl : S.length ≤ 1000000 := by rw [← hS]; exact Nat.le_trans (List.length_filter_le _ _) hl
    have hSv : ∀ v ∈ S, v.low ≤ v.high ∧ -1048576 ≤ v.low ∧ v.high ≤ 1048576 := fun v h => hv v (by rw [← hS] at h; exact (List.mem_filter.1 h).1)
    clear hS hv hk hl h23 hkl
    refine (HT_exit ?_)
    refine HT_seq <| (HT_run (by simp [*]; rfl) ?_)
    refine HT_seq <| HT_seq <| (HT_run (by simp [*]; rfl) ?_)
    refine HT_block <| (HT_loopU [7, 49, 50] (fun (x : Nat × Int) => [(10, .v (li x.2)), (51, .v (li x.1))]) (fun (x : Nat × Int) => [(1007, .row 65 5 (encVs S))]) (fun (x : Nat × Int) => x.1 ≤ S.length ∧ prV (S.drop x.1) x.2 = res ∧ 1 ≤ x.2 ∧ x.2 ≤ 4096) (fun (x : Nat × Int) => S.length - x.1) (0, 1) ⟨Nat.zero_le _, hres, by decide, by decide⟩ ?_ ?_)
    · exact le_mk (fun n => n) [] rfl (by simp [*, upS, keepS]) (by simp [*, upS]) (by simp [upS])
    rintro ⟨k2, n⟩ ⟨hk2, hJ, hn1, hn2⟩
    simp only [upS, keepS, insS]
    try simp only [keepS, List.contains_cons, List.contains_nil, Bool.or_false, Bool.or_true, Bool.true_or, Bool.false_or, Nat.reduceBEq, BEq.rfl, beq_self_eq_true, if_true, if_false, Bool.false_eq_true, ite_true, ite_false, ins, Nat.reduceLT]
    simp only at hk2 hJ hn1 hn2
    clear hres
    refine HT_seq <| (HT_run (by simp [*]; rfl) ?_)
    refine HT_seq <| (HT_cond rfl (fun h40 => HT_skip ?_) (fun h40 => ?_))
    · try simp only [Bool.or_eq_true, Bool.and_eq_true, Bool.or_eq_false_iff, Bool.and_eq_false_iff, Bool.not_eq_true', Bool.not_eq_false', decide_eq_true_eq, decide_eq_false_iff_not] at h40
      have hlt : k2 < S.length := by omega
      obtain ⟨v, he, hd⟩ := at_lt hlt
      have hw1 := wrap1 hlt (by omega)
      have hk1 : k2 + 1 ≤ S.length := hlt
      have hb := hSv v (List.mem_of_getElem? he)
      have hs : 1 ≤ sz v ∧ sz v ≤ 2097153 := by unfold sz; omega
      have hm := mul_in ⟨hn1, hn2⟩ hs
      have hw4 : IntKind.i64.wrap (n * sz v) = n * sz v := wrap_in (by omega) (by omega)
      rw [hd] at hJ
      simp only [prV] at hJ
      clear hlt h40
      refine HT_seq <| HT_block <| HT_seq <| (HT_run (by simp [*]; rfl) ?_)
      refine HT_seq <| (HT_runc [⟨true, .v (li (sz v)), none⟩] (by simp [*]; first | exact ⟨rfl, Iff.rfl⟩ | exact ⟨rfl, trivial⟩ | rfl) ?_ ?_)
      · first | exact sizeD_con v ⟨hb.2.1, hb.1, hb.2.2⟩ _ | exact trivial | simpa [*] using sizeD_con v ⟨hb.2.1, hb.1, hb.2.2⟩ _
      refine HT_seq <| (HT_run (by simp [*]; rfl) ?_)
      refine (HT_cond rfl (fun h44 => ?_) (fun h44 => HT_skip ?_))
      · try simp only [Bool.or_eq_true, Bool.and_eq_true, Bool.or_eq_false_iff, Bool.and_eq_false_iff, Bool.not_eq_true', Bool.not_eq_false', decide_eq_true_eq, decide_eq_false_iff_not] at h44
        rw [if_pos h44] at hJ
        subst hJ
        refine HT_seq <| (HT_run (by simp [*]; rfl) ?_)
        exact HT_ret ⟨.inr rfl, _, le_refl _, ⟨⟨_, by simp; rfl, by simp [resR]⟩, by simp, fun h => by cases h⟩⟩
      · try simp only [Bool.or_eq_true, Bool.and_eq_true, Bool.or_eq_false_iff, Bool.and_eq_false_iff, Bool.not_eq_true', Bool.not_eq_false', decide_eq_true_eq, decide_eq_false_iff_not] at h44
        rw [if_neg h44] at hJ
        refine (HT_run (by simp [*]; rfl) ?_)
        exact ⟨(k2 + 1, n * sz v), ⟨hk1, hJ, hm.1, by simp only; omega⟩, by simp only; omega, le_mk (fun n => n) [] rfl (by simp [upS, keepS, *]) (by simp [*, upS]) (by simp [upS])⟩
    · try simp only [Bool.or_eq_true, Bool.and_eq_true, Bool.or_eq_false_iff, Bool.and_eq_false_iff, Bool.not_eq_true', Bool.not_eq_false', decide_eq_true_eq, decide_eq_false_iff_not] at h40
      have hkl : k2 = S.length := by omega
      rw [hkl, List.drop_length] at hJ
      simp only [prV] at hJ
      subst hJ
      refine (HT_exit ?_)
      refine HT_seq <| (HT_run (by simp [*]; rfl) ?_)
      exact HT_ret ⟨.inr rfl, _, le_frz 1007 rfl, ⟨⟨_, by simp; rfl, by simp [resR, hn2]⟩, by simp, fun h => by cases h⟩⟩
theorem spaceP_con (vars : List Vr) (kind : Int) (hkd : 1 ≤ kind ∧ kind ≤ 3) (hv : goodV' vars) (hl : vars.length ≤ 1000000) (d : Nat) : Con Tryz.prog 86 true [lV vars, li kind]
    (.tup [li (if spc vars kind ≤ 4096 then spc vars kind else 0), li (if spc vars kind ≤ 4096 then 0 else 4)]) none d := by
  have c := chosen_con vars kind hkd hv hl
  unfold chR at c
  obtain ⟨res, hres⟩ : ∃ r, spc vars kind = r := ⟨_, rfl⟩
  rw [hres] at c ⊢
  clear hres
  by_cases h : res ≤ 4096
  · rw [if_pos h] at c
    rw [if_pos h, if_pos h]
    refine con_of_HT Tryz.func86 rfl (by kernel_rfl) (Nat.le_of_ble_eq_true rfl) ?_
    simp only [Tryz.f86]
    refine HT_seq <| (HT_run (by simp [*]; rfl) ?_)
    refine HT_seq <| (HT_runc [⟨false, .tup [.one (.c (.sl 5 (encVs (vars.filter fun v => decide (v.kind = kind))))), li res, li 0], none⟩] (by simp [*]; first | exact ⟨rfl, Iff.rfl⟩ | exact ⟨rfl, trivial⟩ | rfl) ?_ ?_)
    · first | exact c _ | exact trivial | simpa [*] using c _
    refine HT_seq <| (HT_run (by simp [*]; rfl) ?_)
    exact (HT_retE (fun h => ⟨.inr rfl, h⟩) _ (by simp [*]; rfl) (by first | rfl | (simp [*]; done) | (simp only [resR]; (repeat' split) <;> first | rfl | (exfalso; omega) | simp_all)) (by simp))
  · rw [if_neg h] at c
    rw [if_neg h, if_neg h]
    refine con_of_HT Tryz.func86 rfl (by kernel_rfl) (Nat.le_of_ble_eq_true rfl) ?_
    simp only [Tryz.f86]
    refine HT_seq <| (HT_run (by simp [*]; rfl) ?_)
    refine HT_seq <| (HT_runc [⟨false, .tup [.one (.c (.lit nilS)), li 0, li 4], none⟩] (by simp [*]; first | exact ⟨rfl, Iff.rfl⟩ | exact ⟨rfl, trivial⟩ | rfl) ?_ ?_)
    · first | exact c _ | exact trivial | simpa [*] using c _
    refine HT_seq <| (HT_run (by simp [*]; rfl) ?_)
    exact (HT_retE (fun h => ⟨.inr rfl, h⟩) _ (by simp [*]; rfl) (by first | rfl | (simp [*]; done) | (simp only [resR]; (repeat' split) <;> first | rfl | (exfalso; omega) | simp_all)) (by simp))
end Go.Proofs.YtfilidjbpomgoaaGreat
