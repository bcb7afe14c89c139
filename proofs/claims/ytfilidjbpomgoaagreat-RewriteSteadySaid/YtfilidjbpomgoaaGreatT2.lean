/- T2: contracts of functions of the program and of the reference, and plain facts about what they compute; used by the proof of the claimed statement. Conditions: as each theorem states. -/
import Derived.Test.YtfilidjbpomgoaaGreatT1
set_option linter.unusedSimpArgs false
set_option linter.unusedVariables false
set_option maxRecDepth 100000
set_option maxHeartbeats 2000000
namespace Go.Proofs.YtfilidjbpomgoaaGreat
open Go Go.Hl

/-! ## ranges -/
def encPs (k : List (Int × Int)) : List (List CD) := k.map fun p => [iC p.1, iC p.2]
@[simp] theorem len_encP (k : List (Int × Int)) : (encPs k).length = k.length := by simp [encPs]
@[simp] theorem get_encP (k : List (Int × Int)) (i : Nat) : (encPs k)[i]? = k[i]?.map fun p => [iC p.1, iC p.2] := by simp [encPs]
@[simp] theorem encP_nil : encPs [] = [] := rfl
theorem drop_encP (k : List (Int × Int)) (i : Nat) : (encPs k).drop i = encPs (k.drop i) := by simp [encPs]
abbrev aP (p : Int × Int) : TV := .agg [.c (iC p.1), .c (iC p.2)]
def mn (a b : Int) : Int := if b < a then b else a
def mx (a b : Int) : Int := if a < b then b else a
def hullP (p q : Int × Int) : Int × Int := (mn p.1 q.1, mx p.2 q.2)
def hullL : List (Int × Int) → Int × Int → Int × Int
  | [], p => p
  | q :: l, p => hullL l (hullP p q)
def mulP (a b : Int × Int) : Int × Int := hullP (hullP (hullP (a.1 * b.1, a.1 * b.1) (a.1 * b.2, a.1 * b.2)) (a.2 * b.1, a.2 * b.1)) (a.2 * b.2, a.2 * b.2)
def bnd (p : Int × Int) : Prop := -1048576 ≤ p.1 ∧ p.1 ≤ p.2 ∧ p.2 ≤ 1048576

theorem hull_con (p q : Int × Int) (d : Nat) : Con Tryz.prog 128 true [aP p, aP q] (.v (aP (hullP p q))) none d := by
  refine con_of_HT Tryz.func128 rfl (by kernel_rfl) (Nat.le_of_ble_eq_true rfl) ?_
  simp only [Tryz.f128]
  refine HT_seq <| (HT_run (by simp [*]; rfl) ?_)
  refine HT_seq <| (HT_run (by simp [*]; rfl) ?_)
  exact (HT_retE (fun h => ⟨.inr rfl, h⟩) _ (by simp [*]; rfl) (by simp [resR, hullP, mn, mx]) (by simp))
theorem mul_le {x y : Int} (hx : -1048576 ≤ x ∧ x ≤ 1048576) (hy : -1048576 ≤ y ∧ y ≤ 1048576) : -1099511627776 ≤ x * y ∧ x * y ≤ 1099511627776 := by
  have h1 : x.natAbs ≤ 1048576 := by omega
  have h2 : y.natAbs ≤ 1048576 := by omega
  have h3 := Nat.mul_le_mul h1 h2
  rw [← Int.natAbs_mul] at h3
  omega
theorem mul_con (x y : Int) (hx : -1048576 ≤ x ∧ x ≤ 1048576) (hy : -1048576 ≤ y ∧ y ≤ 1048576) (d : Nat) : Con Tryz.prog 127 true [li x, li y] (.v (li (x * y))) none d := by
  have hm := mul_le hx hy
  have hw : IntKind.i64.wrap (x * y) = x * y := wrap_in (by omega) (by omega)
  refine con_of_HT Tryz.func127 rfl (by kernel_rfl) (Nat.le_of_ble_eq_true rfl) ?_
  simp only [Tryz.f127]
  refine HT_seq <| (HT_run (by simp [*]; rfl) ?_)
  refine HT_seq <| (HT_run (by simp [*]; rfl) ?_)
  exact (HT_retE (fun h => ⟨.inr rfl, h⟩) _ (by simp [*]; rfl) (by first | rfl | (simp [*]; done) | (simp only [resR]; (repeat' split) <;> first | rfl | (exfalso; omega) | simp_all)) (by simp))
def hullI : List Int → Int × Int → Int × Int
  | [], p => p
  | q :: l, p => hullI l (hullP p (q, q))

theorem corners_con (a b : Int × Int) (ha : bnd a) (hb : bnd b) (d : Nat) : Con Tryz.prog 126 true [aP a, aP b, .one (.fn 127 [])] (.v (aP (mulP a b))) none d := by
  obtain ⟨a1, a2⟩ := a
  obtain ⟨b1, b2⟩ := b
  simp only [bnd] at ha hb
  refine con_of_HT Tryz.func126 rfl (by kernel_rfl) (Nat.le_of_ble_eq_true rfl) ?_
  simp only [Tryz.f126]
  obtain ⟨L, hL⟩ : ∃ L, L = [a1 * b2, a2 * b1, a2 * b2] := ⟨_, rfl⟩
  have hlen : L.length = 3 := by rw [hL]; rfl
  obtain ⟨res, hres⟩ : ∃ res, mulP (a1, a2) (b1, b2) = res := ⟨_, rfl⟩
  rw [hres]
  have hres2 : hullI L (a1 * b1, a1 * b1) = res := by rw [← hres, hL]; rfl
  clear hres
  refine HT_seq <| (HT_run (by simp [*]; rfl) ?_)
  refine HT_seq <| (HT_runc [⟨true, .v (li (a1 * b1)), none⟩] (by simp [*]; first | exact ⟨rfl, Iff.rfl⟩ | exact ⟨rfl, trivial⟩ | rfl) ?_ ?_)
  · first | exact mul_con _ _ (by omega) (by omega) _ | exact trivial | simpa [*] using mul_con _ _ (by omega) (by omega) _
  refine HT_seq <| (HT_run (by simp [*]; rfl) ?_)
  refine HT_seq <| HT_seq <| (HT_drunc [⟨true, .v (li (a1 * b2)), none⟩, ⟨true, .v (li (a2 * b1)), none⟩, ⟨true, .v (li (a2 * b2)), none⟩] (by kernel_rfl) (by kernel_rfl) (by rfl) (by simp [*]; first | exact ⟨rfl, Iff.rfl⟩ | exact ⟨rfl, trivial⟩ | rfl) ?_ ?_)
  · first | exact trivial | exact trivial | (repeat' first | exact trivial | exact mul_con _ _ (by omega) (by omega) _ | exact mul_con _ _ (by omega) (by omega) _ | exact mul_con _ _ (by omega) (by omega) _ | apply And.intro)
  refine HT_block <| (HT_loopU [6, 8, 38, 39] (fun (x : Nat × Int × Int) => [(40, .v (li x.1))]) (fun (x : Nat × Int × Int) => [(6, .box [.c (iC 0), .c (iC 0)]), (8, .box [.c (iC x.2.1), .c (iC x.2.2)]), (38, .row 3 1 (encIs L))]) (fun (x : Nat × Int × Int) => x.1 ≤ 3 ∧ hullI (L.drop x.1) x.2 = res) (fun (x : Nat × Int × Int) => 3 - x.1) (0, a1 * b1, a1 * b1) ⟨Nat.zero_le _, hres2⟩ ?_ ?_)
  · exact le_mk (fun n => n) [] rfl (by simp [*, upS, keepS]) (by simp [upS, encIs, hL]) (by simp [upS])
  rintro ⟨k, m, q⟩ ⟨hk, hJ⟩
  simp only [upS, keepS, insS]
  try simp only [keepS, List.contains_cons, List.contains_nil, Bool.or_false, Bool.or_true, Bool.true_or, Bool.false_or, Nat.reduceBEq, BEq.rfl, beq_self_eq_true, if_true, if_false, Bool.false_eq_true, ite_true, ite_false, ins, Nat.reduceLT]
  simp only at hk hJ
  clear hres2 hL
  refine HT_seq <| (HT_run (by simp [*]; rfl) ?_)
  refine HT_seq <| (HT_cond rfl (fun h6 => HT_skip ?_) (fun h6 => ?_))
  · try simp only [Bool.or_eq_true, Bool.and_eq_true, Bool.or_eq_false_iff, Bool.and_eq_false_iff, Bool.not_eq_true', Bool.not_eq_false', decide_eq_true_eq, decide_eq_false_iff_not] at h6
    have hlt : k < L.length := by omega
    obtain ⟨e, he, hd⟩ := at_lt hlt
    have hw1 := wrap1 hlt (by omega)
    rw [hd] at hJ
    simp only [hullI] at hJ
    have hk1 : k + 1 ≤ 3 := by omega
    clear hlt h6
    refine HT_seq <| HT_block <| HT_seq <| (HT_run (by simp [*]; rfl) ?_)
    refine (HT_runc [⟨true, .v (aP (hullP (m, q) (e, e))), none⟩] (by simp [*]; first | exact ⟨rfl, Iff.rfl⟩ | exact ⟨rfl, trivial⟩ | rfl) ?_ ?_)
    · first | exact hull_con (m, q) (e, e) _ | exact trivial | simpa [*] using hull_con (m, q) (e, e) _
    refine (HT_run (by simp [*]; rfl) ?_)
    exact ⟨(k + 1, hullP (m, q) (e, e)), ⟨hk1, hJ⟩, by simp only; omega, le_mk (fun n => n) [] rfl (by simp [upS, keepS, *]) (by simp [*, upS]) (by simp [upS])⟩
  · try simp only [Bool.or_eq_true, Bool.and_eq_true, Bool.or_eq_false_iff, Bool.and_eq_false_iff, Bool.not_eq_true', Bool.not_eq_false', decide_eq_true_eq, decide_eq_false_iff_not] at h6
    have hkl : k = L.length := by omega
    rw [hkl, List.drop_length] at hJ
    simp only [hullI] at hJ
    refine (HT_exit ?_)
    refine HT_seq <| (HT_run (by simp [*]; rfl) ?_)
    exact (HT_retE (fun h => ⟨.inr rfl, h⟩) _ (by simp [*]; rfl) (by subst hJ; rfl) (by simp))
end Go.Proofs.YtfilidjbpomgoaaGreat

namespace Go.Proofs.YtfilidjbpomgoaaGreat
open Go Go.Hl

/-! ## the form of terms -/
def refB (vars : List Vr) (inp : Bool) (n : Int) : Bool :=
  decide (0 ≤ n) && match vars[n.toNat]? with
    | some v => !(inp && decide (v.kind = 0))
    | none => false
def nodeB (vars : List Vr) (inp : Bool) (o n : Int) (len : Nat) : Bool :=
  (!decide ((kidsP o).1 < 0) && (!decide ((len : Int) < (kidsP o).1) && !decide ((kidsP o).2 < (len : Int)))) && (if o = 0 then true else if o = 24 then refB vars inp n else decide (n = 0))
mutual
def formB (vars : List Vr) (inp : Bool) : Tm → Bool
  | .mk o n ks => nodeB vars inp o n ks.length && formBs vars inp ks
def formBs (vars : List Vr) (inp : Bool) : List Tm → Bool
  | [] => true
  | t :: l => formB vars inp t && formBs vars inp l
end
theorem formBs_mem {vars : List Vr} {inp : Bool} : ∀ {l : List Tm}, formBs vars inp l = true → ∀ t ∈ l, formB vars inp t = true
  | [], _, t, ht => by cases ht
  | a :: l, h, t, ht => by
    simp only [formBs, Bool.and_eq_true] at h
    rcases List.mem_cons.1 ht with rfl | h1
    · exact h.1
    · exact formBs_mem h.2 t h1
theorem get_vars {vars : List Vr} {n : Int} : (0 ≤ n ∧ n < vars.length) → ∃ v, vars[n.toNat]? = some v := by
  rintro ⟨h1, h2⟩
  have : n.toNat < vars.length := by omega
  exact ⟨vars[n.toNat], by simp [this]⟩
theorem get_none {vars : List Vr} {n : Int} (h1 : 0 ≤ n) (h2 : ¬ n < vars.length) : vars[n.toNat]? = none := by
  rw [List.getElem?_eq_none]
  omega

theorem formP_con (vars : List Vr) (inp : Bool) (hv : vars.length ≤ 1000000000) (t : Tm) : t.nodes ≤ 1000000000 → ∀ d : Nat,
    Con Tryz.prog 108 true [lV vars, aT t, lb inp] (.v (lb (formB vars inp t))) none d := by
  induction t using Tm.ind with
  | h o n ks ih =>
  intro hn d
  simp only [Tm.nodes] at hn
  have hlen := len_nodesT ks
  obtain ⟨res, hres⟩ : ∃ r, formB vars inp (.mk o n ks) = r := ⟨_, rfl⟩
  rw [hres]
  simp only [formB] at hres
  have ih' : ∀ t ∈ ks, ∀ d, Con Tryz.prog 108 true [lV vars, aT t, lb inp] (.v (lb (formB vars inp t))) none d := by
    intro t ht d
    refine ih t ht ?_ d
    have : t.nodes ≤ nodesT ks := by
      clear hres ih hn hlen
      induction ks with
      | nil => cases ht
      | cons a l ih =>
        simp only [nodesT]
        rcases List.mem_cons.1 ht with rfl | h
        · omega
        · have := ih h; omega
    omega
  clear ih
  refine con_of_HT Tryz.func108 rfl (by kernel_rfl) (Nat.le_of_ble_eq_true rfl) ?_
  simp only [Tryz.f108]
  simp only [aT, Tm.enc]
  refine HT_seq <| (HT_run (by simp [*]; rfl) ?_)
  refine HT_seq <| (HT_runc [⟨true, .tup [li (kidsP o).1, li (kidsP o).2], none⟩] (by simp [*]; first | exact ⟨rfl, Iff.rfl⟩ | exact ⟨rfl, trivial⟩ | rfl) ?_ ?_)
  · first | exact kidsP_con o _ | exact trivial | simpa [*] using kidsP_con o _
  refine HT_seq <| HT_seq <| (HT_run (by simp [*]; rfl) ?_)
  refine (HT_cond rfl (fun h3 => ?_) (fun h3 => HT_skip ?_))
  · try simp only [Bool.or_eq_true, Bool.and_eq_true, Bool.or_eq_false_iff, Bool.and_eq_false_iff, Bool.not_eq_true', Bool.not_eq_false', decide_eq_true_eq, decide_eq_false_iff_not] at h3
    have hz : nodeB vars inp o n ks.length = false := by
      unfold nodeB
      rw [Bool.and_eq_false_iff]
      refine .inl ?_
      simp only [Bool.and_eq_false_iff, Bool.not_eq_false', decide_eq_true_eq]
      omega
    rw [hz, Bool.false_and] at hres
    refine HT_seq <| (HT_run (by simp [*]; rfl) ?_)
    exact (HT_retE (fun h => ⟨.inr rfl, h⟩) _ (by simp [*]; rfl) (by first | rfl | simp [*]) (by simp))
  · try simp only [Bool.or_eq_true, Bool.and_eq_true, Bool.or_eq_false_iff, Bool.and_eq_false_iff, Bool.not_eq_true', Bool.not_eq_false', decide_eq_true_eq, decide_eq_false_iff_not] at h3
    have hz : (!decide ((kidsP o).1 < 0) && (!decide ((ks.length : Int) < (kidsP o).1) && !decide ((kidsP o).2 < (ks.length : Int)))) = true := by
      simp only [Bool.and_eq_true, Bool.not_eq_true', decide_eq_false_iff_not]
      omega
    refine (HT_cutU [0, 2, 4] (fun (z : Unit) => []) (fun (z : Unit) => [(4, .box [.c (iC o), .c (iC n), .c (.sl 3 (encTs ks))])]) (fun (z : Unit) => nodeB vars inp o n ks.length = true) ?_ ?_)
    ·
      refine HT_seq <| (HT_run (by simp [*]; rfl) ?_)
      refine HT_block <| HT_seq <| (HT_run (by simp [*]; rfl) ?_)
      refine (HT_cond rfl (fun h9 => HT_skip ?_) (fun h9 => ?_))
      · try simp only [Bool.or_eq_true, Bool.and_eq_true, Bool.or_eq_false_iff, Bool.and_eq_false_iff, Bool.not_eq_true', Bool.not_eq_false', decide_eq_true_eq, decide_eq_false_iff_not] at h9
        exact ⟨(), by unfold nodeB; rw [hz, Bool.true_and, if_pos h9], le_mk (fun n => n) [] rfl (by simp [upS, keepS, *]) (by simp [*, upS]) (by simp [upS])⟩
      · try simp only [Bool.or_eq_true, Bool.and_eq_true, Bool.or_eq_false_iff, Bool.and_eq_false_iff, Bool.not_eq_true', Bool.not_eq_false', decide_eq_true_eq, decide_eq_false_iff_not] at h9
        refine HT_seq <| (HT_run (by simp [*]; rfl) ?_)
        refine (HT_cond rfl (fun h12 => ?_) (fun h12 => ?_))
        · try simp only [Bool.or_eq_true, Bool.and_eq_true, Bool.or_eq_false_iff, Bool.and_eq_false_iff, Bool.not_eq_true', Bool.not_eq_false', decide_eq_true_eq, decide_eq_false_iff_not] at h12
          by_cases hn0 : 0 ≤ n
          · by_cases hn3 : n < vars.length
            · obtain ⟨v, hv1⟩ := get_vars ⟨hn0, hn3⟩
              have hn1 : ¬ (vars.length : Int) ≤ n := by omega
              have hn2 : ¬ n < 0 := by omega
              clear hn3
              refine HT_seq <| (HT_run (by simp [*]; rfl) ?_)
              refine (HT_cond rfl (fun h14 => ?_) (fun h14 => HT_skip ?_))
              · try simp only [Bool.or_eq_true, Bool.and_eq_true, Bool.or_eq_false_iff, Bool.and_eq_false_iff, Bool.not_eq_true', Bool.not_eq_false', decide_eq_true_eq, decide_eq_false_iff_not] at h14
                have hz3 : nodeB vars inp o n ks.length = false := by
                  unfold nodeB refB
                  rw [hz, Bool.true_and, if_neg h9, if_pos h12, hv1]
                  simp [h14]
                rw [hz3, Bool.false_and] at hres
                refine HT_seq <| (HT_run (by simp [*]; rfl) ?_)
                exact (HT_retE (fun h => ⟨.inr rfl, h⟩) _ (by simp [*]; rfl) (by first | rfl | simp [*]) (by simp))
              · try simp only [Bool.or_eq_true, Bool.and_eq_true, Bool.or_eq_false_iff, Bool.and_eq_false_iff, Bool.not_eq_true', Bool.not_eq_false', decide_eq_true_eq, decide_eq_false_iff_not] at h14
                exact ⟨(), by
                  unfold nodeB refB
                  rw [hz, Bool.true_and, if_neg h9, if_pos h12, hv1]
                  simp only [Bool.and_eq_true, Bool.not_eq_true', Bool.and_eq_false_iff, decide_eq_true_eq, decide_eq_false_iff_not]
                  exact ⟨hn0, h14⟩, le_mk (fun n => n) [] rfl (by simp [upS, keepS, *]) (by simp [*, upS]) (by simp [upS])⟩
            · cases inp
              · have hv1 := get_none hn0 hn3
                have hn1 : (vars.length : Int) ≤ n := by omega
                have hn2 : ¬ n < 0 := by omega
                have hz2 : ∀ i, refB vars i n = false := by intro i; simp [refB, hv1]
                clear hn3
                refine HT_seq <| (HT_run (by simp [*]; rfl) ?_)
                refine (HT_cond rfl (fun h14 => ?_) (fun h14 => HT_skip ?_))
                · try simp only [Bool.or_eq_true, Bool.and_eq_true, Bool.or_eq_false_iff, Bool.and_eq_false_iff, Bool.not_eq_true', Bool.not_eq_false', decide_eq_true_eq, decide_eq_false_iff_not] at h14
                  have hz3 : ∀ i, nodeB vars i o n ks.length = false := by
                    intro i
                    unfold nodeB
                    rw [hz, Bool.true_and, if_neg h9, if_pos h12, hz2]
                  rw [hz3, Bool.false_and] at hres
                  refine HT_seq <| (HT_run (by simp [*]; rfl) ?_)
                  exact (HT_retE (fun h => ⟨.inr rfl, h⟩) _ (by simp [*]; rfl) (by first | rfl | simp [*]) (by simp))
                · exact absurd h14 (by simp)
              · have hv1 := get_none hn0 hn3
                have hn1 : (vars.length : Int) ≤ n := by omega
                have hn2 : ¬ n < 0 := by omega
                have hz2 : ∀ i, refB vars i n = false := by intro i; simp [refB, hv1]
                clear hn3
                refine HT_seq <| (HT_run (by simp [*]; rfl) ?_)
                refine (HT_cond rfl (fun h14 => ?_) (fun h14 => HT_skip ?_))
                · try simp only [Bool.or_eq_true, Bool.and_eq_true, Bool.or_eq_false_iff, Bool.and_eq_false_iff, Bool.not_eq_true', Bool.not_eq_false', decide_eq_true_eq, decide_eq_false_iff_not] at h14
                  have hz3 : ∀ i, nodeB vars i o n ks.length = false := by
                    intro i
                    unfold nodeB
                    rw [hz, Bool.true_and, if_neg h9, if_pos h12, hz2]
                  rw [hz3, Bool.false_and] at hres
                  refine HT_seq <| (HT_run (by simp [*]; rfl) ?_)
                  exact (HT_retE (fun h => ⟨.inr rfl, h⟩) _ (by simp [*]; rfl) (by first | rfl | simp [*]) (by simp))
                · exact absurd h14 (by simp)
          · cases inp
            · have hn2 : n < 0 := by omega
              have hz2 : ∀ i, refB vars i n = false := by intro i; simp [refB, hn0]
              refine HT_seq <| (HT_run (by simp [*]; rfl) ?_)
              refine (HT_cond rfl (fun h14 => ?_) (fun h14 => HT_skip ?_))
              · try simp only [Bool.or_eq_true, Bool.and_eq_true, Bool.or_eq_false_iff, Bool.and_eq_false_iff, Bool.not_eq_true', Bool.not_eq_false', decide_eq_true_eq, decide_eq_false_iff_not] at h14
                have hz3 : ∀ i, nodeB vars i o n ks.length = false := by
                  intro i
                  unfold nodeB
                  rw [hz, Bool.true_and, if_neg h9, if_pos h12, hz2]
                rw [hz3, Bool.false_and] at hres
                refine HT_seq <| (HT_run (by simp [*]; rfl) ?_)
                exact (HT_retE (fun h => ⟨.inr rfl, h⟩) _ (by simp [*]; rfl) (by first | rfl | simp [*]) (by simp))
              · exact absurd h14 (by simp)
            · have hn2 : n < 0 := by omega
              have hz2 : ∀ i, refB vars i n = false := by intro i; simp [refB, hn0]
              refine HT_seq <| (HT_run (by simp [*]; rfl) ?_)
              refine (HT_cond rfl (fun h14 => ?_) (fun h14 => HT_skip ?_))
              · try simp only [Bool.or_eq_true, Bool.and_eq_true, Bool.or_eq_false_iff, Bool.and_eq_false_iff, Bool.not_eq_true', Bool.not_eq_false', decide_eq_true_eq, decide_eq_false_iff_not] at h14
                have hz3 : ∀ i, nodeB vars i o n ks.length = false := by
                  intro i
                  unfold nodeB
                  rw [hz, Bool.true_and, if_neg h9, if_pos h12, hz2]
                rw [hz3, Bool.false_and] at hres
                refine HT_seq <| (HT_run (by simp [*]; rfl) ?_)
                exact (HT_retE (fun h => ⟨.inr rfl, h⟩) _ (by simp [*]; rfl) (by first | rfl | simp [*]) (by simp))
              · exact absurd h14 (by simp)
        · try simp only [Bool.or_eq_true, Bool.and_eq_true, Bool.or_eq_false_iff, Bool.and_eq_false_iff, Bool.not_eq_true', Bool.not_eq_false', decide_eq_true_eq, decide_eq_false_iff_not] at h12
          refine HT_seq <| (HT_run (by simp [*]; rfl) ?_)
          refine (HT_cond rfl (fun h19 => ?_) (fun h19 => HT_skip ?_))
          · try simp only [Bool.or_eq_true, Bool.and_eq_true, Bool.or_eq_false_iff, Bool.and_eq_false_iff, Bool.not_eq_true', Bool.not_eq_false', decide_eq_true_eq, decide_eq_false_iff_not] at h19
            have hz3 : nodeB vars inp o n ks.length = false := by
              unfold nodeB
              rw [hz, Bool.true_and, if_neg h9, if_neg h12]
              simpa using h19
            rw [hz3, Bool.false_and] at hres
            refine HT_seq <| (HT_run (by simp [*]; rfl) ?_)
            exact (HT_retE (fun h => ⟨.inr rfl, h⟩) _ (by simp [*]; rfl) (by first | rfl | simp [*]) (by simp))
          · try simp only [Bool.or_eq_true, Bool.and_eq_true, Bool.or_eq_false_iff, Bool.and_eq_false_iff, Bool.not_eq_true', Bool.not_eq_false', decide_eq_true_eq, decide_eq_false_iff_not] at h19
            exact ⟨(), by
              unfold nodeB
              rw [hz, Bool.true_and, if_neg h9, if_neg h12]
              simpa using h19, le_mk (fun n => n) [] rfl (by simp [upS, keepS, *]) (by simp [*, upS]) (by simp [upS])⟩
    rintro z hz
    simp only [upS, keepS, insS]
    try simp only [keepS, List.contains_cons, List.contains_nil, Bool.or_false, Bool.or_true, Bool.true_or, Bool.false_or, Nat.reduceBEq, BEq.rfl, beq_self_eq_true, if_true, if_false, Bool.false_eq_true, ite_true, ite_false, ins, Nat.reduceLT]
    rw [hz, Bool.true_and] at hres
    refine HT_seq <| HT_seq <| (HT_run (by simp [*]; rfl) ?_)
    refine HT_block <| (HT_loopU [0, 2, 65, 66] (fun (x : Nat) => [(67, .v (li x))]) (fun (x : Nat) => []) (fun (x : Nat) => x ≤ ks.length ∧ formBs vars inp (ks.drop x) = res) (fun (x : Nat) => ks.length - x) (0 : Nat) ⟨Nat.zero_le _, hres⟩ ?_ ?_)
    · exact le_mk (fun n => n) [] rfl (by simp [*, upS, keepS]) (by simp [*, upS]) (by simp [upS])
    rintro k ⟨hk, hJ⟩
    simp only [upS, keepS, insS]
    try simp only [keepS, List.contains_cons, List.contains_nil, Bool.or_false, Bool.or_true, Bool.true_or, Bool.false_or, Nat.reduceBEq, BEq.rfl, beq_self_eq_true, if_true, if_false, Bool.false_eq_true, ite_true, ite_false, ins, Nat.reduceLT]
    refine HT_seq <| (HT_run (by simp [*]; rfl) ?_)
    refine HT_seq <| (HT_cond rfl (fun h26 => HT_skip ?_) (fun h26 => ?_))
    · try simp only [Bool.or_eq_true, Bool.and_eq_true, Bool.or_eq_false_iff, Bool.and_eq_false_iff, Bool.not_eq_true', Bool.not_eq_false', decide_eq_true_eq, decide_eq_false_iff_not] at h26
      have hlt : k < ks.length := by omega
      obtain ⟨⟨eo, en, ek⟩, he, hd⟩ := at_lt hlt
      have he' := get_encT he
      simp only [Tm.enc] at he'
      have hw1 := wrap1 hlt (by omega)
      rw [hd] at hJ
      simp only [formBs] at hJ
      have hk1 : k + 1 ≤ ks.length := hlt
      have hmem : Tm.mk eo en ek ∈ ks := List.mem_of_getElem? he
      clear hlt h26
      refine HT_seq <| HT_block <| HT_seq <| (HT_run (by simp [*]; rfl) ?_)
      refine HT_seq <| (HT_runc [⟨true, .v (lb (formB vars inp (.mk eo en ek))), none⟩] (by simp [*]; first | exact ⟨rfl, Iff.rfl⟩ | exact ⟨rfl, trivial⟩ | rfl) ?_ ?_)
      · first | exact ih' _ hmem _ | exact trivial | simpa [*] using ih' _ hmem _
      refine (HT_cond rfl (fun h29 => ?_) (fun h29 => HT_skip ?_))
      · try simp only [Bool.or_eq_true, Bool.and_eq_true, Bool.or_eq_false_iff, Bool.and_eq_false_iff, Bool.not_eq_true', Bool.not_eq_false', decide_eq_true_eq, decide_eq_false_iff_not] at h29
        rw [h29, Bool.false_and] at hJ
        subst hJ
        refine HT_seq <| (HT_run (by simp [*]; rfl) ?_)
        exact (HT_retE (fun h => ⟨.inr rfl, h⟩) _ (by simp [*]; rfl) (by first | rfl | simp [*]) (by simp))
      · try simp only [Bool.or_eq_true, Bool.and_eq_true, Bool.or_eq_false_iff, Bool.and_eq_false_iff, Bool.not_eq_true', Bool.not_eq_false', decide_eq_true_eq, decide_eq_false_iff_not] at h29
        rw [h29, Bool.true_and] at hJ
        refine (HT_run (by simp [*]; rfl) ?_)
        exact ⟨k + 1, ⟨hk1, hJ⟩, by omega, le_mk (fun n => n) [] rfl (by simp [upS, keepS, *]) (by simp [*, upS]) (by simp [upS])⟩
    · try simp only [Bool.or_eq_true, Bool.and_eq_true, Bool.or_eq_false_iff, Bool.and_eq_false_iff, Bool.not_eq_true', Bool.not_eq_false', decide_eq_true_eq, decide_eq_false_iff_not] at h26
      have hkl : k = ks.length := by omega
      subst hkl
      rw [List.drop_length] at hJ
      simp only [formBs] at hJ
      subst hJ
      refine (HT_exit ?_)
      refine HT_seq <| (HT_run (by simp [*]; rfl) ?_)
      exact (HT_retE (fun h => ⟨.inr rfl, h⟩) _ (by simp [*]; rfl) (by first | rfl | simp [*]) (by simp))
end Go.Proofs.YtfilidjbpomgoaaGreat

namespace Go.Proofs.YtfilidjbpomgoaaGreat
open Go Go.Hl

theorem nodes_mem {ks : List Tm} {t : Tm} (ht : t ∈ ks) : t.nodes ≤ nodesT ks := by
  induction ks with
  | nil => cases ht
  | cons a l ih =>
    simp only [nodesT]
    rcases List.mem_cons.1 ht with rfl | h
    · omega
    · have := ih h; omega

theorem least_con (a b : Int) (d : Nat) : Con Tryz.prog 48 true [li a, li b] (.v (li (mn a b))) none d := by
  refine con_of_HT Tryz.func48 rfl (by kernel_rfl) (Nat.le_of_ble_eq_true rfl) ?_
  simp only [Tryz.f48]
  refine HT_seq <| (HT_run (by simp [*]; rfl) ?_)
  refine HT_seq <| HT_seq <| (HT_run (by simp [*]; rfl) ?_)
  refine (HT_cond rfl (fun h2 => ?_) (fun h2 => HT_skip ?_))
  · try simp only [Bool.or_eq_true, Bool.and_eq_true, Bool.or_eq_false_iff, Bool.and_eq_false_iff, Bool.not_eq_true', Bool.not_eq_false', decide_eq_true_eq, decide_eq_false_iff_not] at h2
    have hz : mn a b = a := by unfold mn; split <;> omega
    refine HT_seq <| (HT_run (by simp [*]; rfl) ?_)
    exact (HT_retE (fun h => ⟨.inr rfl, h⟩) _ (by simp [*]; rfl) (by first | rfl | (simp [*]; done) | (simp only [resR]; (repeat' split) <;> first | rfl | (exfalso; omega) | simp_all)) (by simp))
  · try simp only [Bool.or_eq_true, Bool.and_eq_true, Bool.or_eq_false_iff, Bool.and_eq_false_iff, Bool.not_eq_true', Bool.not_eq_false', decide_eq_true_eq, decide_eq_false_iff_not] at h2
    have hz : mn a b = b := by unfold mn; split <;> omega
    refine HT_seq <| (HT_run (by simp [*]; rfl) ?_)
    exact (HT_retE (fun h => ⟨.inr rfl, h⟩) _ (by simp [*]; rfl) (by first | rfl | (simp [*]; done) | (simp only [resR]; (repeat' split) <;> first | rfl | (exfalso; omega) | simp_all)) (by simp))
theorem most_con (a b : Int) (d : Nat) : Con Tryz.prog 47 true [li a, li b] (.v (li (mx a b))) none d := by
  refine con_of_HT Tryz.func47 rfl (by kernel_rfl) (Nat.le_of_ble_eq_true rfl) ?_
  simp only [Tryz.f47]
  refine HT_seq <| (HT_run (by simp [*]; rfl) ?_)
  refine HT_seq <| HT_seq <| (HT_run (by simp [*]; rfl) ?_)
  refine (HT_cond rfl (fun h2 => ?_) (fun h2 => HT_skip ?_))
  · try simp only [Bool.or_eq_true, Bool.and_eq_true, Bool.or_eq_false_iff, Bool.and_eq_false_iff, Bool.not_eq_true', Bool.not_eq_false', decide_eq_true_eq, decide_eq_false_iff_not] at h2
    have hz : mx a b = a := by unfold mx; split <;> omega
    refine HT_seq <| (HT_run (by simp [*]; rfl) ?_)
    exact (HT_retE (fun h => ⟨.inr rfl, h⟩) _ (by simp [*]; rfl) (by first | rfl | (simp [*]; done) | (simp only [resR]; (repeat' split) <;> first | rfl | (exfalso; omega) | simp_all)) (by simp))
  · try simp only [Bool.or_eq_true, Bool.and_eq_true, Bool.or_eq_false_iff, Bool.and_eq_false_iff, Bool.not_eq_true', Bool.not_eq_false', decide_eq_true_eq, decide_eq_false_iff_not] at h2
    have hz : mx a b = b := by unfold mx; split <;> omega
    refine HT_seq <| (HT_run (by simp [*]; rfl) ?_)
    exact (HT_retE (fun h => ⟨.inr rfl, h⟩) _ (by simp [*]; rfl) (by first | rfl | (simp [*]; done) | (simp only [resR]; (repeat' split) <;> first | rfl | (exfalso; omega) | simp_all)) (by simp))
def absI (a : Int) : Int := if a < 0 then -a else a
theorem size_con (a : Int) (h : -1048576 ≤ a ∧ a ≤ 1048576) (d : Nat) : Con Tryz.prog 116 true [li a] (.v (li (absI a))) none d := by
  have hw : IntKind.i64.wrap (-a) = -a := wrap_in (by omega) (by omega)
  refine con_of_HT Tryz.func116 rfl (by kernel_rfl) (Nat.le_of_ble_eq_true rfl) ?_
  simp only [Tryz.f116]
  refine HT_seq <| (HT_run (by simp [*]; rfl) ?_)
  refine HT_seq <| HT_seq <| (HT_run (by simp [*]; rfl) ?_)
  refine (HT_cond rfl (fun h2 => ?_) (fun h2 => HT_skip ?_))
  · try simp only [Bool.or_eq_true, Bool.and_eq_true, Bool.or_eq_false_iff, Bool.and_eq_false_iff, Bool.not_eq_true', Bool.not_eq_false', decide_eq_true_eq, decide_eq_false_iff_not] at h2
    refine HT_seq <| (HT_run (by simp [*]; rfl) ?_)
    exact (HT_retE (fun h => ⟨.inr rfl, h⟩) _ (by simp [*]; rfl) (by first | rfl | (simp [*, absI]; done) | (simp only [resR, absI]; (repeat' split) <;> first | rfl | (exfalso; omega) | simp_all)) (by simp))
  · try simp only [Bool.or_eq_true, Bool.and_eq_true, Bool.or_eq_false_iff, Bool.and_eq_false_iff, Bool.not_eq_true', Bool.not_eq_false', decide_eq_true_eq, decide_eq_false_iff_not] at h2
    refine HT_seq <| (HT_run (by simp [*]; rfl) ?_)
    exact (HT_retE (fun h => ⟨.inr rfl, h⟩) _ (by simp [*]; rfl) (by first | rfl | (simp [*, absI]; done) | (simp only [resR, absI]; (repeat' split) <;> first | rfl | (exfalso; omega) | simp_all)) (by simp))

def kidsR (o : Int) : Int := if o = 0 ∨ o = 24 then 0 else if o = 6 ∨ o = 7 then 1 else if 8 ≤ o ∧ o ≤ 22 then 2 else if o = 23 then 3 else if o = 25 then -2 else -1
theorem kidsR_con (o : Int) (d : Nat) : Con Tryz.prog 95 true [li o] (.v (li (kidsR o))) none d := by
  refine con_of_HT Tryz.func95 rfl (by kernel_rfl) (Nat.le_of_ble_eq_true rfl) ?_
  simp only [Tryz.f95]
  refine HT_seq <| (HT_run (by simp [*]; rfl) ?_)
  refine HT_seq <| HT_seq <| (HT_run (by simp [*]; rfl) ?_)
  refine HT_block <| (HT_cutU [3] (fun (z : Bool) => [(4, .v (lb z))]) (fun (z : Bool) => []) (fun (z : Bool) => z = decide (o = 0 ∨ o = 24)) ?_ ?_)
  ·
    refine HT_seq <| (HT_run (by simp [*]; rfl) ?_)
    refine (HT_cond rfl (fun h4 => HT_skip ?_) (fun h4 => ?_))
    · try simp only [Bool.or_eq_true, Bool.and_eq_true, Bool.or_eq_false_iff, Bool.and_eq_false_iff, Bool.not_eq_true', Bool.not_eq_false', decide_eq_true_eq, decide_eq_false_iff_not] at h4
      exact ⟨decide (o = 0 ∨ o = 24), rfl, le_mk (fun n => n) [] rfl (by simp [upS, keepS, *]) (by simp [*, upS]) (by simp [upS])⟩
    · try simp only [Bool.or_eq_true, Bool.and_eq_true, Bool.or_eq_false_iff, Bool.and_eq_false_iff, Bool.not_eq_true', Bool.not_eq_false', decide_eq_true_eq, decide_eq_false_iff_not] at h4
      refine (HT_run (by simp [*]; rfl) ?_)
      exact ⟨decide (o = 0 ∨ o = 24), rfl, le_mk (fun n => n) [] rfl (by simp [upS, keepS, *]) (by simp [*, upS]) (by simp [upS])⟩
  rintro _ rfl
  simp only [upS, keepS, insS]
  try simp only [keepS, List.contains_cons, List.contains_nil, Bool.or_false, Bool.or_true, Bool.true_or, Bool.false_or, Nat.reduceBEq, BEq.rfl, beq_self_eq_true, if_true, if_false, Bool.false_eq_true, ite_true, ite_false, ins, Nat.reduceLT]
  refine (HT_cond rfl (fun h8 => ?_) (fun h8 => ?_))
  · try simp only [Bool.or_eq_true, Bool.and_eq_true, Bool.or_eq_false_iff, Bool.and_eq_false_iff, Bool.not_eq_true', Bool.not_eq_false', decide_eq_true_eq, decide_eq_false_iff_not] at h8
    refine HT_seq <| (HT_run (by simp [*]; rfl) ?_)
    exact (HT_retE (fun h => ⟨.inr rfl, h⟩) _ (by simp [*]; rfl) (by first | rfl | (simp [*, kidsR]; done) | (simp only [resR, kidsR]; (repeat' split) <;> first | rfl | (exfalso; omega) | simp_all)) (by simp))
  · try simp only [Bool.or_eq_true, Bool.and_eq_true, Bool.or_eq_false_iff, Bool.and_eq_false_iff, Bool.not_eq_true', Bool.not_eq_false', decide_eq_true_eq, decide_eq_false_iff_not] at h8
    refine (HT_cutU [3] (fun (z : Bool) => [(7, .v (lb z))]) (fun (z : Bool) => []) (fun (z : Bool) => z = decide (o = 6 ∨ o = 7)) ?_ ?_)
    ·
      refine HT_seq <| (HT_run (by simp [*]; rfl) ?_)
      refine (HT_cond rfl (fun h13 => HT_skip ?_) (fun h13 => ?_))
      · try simp only [Bool.or_eq_true, Bool.and_eq_true, Bool.or_eq_false_iff, Bool.and_eq_false_iff, Bool.not_eq_true', Bool.not_eq_false', decide_eq_true_eq, decide_eq_false_iff_not] at h13
        exact ⟨decide (o = 6 ∨ o = 7), rfl, le_mk (fun n => n) [] rfl (by simp [upS, keepS, *]) (by simp [*, upS]) (by simp [upS])⟩
      · try simp only [Bool.or_eq_true, Bool.and_eq_true, Bool.or_eq_false_iff, Bool.and_eq_false_iff, Bool.not_eq_true', Bool.not_eq_false', decide_eq_true_eq, decide_eq_false_iff_not] at h13
        refine (HT_run (by simp [*]; rfl) ?_)
        exact ⟨decide (o = 6 ∨ o = 7), rfl, le_mk (fun n => n) [] rfl (by simp [upS, keepS, *]) (by simp [*, upS]) (by simp [upS])⟩
    rintro _ rfl
    simp only [upS, keepS, insS]
    try simp only [keepS, List.contains_cons, List.contains_nil, Bool.or_false, Bool.or_true, Bool.true_or, Bool.false_or, Nat.reduceBEq, BEq.rfl, beq_self_eq_true, if_true, if_false, Bool.false_eq_true, ite_true, ite_false, ins, Nat.reduceLT]
    refine (HT_cond rfl (fun h17 => ?_) (fun h17 => ?_))
    · try simp only [Bool.or_eq_true, Bool.and_eq_true, Bool.or_eq_false_iff, Bool.and_eq_false_iff, Bool.not_eq_true', Bool.not_eq_false', decide_eq_true_eq, decide_eq_false_iff_not] at h17
      refine HT_seq <| (HT_run (by simp [*]; rfl) ?_)
      exact (HT_retE (fun h => ⟨.inr rfl, h⟩) _ (by simp [*]; rfl) (by first | rfl | (simp [*, kidsR]; done) | (simp only [resR, kidsR]; (repeat' split) <;> first | rfl | (exfalso; omega) | simp_all)) (by simp))
    · try simp only [Bool.or_eq_true, Bool.and_eq_true, Bool.or_eq_false_iff, Bool.and_eq_false_iff, Bool.not_eq_true', Bool.not_eq_false', decide_eq_true_eq, decide_eq_false_iff_not] at h17
      refine (HT_cutU [3] (fun (z : Bool) => [(10, .v (lb z))]) (fun (z : Bool) => []) (fun (z : Bool) => z = decide (8 ≤ o ∧ o ≤ 22)) ?_ ?_)
      ·
        refine HT_seq <| (HT_run (by simp [*]; rfl) ?_)
        refine (HT_cond rfl (fun h22 => HT_skip ?_) (fun h22 => ?_))
        · try simp only [Bool.or_eq_true, Bool.and_eq_true, Bool.or_eq_false_iff, Bool.and_eq_false_iff, Bool.not_eq_true', Bool.not_eq_false', decide_eq_true_eq, decide_eq_false_iff_not] at h22
          exact ⟨decide (8 ≤ o ∧ o ≤ 22), rfl, le_mk (fun n => n) [] rfl (by simp [upS, keepS, *]) (by simp [*, upS]) (by simp [upS])⟩
        · try simp only [Bool.or_eq_true, Bool.and_eq_true, Bool.or_eq_false_iff, Bool.and_eq_false_iff, Bool.not_eq_true', Bool.not_eq_false', decide_eq_true_eq, decide_eq_false_iff_not] at h22
          refine HT_seq <| (HT_run (by simp [*]; rfl) ?_)
          refine (HT_cond rfl (fun h25 => HT_skip ?_) (fun h25 => ?_))
          · try simp only [Bool.or_eq_true, Bool.and_eq_true, Bool.or_eq_false_iff, Bool.and_eq_false_iff, Bool.not_eq_true', Bool.not_eq_false', decide_eq_true_eq, decide_eq_false_iff_not] at h25
            exact ⟨decide (8 ≤ o ∧ o ≤ 22), rfl, le_mk (fun n => n) [] rfl (by simp [upS, keepS, *]) (by simp [*, upS]) (by simp [upS])⟩
          · try simp only [Bool.or_eq_true, Bool.and_eq_true, Bool.or_eq_false_iff, Bool.and_eq_false_iff, Bool.not_eq_true', Bool.not_eq_false', decide_eq_true_eq, decide_eq_false_iff_not] at h25
            refine HT_seq <| (HT_run (by simp [*]; rfl) ?_)
            refine (HT_cond rfl (fun h28 => HT_skip ?_) (fun h28 => ?_))
            · try simp only [Bool.or_eq_true, Bool.and_eq_true, Bool.or_eq_false_iff, Bool.and_eq_false_iff, Bool.not_eq_true', Bool.not_eq_false', decide_eq_true_eq, decide_eq_false_iff_not] at h28
              exact ⟨decide (8 ≤ o ∧ o ≤ 22), rfl, le_mk (fun n => n) [] rfl (by simp [upS, keepS, *]) (by simp [*, upS]) (by simp [upS])⟩
            · try simp only [Bool.or_eq_true, Bool.and_eq_true, Bool.or_eq_false_iff, Bool.and_eq_false_iff, Bool.not_eq_true', Bool.not_eq_false', decide_eq_true_eq, decide_eq_false_iff_not] at h28
              refine HT_seq <| (HT_run (by simp [*]; rfl) ?_)
              refine (HT_cond rfl (fun h31 => HT_skip ?_) (fun h31 => ?_))
              · try simp only [Bool.or_eq_true, Bool.and_eq_true, Bool.or_eq_false_iff, Bool.and_eq_false_iff, Bool.not_eq_true', Bool.not_eq_false', decide_eq_true_eq, decide_eq_false_iff_not] at h31
                exact ⟨decide (8 ≤ o ∧ o ≤ 22), rfl, le_mk (fun n => n) [] rfl (by simp [upS, keepS, *]) (by simp [*, upS]) (by simp [upS])⟩
              · try simp only [Bool.or_eq_true, Bool.and_eq_true, Bool.or_eq_false_iff, Bool.and_eq_false_iff, Bool.not_eq_true', Bool.not_eq_false', decide_eq_true_eq, decide_eq_false_iff_not] at h31
                refine HT_seq <| (HT_run (by simp [*]; rfl) ?_)
                refine (HT_cond rfl (fun h34 => HT_skip ?_) (fun h34 => ?_))
                · try simp only [Bool.or_eq_true, Bool.and_eq_true, Bool.or_eq_false_iff, Bool.and_eq_false_iff, Bool.not_eq_true', Bool.not_eq_false', decide_eq_true_eq, decide_eq_false_iff_not] at h34
                  exact ⟨decide (8 ≤ o ∧ o ≤ 22), rfl, le_mk (fun n => n) [] rfl (by simp [upS, keepS, *]) (by simp [*, upS]) (by simp [upS])⟩
                · try simp only [Bool.or_eq_true, Bool.and_eq_true, Bool.or_eq_false_iff, Bool.and_eq_false_iff, Bool.not_eq_true', Bool.not_eq_false', decide_eq_true_eq, decide_eq_false_iff_not] at h34
                  refine HT_seq <| (HT_run (by simp [*]; rfl) ?_)
                  refine (HT_cond rfl (fun h37 => HT_skip ?_) (fun h37 => ?_))
                  · try simp only [Bool.or_eq_true, Bool.and_eq_true, Bool.or_eq_false_iff, Bool.and_eq_false_iff, Bool.not_eq_true', Bool.not_eq_false', decide_eq_true_eq, decide_eq_false_iff_not] at h37
                    exact ⟨decide (8 ≤ o ∧ o ≤ 22), rfl, le_mk (fun n => n) [] rfl (by simp [upS, keepS, *]) (by simp [*, upS]) (by simp [upS])⟩
                  · try simp only [Bool.or_eq_true, Bool.and_eq_true, Bool.or_eq_false_iff, Bool.and_eq_false_iff, Bool.not_eq_true', Bool.not_eq_false', decide_eq_true_eq, decide_eq_false_iff_not] at h37
                    refine HT_seq <| (HT_run (by simp [*]; rfl) ?_)
                    refine (HT_cond rfl (fun h40 => HT_skip ?_) (fun h40 => ?_))
                    · try simp only [Bool.or_eq_true, Bool.and_eq_true, Bool.or_eq_false_iff, Bool.and_eq_false_iff, Bool.not_eq_true', Bool.not_eq_false', decide_eq_true_eq, decide_eq_false_iff_not] at h40
                      exact ⟨decide (8 ≤ o ∧ o ≤ 22), rfl, le_mk (fun n => n) [] rfl (by simp [upS, keepS, *]) (by simp [*, upS]) (by simp [upS])⟩
                    · try simp only [Bool.or_eq_true, Bool.and_eq_true, Bool.or_eq_false_iff, Bool.and_eq_false_iff, Bool.not_eq_true', Bool.not_eq_false', decide_eq_true_eq, decide_eq_false_iff_not] at h40
                      refine HT_seq <| (HT_run (by simp [*]; rfl) ?_)
                      refine (HT_cond rfl (fun h43 => HT_skip ?_) (fun h43 => ?_))
                      · try simp only [Bool.or_eq_true, Bool.and_eq_true, Bool.or_eq_false_iff, Bool.and_eq_false_iff, Bool.not_eq_true', Bool.not_eq_false', decide_eq_true_eq, decide_eq_false_iff_not] at h43
                        exact ⟨decide (8 ≤ o ∧ o ≤ 22), rfl, le_mk (fun n => n) [] rfl (by simp [upS, keepS, *]) (by simp [*, upS]) (by simp [upS])⟩
                      · try simp only [Bool.or_eq_true, Bool.and_eq_true, Bool.or_eq_false_iff, Bool.and_eq_false_iff, Bool.not_eq_true', Bool.not_eq_false', decide_eq_true_eq, decide_eq_false_iff_not] at h43
                        refine HT_seq <| (HT_run (by simp [*]; rfl) ?_)
                        refine (HT_cond rfl (fun h46 => HT_skip ?_) (fun h46 => ?_))
                        · try simp only [Bool.or_eq_true, Bool.and_eq_true, Bool.or_eq_false_iff, Bool.and_eq_false_iff, Bool.not_eq_true', Bool.not_eq_false', decide_eq_true_eq, decide_eq_false_iff_not] at h46
                          exact ⟨decide (8 ≤ o ∧ o ≤ 22), rfl, le_mk (fun n => n) [] rfl (by simp [upS, keepS, *]) (by simp [*, upS]) (by simp [upS])⟩
                        · try simp only [Bool.or_eq_true, Bool.and_eq_true, Bool.or_eq_false_iff, Bool.and_eq_false_iff, Bool.not_eq_true', Bool.not_eq_false', decide_eq_true_eq, decide_eq_false_iff_not] at h46
                          refine HT_seq <| (HT_run (by simp [*]; rfl) ?_)
                          refine (HT_cond rfl (fun h49 => HT_skip ?_) (fun h49 => ?_))
                          · try simp only [Bool.or_eq_true, Bool.and_eq_true, Bool.or_eq_false_iff, Bool.and_eq_false_iff, Bool.not_eq_true', Bool.not_eq_false', decide_eq_true_eq, decide_eq_false_iff_not] at h49
                            exact ⟨decide (8 ≤ o ∧ o ≤ 22), rfl, le_mk (fun n => n) [] rfl (by simp [upS, keepS, *]) (by simp [*, upS]) (by simp [upS])⟩
                          · try simp only [Bool.or_eq_true, Bool.and_eq_true, Bool.or_eq_false_iff, Bool.and_eq_false_iff, Bool.not_eq_true', Bool.not_eq_false', decide_eq_true_eq, decide_eq_false_iff_not] at h49
                            refine HT_seq <| (HT_run (by simp [*]; rfl) ?_)
                            refine (HT_cond rfl (fun h52 => HT_skip ?_) (fun h52 => ?_))
                            · try simp only [Bool.or_eq_true, Bool.and_eq_true, Bool.or_eq_false_iff, Bool.and_eq_false_iff, Bool.not_eq_true', Bool.not_eq_false', decide_eq_true_eq, decide_eq_false_iff_not] at h52
                              exact ⟨decide (8 ≤ o ∧ o ≤ 22), rfl, le_mk (fun n => n) [] rfl (by simp [upS, keepS, *]) (by simp [*, upS]) (by simp [upS])⟩
                            · try simp only [Bool.or_eq_true, Bool.and_eq_true, Bool.or_eq_false_iff, Bool.and_eq_false_iff, Bool.not_eq_true', Bool.not_eq_false', decide_eq_true_eq, decide_eq_false_iff_not] at h52
                              refine HT_seq <| (HT_run (by simp [*]; rfl) ?_)
                              refine (HT_cond rfl (fun h55 => HT_skip ?_) (fun h55 => ?_))
                              · try simp only [Bool.or_eq_true, Bool.and_eq_true, Bool.or_eq_false_iff, Bool.and_eq_false_iff, Bool.not_eq_true', Bool.not_eq_false', decide_eq_true_eq, decide_eq_false_iff_not] at h55
                                exact ⟨decide (8 ≤ o ∧ o ≤ 22), rfl, le_mk (fun n => n) [] rfl (by simp [upS, keepS, *]) (by simp [*, upS]) (by simp [upS])⟩
                              · try simp only [Bool.or_eq_true, Bool.and_eq_true, Bool.or_eq_false_iff, Bool.and_eq_false_iff, Bool.not_eq_true', Bool.not_eq_false', decide_eq_true_eq, decide_eq_false_iff_not] at h55
                                refine HT_seq <| (HT_run (by simp [*]; rfl) ?_)
                                refine (HT_cond rfl (fun h58 => HT_skip ?_) (fun h58 => ?_))
                                · try simp only [Bool.or_eq_true, Bool.and_eq_true, Bool.or_eq_false_iff, Bool.and_eq_false_iff, Bool.not_eq_true', Bool.not_eq_false', decide_eq_true_eq, decide_eq_false_iff_not] at h58
                                  exact ⟨decide (8 ≤ o ∧ o ≤ 22), rfl, le_mk (fun n => n) [] rfl (by simp [upS, keepS, *]) (by simp [*, upS]) (by simp [upS])⟩
                                · try simp only [Bool.or_eq_true, Bool.and_eq_true, Bool.or_eq_false_iff, Bool.and_eq_false_iff, Bool.not_eq_true', Bool.not_eq_false', decide_eq_true_eq, decide_eq_false_iff_not] at h58
                                  refine HT_seq <| (HT_run (by simp [*]; rfl) ?_)
                                  refine (HT_cond rfl (fun h61 => HT_skip ?_) (fun h61 => ?_))
                                  · try simp only [Bool.or_eq_true, Bool.and_eq_true, Bool.or_eq_false_iff, Bool.and_eq_false_iff, Bool.not_eq_true', Bool.not_eq_false', decide_eq_true_eq, decide_eq_false_iff_not] at h61
                                    exact ⟨decide (8 ≤ o ∧ o ≤ 22), rfl, le_mk (fun n => n) [] rfl (by simp [upS, keepS, *]) (by simp [*, upS]) (by simp [upS])⟩
                                  · try simp only [Bool.or_eq_true, Bool.and_eq_true, Bool.or_eq_false_iff, Bool.and_eq_false_iff, Bool.not_eq_true', Bool.not_eq_false', decide_eq_true_eq, decide_eq_false_iff_not] at h61
                                    refine (HT_run (by simp [*]; rfl) ?_)
                                    have hz : decide (o = 22) = (decide (8 ≤ o) && decide (o ≤ 22)) := by rw [← Bool.decide_and, decide_eq_decide]; omega
                                    exact ⟨decide (8 ≤ o ∧ o ≤ 22), rfl, le_mk (fun n => n) [] rfl (by simp [upS, keepS, *]) (by simp [*, upS]) (by simp [upS])⟩
      rintro _ rfl
      simp only [upS, keepS, insS]
      try simp only [keepS, List.contains_cons, List.contains_nil, Bool.or_false, Bool.or_true, Bool.true_or, Bool.false_or, Nat.reduceBEq, BEq.rfl, beq_self_eq_true, if_true, if_false, Bool.false_eq_true, ite_true, ite_false, ins, Nat.reduceLT]
      refine (HT_cond rfl (fun h65 => ?_) (fun h65 => ?_))
      · try simp only [Bool.or_eq_true, Bool.and_eq_true, Bool.or_eq_false_iff, Bool.and_eq_false_iff, Bool.not_eq_true', Bool.not_eq_false', decide_eq_true_eq, decide_eq_false_iff_not] at h65
        refine HT_seq <| (HT_run (by simp [*]; rfl) ?_)
        exact (HT_retE (fun h => ⟨.inr rfl, h⟩) _ (by simp [*]; rfl) (by first | rfl | (simp [*, kidsR]; done) | (simp only [resR, kidsR]; (repeat' split) <;> first | rfl | (exfalso; omega) | simp_all)) (by simp))
      · try simp only [Bool.or_eq_true, Bool.and_eq_true, Bool.or_eq_false_iff, Bool.and_eq_false_iff, Bool.not_eq_true', Bool.not_eq_false', decide_eq_true_eq, decide_eq_false_iff_not] at h65
        refine HT_seq <| (HT_run (by simp [*]; rfl) ?_)
        refine (HT_cond rfl (fun h69 => ?_) (fun h69 => ?_))
        · try simp only [Bool.or_eq_true, Bool.and_eq_true, Bool.or_eq_false_iff, Bool.and_eq_false_iff, Bool.not_eq_true', Bool.not_eq_false', decide_eq_true_eq, decide_eq_false_iff_not] at h69
          refine HT_seq <| (HT_run (by simp [*]; rfl) ?_)
          exact (HT_retE (fun h => ⟨.inr rfl, h⟩) _ (by simp [*]; rfl) (by first | rfl | (simp [*, kidsR]; done) | (simp only [resR, kidsR]; (repeat' split) <;> first | rfl | (exfalso; omega) | simp_all)) (by simp))
        · try simp only [Bool.or_eq_true, Bool.and_eq_true, Bool.or_eq_false_iff, Bool.and_eq_false_iff, Bool.not_eq_true', Bool.not_eq_false', decide_eq_true_eq, decide_eq_false_iff_not] at h69
          refine HT_seq <| (HT_run (by simp [*]; rfl) ?_)
          refine (HT_cond rfl (fun h73 => ?_) (fun h73 => HT_skip ?_))
          · try simp only [Bool.or_eq_true, Bool.and_eq_true, Bool.or_eq_false_iff, Bool.and_eq_false_iff, Bool.not_eq_true', Bool.not_eq_false', decide_eq_true_eq, decide_eq_false_iff_not] at h73
            refine HT_seq <| (HT_run (by simp [*]; rfl) ?_)
            exact (HT_retE (fun h => ⟨.inr rfl, h⟩) _ (by simp [*]; rfl) (by first | rfl | (simp [*, kidsR]; done) | (simp only [resR, kidsR]; (repeat' split) <;> first | rfl | (exfalso; omega) | simp_all)) (by simp))
          · try simp only [Bool.or_eq_true, Bool.and_eq_true, Bool.or_eq_false_iff, Bool.and_eq_false_iff, Bool.not_eq_true', Bool.not_eq_false', decide_eq_true_eq, decide_eq_false_iff_not] at h73
            refine HT_seq <| (HT_run (by simp [*]; rfl) ?_)
            exact (HT_retE (fun h => ⟨.inr rfl, h⟩) _ (by simp [*]; rfl) (by first | rfl | (simp [*, kidsR]; done) | (simp only [resR, kidsR]; (repeat' split) <;> first | rfl | (exfalso; omega) | simp_all)) (by simp))
end Go.Proofs.YtfilidjbpomgoaaGreat
