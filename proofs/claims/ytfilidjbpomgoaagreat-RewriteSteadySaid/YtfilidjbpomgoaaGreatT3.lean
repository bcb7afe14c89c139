/- T3: contracts of functions of the program and of the reference, and plain facts about what they compute; used by the proof of the claimed statement. Conditions: as each theorem states. -/
import Derived.Test.YtfilidjbpomgoaaGreatT2
import Derived.Test.YtfilidjbpomgoaaGreatT1
set_option linter.unusedSimpArgs false
set_option linter.unusedVariables false
set_option maxRecDepth 100000
set_option maxHeartbeats 2000000
namespace Go.Proofs.YtfilidjbpomgoaaGreat
open Go Go.Hl

theorem St.lists {P : List St → Prop} (h : ∀ l, (∀ s ∈ l, P s.then_ ∧ P s.else_) → P l) : ∀ l, P l := by
  have key : ∀ s : St, P s.then_ ∧ P s.else_ := by
    intro s
    induction s using St.ind with
    | h d c v n t a b bs iha ihb => exact ⟨h a iha, h b ihb⟩
  exact fun l => h l fun s _ => key s
theorem nodesS_mem {l : List St} {s : St} (hs : s ∈ l) : 1 + s.term.nodes + nodesS s.then_ + nodesS s.else_ ≤ nodesS l := by
  induction l with
  | nil => cases hs
  | cons x l ih =>
    simp only [nodesS]
    rcases List.mem_cons.1 hs with rfl | h
    · obtain ⟨d, c, v, n, t, a, b, bs⟩ := s
      simp only [St.nodes, St.term, St.then_, St.else_]
      omega
    · have := ih h; omega

/-! ## the times of steps -/
def heldI (n lo hi : Int) : Int := if n < lo then lo else if hi < n then hi else n
theorem clamp_con (n lo hi : Int) (h : lo ≤ hi) (d : Nat) : Con Tryz.prog 123 true [li n, li lo, li hi] (.v (li (heldI n lo hi))) none d := by
  have hz : heldI n lo hi = if hi < (if n < lo then lo else n) then hi else (if n < lo then lo else n) := by
    unfold heldI
    (repeat' split) <;> omega
  refine con_of_HT Tryz.func123 rfl (by kernel_rfl) (Nat.le_of_ble_eq_true rfl) ?_
  simp only [Tryz.f123]
  refine HT_seq <| (HT_run (by simp [*]; rfl) ?_)
  refine HT_seq <| (HT_run (by simp [*]; rfl) ?_)
  exact (HT_retE (fun h => ⟨.inr rfl, h⟩) _ (by simp [*]; rfl) (by first | rfl | (simp [*]; done) | (simp only [resR]; (repeat' split) <;> first | rfl | (exfalso; omega) | simp_all)) (by simp))
theorem held_con (n lo hi : Int) (d : Nat) : Con Tryz.prog 100 true [li n, li lo, li hi] (.v (li (heldI n lo hi))) none d := by
  refine con_of_HT Tryz.func100 rfl (by kernel_rfl) (Nat.le_of_ble_eq_true rfl) ?_
  simp only [Tryz.f100]
  refine HT_seq <| (HT_run (by simp [*]; rfl) ?_)
  refine HT_seq <| HT_seq <| (HT_run (by simp [*]; rfl) ?_)
  refine (HT_cond rfl (fun h2 => ?_) (fun h2 => HT_skip ?_))
  · try simp only [Bool.or_eq_true, Bool.and_eq_true, Bool.or_eq_false_iff, Bool.and_eq_false_iff, Bool.not_eq_true', Bool.not_eq_false', decide_eq_true_eq, decide_eq_false_iff_not] at h2
    refine HT_seq <| (HT_run (by simp [*]; rfl) ?_)
    exact (HT_retE (fun h => ⟨.inr rfl, h⟩) _ (by simp [*]; rfl) (by first | rfl | (simp [*, heldI]; done) | (simp only [resR, heldI]; (repeat' split) <;> first | rfl | (exfalso; omega) | simp_all)) (by simp))
  · try simp only [Bool.or_eq_true, Bool.and_eq_true, Bool.or_eq_false_iff, Bool.and_eq_false_iff, Bool.not_eq_true', Bool.not_eq_false', decide_eq_true_eq, decide_eq_false_iff_not] at h2
    refine HT_seq <| HT_seq <| (HT_run (by simp [*]; rfl) ?_)
    refine (HT_cond rfl (fun h6 => ?_) (fun h6 => HT_skip ?_))
    · try simp only [Bool.or_eq_true, Bool.and_eq_true, Bool.or_eq_false_iff, Bool.and_eq_false_iff, Bool.not_eq_true', Bool.not_eq_false', decide_eq_true_eq, decide_eq_false_iff_not] at h6
      refine HT_seq <| (HT_run (by simp [*]; rfl) ?_)
      exact (HT_retE (fun h => ⟨.inr rfl, h⟩) _ (by simp [*]; rfl) (by first | rfl | (simp [*, heldI]; done) | (simp only [resR, heldI]; (repeat' split) <;> first | rfl | (exfalso; omega) | simp_all)) (by simp))
    · try simp only [Bool.or_eq_true, Bool.and_eq_true, Bool.or_eq_false_iff, Bool.and_eq_false_iff, Bool.not_eq_true', Bool.not_eq_false', decide_eq_true_eq, decide_eq_false_iff_not] at h6
      refine HT_seq <| (HT_run (by simp [*]; rfl) ?_)
      exact (HT_retE (fun h => ⟨.inr rfl, h⟩) _ (by simp [*]; rfl) (by first | rfl | (simp [*, heldI]; done) | (simp only [resR, heldI]; (repeat' split) <;> first | rfl | (exfalso; omega) | simp_all)) (by simp))
theorem held_in {n lo hi : Int} (h : lo ≤ hi) : lo ≤ heldI n lo hi ∧ heldI n lo hi ≤ hi := by
  unfold heldI
  (repeat' split) <;> omega
def onceI (m c : Int) : Int := if 0 < m then c else 0
mutual
def spS : St → Int × Int
  | .mk d c _ n (.mk o tn _) a b _ =>
    if d = 3 then (heldI c 0 67108865 + mn (spL a (0, 0)).1 (spL b (0, 0)).1, heldI c 0 67108865 + mx (spL a (0, 0)).2 (spL b (0, 0)).2)
    else if d = 4 then
      (if o ≠ 0 then (onceI (heldI n 0 4096) (heldI c 0 67108865), heldI n 0 4096 * (heldI c 0 67108865 + (spL a (0, 0)).2))
       else if tn ≠ 0 then (heldI n 0 4096 * (heldI c 0 67108865 + (spL a (0, 0)).1), heldI n 0 4096 * (heldI c 0 67108865 + (spL a (0, 0)).2))
       else (onceI (heldI n 0 4096) (heldI c 0 67108865), onceI (heldI n 0 4096) (heldI c 0 67108865)))
    else (heldI c 0 67108865, heldI c 0 67108865)
def spL : List St → Int × Int → Int × Int
  | [], p => p
  | s :: l, p => spL l (mn (p.1 + (spS s).1) 67108865, mn (p.2 + (spS s).2) 67108865)
end
theorem mulT {m z : Int} (hm : 0 ≤ m ∧ m ≤ 4096) (hz : 0 ≤ z ∧ z ≤ 134217730) : 0 ≤ m * z ∧ m * z ≤ 549755822080 := by
  have h1 : m.natAbs * z.natAbs ≤ 4096 * 134217730 := Nat.mul_le_mul (by omega) (by omega)
  rw [← Int.natAbs_mul] at h1
  have h2 := Int.mul_nonneg hm.1 hz.1
  omega
def inT (p : Int × Int) : Prop := 0 ≤ p.1 ∧ p.1 ≤ 67108865 ∧ 0 ≤ p.2 ∧ p.2 ≤ 67108865
def inU (p : Int × Int) : Prop := 0 ≤ p.1 ∧ p.1 ≤ 549755822080 ∧ 0 ≤ p.2 ∧ p.2 ≤ 549755822080
theorem inT0 : inT (0, 0) := ⟨by decide, by decide, by decide, by decide⟩
theorem once_in {m c : Int} (hc : 0 ≤ c ∧ c ≤ 67108865) : 0 ≤ onceI m c ∧ onceI m c ≤ 67108865 := by
  unfold onceI
  split <;> omega
theorem mn_in {a : Int} (h : 0 ≤ a) : 0 ≤ mn a 67108865 ∧ mn a 67108865 ≤ 67108865 := by
  unfold mn
  split <;> omega
mutual
theorem spS_in : ∀ s : St, inU (spS s)
  | .mk d c v n (.mk o tn ks) a b bs => by
    have ha := spL_in a (0, 0) inT0
    have hb := spL_in b (0, 0) inT0
    have hc := held_in (n := c) (lo := 0) (hi := 67108865) (by decide)
    have hn := held_in (n := n) (lo := 0) (hi := 4096) (by decide)
    have ho := once_in (m := heldI n 0 4096) hc
    unfold inT at ha hb
    have h1 := mulT hn (z := heldI c 0 67108865 + (spL a (0, 0)).1) (by omega)
    have h2 := mulT hn (z := heldI c 0 67108865 + (spL a (0, 0)).2) (by omega)
    unfold inU
    simp only [spS]
    split
    · simp only [mn, mx]
      (repeat' split) <;> omega
    · split
      · split
        · simp only; omega
        · split
          · simp only; omega
          · simp only; omega
      · simp only; omega
theorem spL_in : ∀ (l : List St) (p : Int × Int), inT p → inT (spL l p)
  | [], p, h => h
  | s :: l, p, h => by
    have hs := spS_in s
    simp only [spL]
    refine spL_in l _ ?_
    unfold inT inU at *
    have h1 := mn_in (a := p.1 + (spS s).1) (by omega)
    have h2 := mn_in (a := p.2 + (spS s).2) (by omega)
    simp only
    omega
end

theorem spanP_con (l : List St) : nodesS l ≤ 1000000000 → ∀ d : Nat, Con Tryz.prog 115 true [lS l] (.tup [li (spL l (0, 0)).1, li (spL l (0, 0)).2]) none d := by
  revert l
  apply St.lists
  intro l ih hn d
  have hlen := len_nodesS l
  obtain ⟨res, hres⟩ : ∃ r, spL l (0, 0) = r := ⟨_, rfl⟩
  rw [hres]
  refine con_of_HT Tryz.func115 rfl (by kernel_rfl) (Nat.le_of_ble_eq_true rfl) ?_
  simp only [Tryz.f115]
  refine HT_seq <| (HT_run (by simp [*]; rfl) ?_)
  refine HT_seq <| HT_seq <| (HT_run (by simp [*]; rfl) ?_)
  refine HT_block <| (HT_loopU [17, 18] (fun (x : Nat × Int × Int) => [(2, .v (li x.2.1)), (3, .v (li x.2.2)), (19, .v (li x.1))]) (fun (x : Nat × Int × Int) => []) (fun (x : Nat × Int × Int) => x.1 ≤ l.length ∧ spL (l.drop x.1) x.2 = res ∧ inT x.2) (fun (x : Nat × Int × Int) => l.length - x.1) (0, 0, 0) ⟨Nat.zero_le _, hres, inT0⟩ ?_ ?_)
  · exact le_mk (fun n => n) [] rfl (by simp [*, upS, keepS]) (by simp [*, upS]) (by simp [upS])
  rintro ⟨k, m, q⟩ ⟨hk, hJ, hin⟩
  simp only [upS, keepS, insS]
  try simp only [keepS, List.contains_cons, List.contains_nil, Bool.or_false, Bool.or_true, Bool.true_or, Bool.false_or, Nat.reduceBEq, BEq.rfl, beq_self_eq_true, if_true, if_false, Bool.false_eq_true, ite_true, ite_false, ins, Nat.reduceLT]
  simp only at hk hJ
  unfold inT at hin
  simp only at hin
  clear hres
  refine HT_seq <| (HT_run (by simp [*]; rfl) ?_)
  refine HT_seq <| (HT_cond rfl (fun h4 => HT_skip ?_) (fun h4 => ?_))
  · try simp only [Bool.or_eq_true, Bool.and_eq_true, Bool.or_eq_false_iff, Bool.and_eq_false_iff, Bool.not_eq_true', Bool.not_eq_false', decide_eq_true_eq, decide_eq_false_iff_not] at h4
    have hlt : k < l.length := by omega
    obtain ⟨s, he, hd⟩ := at_lt hlt
    have hmem : s ∈ l := List.mem_of_getElem? he
    have hnm := nodesS_mem hmem
    have iha := fun h => (ih s hmem).1 h
    have ihb := fun h => (ih s hmem).2 h
    have hw1 := wrap1 hlt (by omega)
    have hk1 : k + 1 ≤ l.length := hlt
    rw [hd] at hJ
    simp only [spL] at hJ
    have hsin := spS_in s
    obtain ⟨pq, hpq⟩ : ∃ pq, spS s = pq := ⟨_, rfl⟩
    rw [hpq] at hJ hsin
    obtain ⟨sd, sc, sv, sn, ⟨so, stn, sks⟩, sa, sb, sbs⟩ := s
    simp only [St.then_, St.else_, St.term] at iha ihb hnm
    have ca := iha (by omega)
    have cb := ihb (by omega)
    have he' := get_encS he
    simp only [St.enc, Tm.enc, List.cons_append, List.nil_append] at he'
    simp only [spS] at hpq
    have hxa := spL_in sa (0, 0) inT0
    have hxb := spL_in sb (0, 0) inT0
    obtain ⟨xa, hxa'⟩ : ∃ x, spL sa (0, 0) = x := ⟨_, rfl⟩
    obtain ⟨xb, hxb'⟩ : ∃ x, spL sb (0, 0) = x := ⟨_, rfl⟩
    have hci := held_in (n := sc) (lo := 0) (hi := 67108865) (by decide)
    have hni := held_in (n := sn) (lo := 0) (hi := 4096) (by decide)
    obtain ⟨cc, hcc⟩ : ∃ x, heldI sc 0 67108865 = x := ⟨_, rfl⟩
    obtain ⟨nn, hnn⟩ : ∃ x, heldI sn 0 4096 = x := ⟨_, rfl⟩
    have c1 := clamp_con sc 0 67108865 (by decide)
    have c2 := clamp_con sn 0 4096 (by decide)
    rw [hxa'] at ca hxa hpq
    rw [hxb'] at cb hxb hpq
    rw [hcc] at c1 hci hpq
    rw [hnn] at c2 hni hpq
    unfold inT at hxa hxb
    unfold inU at hsin
    clear hlt h4 iha ihb ih hxa' hxb' hcc hnn hmem hnm hd he
    refine HT_seq <| HT_block <| HT_seq <| (HT_run (by simp [*]; rfl) ?_)
    refine HT_seq <| (HT_drunc [⟨true, .v (li cc), none⟩, ⟨true, .v (li nn), none⟩] (by kernel_rfl) (by kernel_rfl) (by rfl) (by simp [*]; first | exact ⟨rfl, Iff.rfl⟩ | exact ⟨rfl, trivial⟩ | rfl) ?_ ?_)
    · first | exact ⟨c1 _, c2 _⟩ | exact trivial | (repeat' first | exact trivial | exact c1 _ | exact c2 _ | apply And.intro)
    refine HT_seq <| (HT_run (by simp [*]; rfl) ?_)
    refine (HT_cutU [2, 3, 17, 18, 19] (fun (z : Unit) => [(8, .v (li pq.1)), (9, .v (li pq.2))]) (fun (z : Unit) => []) (fun (z : Unit) => True) ?_ ?_)
    ·
      refine HT_seq <| (HT_run (by simp [*]; rfl) ?_)
      refine HT_block <| HT_seq <| (HT_run (by simp [*]; rfl) ?_)
      refine (HT_cond rfl (fun h11 => ?_) (fun h11 => ?_))
      · try simp only [Bool.or_eq_true, Bool.and_eq_true, Bool.or_eq_false_iff, Bool.and_eq_false_iff, Bool.not_eq_true', Bool.not_eq_false', decide_eq_true_eq, decide_eq_false_iff_not] at h11
        rw [if_pos h11] at hpq
        subst hpq
        have hmn : (if xb.1 < xa.1 then xb.1 else xa.1) = mn xa.1 xb.1 := rfl
        have hmx : (if xa.2 < xb.2 then xb.2 else xa.2) = mx xa.2 xb.2 := rfl
        have hw2 : IntKind.i64.wrap (cc + mn xa.1 xb.1) = cc + mn xa.1 xb.1 := wrap_in (by simp only at hsin; omega) (by simp only at hsin; omega)
        have hw3 : IntKind.i64.wrap (cc + mx xa.2 xb.2) = cc + mx xa.2 xb.2 := wrap_in (by simp only at hsin; omega) (by simp only at hsin; omega)
        clear hsin
        refine HT_seq <| (HT_runc [⟨true, .tup [li xa.1, li xa.2], none⟩] (by simp [*]; first | exact ⟨rfl, Iff.rfl⟩ | exact ⟨rfl, trivial⟩ | rfl) ?_ ?_)
        · first | exact ca _ | exact trivial | simpa [*] using ca _
        refine HT_seq <| (HT_runc [⟨true, .tup [li xb.1, li xb.2], none⟩] (by simp [*]; first | exact ⟨rfl, Iff.rfl⟩ | exact ⟨rfl, trivial⟩ | rfl) ?_ ?_)
        · first | exact cb _ | exact trivial | simpa [*] using cb _
        refine (HT_run (by simp [*]; rfl) ?_)
        exact ⟨(), trivial, le_mk (fun n => n) [] rfl (by simp [upS, keepS, *]) (by simp [*, upS]) (by simp [upS])⟩
      · try simp only [Bool.or_eq_true, Bool.and_eq_true, Bool.or_eq_false_iff, Bool.and_eq_false_iff, Bool.not_eq_true', Bool.not_eq_false', decide_eq_true_eq, decide_eq_false_iff_not] at h11
        rw [if_neg h11] at hpq
        refine HT_seq <| (HT_run (by simp [*]; rfl) ?_)
        refine (HT_cond rfl (fun h17 => ?_) (fun h17 => HT_skip ?_))
        · try simp only [Bool.or_eq_true, Bool.and_eq_true, Bool.or_eq_false_iff, Bool.and_eq_false_iff, Bool.not_eq_true', Bool.not_eq_false', decide_eq_true_eq, decide_eq_false_iff_not] at h17
          rw [if_pos h17] at hpq
          have hon : IntKind.i64.wrap ((if 1 < nn then 1 else nn) * cc) = onceI nn cc := by
            have : (if 1 < nn then 1 else nn) * cc = onceI nn cc := by
              unfold onceI
              by_cases h : 0 < nn
              · rw [if_pos h]
                have : (if 1 < nn then 1 else nn) = 1 := by split <;> omega
                rw [this, Int.one_mul]
              · rw [if_neg h]
                have : (if 1 < nn then 1 else nn) = 0 := by split <;> omega
                rw [this, Int.zero_mul]
            rw [this]
            have := once_in (m := nn) hci
            exact wrap_in (by omega) (by omega)
          have hm1 := mulT hni (z := cc + xa.1) (by omega)
          have hm2 := mulT hni (z := cc + xa.2) (by omega)
          have hw2 : IntKind.i64.wrap (cc + xa.1) = cc + xa.1 := wrap_in (by omega) (by omega)
          have hw3 : IntKind.i64.wrap (cc + xa.2) = cc + xa.2 := wrap_in (by omega) (by omega)
          have hw4 : IntKind.i64.wrap (nn * (cc + xa.1)) = nn * (cc + xa.1) := wrap_in (by omega) (by omega)
          have hw5 : IntKind.i64.wrap (nn * (cc + xa.2)) = nn * (cc + xa.2) := wrap_in (by omega) (by omega)
          clear hm1 hm2
          refine HT_seq <| (HT_runc [⟨true, .tup [li xa.1, li xa.2], none⟩] (by simp [*]; first | exact ⟨rfl, Iff.rfl⟩ | exact ⟨rfl, trivial⟩ | rfl) ?_ ?_)
          · first | exact ca _ | exact trivial | simpa [*] using ca _
          refine HT_seq <| (HT_run (by simp [*]; rfl) ?_)
          refine HT_block <| HT_seq <| (HT_run (by simp [*]; rfl) ?_)
          refine (HT_cond rfl (fun h21 => ?_) (fun h21 => ?_))
          · try simp only [Bool.or_eq_true, Bool.and_eq_true, Bool.or_eq_false_iff, Bool.and_eq_false_iff, Bool.not_eq_true', Bool.not_eq_false', decide_eq_true_eq, decide_eq_false_iff_not] at h21
            rw [if_pos h21] at hpq
            subst hpq
            refine (HT_run (by simp [*]; rfl) ?_)
            exact ⟨(), trivial, le_mk (fun n => n) [] rfl (by simp [upS, keepS, *]) (by simp [*, upS]) (by simp [upS])⟩
          · try simp only [Bool.or_eq_true, Bool.and_eq_true, Bool.or_eq_false_iff, Bool.and_eq_false_iff, Bool.not_eq_true', Bool.not_eq_false', decide_eq_true_eq, decide_eq_false_iff_not] at h21
            rw [if_neg (fun h => h h21)] at hpq
            refine HT_seq <| (HT_run (by simp [*]; rfl) ?_)
            refine (HT_cond rfl (fun h25 => ?_) (fun h25 => ?_))
            · try simp only [Bool.or_eq_true, Bool.and_eq_true, Bool.or_eq_false_iff, Bool.and_eq_false_iff, Bool.not_eq_true', Bool.not_eq_false', decide_eq_true_eq, decide_eq_false_iff_not] at h25
              rw [if_pos h25] at hpq
              subst hpq
              refine (HT_run (by simp [*]; rfl) ?_)
              exact ⟨(), trivial, le_mk (fun n => n) [] rfl (by simp [upS, keepS, *]) (by simp [*, upS]) (by simp [upS])⟩
            · try simp only [Bool.or_eq_true, Bool.and_eq_true, Bool.or_eq_false_iff, Bool.and_eq_false_iff, Bool.not_eq_true', Bool.not_eq_false', decide_eq_true_eq, decide_eq_false_iff_not] at h25
              rw [if_neg (fun h => h h25)] at hpq
              subst hpq
              refine (HT_run (by simp [*]; rfl) ?_)
              exact ⟨(), trivial, le_mk (fun n => n) [] rfl (by simp [upS, keepS, *]) (by simp [*, upS]) (by simp [upS])⟩
        · try simp only [Bool.or_eq_true, Bool.and_eq_true, Bool.or_eq_false_iff, Bool.and_eq_false_iff, Bool.not_eq_true', Bool.not_eq_false', decide_eq_true_eq, decide_eq_false_iff_not] at h17
          rw [if_neg h17] at hpq
          subst hpq
          exact ⟨(), trivial, le_mk (fun n => n) [] rfl (by simp [upS, keepS, *]) (by simp [*, upS]) (by simp [upS])⟩
    rintro z hz
    simp only [upS, keepS, insS]
    try simp only [keepS, List.contains_cons, List.contains_nil, Bool.or_false, Bool.or_true, Bool.true_or, Bool.false_or, Nat.reduceBEq, BEq.rfl, beq_self_eq_true, if_true, if_false, Bool.false_eq_true, ite_true, ite_false, ins, Nat.reduceLT]
    clear hpq ca cb c1 c2 hci hni hxa hxb
    have hw2 : IntKind.i64.wrap (m + pq.1) = m + pq.1 := wrap_in (by omega) (by omega)
    have hw3 : IntKind.i64.wrap (q + pq.2) = q + pq.2 := wrap_in (by omega) (by omega)
    have hm1 := mn_in (a := m + pq.1) (by omega)
    have hm2 := mn_in (a := q + pq.2) (by omega)
    have hmn1 : (if 67108865 < m + pq.1 then 67108865 else m + pq.1) = mn (m + pq.1) 67108865 := rfl
    have hmn2 : (if 67108865 < q + pq.2 then 67108865 else q + pq.2) = mn (q + pq.2) 67108865 := rfl
    refine (HT_run (by simp [*]; rfl) ?_)
    refine (HT_run (by simp [*]; rfl) ?_)
    exact ⟨(k + 1, mn (m + pq.1) 67108865, mn (q + pq.2) 67108865), ⟨hk1, hJ, hm1.1, hm1.2, hm2.1, hm2.2⟩, by simp only; omega, le_mk (fun n => n) [] rfl (by simp [upS, keepS, *]) (by simp [*, upS]) (by simp [upS])⟩
  · try simp only [Bool.or_eq_true, Bool.and_eq_true, Bool.or_eq_false_iff, Bool.and_eq_false_iff, Bool.not_eq_true', Bool.not_eq_false', decide_eq_true_eq, decide_eq_false_iff_not] at h4
    have hkl : k = l.length := by omega
    rw [hkl, List.drop_length] at hJ
    simp only [spL] at hJ
    subst hJ
    refine (HT_exit ?_)
    refine HT_seq <| (HT_run (by simp [*]; rfl) ?_)
    exact (HT_retE (fun h => ⟨.inr rfl, h⟩) _ (by simp [*]; rfl) (by first | rfl | (simp [*]; done) | (simp only [resR]; (repeat' split) <;> first | rfl | (exfalso; omega) | simp_all)) (by simp))
end Go.Proofs.YtfilidjbpomgoaaGreat

namespace Go.Proofs.YtfilidjbpomgoaaGreat
open Go Go.Hl

/-! ## copies -/
theorem cloneV_con (l : List Vr) (hl : l.length ≤ 1000000) (d : Nat) : Con Tryz.prog 57 false [lV l] (.v (lV l)) none d := by
  have hroom : room l.length 48 := room_of (by omega) (by omega)
  cases l with
  | nil =>
    refine con_emp ?_ ?_
    · refine con_of_HT Tryz.func57 rfl (by kernel_rfl) (Nat.le_of_ble_eq_true rfl) ?_
      simp only [Tryz.f57]
      refine HT_seq <| (HT_run (by simp [*]; rfl) ?_)
      refine HT_seq <| HT_seq <| (HT_run (by simp [*]; rfl) ?_)
      refine (HT_cond rfl (fun h2 => ?_) (fun h2 => HT_skip ?_))
      · try simp only [Bool.or_eq_true, Bool.and_eq_true, Bool.or_eq_false_iff, Bool.and_eq_false_iff, Bool.not_eq_true', Bool.not_eq_false', decide_eq_true_eq, decide_eq_false_iff_not] at h2
        refine HT_seq <| (HT_run (by simp [*]; rfl) ?_)
        exact HT_ret ⟨.inr rfl, _, le_one 2 5 rfl, ⟨⟨_, by simp; rfl, by simp [resR]⟩, by simp, fun h => by cases h⟩⟩
      · exact absurd h2 (by simp)
    · intro a cap
      refine con_of_HT Tryz.func57 rfl (by kernel_rfl) (Nat.le_of_ble_eq_true rfl) ?_
      simp only [Tryz.f57]
      refine HT_seq <| (HT_run (by simp [*]; rfl) ?_)
      refine HT_seq <| HT_seq <| (HT_run (by simp [*]; rfl) ?_)
      refine (HT_cond rfl (fun h2 => ?_) (fun h2 => HT_skip ?_))
      · exact absurd h2 (by simp)
      · try simp only [Bool.or_eq_true, Bool.and_eq_true, Bool.or_eq_false_iff, Bool.and_eq_false_iff, Bool.not_eq_true', Bool.not_eq_false', decide_eq_true_eq, decide_eq_false_iff_not] at h2
        refine HT_le (le_emp 0 5 rfl) ?_
        refine HT_seq <| (HT_run (by simp [*]; rfl) ?_)
        exact HT_ret ⟨.inr rfl, _, le_frz 7 rfl, ⟨⟨_, by simp; rfl, by simp [resR]⟩, by simp, fun h => by cases h⟩⟩
  | cons v r =>
    refine con_of_HT Tryz.func57 rfl (by kernel_rfl) (Nat.le_of_ble_eq_true rfl) ?_
    simp only [Tryz.f57]
    rw [List.length_cons] at hroom
    refine HT_seq <| (HT_run (by simp [*]; rfl) ?_)
    refine HT_seq <| HT_seq <| (HT_run (by simp [*]; rfl) ?_)
    refine (HT_cond rfl (fun h2 => ?_) (fun h2 => HT_skip ?_))
    · exact absurd h2 (by simp)
    · try simp only [Bool.or_eq_true, Bool.and_eq_true, Bool.or_eq_false_iff, Bool.and_eq_false_iff, Bool.not_eq_true', Bool.not_eq_false', decide_eq_true_eq, decide_eq_false_iff_not] at h2
      refine HT_seq <| (HT_run (by simp [*]; rfl) ?_)
      exact HT_ret ⟨.inr rfl, _, le_frz 7 rfl, ⟨⟨_, by simp; rfl, by simp [resR]⟩, by simp, fun h => by cases h⟩⟩
theorem cloneI_con (l : List Int) (hl : l.length ≤ 1000000000) (d : Nat) : Con Tryz.prog 46 false [lI l] (.v (lI l)) none d := by
  have hroom : room l.length 8 := ⟨by unfold maxLen; omega, by omega⟩
  cases l with
  | nil =>
    refine con_emp ?_ ?_
    · refine con_of_HT Tryz.func46 rfl (by kernel_rfl) (Nat.le_of_ble_eq_true rfl) ?_
      simp only [Tryz.f46]
      refine HT_seq <| (HT_run (by simp [*]; rfl) ?_)
      refine HT_seq <| HT_seq <| (HT_run (by simp [*]; rfl) ?_)
      refine (HT_cond rfl (fun h2 => ?_) (fun h2 => HT_skip ?_))
      · try simp only [Bool.or_eq_true, Bool.and_eq_true, Bool.or_eq_false_iff, Bool.and_eq_false_iff, Bool.not_eq_true', Bool.not_eq_false', decide_eq_true_eq, decide_eq_false_iff_not] at h2
        refine HT_seq <| (HT_run (by simp [*]; rfl) ?_)
        exact HT_ret ⟨.inr rfl, _, le_one 2 1 rfl, ⟨⟨_, by simp; rfl, by simp [resR]⟩, by simp, fun h => by cases h⟩⟩
      · exact absurd h2 (by simp)
    · intro a cap
      refine con_of_HT Tryz.func46 rfl (by kernel_rfl) (Nat.le_of_ble_eq_true rfl) ?_
      simp only [Tryz.f46]
      refine HT_seq <| (HT_run (by simp [*]; rfl) ?_)
      refine HT_seq <| HT_seq <| (HT_run (by simp [*]; rfl) ?_)
      refine (HT_cond rfl (fun h2 => ?_) (fun h2 => HT_skip ?_))
      · exact absurd h2 (by simp)
      · try simp only [Bool.or_eq_true, Bool.and_eq_true, Bool.or_eq_false_iff, Bool.and_eq_false_iff, Bool.not_eq_true', Bool.not_eq_false', decide_eq_true_eq, decide_eq_false_iff_not] at h2
        refine HT_le (le_emp 0 1 rfl) ?_
        refine HT_seq <| (HT_run (by simp [*]; rfl) ?_)
        exact HT_ret ⟨.inr rfl, _, le_frz 7 rfl, ⟨⟨_, by simp; rfl, by simp [resR]⟩, by simp, fun h => by cases h⟩⟩
  | cons v r =>
    refine con_of_HT Tryz.func46 rfl (by kernel_rfl) (Nat.le_of_ble_eq_true rfl) ?_
    simp only [Tryz.f46]
    rw [List.length_cons] at hroom
    refine HT_seq <| (HT_run (by simp [*]; rfl) ?_)
    refine HT_seq <| HT_seq <| (HT_run (by simp [*]; rfl) ?_)
    refine (HT_cond rfl (fun h2 => ?_) (fun h2 => HT_skip ?_))
    · exact absurd h2 (by simp)
    · try simp only [Bool.or_eq_true, Bool.and_eq_true, Bool.or_eq_false_iff, Bool.and_eq_false_iff, Bool.not_eq_true', Bool.not_eq_false', decide_eq_true_eq, decide_eq_false_iff_not] at h2
      refine HT_seq <| (HT_run (by simp [*]; rfl) ?_)
      exact HT_ret ⟨.inr rfl, _, le_frz 7 rfl, ⟨⟨_, by simp; rfl, by simp [resR]⟩, by simp, fun h => by cases h⟩⟩
theorem cloneH_con (l : List Ht) (hl : l.length ≤ 1000000) (d : Nat) (hd : d < 1000000) : Con Tryz.prog 58 false [.one (.c (.sl 6 (encHs l)))] (.v (.one (.own d))) (some (.row 68 6 (encHs l))) d := by
  have hroom : room l.length 72 := room_of (by omega) (by omega)
  cases l with
  | nil =>
    refine con_emp ?_ ?_
    · refine con_of_HT Tryz.func58 rfl (by kernel_rfl) (Nat.le_of_ble_eq_true rfl) ?_
      simp only [Tryz.f58]
      refine HT_seq <| (HT_run (by simp [*]; rfl) ?_)
      refine HT_seq <| HT_seq <| (HT_run (by simp [*]; rfl) ?_)
      refine (HT_cond rfl (fun h2 => ?_) (fun h2 => HT_skip ?_))
      · try simp only [Bool.or_eq_true, Bool.and_eq_true, Bool.or_eq_false_iff, Bool.and_eq_false_iff, Bool.not_eq_true', Bool.not_eq_false', decide_eq_true_eq, decide_eq_false_iff_not] at h2
        refine HT_seq <| (HT_run (by simp [*]; rfl) ?_)
        exact HT_ret ⟨.inr rfl, _, le_nameN 2 d 68 6 rfl (by decide) hd, ⟨⟨_, by simp; rfl, by simp [resR]⟩, by simp, fun h => by cases h⟩⟩
      · exact absurd h2 (by simp)
    · intro a cap
      refine con_of_HT Tryz.func58 rfl (by kernel_rfl) (Nat.le_of_ble_eq_true rfl) ?_
      simp only [Tryz.f58]
      refine HT_seq <| (HT_run (by simp [*]; rfl) ?_)
      refine HT_seq <| HT_seq <| (HT_run (by simp [*]; rfl) ?_)
      refine (HT_cond rfl (fun h2 => ?_) (fun h2 => HT_skip ?_))
      · exact absurd h2 (by simp)
      · try simp only [Bool.or_eq_true, Bool.and_eq_true, Bool.or_eq_false_iff, Bool.and_eq_false_iff, Bool.not_eq_true', Bool.not_eq_false', decide_eq_true_eq, decide_eq_false_iff_not] at h2
        refine HT_le (le_emp 0 6 rfl) ?_
        refine HT_seq <| (HT_run (by simp [*]; rfl) ?_)
        exact HT_ret ⟨.inr rfl, _, le_name 2 7 d rfl rfl hd, ⟨⟨_, by simp; rfl, by simp [resR]⟩, by simp, fun h => by cases h⟩⟩
  | cons v r =>
    refine con_of_HT Tryz.func58 rfl (by kernel_rfl) (Nat.le_of_ble_eq_true rfl) ?_
    simp only [Tryz.f58]
    rw [List.length_cons] at hroom
    refine HT_seq <| (HT_run (by simp [*]; rfl) ?_)
    refine HT_seq <| HT_seq <| (HT_run (by simp [*]; rfl) ?_)
    refine (HT_cond rfl (fun h2 => ?_) (fun h2 => HT_skip ?_))
    · exact absurd h2 (by simp)
    · try simp only [Bool.or_eq_true, Bool.and_eq_true, Bool.or_eq_false_iff, Bool.and_eq_false_iff, Bool.not_eq_true', Bool.not_eq_false', decide_eq_true_eq, decide_eq_false_iff_not] at h2
      refine HT_seq <| (HT_run (by simp [*]; rfl) ?_)
      exact HT_ret ⟨.inr rfl, _, le_name 2 7 d rfl rfl hd, ⟨⟨_, by simp; rfl, by simp [resR]⟩, by simp, fun h => by cases h⟩⟩

theorem term_con (t : Tm) : t.nodes ≤ 1000000 → ∀ d : Nat, Con Tryz.prog 59 false [aT t] (.v (aT t)) none d := by
  induction t using Tm.ind with
  | h o n ks ih =>
  intro hn d
  simp only [Tm.nodes] at hn
  have hlen := len_nodesT ks
  refine con_of_HT Tryz.func59 rfl (by kernel_rfl) (Nat.le_of_ble_eq_true rfl) ?_
  simp only [Tryz.f59]
  simp only [aT, Tm.enc]
  refine HT_seq <| (HT_run (by simp [*]; rfl) ?_)
  refine HT_seq <| (HT_run (by simp [*]; rfl) ?_)
  refine HT_seq <| HT_seq <| (HT_run (by simp [*]; rfl) ?_)
  refine HT_block <| (HT_loopU [1, 2, 7, 8] (fun (x : Nat) => [(3, .v (.one (.own 1003))), (9, .v (li x))]) (fun (x : Nat) => [(1, .box [.c (iC o), .c (iC n), .c (.sl 3 (encTs ks))]), (2, .box [.c (iC 0), .c (iC 0), .c (.lit nilS)]), (1003, .row 54 3 (encTs (ks.take x)))]) (fun (x : Nat) => x ≤ ks.length) (fun (x : Nat) => ks.length - x) (0 : Nat) (Nat.zero_le _) ?_ ?_)
  · exact le_mk (fun n => n) [1003] rfl (by simp [*, upS, keepS]) (by simp [*, upS]) (by simp [upS])
  rintro k hk
  simp only [upS, keepS, insS]
  try simp only [keepS, List.contains_cons, List.contains_nil, Bool.or_false, Bool.or_true, Bool.true_or, Bool.false_or, Nat.reduceBEq, BEq.rfl, beq_self_eq_true, if_true, if_false, Bool.false_eq_true, ite_true, ite_false, ins, Nat.reduceLT]
  refine HT_seq <| (HT_run (by simp [*]; rfl) ?_)
  refine HT_seq <| (HT_cond rfl (fun h5 => HT_skip ?_) (fun h5 => ?_))
  · try simp only [Bool.or_eq_true, Bool.and_eq_true, Bool.or_eq_false_iff, Bool.and_eq_false_iff, Bool.not_eq_true', Bool.not_eq_false', decide_eq_true_eq, decide_eq_false_iff_not] at h5
    have hlt : k < ks.length := by omega
    obtain ⟨⟨eo, en, ek⟩, he, hd⟩ := at_lt hlt
    have he' := get_encT he
    simp only [Tm.enc] at he'
    have hw1 := wrap1 hlt (by omega)
    have hk1 : k + 1 ≤ ks.length := hlt
    have hmem : Tm.mk eo en ek ∈ ks := List.mem_of_getElem? he
    have hnm := nodes_mem hmem
    have c := ih _ hmem (by omega)
    have htl : (ks.take k).length = k := by rw [List.length_take]; omega
    have hroom : room (k + 1) 40 := room_of (by omega) (by omega)
    have hsn : encTs (ks.take (k + 1)) = encTs (ks.take k) ++ [[iC eo, iC en, .sl 3 (encTs ek)]] := by
      rw [encTs_map, encTs_map, List.take_add_one, he, Option.toList_some, List.map_append]
      rfl
    clear hlt h5 ih hmem hnm
    refine HT_seq <| HT_block <| HT_seq <| (HT_run (by simp [*]; rfl) ?_)
    refine (HT_runc [⟨false, .v (aT (.mk eo en ek)), none⟩] (by simp [*]; first | exact ⟨rfl, Iff.rfl⟩ | exact ⟨rfl, trivial⟩ | rfl) ?_ ?_)
    · first | exact c _ | exact trivial | simpa [*] using c _
    refine (HT_run (by simp [*]; rfl) ?_)
    exact ⟨k + 1, hk1, by omega, le_mk (fun n => if n = 1003 then 17 else n) [] rfl (by simp [upS, keepS, *]) (by simp [*, upS]) (by simp [upS])⟩
  · try simp only [Bool.or_eq_true, Bool.and_eq_true, Bool.or_eq_false_iff, Bool.and_eq_false_iff, Bool.not_eq_true', Bool.not_eq_false', decide_eq_true_eq, decide_eq_false_iff_not] at h5
    have hkl : k = ks.length := by omega
    subst hkl
    simp only [List.take_length]
    refine (HT_exit ?_)
    refine HT_seq <| (HT_run (by simp [*]; rfl) ?_)
    refine HT_seq <| (HT_run (by simp [*]; rfl) ?_)
    exact HT_ret ⟨.inr rfl, _, le_frz 1003 rfl, ⟨⟨_, by simp; rfl, by simp [resR]⟩, by simp, fun h => by cases h⟩⟩
end Go.Proofs.YtfilidjbpomgoaaGreat

namespace Go.Proofs.YtfilidjbpomgoaaGreat
open Go Go.Hl

theorem take_encP (k : List (Int × Int)) (i : Nat) : (encPs k).take i = encPs (k.take i) := by simp [encPs]
theorem takeM {α β : Type} (f : α → β) (l : List α) : (l.map f).take l.length = l.map f := by
  rw [List.take_of_length_le (by simp)]
def modL (b : Int × Int) : Int := if b.1 < 0 then mn (b.1 + 1) 0 else 0
def modH (b : Int × Int) : Int := if 0 < b.2 then mx (b.2 - 1) 0 else 0
@[simp] def g2 (k : List (Int × Int)) (i : Nat) : Int × Int := k[i]?.getD ((0 : Int), (0 : Int))
def ruleP (vars : List Vr) (o n : Int) (k : List (Int × Int)) : Int × Int :=
  if o = 0 then (n, n) else if o = 24 then (match vars[n.toNat]? with | some v => (v.low, v.high) | none => (0, 0))
  else if o = 6 then (-(g2 k 0).2, -(g2 k 0).1)
  else if o = 8 then ((g2 k 0).1 + (g2 k 1).1, (g2 k 0).2 + (g2 k 1).2)
  else if o = 9 then ((g2 k 0).1 - (g2 k 1).2, (g2 k 0).2 - (g2 k 1).1)
  else if o = 10 then mulP (g2 k 0) (g2 k 1)
  else if o = 11 then (if 0 ≤ (g2 k 0).1 ∧ 0 ≤ (g2 k 1).1 then (0, mx (g2 k 0).2 (-(g2 k 0).1)) else (-(mx (g2 k 0).2 (-(g2 k 0).1)), mx (g2 k 0).2 (-(g2 k 0).1)))
  else if o = 12 then (modL (g2 k 1), modH (g2 k 1))
  else if o = 21 then (mn (g2 k 0).1 (g2 k 1).1, mn (g2 k 0).2 (g2 k 1).2)
  else if o = 22 then (mx (g2 k 0).1 (g2 k 1).1, mx (g2 k 0).2 (g2 k 1).2)
  else if o = 23 ∨ o = 25 then hullL (k.drop 2) (g2 k 1) else (0, 1)

theorem kid {k : List (Int × Int)} (hk : ∀ p ∈ k, bnd p) {i : Nat} (h : i + 1 ≤ k.length) : ∃ a1 a2, k[i]? = some (a1, a2) ∧ -1048576 ≤ a1 ∧ a1 ≤ a2 ∧ a2 ≤ 1048576 := by
  have : k[i]? = some k[i] := by simp [show i < k.length from h]
  have h2 := hk k[i] (List.getElem_mem _)
  exact ⟨k[i].1, k[i].2, this, h2⟩
theorem node_ar {vars : List Vr} {inp : Bool} {o n : Int} {len : Nat} (h : nodeB vars inp o n len = true) : 0 ≤ (kidsP o).1 ∧ (kidsP o).1 ≤ len ∧ (len : Int) ≤ (kidsP o).2 := by
  unfold nodeB at h
  simp only [Bool.and_eq_true, Bool.not_eq_true', decide_eq_false_iff_not] at h
  omega
theorem node_ref {vars : List Vr} {inp : Bool} {n : Int} {len : Nat} (h : nodeB vars inp 24 n len = true) : 0 ≤ n ∧ ∃ v, vars[n.toNat]? = some v ∧ (inp = true → v.kind ≠ 0) := by
  unfold nodeB refB at h
  simp only [Bool.and_eq_true, Int.reduceEq, if_false, if_true, decide_eq_true_eq] at h
  obtain ⟨_, h0, h⟩ := h
  refine ⟨h0, ?_⟩
  split at h
  · rename_i v hv
    refine ⟨v, hv, fun hi hk => ?_⟩
    simp [hi, hk] at h
  · cases h
theorem kids1 {o : Int} (h : o = 6 ∨ o = 7) : kidsP o = (1, 1) := by
  unfold kidsP; rw [if_neg (by omega), if_pos h]
theorem kids2 {o : Int} (h : 8 ≤ o ∧ o ≤ 22) : kidsP o = (2, 2) := by
  unfold kidsP; rw [if_neg (by omega), if_neg (by omega), if_pos h]
theorem kids3 : kidsP 23 = (3, 3) := by decide
theorem kids4 : kidsP 25 = (2, 33) := by decide

theorem rule_con (vars : List Vr) (inp : Bool) (o n : Int) (K : CD) (k : List (Int × Int)) (hf : nodeB vars inp o n k.length = true) (hk : ∀ p ∈ k, bnd p) (d : Nat) :
    Con Tryz.prog 122 true [lV vars, .agg [.c (iC o), .c (iC n), .c K], .one (.c (.sl 2 (encPs k)))] (.v (aP (ruleP vars o n k))) none d := by
  have har := node_ar hf
  have hrf : o = 24 → 0 ≤ n ∧ ∃ v, vars[n.toNat]? = some v ∧ (inp = true → v.kind ≠ 0) := fun h => node_ref (by rw [← h]; exact hf)
  clear hf
  have ar1 : o = 6 → 0 + 1 ≤ k.length := fun h => by have := kids1 (.inl h); rw [this] at har; simp only at har; omega
  have ar2 : 8 ≤ o ∧ o ≤ 22 → 0 + 1 ≤ k.length ∧ 1 + 1 ≤ k.length := fun h => by have := kids2 h; rw [this] at har; simp only at har; omega
  have ar3 : o = 23 ∨ o = 25 → 2 ≤ k.length ∧ k.length ≤ 33 := fun h => by
    rcases h with h | h
    · have := kids3; rw [h, this] at har; simp only at har; omega
    · have := kids4; rw [h, this] at har; simp only at har; omega
  clear har
  refine con_of_HT Tryz.func122 rfl (by kernel_rfl) (Nat.le_of_ble_eq_true rfl) ?_
  simp only [Tryz.f122]
  refine HT_seq <| (HT_run (by simp [*]; rfl) ?_)
  refine HT_seq <| HT_seq <| (HT_run (by simp [*]; rfl) ?_)
  refine HT_block <| HT_seq <| (HT_run (by simp [*]; rfl) ?_)
  refine (HT_cond rfl (fun h3 => ?_) (fun h3 => ?_))
  · try simp only [Bool.or_eq_true, Bool.and_eq_true, Bool.or_eq_false_iff, Bool.and_eq_false_iff, Bool.not_eq_true', Bool.not_eq_false', decide_eq_true_eq, decide_eq_false_iff_not] at h3
    refine HT_seq <| (HT_run (by simp [*]; rfl) ?_)
    exact (HT_retE (fun h => ⟨.inr rfl, h⟩) _ (by simp [*]; rfl) (by first | rfl | (simp [*, ruleP]; done) | (simp only [resR, ruleP]; (repeat' split) <;> first | rfl | (exfalso; omega) | simp_all)) (by simp))
  · try simp only [Bool.or_eq_true, Bool.and_eq_true, Bool.or_eq_false_iff, Bool.and_eq_false_iff, Bool.not_eq_true', Bool.not_eq_false', decide_eq_true_eq, decide_eq_false_iff_not] at h3
    refine HT_seq <| (HT_run (by simp [*]; rfl) ?_)
    refine (HT_cond rfl (fun h7 => ?_) (fun h7 => ?_))
    · try simp only [Bool.or_eq_true, Bool.and_eq_true, Bool.or_eq_false_iff, Bool.and_eq_false_iff, Bool.not_eq_true', Bool.not_eq_false', decide_eq_true_eq, decide_eq_false_iff_not] at h7
      obtain ⟨hn0, v, hv, _⟩ := hrf h7
      clear hrf
      refine HT_seq <| (HT_drun (by kernel_rfl) (by kernel_rfl) (by rfl) (by simp [*]; rfl) ?_)
      exact (HT_retE (fun h => ⟨.inr rfl, h⟩) _ (by simp [*]; rfl) (by first | rfl | (simp [*, ruleP]; done) | (simp only [resR, ruleP]; (repeat' split) <;> first | rfl | (exfalso; omega) | simp_all)) (by simp))
    · try simp only [Bool.or_eq_true, Bool.and_eq_true, Bool.or_eq_false_iff, Bool.and_eq_false_iff, Bool.not_eq_true', Bool.not_eq_false', decide_eq_true_eq, decide_eq_false_iff_not] at h7
      refine HT_seq <| (HT_run (by simp [*]; rfl) ?_)
      refine (HT_cond rfl (fun h11 => ?_) (fun h11 => ?_))
      · try simp only [Bool.or_eq_true, Bool.and_eq_true, Bool.or_eq_false_iff, Bool.and_eq_false_iff, Bool.not_eq_true', Bool.not_eq_false', decide_eq_true_eq, decide_eq_false_iff_not] at h11
        obtain ⟨a1, a2, ha, hb1, hb2, hb3⟩ := kid hk (ar1 h11)
        have hw1 : IntKind.i64.wrap (-a1) = -a1 := wrap_in (by omega) (by omega)
        have hw2 : IntKind.i64.wrap (-a2) = -a2 := wrap_in (by omega) (by omega)
        clear ar1 ar2 ar3
        refine HT_seq <| (HT_drun (by kernel_rfl) (by kernel_rfl) (by rfl) (by simp [*]; rfl) ?_)
        exact (HT_retE (fun h => ⟨.inr rfl, h⟩) _ (by simp [*]; rfl) (by first | rfl | (simp [*, ruleP]; done) | (simp only [resR, ruleP]; (repeat' split) <;> first | rfl | (exfalso; omega) | simp_all)) (by simp))
      · try simp only [Bool.or_eq_true, Bool.and_eq_true, Bool.or_eq_false_iff, Bool.and_eq_false_iff, Bool.not_eq_true', Bool.not_eq_false', decide_eq_true_eq, decide_eq_false_iff_not] at h11
        refine HT_seq <| (HT_run (by simp [*]; rfl) ?_)
        refine (HT_cond rfl (fun h15 => ?_) (fun h15 => ?_))
        · try simp only [Bool.or_eq_true, Bool.and_eq_true, Bool.or_eq_false_iff, Bool.and_eq_false_iff, Bool.not_eq_true', Bool.not_eq_false', decide_eq_true_eq, decide_eq_false_iff_not] at h15
          obtain ⟨a1, a2, ha, hb1, hb2, hb3⟩ := kid hk (ar2 (by omega)).1
          obtain ⟨c1, c2, hc, hc1, hc2, hc3⟩ := kid hk (ar2 (by omega)).2
          have hw1 : IntKind.i64.wrap (a1 + c1) = a1 + c1 := wrap_in (by omega) (by omega)
          have hw2 : IntKind.i64.wrap (a2 + c2) = a2 + c2 := wrap_in (by omega) (by omega)
          clear ar1 ar2 ar3
          refine HT_seq <| (HT_drun (by kernel_rfl) (by kernel_rfl) (by rfl) (by simp [*]; rfl) ?_)
          exact (HT_retE (fun h => ⟨.inr rfl, h⟩) _ (by simp [*]; rfl) (by first | rfl | (simp [*, ruleP]; done) | (simp only [resR, ruleP]; (repeat' split) <;> first | rfl | (exfalso; omega) | simp_all)) (by simp))
        · try simp only [Bool.or_eq_true, Bool.and_eq_true, Bool.or_eq_false_iff, Bool.and_eq_false_iff, Bool.not_eq_true', Bool.not_eq_false', decide_eq_true_eq, decide_eq_false_iff_not] at h15
          refine HT_seq <| (HT_run (by simp [*]; rfl) ?_)
          refine (HT_cond rfl (fun h19 => ?_) (fun h19 => ?_))
          · try simp only [Bool.or_eq_true, Bool.and_eq_true, Bool.or_eq_false_iff, Bool.and_eq_false_iff, Bool.not_eq_true', Bool.not_eq_false', decide_eq_true_eq, decide_eq_false_iff_not] at h19
            obtain ⟨a1, a2, ha, hb1, hb2, hb3⟩ := kid hk (ar2 (by omega)).1
            obtain ⟨c1, c2, hc, hc1, hc2, hc3⟩ := kid hk (ar2 (by omega)).2
            have hw1 : IntKind.i64.wrap (a1 - c2) = a1 - c2 := wrap_in (by omega) (by omega)
            have hw2 : IntKind.i64.wrap (a2 - c1) = a2 - c1 := wrap_in (by omega) (by omega)
            clear ar1 ar2 ar3
            refine HT_seq <| (HT_drun (by kernel_rfl) (by kernel_rfl) (by rfl) (by simp [*]; rfl) ?_)
            exact (HT_retE (fun h => ⟨.inr rfl, h⟩) _ (by simp [*]; rfl) (by first | rfl | (simp [*, ruleP]; done) | (simp only [resR, ruleP]; (repeat' split) <;> first | rfl | (exfalso; omega) | simp_all)) (by simp))
          · try simp only [Bool.or_eq_true, Bool.and_eq_true, Bool.or_eq_false_iff, Bool.and_eq_false_iff, Bool.not_eq_true', Bool.not_eq_false', decide_eq_true_eq, decide_eq_false_iff_not] at h19
            refine HT_seq <| (HT_run (by simp [*]; rfl) ?_)
            refine (HT_cond rfl (fun h23 => ?_) (fun h23 => ?_))
            · try simp only [Bool.or_eq_true, Bool.and_eq_true, Bool.or_eq_false_iff, Bool.and_eq_false_iff, Bool.not_eq_true', Bool.not_eq_false', decide_eq_true_eq, decide_eq_false_iff_not] at h23
              obtain ⟨a1, a2, ha, hb1, hb2, hb3⟩ := kid hk (ar2 (by omega)).1
              obtain ⟨c1, c2, hc, hc1, hc2, hc3⟩ := kid hk (ar2 (by omega)).2
              clear ar1 ar2 ar3
              refine HT_seq <| (HT_drunc [⟨true, .v (aP (mulP (a1, a2) (c1, c2))), none⟩] (by kernel_rfl) (by kernel_rfl) (by rfl) (by simp [*]; first | exact ⟨rfl, Iff.rfl⟩ | exact ⟨rfl, trivial⟩ | rfl) ?_ ?_)
              · first | exact corners_con (a1, a2) (c1, c2) ⟨hb1, hb2, hb3⟩ ⟨hc1, hc2, hc3⟩ _ | exact trivial | simpa [*] using corners_con (a1, a2) (c1, c2) ⟨hb1, hb2, hb3⟩ ⟨hc1, hc2, hc3⟩ _
              exact (HT_retE (fun h => ⟨.inr rfl, h⟩) _ (by simp [*]; rfl) (by first | rfl | (simp [*, ruleP]; done) | (simp only [resR, ruleP]; (repeat' split) <;> first | rfl | (exfalso; omega) | simp_all)) (by simp))
            · try simp only [Bool.or_eq_true, Bool.and_eq_true, Bool.or_eq_false_iff, Bool.and_eq_false_iff, Bool.not_eq_true', Bool.not_eq_false', decide_eq_true_eq, decide_eq_false_iff_not] at h23
              refine HT_seq <| (HT_run (by simp [*]; rfl) ?_)
              refine (HT_cond rfl (fun h27 => ?_) (fun h27 => ?_))
              · try simp only [Bool.or_eq_true, Bool.and_eq_true, Bool.or_eq_false_iff, Bool.and_eq_false_iff, Bool.not_eq_true', Bool.not_eq_false', decide_eq_true_eq, decide_eq_false_iff_not] at h27
                obtain ⟨a1, a2, ha, hb1, hb2, hb3⟩ := kid hk (ar2 (by omega)).1
                obtain ⟨c1, c2, hc, hc1, hc2, hc3⟩ := kid hk (ar2 (by omega)).2
                have hw1 : IntKind.i64.wrap (-a1) = -a1 := wrap_in (by omega) (by omega)
                have hm : -1048576 ≤ mx a2 (-a1) ∧ mx a2 (-a1) ≤ 1048576 := by unfold mx; split <;> omega
                have hw2 : IntKind.i64.wrap (-(mx a2 (-a1))) = -(mx a2 (-a1)) := wrap_in (by omega) (by omega)
                have hmx : (if a2 < -a1 then -a1 else a2) = mx a2 (-a1) := rfl
                clear ar1 ar2 ar3
                refine HT_seq <| (HT_drun (by kernel_rfl) (by kernel_rfl) (by rfl) (by simp [*]; rfl) ?_)
                refine HT_seq <| HT_seq <| (HT_run (by simp [*]; rfl) ?_)
                refine (HT_cond rfl (fun h30 => ?_) (fun h30 => HT_skip ?_))
                · try simp only [Bool.or_eq_true, Bool.and_eq_true, Bool.or_eq_false_iff, Bool.and_eq_false_iff, Bool.not_eq_true', Bool.not_eq_false', decide_eq_true_eq, decide_eq_false_iff_not] at h30
                  refine HT_seq <| (HT_run (by simp [*]; rfl) ?_)
                  exact (HT_retE (fun h => ⟨.inr rfl, h⟩) _ (by simp [*]; rfl) (by first | rfl | (simp [*, ruleP]; done) | (simp only [resR, ruleP]; (repeat' split) <;> first | rfl | (exfalso; omega) | simp_all)) (by simp))
                · try simp only [Bool.or_eq_true, Bool.and_eq_true, Bool.or_eq_false_iff, Bool.and_eq_false_iff, Bool.not_eq_true', Bool.not_eq_false', decide_eq_true_eq, decide_eq_false_iff_not] at h30
                  have hng : ¬ (0 ≤ a1 ∧ 0 ≤ c1) := by omega
                  refine HT_seq <| (HT_run (by simp [*]; rfl) ?_)
                  exact (HT_retE (fun h => ⟨.inr rfl, h⟩) _ (by simp [*]; rfl) (by first | rfl | (simp [*, ruleP]; done) | (simp only [resR, ruleP]; (repeat' split) <;> first | rfl | (exfalso; omega) | simp_all)) (by simp))
              · try simp only [Bool.or_eq_true, Bool.and_eq_true, Bool.or_eq_false_iff, Bool.and_eq_false_iff, Bool.not_eq_true', Bool.not_eq_false', decide_eq_true_eq, decide_eq_false_iff_not] at h27
                refine HT_seq <| (HT_run (by simp [*]; rfl) ?_)
                refine (HT_cond rfl (fun h36 => ?_) (fun h36 => ?_))
                · try simp only [Bool.or_eq_true, Bool.and_eq_true, Bool.or_eq_false_iff, Bool.and_eq_false_iff, Bool.not_eq_true', Bool.not_eq_false', decide_eq_true_eq, decide_eq_false_iff_not] at h36
                  obtain ⟨c1, c2, hc, hc1, hc2, hc3⟩ := kid hk (ar2 (by omega)).2
                  have hw1 : IntKind.i64.wrap (c1 + 1) = c1 + 1 := wrap_in (by omega) (by omega)
                  have hw2 : IntKind.i64.wrap (c2 - 1) = c2 - 1 := wrap_in (by omega) (by omega)
                  have hmn : (if 0 < c1 + 1 then 0 else c1 + 1) = mn (c1 + 1) 0 := rfl
                  have hmx : (if c2 - 1 < 0 then 0 else c2 - 1) = mx (c2 - 1) 0 := rfl
                  clear ar1 ar2 ar3
                  refine HT_seq <| (HT_run (by simp [*]; rfl) ?_)
                  refine (HT_cutU [2, 6, 8] (fun (z : Int) => []) (fun (z : Int) => [(6, .box [.c (iC 0), .c (iC 0)]), (8, .box [.c (iC z), .c (iC 0)])]) (fun (z : Int) => z = modL (c1, c2)) ?_ ?_)
                  ·
                    refine HT_seq <| (HT_run (by simp [*]; rfl) ?_)
                    refine (HT_cond rfl (fun h40 => ?_) (fun h40 => HT_skip ?_))
                    · try simp only [Bool.or_eq_true, Bool.and_eq_true, Bool.or_eq_false_iff, Bool.and_eq_false_iff, Bool.not_eq_true', Bool.not_eq_false', decide_eq_true_eq, decide_eq_false_iff_not] at h40
                      have hml : mn (c1 + 1) 0 = modL (c1, c2) := by simp only [modL]; rw [if_pos h40]
                      refine (HT_run (by simp [*]; rfl) ?_)
                      exact ⟨modL (c1, c2), rfl, le_mk (fun n => n) [] rfl (by simp [upS, keepS, *]) (by simp [*, upS]) (by simp [upS])⟩
                    · try simp only [Bool.or_eq_true, Bool.and_eq_true, Bool.or_eq_false_iff, Bool.and_eq_false_iff, Bool.not_eq_true', Bool.not_eq_false', decide_eq_true_eq, decide_eq_false_iff_not] at h40
                      have hml : (0 : Int) = modL (c1, c2) := by simp only [modL]; rw [if_neg h40]
                      exact ⟨modL (c1, c2), rfl, le_mk (fun n => n) [] rfl (by simp [upS, keepS, *]) (by simp [*, upS]) (by simp [upS])⟩
                  rintro _ rfl
                  simp only [upS, keepS, insS]
                  try simp only [keepS, List.contains_cons, List.contains_nil, Bool.or_false, Bool.or_true, Bool.true_or, Bool.false_or, Nat.reduceBEq, BEq.rfl, beq_self_eq_true, if_true, if_false, Bool.false_eq_true, ite_true, ite_false, ins, Nat.reduceLT]
                  refine HT_seq <| HT_seq <| (HT_run (by simp [*]; rfl) ?_)
                  refine (HT_cond rfl (fun h45 => ?_) (fun h45 => HT_skip ?_))
                  · try simp only [Bool.or_eq_true, Bool.and_eq_true, Bool.or_eq_false_iff, Bool.and_eq_false_iff, Bool.not_eq_true', Bool.not_eq_false', decide_eq_true_eq, decide_eq_false_iff_not] at h45
                    have hmh : mx (c2 - 1) 0 = modH (c1, c2) := by simp only [modH]; rw [if_pos h45]
                    refine (HT_run (by simp [*]; rfl) ?_)
                    refine HT_seq <| (HT_run (by simp [*]; rfl) ?_)
                    exact (HT_retE (fun h => ⟨.inr rfl, h⟩) _ (by simp [*]; rfl) (by first | rfl | (simp [*, ruleP]; done) | (simp only [resR, ruleP]; (repeat' split) <;> first | rfl | (exfalso; omega) | simp_all)) (by simp))
                  · try simp only [Bool.or_eq_true, Bool.and_eq_true, Bool.or_eq_false_iff, Bool.and_eq_false_iff, Bool.not_eq_true', Bool.not_eq_false', decide_eq_true_eq, decide_eq_false_iff_not] at h45
                    have hmh : modH (c1, c2) = 0 := by simp only [modH]; rw [if_neg h45]
                    refine HT_seq <| (HT_run (by simp [*]; rfl) ?_)
                    exact (HT_retE (fun h => ⟨.inr rfl, h⟩) _ (by simp [*]; rfl) (by first | rfl | (simp [*, ruleP]; done) | (simp only [resR, ruleP]; (repeat' split) <;> first | rfl | (exfalso; omega) | simp_all)) (by simp))
                · try simp only [Bool.or_eq_true, Bool.and_eq_true, Bool.or_eq_false_iff, Bool.and_eq_false_iff, Bool.not_eq_true', Bool.not_eq_false', decide_eq_true_eq, decide_eq_false_iff_not] at h36
                  refine HT_seq <| (HT_run (by simp [*]; rfl) ?_)
                  refine (HT_cond rfl (fun h52 => ?_) (fun h52 => ?_))
                  · try simp only [Bool.or_eq_true, Bool.and_eq_true, Bool.or_eq_false_iff, Bool.and_eq_false_iff, Bool.not_eq_true', Bool.not_eq_false', decide_eq_true_eq, decide_eq_false_iff_not] at h52
                    obtain ⟨a1, a2, ha, hb1, hb2, hb3⟩ := kid hk (ar2 (by omega)).1
                    obtain ⟨c1, c2, hc, hc1, hc2, hc3⟩ := kid hk (ar2 (by omega)).2
                    clear ar1 ar2 ar3
                    refine HT_seq <| (HT_drun (by kernel_rfl) (by kernel_rfl) (by rfl) (by simp [*]; rfl) ?_)
                    exact (HT_retE (fun h => ⟨.inr rfl, h⟩) _ (by simp [*]; rfl) (by simp [*, ruleP, resR, mn]) (by simp))
                  · try simp only [Bool.or_eq_true, Bool.and_eq_true, Bool.or_eq_false_iff, Bool.and_eq_false_iff, Bool.not_eq_true', Bool.not_eq_false', decide_eq_true_eq, decide_eq_false_iff_not] at h52
                    refine HT_seq <| (HT_run (by simp [*]; rfl) ?_)
                    refine (HT_cond rfl (fun h56 => ?_) (fun h56 => ?_))
                    · try simp only [Bool.or_eq_true, Bool.and_eq_true, Bool.or_eq_false_iff, Bool.and_eq_false_iff, Bool.not_eq_true', Bool.not_eq_false', decide_eq_true_eq, decide_eq_false_iff_not] at h56
                      obtain ⟨a1, a2, ha, hb1, hb2, hb3⟩ := kid hk (ar2 (by omega)).1
                      obtain ⟨c1, c2, hc, hc1, hc2, hc3⟩ := kid hk (ar2 (by omega)).2
                      clear ar1 ar2 ar3
                      refine HT_seq <| (HT_drun (by kernel_rfl) (by kernel_rfl) (by rfl) (by simp [*]; rfl) ?_)
                      exact (HT_retE (fun h => ⟨.inr rfl, h⟩) _ (by simp [*]; rfl) (by simp [*, ruleP, resR, mx]) (by simp))
                    · try simp only [Bool.or_eq_true, Bool.and_eq_true, Bool.or_eq_false_iff, Bool.and_eq_false_iff, Bool.not_eq_true', Bool.not_eq_false', decide_eq_true_eq, decide_eq_false_iff_not] at h56
                      refine (HT_cutU [2, 6] (fun (z : Bool) => [(200, .v (lb z))]) (fun (z : Bool) => [(6, .box [.c (iC 0), .c (iC 0)])]) (fun (z : Bool) => z = decide (o = 23 ∨ o = 25)) ?_ ?_)
                      ·
                        refine HT_seq <| (HT_run (by simp [*]; rfl) ?_)
                        refine (HT_cond rfl (fun h61 => HT_skip ?_) (fun h61 => ?_))
                        · try simp only [Bool.or_eq_true, Bool.and_eq_true, Bool.or_eq_false_iff, Bool.and_eq_false_iff, Bool.not_eq_true', Bool.not_eq_false', decide_eq_true_eq, decide_eq_false_iff_not] at h61
                          exact ⟨true, by simp [h61], le_mk (fun n => n) [] rfl (by simp [upS, keepS, *]) (by simp [*, upS]) (by simp [upS])⟩
                        · try simp only [Bool.or_eq_true, Bool.and_eq_true, Bool.or_eq_false_iff, Bool.and_eq_false_iff, Bool.not_eq_true', Bool.not_eq_false', decide_eq_true_eq, decide_eq_false_iff_not] at h61
                          refine (HT_run (by simp [*]; rfl) ?_)
                          exact ⟨decide (o = 25), by simp [h61], le_mk (fun n => n) [] rfl (by simp [upS, keepS, *]) (by simp [*, upS]) (by simp [upS])⟩
                      rintro z hz
                      simp only [upS, keepS, insS]
                      try simp only [keepS, List.contains_cons, List.contains_nil, Bool.or_false, Bool.or_true, Bool.true_or, Bool.false_or, Nat.reduceBEq, BEq.rfl, beq_self_eq_true, if_true, if_false, Bool.false_eq_true, ite_true, ite_false, ins, Nat.reduceLT]
                      subst hz
                      obtain ⟨res, hres⟩ : ∃ r, ruleP vars o n k = r := ⟨_, rfl⟩
                      rw [hres]
                      simp only [ruleP, h3, h7, h11, h15, h19, h23, h27, h36, h52, h56, if_false] at hres
                      refine (HT_cond rfl (fun h65 => ?_) (fun h65 => HT_skip ?_))
                      · try simp only [Bool.or_eq_true, Bool.and_eq_true, Bool.or_eq_false_iff, Bool.and_eq_false_iff, Bool.not_eq_true', Bool.not_eq_false', decide_eq_true_eq, decide_eq_false_iff_not] at h65
                        have h2 := ar3 h65
                        rw [if_pos h65] at hres
                        clear ar1 ar2 ar3 h65
                        rcases k with _ | ⟨a, _ | ⟨c, r⟩⟩
                        · simp at h2
                        · simp at h2
                        have hr33 : r.length ≤ 31 := by simp only [List.length_cons] at h2; omega
                        clear h2
                        simp at hres
                        refine HT_seq <| (HT_run (by simp [*, encPs]; rfl) ?_)
                        refine HT_seq <| HT_seq <| (HT_run (by simp [*, encPs, takeM]; rfl) ?_)
                        refine HT_block <| (HT_loopU [6, 9, 207, 208] (fun (x : Nat × Int × Int) => [(209, .v (li x.1))]) (fun (x : Nat × Int × Int) => [(6, .box [.c (iC 0), .c (iC 0)]), (9, .box [.c (iC x.2.1), .c (iC x.2.2)])]) (fun (x : Nat × Int × Int) => x.1 ≤ r.length ∧ hullL (r.drop x.1) x.2 = res) (fun (x : Nat × Int × Int) => r.length - x.1) (0, c) ⟨Nat.zero_le _, hres⟩ ?_ ?_)
                        · exact le_mk (fun n => n) [] rfl (by simp [*, upS, keepS]) (by simp [*, upS]) (by simp [upS])
                        rintro ⟨k, m, q⟩ ⟨hk', hJ⟩
                        simp only [upS, keepS, insS]
                        try simp only [keepS, List.contains_cons, List.contains_nil, Bool.or_false, Bool.or_true, Bool.true_or, Bool.false_or, Nat.reduceBEq, BEq.rfl, beq_self_eq_true, if_true, if_false, Bool.false_eq_true, ite_true, ite_false, ins, Nat.reduceLT]
                        simp only at hk' hJ
                        clear hres
                        refine HT_seq <| (HT_run (by simp [*]; rfl) ?_)
                        refine HT_seq <| (HT_cond rfl (fun h70 => HT_skip ?_) (fun h70 => ?_))
                        · try simp only [Bool.or_eq_true, Bool.and_eq_true, Bool.or_eq_false_iff, Bool.and_eq_false_iff, Bool.not_eq_true', Bool.not_eq_false', decide_eq_true_eq, decide_eq_false_iff_not] at h70
                          have hlt : k < r.length := by omega
                          obtain ⟨⟨e1, e2⟩, he, hd⟩ := at_lt hlt
                          have hw1 := wrap1 hlt (by omega)
                          rw [hd] at hJ
                          simp only [hullL] at hJ
                          have hk1 : k + 1 ≤ r.length := hlt
                          clear hlt h70
                          refine HT_seq <| HT_block <| HT_seq <| (HT_run (by simp [*]; rfl) ?_)
                          refine (HT_runc [⟨true, .v (aP (hullP (m, q) (e1, e2))), none⟩] (by simp [*]; first | exact ⟨rfl, Iff.rfl⟩ | exact ⟨rfl, trivial⟩ | rfl) ?_ ?_)
                          · first | exact hull_con (m, q) (e1, e2) _ | exact trivial | simpa [*] using hull_con (m, q) (e1, e2) _
                          refine (HT_run (by simp [*]; rfl) ?_)
                          exact ⟨(k + 1, hullP (m, q) (e1, e2)), ⟨hk1, hJ⟩, by simp only; omega, le_mk (fun n => n) [] rfl (by simp [upS, keepS, *]) (by simp [*, upS]) (by simp [upS])⟩
                        · try simp only [Bool.or_eq_true, Bool.and_eq_true, Bool.or_eq_false_iff, Bool.and_eq_false_iff, Bool.not_eq_true', Bool.not_eq_false', decide_eq_true_eq, decide_eq_false_iff_not] at h70
                          have hkl : k = r.length := by omega
                          rw [hkl, List.drop_length] at hJ
                          simp only [hullL] at hJ
                          refine (HT_exit ?_)
                          refine HT_seq <| (HT_run (by simp [*]; rfl) ?_)
                          exact (HT_retE (fun h => ⟨.inr rfl, h⟩) _ (by simp [*]; rfl) (by subst hJ; rfl) (by simp))
                      · try simp only [Bool.or_eq_true, Bool.and_eq_true, Bool.or_eq_false_iff, Bool.and_eq_false_iff, Bool.not_eq_true', Bool.not_eq_false', decide_eq_true_eq, decide_eq_false_iff_not] at h65
                        rw [if_neg h65] at hres
                        subst hres
                        refine HT_seq <| (HT_run (by simp [*]; rfl) ?_)
                        exact (HT_retE (fun h => ⟨.inr rfl, h⟩) _ (by simp [*]; rfl) (by first | rfl | (simp [*, ruleP]; done) | (simp only [resR, ruleP]; (repeat' split) <;> first | rfl | (exfalso; omega) | simp_all)) (by simp))
end Go.Proofs.YtfilidjbpomgoaaGreat
