/- T12: contracts of functions of the program and of the reference, and plain facts about what they compute; used by the proof of the claimed statement. Conditions: as each theorem states. -/
import Derived.Test.YtfilidjbpomgoaaGreatT3
import Derived.Test.YtfilidjbpomgoaaGreatT7
import Derived.Test.YtfilidjbpomgoaaGreatT11
import Derived.Test.YtfilidjbpomgoaaGreatT10
set_option linter.unusedSimpArgs false
set_option linter.unusedVariables false
set_option linter.unnecessarySimpa false
set_option maxRecDepth 100000
set_option maxHeartbeats 2000000
namespace Go.Proofs.YtfilidjbpomgoaaGreat
open Go Go.Hl

theorem spanR_con (l : List St) : nodesS l ≤ 1000000000 → ∀ d : Nat, Con Tryz.prog 74 true [lS l] (.tup [li (spL l (0, 0)).1, li (spL l (0, 0)).2]) none d := by
  revert l
  apply St.lists
  intro l ih hn d
  have hlen := len_nodesS l
  obtain ⟨res, hres⟩ : ∃ r, spL l (0, 0) = r := ⟨_, rfl⟩
  rw [hres]
  refine con_of_HT Tryz.func74 rfl (by kernel_rfl) (Nat.le_of_ble_eq_true rfl) ?_
  simp only [Tryz.f74]
  refine HT_seq <| (HT_run (by simp [*]; rfl) ?_)
  refine HT_seq <| (HT_run (by simp [*]; rfl) ?_)
  refine HT_seq <| HT_seq <| (HT_run (by simp [*]; rfl) ?_)
  refine HT_block <| (HT_loopU [0] (fun (x : Nat × Int × Int) => [(4, .v (li x.2.1)), (5, .v (li x.2.2)), (6, .v (li x.1))]) (fun (x : Nat × Int × Int) => []) (fun (x : Nat × Int × Int) => x.1 ≤ l.length ∧ spL (l.drop x.1) x.2 = res ∧ inT x.2) (fun (x : Nat × Int × Int) => l.length - x.1) (0, 0, 0) ⟨Nat.zero_le _, hres, inT0⟩ ?_ ?_)
  · exact le_mk (fun n => n) [] rfl (by simp [*, upS, keepS]) (by simp [*, upS]) (by simp [upS])
  rintro ⟨k, m, q⟩ ⟨hk, hJ, hin⟩
  simp only [upS, keepS, insS]
  try simp only [keepS, List.contains_cons, List.contains_nil, Bool.or_false, Bool.or_true, Bool.true_or, Bool.false_or, Nat.reduceBEq, BEq.rfl, beq_self_eq_true, if_true, if_false, Bool.false_eq_true, ite_true, ite_false, ins, Nat.reduceLT]
  simp only at hk hJ
  unfold inT at hin
  simp only at hin
  clear hres
  refine HT_seq <| HT_seq <| (HT_run (by simp [*]; rfl) ?_)
  refine (HT_cond rfl (fun h5 => HT_skip ?_) (fun h5 => ?_))
  · try simp only [Bool.or_eq_true, Bool.and_eq_true, Bool.or_eq_false_iff, Bool.and_eq_false_iff, Bool.not_eq_true', Bool.not_eq_false', decide_eq_true_eq, decide_eq_false_iff_not] at h5
    have hlt : k < l.length := by omega
    obtain ⟨s, he, hd⟩ := at_lt hlt
    have hmem : s ∈ l := List.mem_of_getElem? he
    have hnm := nodesS_mem hmem
    have iha := fun h => (ih s hmem).1 h
    have ihb := fun h => (ih s hmem).2 h
    have hw1 := wrap1 hlt (by omega)
    have hk1 : k + 1 ≤ l.length := hlt
    rw [hd] at hJ
    simp only [spL] at hJ
    have hsin := spS_in s
    obtain ⟨pq, hpq⟩ : ∃ pq, spS s = pq := ⟨_, rfl⟩
    rw [hpq] at hJ hsin
    obtain ⟨sd, sc, sv, sn, ⟨so, stn, sks⟩, sa, sb, sbs⟩ := s
    simp only [St.then_, St.else_, St.term] at iha ihb hnm
    have ca := iha (by omega)
    have cb := ihb (by omega)
    have he' := get_encS he
    simp only [St.enc, Tm.enc, List.cons_append, List.nil_append] at he'
    simp only [spS] at hpq
    have hxa := spL_in sa (0, 0) inT0
    have hxb := spL_in sb (0, 0) inT0
    obtain ⟨xa, hxa'⟩ : ∃ x, spL sa (0, 0) = x := ⟨_, rfl⟩
    obtain ⟨xb, hxb'⟩ : ∃ x, spL sb (0, 0) = x := ⟨_, rfl⟩
    have hci := held_in (n := sc) (lo := 0) (hi := 67108865) (by decide)
    have hni := held_in (n := sn) (lo := 0) (hi := 4096) (by decide)
    obtain ⟨cc, hcc⟩ : ∃ x, heldI sc 0 67108865 = x := ⟨_, rfl⟩
    obtain ⟨nn, hnn⟩ : ∃ x, heldI sn 0 4096 = x := ⟨_, rfl⟩
    have c1 := held_con sc 0 67108865
    have c2 := held_con sn 0 4096
    rw [hxa'] at ca hxa hpq
    rw [hxb'] at cb hxb hpq
    rw [hcc] at c1 hci hpq
    rw [hnn] at c2 hni hpq
    unfold inT at hxa hxb
    unfold inU at hsin
    clear hlt h5 iha ihb ih hxa' hxb' hcc hnn hmem hnm hd he
    refine HT_seq <| HT_block <| HT_seq <| (HT_run (by simp [*]; rfl) ?_)
    refine HT_seq <| (HT_runc [⟨true, .v (li cc), none⟩] (by simp [*]; first | exact ⟨rfl, Iff.rfl⟩ | exact ⟨rfl, trivial⟩ | rfl) ?_ ?_)
    · first | exact c1 _ | exact trivial | simpa [*] using c1 _
    refine HT_seq <| (HT_runc [⟨true, .tup [li xa.1, li xa.2], none⟩] (by simp [*]; first | exact ⟨rfl, Iff.rfl⟩ | exact ⟨rfl, trivial⟩ | rfl) ?_ ?_)
    · first | exact ca _ | exact trivial | simpa [*] using ca _
    refine HT_seq <| (HT_runc [⟨true, .tup [li xb.1, li xb.2], none⟩] (by simp [*]; first | exact ⟨rfl, Iff.rfl⟩ | exact ⟨rfl, trivial⟩ | rfl) ?_ ?_)
    · first | exact cb _ | exact trivial | simpa [*] using cb _
    refine HT_seq <| (HT_run (by simp [*]; rfl) ?_)
    refine (HT_cutU [0, 4, 5, 6, 7, 8, 9, 10] (fun (z : Int × Int) => [(13, .v (li z.1)), (14, .v (li z.2))]) (fun (z : Int × Int) => [(7, .box [.c (iC sd), .c (iC sc), .c (iC sv), .c (iC sn), .c (iC so), .c (iC stn), .c (.sl 3 (encTs sks)), .c (.sl 10 (encSs sa)), .c (.sl 10 (encSs sb)), .c (.sl 1 (encIs sbs))])]) (fun (z : Int × Int) => sd ≠ 4 → z = pq) ?_ ?_)
    ·
      refine HT_seq <| (HT_run (by simp [*]; rfl) ?_)
      refine (HT_cond rfl (fun h13 => ?_) (fun h13 => HT_skip ?_))
      · try simp only [Bool.or_eq_true, Bool.and_eq_true, Bool.or_eq_false_iff, Bool.and_eq_false_iff, Bool.not_eq_true', Bool.not_eq_false', decide_eq_true_eq, decide_eq_false_iff_not] at h13
        rw [if_pos h13] at hpq
        subst hpq
        have hw2 : IntKind.i64.wrap (cc + mn xa.1 xb.1) = cc + mn xa.1 xb.1 := wrap_in (by simp only at hsin; omega) (by simp only at hsin; omega)
        have hw3 : IntKind.i64.wrap (cc + mx xa.2 xb.2) = cc + mx xa.2 xb.2 := wrap_in (by simp only at hsin; omega) (by simp only at hsin; omega)
        clear hsin
        refine (HT_runc [⟨true, .v (li (mn xa.1 xb.1)), none⟩, ⟨true, .v (li (mx xa.2 xb.2)), none⟩] (by simp [*]; first | exact ⟨rfl, Iff.rfl⟩ | exact ⟨rfl, trivial⟩ | rfl) ?_ ?_)
        · first | exact ⟨least_con _ _ _, most_con _ _ _⟩ | exact trivial | (repeat' first | exact trivial | exact least_con _ _ _ | exact most_con _ _ _ | apply And.intro)
        exact ⟨(cc + mn xa.1 xb.1, cc + mx xa.2 xb.2), fun _ => rfl, le_mk (fun n => n) [] rfl (by simp [upS, keepS, *]) (by simp [*, upS]) (by simp [upS])⟩
      · try simp only [Bool.or_eq_true, Bool.and_eq_true, Bool.or_eq_false_iff, Bool.and_eq_false_iff, Bool.not_eq_true', Bool.not_eq_false', decide_eq_true_eq, decide_eq_false_iff_not] at h13
        rw [if_neg h13] at hpq
        exact ⟨(cc, cc), fun h => by rw [if_neg h] at hpq; exact hpq, le_mk (fun n => n) [] rfl (by simp [upS, keepS, *]) (by simp [*, upS]) (by simp [upS])⟩
    rintro ⟨p0, q0⟩ hz
    simp only [upS, keepS, insS]
    try simp only [keepS, List.contains_cons, List.contains_nil, Bool.or_false, Bool.or_true, Bool.true_or, Bool.false_or, Nat.reduceBEq, BEq.rfl, beq_self_eq_true, if_true, if_false, Bool.false_eq_true, ite_true, ite_false, ins, Nat.reduceLT]
    refine (HT_cutU [0, 4, 5, 6] (fun (z : Unit) => [(13, .v (li pq.1)), (14, .v (li pq.2))]) (fun (z : Unit) => []) (fun (z : Unit) => True) ?_ ?_)
    ·
      refine HT_seq <| (HT_run (by simp [*]; rfl) ?_)
      refine (HT_cond rfl (fun h19 => ?_) (fun h19 => HT_skip ?_))
      · try simp only [Bool.or_eq_true, Bool.and_eq_true, Bool.or_eq_false_iff, Bool.and_eq_false_iff, Bool.not_eq_true', Bool.not_eq_false', decide_eq_true_eq, decide_eq_false_iff_not] at h19
        rw [if_neg (by omega), if_pos h19] at hpq
        have hm1 := mulT hni (z := cc + xa.1) (by omega)
        have hm2 := mulT hni (z := cc + xa.2) (by omega)
        have hw2 : IntKind.i64.wrap (cc + xa.1) = cc + xa.1 := wrap_in (by omega) (by omega)
        have hw3 : IntKind.i64.wrap (cc + xa.2) = cc + xa.2 := wrap_in (by omega) (by omega)
        have hw4 : IntKind.i64.wrap (nn * (cc + xa.1)) = nn * (cc + xa.1) := wrap_in (by omega) (by omega)
        have hw5 : IntKind.i64.wrap (nn * (cc + xa.2)) = nn * (cc + xa.2) := wrap_in (by omega) (by omega)
        clear hm1 hm2 hz
        refine HT_seq <| (HT_runc [⟨true, .v (li nn), none⟩] (by simp [*]; first | exact ⟨rfl, Iff.rfl⟩ | exact ⟨rfl, trivial⟩ | rfl) ?_ ?_)
        · first | exact c2 _ | exact trivial | simpa [*] using c2 _
        refine HT_seq <| (HT_run (by simp [*]; rfl) ?_)
        refine (HT_cutU [0, 4, 5, 6, 7, 8, 9, 14, 15] (fun (z : Unit) => [(13, .v (li (onceI nn cc)))]) (fun (z : Unit) => [(7, .box [.c (iC sd), .c (iC sc), .c (iC sv), .c (iC sn), .c (iC so), .c (iC stn), .c (.sl 3 (encTs sks)), .c (.sl 10 (encSs sa)), .c (.sl 10 (encSs sb)), .c (.sl 1 (encIs sbs))])]) (fun (z : Unit) => True) ?_ ?_)
        ·
          refine HT_seq <| (HT_run (by simp [*]; rfl) ?_)
          refine (HT_cond rfl (fun h24 => ?_) (fun h24 => HT_skip ?_))
          · try simp only [Bool.or_eq_true, Bool.and_eq_true, Bool.or_eq_false_iff, Bool.and_eq_false_iff, Bool.not_eq_true', Bool.not_eq_false', decide_eq_true_eq, decide_eq_false_iff_not] at h24
            have hon : onceI nn cc = cc := by unfold onceI; rw [if_pos h24]
            refine (HT_run (by simp [*]; rfl) ?_)
            exact ⟨(), trivial, le_mk (fun n => n) [] rfl (by simp [upS, keepS, *]) (by simp [*, upS]) (by simp [upS])⟩
          · try simp only [Bool.or_eq_true, Bool.and_eq_true, Bool.or_eq_false_iff, Bool.and_eq_false_iff, Bool.not_eq_true', Bool.not_eq_false', decide_eq_true_eq, decide_eq_false_iff_not] at h24
            have hon : onceI nn cc = 0 := by unfold onceI; rw [if_neg h24]
            exact ⟨(), trivial, le_mk (fun n => n) [] rfl (by simp [upS, keepS, *]) (by simp [*, upS]) (by simp [upS])⟩
        rintro z hz
        simp only [upS, keepS, insS]
        try simp only [keepS, List.contains_cons, List.contains_nil, Bool.or_false, Bool.or_true, Bool.true_or, Bool.false_or, Nat.reduceBEq, BEq.rfl, beq_self_eq_true, if_true, if_false, Bool.false_eq_true, ite_true, ite_false, ins, Nat.reduceLT]
        refine (HT_cutU [0, 4, 5, 6, 7, 14] (fun (z : Unit) => [(13, .v (li pq.1))]) (fun (z : Unit) => [(7, .box [.c (iC sd), .c (iC sc), .c (iC sv), .c (iC sn), .c (iC so), .c (iC stn), .c (.sl 3 (encTs sks)), .c (.sl 10 (encSs sa)), .c (.sl 10 (encSs sb)), .c (.sl 1 (encIs sbs))])]) (fun (z : Unit) => True) ?_ ?_)
        ·
          refine HT_seq <| (HT_run (by simp [*]; rfl) ?_)
          refine (HT_cond rfl (fun h30 => ?_) (fun h30 => HT_skip ?_))
          · try simp only [Bool.or_eq_true, Bool.and_eq_true, Bool.or_eq_false_iff, Bool.and_eq_false_iff, Bool.not_eq_true', Bool.not_eq_false', decide_eq_true_eq, decide_eq_false_iff_not] at h30
            rw [if_neg (fun h => h h30.1), if_pos h30.2] at hpq
            subst hpq
            refine (HT_run (by simp [*]; rfl) ?_)
            exact ⟨(), trivial, le_mk (fun n => n) [] rfl (by simp [upS, keepS, *]) (by simp [*, upS]) (by simp [upS])⟩
          · try simp only [Bool.or_eq_true, Bool.and_eq_true, Bool.or_eq_false_iff, Bool.and_eq_false_iff, Bool.not_eq_true', Bool.not_eq_false', decide_eq_true_eq, decide_eq_false_iff_not] at h30
            have hp1 : onceI nn cc = pq.1 := by
              by_cases h : so = 0
              · rw [if_neg (fun h2 => h2 h), if_neg (fun h2 => by rcases h30 with h3 | h3; exact h3 h; exact h2 h3)] at hpq
                rw [← hpq]
              · rw [if_pos h] at hpq
                rw [← hpq]
            clear hpq
            exact ⟨(), trivial, le_mk (fun n => n) [] rfl (by simp [upS, keepS, *]) (by simp [*, upS]) (by simp [upS])⟩
        rintro z hz
        simp only [upS, keepS, insS]
        try simp only [keepS, List.contains_cons, List.contains_nil, Bool.or_false, Bool.or_true, Bool.true_or, Bool.false_or, Nat.reduceBEq, BEq.rfl, beq_self_eq_true, if_true, if_false, Bool.false_eq_true, ite_true, ite_false, ins, Nat.reduceLT]
        refine HT_seq <| (HT_run (by simp [*]; rfl) ?_)
        refine (HT_cond rfl (fun h35 => ?_) (fun h35 => HT_skip ?_))
        · try simp only [Bool.or_eq_true, Bool.and_eq_true, Bool.or_eq_false_iff, Bool.and_eq_false_iff, Bool.not_eq_true', Bool.not_eq_false', decide_eq_true_eq, decide_eq_false_iff_not] at h35
          rw [if_neg (fun h => h h35.1), if_neg (fun h => h h35.2)] at hpq
          subst hpq
          refine (HT_run (by simp [*]; rfl) ?_)
          exact ⟨(), trivial, le_mk (fun n => n) [] rfl (by simp [upS, keepS, *]) (by simp [*, upS]) (by simp [upS])⟩
        · try simp only [Bool.or_eq_true, Bool.and_eq_true, Bool.or_eq_false_iff, Bool.and_eq_false_iff, Bool.not_eq_true', Bool.not_eq_false', decide_eq_true_eq, decide_eq_false_iff_not] at h35
          have hp2 : nn * (cc + xa.2) = pq.2 := by
            by_cases h : so = 0
            · rw [if_neg (fun h2 => h2 h), if_pos (by rcases h35 with h3 | h3; exact absurd h h3; exact h3)] at hpq
              rw [← hpq]
            · rw [if_pos h] at hpq
              rw [← hpq]
          clear hpq
          exact ⟨(), trivial, le_mk (fun n => n) [] rfl (by simp [upS, keepS, *]) (by simp [*, upS]) (by simp [upS])⟩
      · try simp only [Bool.or_eq_true, Bool.and_eq_true, Bool.or_eq_false_iff, Bool.and_eq_false_iff, Bool.not_eq_true', Bool.not_eq_false', decide_eq_true_eq, decide_eq_false_iff_not] at h19
        have hz2 := hz h19
        have hp1 : p0 = pq.1 := by rw [← hz2]
        have hp2 : q0 = pq.2 := by rw [← hz2]
        clear hpq hz hz2
        exact ⟨(), trivial, le_mk (fun n => n) [] rfl (by simp [upS, keepS, *]) (by simp [*, upS]) (by simp [upS])⟩
    rintro _ _
    simp only [upS, keepS, insS]
    try simp only [keepS, List.contains_cons, List.contains_nil, Bool.or_false, Bool.or_true, Bool.true_or, Bool.false_or, Nat.reduceBEq, BEq.rfl, beq_self_eq_true, if_true, if_false, Bool.false_eq_true, ite_true, ite_false, ins, Nat.reduceLT]
    clear hpq ca cb c1 c2 hci hni hxa hxb hz
    have hw2 : IntKind.i64.wrap (m + pq.1) = m + pq.1 := wrap_in (by omega) (by omega)
    have hw3 : IntKind.i64.wrap (q + pq.2) = q + pq.2 := wrap_in (by omega) (by omega)
    have hm1 := mn_in (a := m + pq.1) (by omega)
    have hm2 := mn_in (a := q + pq.2) (by omega)
    refine HT_seq <| (HT_runc [⟨true, .v (li (mn (m + pq.1) 67108865)), none⟩] (by simp [*]; first | exact ⟨rfl, Iff.rfl⟩ | exact ⟨rfl, trivial⟩ | rfl) ?_ ?_)
    · first | exact least_con _ _ _ | exact trivial | simpa [*] using least_con _ _ _
    refine (HT_runc [⟨true, .v (li (mn (q + pq.2) 67108865)), none⟩] (by simp [*]; first | exact ⟨rfl, Iff.rfl⟩ | exact ⟨rfl, trivial⟩ | rfl) ?_ ?_)
    · first | exact least_con _ _ _ | exact trivial | simpa [*] using least_con _ _ _
    refine (HT_run (by simp [*]; rfl) ?_)
    exact ⟨(k + 1, mn (m + pq.1) 67108865, mn (q + pq.2) 67108865), ⟨hk1, hJ, hm1.1, hm1.2, hm2.1, hm2.2⟩, by simp only; omega, le_mk (fun n => n) [] rfl (by simp [upS, keepS, *]) (by simp [*, upS]) (by simp [upS])⟩
  · try simp only [Bool.or_eq_true, Bool.and_eq_true, Bool.or_eq_false_iff, Bool.and_eq_false_iff, Bool.not_eq_true', Bool.not_eq_false', decide_eq_true_eq, decide_eq_false_iff_not] at h5
    have hkl : k = l.length := by omega
    rw [hkl, List.drop_length] at hJ
    simp only [spL] at hJ
    subst hJ
    refine (HT_exit ?_)
    refine HT_seq <| (HT_run (by simp [*]; rfl) ?_)
    exact (HT_retE (fun h => ⟨.inr rfl, h⟩) _ (by simp [*]; rfl) (by first | rfl | (simp [*]; done) | (simp only [resR]; (repeat' split) <;> first | rfl | (exfalso; omega) | simp_all)) (by simp))
end Go.Proofs.YtfilidjbpomgoaaGreat

namespace Go.Proofs.YtfilidjbpomgoaaGreat
open Go Go.Hl

attribute [simp] encS_app
def evR : List St → List St
  | [] => []
  | .mk d c v n t a b bs :: l => (if d = 3 ∨ d = 4 then balS (.mk d c v n t (evR a) (evR b) bs) else .mk d c v n t a b bs) :: evR l
theorem evR_app : ∀ (l m : List St), evR (l ++ m) = evR l ++ evR m
  | [], m => by simp [evR]
  | .mk d c v n t a b bs :: l, m => by simp [evR, evR_app l m]
theorem evR_len : ∀ l : List St, (evR l).length = l.length
  | [] => by simp [evR]
  | .mk d c v n t a b bs :: l => by simp [evR, evR_len l]
theorem evR_nodes : ∀ l : List St, nodesS (evR l) ≤ 3 * nodesS l
  | [] => by simp [evR, nodesS]
  | .mk d c v n t a b bs :: l => by
    have h1 := evR_nodes a
    have h2 := evR_nodes b
    have h3 := evR_nodes l
    have h4 := balS_nodes (.mk d c v n t (evR a) (evR b) bs)
    have h5 := nodes_pos t
    simp only [evR]
    split
    · simp only [nodesS, St.nodes] at h4 ⊢
      omega
    · simp only [nodesS, St.nodes]
      omega
theorem const_con (l : List St) (hn : nodesS l ≤ 1000000000) (d : Nat) : Con Tryz.prog 39 true [lS l] (.v (li (spL l (0, 0)).1)) none d := by
  have cs := spanR_con l hn
  obtain ⟨⟨A, B⟩, hp⟩ : ∃ p, spL l (0, 0) = p := ⟨_, rfl⟩
  rw [hp] at cs ⊢
  refine con_of_HT Tryz.func39 rfl (by kernel_rfl) (Nat.le_of_ble_eq_true rfl) ?_
  simp only [Tryz.f39]
  refine HT_seq <| (HT_run (by simp [*]; rfl) ?_)
  refine HT_seq <| (HT_runc [⟨true, .tup [li A, li B], none⟩] (by simp [*]; first | exact ⟨rfl, Iff.rfl⟩ | exact ⟨rfl, trivial⟩ | rfl) ?_ ?_)
  · first | exact cs _ | exact trivial | simpa [*] using cs _
  refine HT_seq <| (HT_run (by simp [*]; rfl) ?_)
  exact (HT_retE (fun h => ⟨.inr rfl, h⟩) _ (by simp [*]; rfl) (by first | rfl | (simp [*]; done) | (simp only [resR]; (repeat' split) <;> first | rfl | (exfalso; omega) | simp_all)) (by simp))
theorem evenR_con (l : List St) : nodesS l ≤ 300000 → ∀ d : Nat, d < 1000000 → Con Tryz.prog 12 false [lS l, .one (.c (.lit nilS)), lb true] (.v (.one (.own d))) (some (.row 56 10 (encSs (evR l)))) d := by
  revert l
  apply St.lists
  intro l ih hn d hd0
  have hlen := len_nodesS l
  have hev0 : evR [] = [] := by simp [evR]
  refine con_of_HT Tryz.func12 rfl (by kernel_rfl) (Nat.le_of_ble_eq_true rfl) ?_
  simp only [Tryz.f12]
  refine HT_seq <| (HT_run (by simp [*]; rfl) ?_)
  refine HT_seq <| (HT_run (by simp [*]; rfl) ?_)
  refine HT_seq <| HT_seq <| (HT_run (by simp [*]; rfl) ?_)
  refine HT_block <| (HT_loopU [1, 2, 16, 17] (fun (x : Nat) => [(7, .v (.one (.own 1007))), (18, .v (li x))]) (fun (x : Nat) => [(1007, .row 56 10 (encSs (evR (l.take x))))]) (fun (x : Nat) => x ≤ l.length) (fun (x : Nat) => l.length - x) (0 : Nat) (Nat.zero_le _) ?_ ?_)
  · exact le_mk (fun n => if n = 1007 then 15 else n) [] rfl (by simp [*, upS, keepS]) (by simp [*, upS]) (by simp [upS])
  rintro k hk
  simp only [upS, keepS, insS]
  try simp only [keepS, List.contains_cons, List.contains_nil, Bool.or_false, Bool.or_true, Bool.true_or, Bool.false_or, Nat.reduceBEq, BEq.rfl, beq_self_eq_true, if_true, if_false, Bool.false_eq_true, ite_true, ite_false, ins, Nat.reduceLT]
  refine HT_seq <| (HT_run (by simp [*]; rfl) ?_)
  refine HT_seq <| (HT_cond rfl (fun h5 => HT_skip ?_) (fun h5 => ?_))
  · try simp only [Bool.or_eq_true, Bool.and_eq_true, Bool.or_eq_false_iff, Bool.and_eq_false_iff, Bool.not_eq_true', Bool.not_eq_false', decide_eq_true_eq, decide_eq_false_iff_not] at h5
    have hlt : k < l.length := by omega
    obtain ⟨s, he, hd⟩ := at_lt hlt
    have hw1 := wrap1 hlt (by omega)
    have hk1 : k + 1 ≤ l.length := hlt
    have hmem : s ∈ l := List.mem_of_getElem? he
    have hnm := nodesS_mem hmem
    have ca := (ih s hmem).1 (by omega)
    have cb := (ih s hmem).2 (by omega)
    have htl : (evR (l.take k)).length = k := by rw [evR_len, List.length_take]; omega
    have hroom : room (k + 1) 144 := room_of (by omega) (by omega)
    have hsn0 : evR (l.take (k + 1)) = evR (l.take k) ++ evR [s] := by
      rw [List.take_add_one, he, Option.toList_some, evR_app]
    have he' := get_encS he
    have hna := evR_nodes s.then_
    have hnb := evR_nodes s.else_
    have hla := len_nodesS (evR s.then_)
    have hlb := len_nodesS (evR s.else_)
    have ta := const_con (evR s.then_) (by omega)
    have tb := const_con (evR s.else_) (by omega)
    have ia := spL_in (evR s.then_) (0, 0) inT0
    have ib := spL_in (evR s.else_) (0, 0) inT0
    obtain ⟨sd, sc, sv, sn, ⟨so, stn, sks⟩, sa, sb, sbs⟩ := s
    simp only [St.then_, St.else_, St.term] at ca cb hnm hna hnb hla hlb ta tb ia ib
    simp only [St.enc, Tm.enc, List.cons_append, List.nil_append] at he'
    simp only [evR] at hsn0
    clear hlt h5 ih hmem he hd
    refine HT_seq <| HT_block <| HT_seq <| (HT_run (by simp [*]; rfl) ?_)
    refine HT_seq <| HT_seq <| (HT_run (by simp [*]; rfl) ?_)
    refine (HT_cond rfl (fun h8 => ?_) (fun h8 => HT_skip ?_))
    · try simp only [Bool.or_eq_true, Bool.and_eq_true, Bool.or_eq_false_iff, Bool.and_eq_false_iff, Bool.not_eq_true', Bool.not_eq_false', decide_eq_true_eq, decide_eq_false_iff_not] at h8
      rw [if_neg (by omega)] at hsn0
      have hsn : encSs (evR (l.take (k + 1))) = encSs (evR (l.take k)) ++ [[iC sd, iC sc, iC sv, iC sn, iC so, iC stn, .sl 3 (encTs sks), .sl 10 (encSs sa), .sl 10 (encSs sb), .sl 1 (encIs sbs)]] := by
        rw [hsn0, encS_app]
        simp
      clear hsn0 ca cb ta tb ia ib hna hnb hla hlb
      refine HT_seq <| (HT_run (by simp [*]; rfl) ?_)
      refine (HT_exit ?_)
      refine (HT_run (by simp [*]; rfl) ?_)
      exact ⟨k + 1, hk1, by omega, le_mk (fun n => if n = 1007 then 33 else n) [] rfl (by simp [upS, keepS, *]) (by simp [*, upS]) (by simp [upS])⟩
    · try simp only [Bool.or_eq_true, Bool.and_eq_true, Bool.or_eq_false_iff, Bool.and_eq_false_iff, Bool.not_eq_true', Bool.not_eq_false', decide_eq_true_eq, decide_eq_false_iff_not] at h8
      rw [if_pos (by omega)] at hsn0
      simp only [balS] at hsn0
      obtain ⟨EA, hEA⟩ : ∃ x, evR sa = x := ⟨_, rfl⟩
      obtain ⟨EB, hEB⟩ : ∃ x, evR sb = x := ⟨_, rfl⟩
      rw [hEA] at ca ta ia hsn0 hla hna
      rw [hEB] at cb tb ib hsn0 hlb hnb
      obtain ⟨A, hA⟩ : ∃ x, (spL EA (0, 0)).1 = x := ⟨_, rfl⟩
      obtain ⟨B, hB⟩ : ∃ x, (spL EB (0, 0)).1 = x := ⟨_, rfl⟩
      unfold inT at ia ib
      rw [hA] at ta ia hsn0
      rw [hB] at tb ib hsn0
      have hra : room (EA.length + 1) 144 := room_of (by omega) (by omega)
      have hrb : room (EB.length + 1) 144 := room_of (by omega) (by omega)
      have hr1 : room 1 144 := room_of (by decide) (by decide)
      have hw2 : IntKind.i64.wrap (B - A) = B - A := wrap_in (by omega) (by omega)
      have hw3 : IntKind.i64.wrap (A - B) = A - B := wrap_in (by omega) (by omega)
      clear hEA hEB hA hB hna hnb hla hlb hnm
      refine HT_seq <| (HT_runcS [none] (by simp [*]; first | exact ⟨rfl, trivial⟩ | exact ⟨rfl, Iff.rfl⟩ | rfl) ?_ ?_)
      · trivial
      refine HT_seq <| (HT_drunc [⟨false, .v (.one (.own 45)), some (.row 56 10 (encSs EA))⟩, ⟨false, .v (.one (.own 50)), some (.row 56 10 (encSs EB))⟩] (by kernel_rfl) (by kernel_rfl) (by rfl) (by simp [*]; first | exact ⟨rfl, Iff.rfl⟩ | exact ⟨rfl, trivial⟩ | rfl) ?_ ?_)
      · first | exact trivial | exact trivial | (repeat' first | exact trivial | exact ca 45 (by decide) | exact cb 50 (by decide) | apply And.intro)
      refine HT_seq <| HT_block <| HT_seq <| (HT_run (by simp [*]; rfl) ?_)
      refine (HT_cond rfl (fun h15 => HT_skip ?_) (fun h15 => ?_))
      · try simp only [Bool.or_eq_true, Bool.and_eq_true, Bool.or_eq_false_iff, Bool.and_eq_false_iff, Bool.not_eq_true', Bool.not_eq_false', decide_eq_true_eq, decide_eq_false_iff_not] at h15
        have hd4 : sd = 4 := h15.1
        have hso : so = 0 := h15.2
        subst hd4 hso
        rw [if_neg (by decide), if_neg (fun h => h.2 rfl)] at hsn0
        have hsn : encSs (evR (l.take (k + 1))) = encSs (evR (l.take k)) ++ [[iC 4, iC sc, iC sv, iC sn, iC 0, iC stn, .sl 3 (encTs sks), .sl 10 (encSs EA), .sl 10 (encSs EB), .sl 1 (encIs sbs)]] := by
          rw [hsn0, encS_app]
          simp
        clear hsn0
        refine HT_le (le_frz 45 rfl) ?_
        refine HT_le (le_frz 50 rfl) ?_
        refine (HT_run (by simp [*]; rfl) ?_)
        refine (HT_run (by simp [*]; rfl) ?_)
        exact ⟨k + 1, hk1, by omega, le_mk (fun n => if n = 1007 then 123 else n) [] rfl (by simp [upS, keepS, *]) (by simp [*, upS]) (by simp [upS])⟩
      · try simp only [Bool.or_eq_true, Bool.and_eq_true, Bool.or_eq_false_iff, Bool.and_eq_false_iff, Bool.not_eq_true', Bool.not_eq_false', decide_eq_true_eq, decide_eq_false_iff_not] at h15
        refine HT_seq <| (HT_run (by simp [*]; rfl) ?_)
        refine (HT_cond rfl (fun h20 => ?_) (fun h20 => ?_))
        · try simp only [Bool.or_eq_true, Bool.and_eq_true, Bool.or_eq_false_iff, Bool.and_eq_false_iff, Bool.not_eq_true', Bool.not_eq_false', decide_eq_true_eq, decide_eq_false_iff_not] at h20
          subst h20
          rw [if_pos rfl] at hsn0
          clear h8 h15
          refine HT_seq <| (HT_drunc [⟨true, .v (li A), none⟩, ⟨true, .v (li B), none⟩] (by kernel_rfl) (by kernel_rfl) (by rfl) (by simp [*]; first | exact ⟨rfl, Iff.rfl⟩ | exact ⟨rfl, trivial⟩ | rfl) ?_ ?_)
          · first | exact ⟨ta _, tb _⟩ | exact trivial | (repeat' first | exact trivial | exact ta _ | exact tb _ | apply And.intro)
          refine (HT_cutU [1, 2, 7, 9, 11, 12, 16, 17, 18] (fun (W : List St) => []) (fun (W : List St) => [(9, .box [.c (iC 3), .c (iC sc), .c (iC sv), .c (iC sn), .c (iC so), .c (iC stn), .c (.sl 3 (encTs sks)), .own 1045, .own 50, .c (.sl 1 (encIs sbs))]), (50, .row 56 10 (encSs EB)), (1007, .row 56 10 (encSs (evR (l.take k)))), (1045, .row 56 10 (encSs (EA ++ W)))]) (fun (W : List St) => W = waitL (posI (B - A))) ?_ ?_)
          ·
            refine HT_seq <| (HT_run (by simp [*]; rfl) ?_)
            refine (HT_cond rfl (fun h24 => ?_) (fun h24 => HT_skip ?_))
            · try simp only [Bool.or_eq_true, Bool.and_eq_true, Bool.or_eq_false_iff, Bool.and_eq_false_iff, Bool.not_eq_true', Bool.not_eq_false', decide_eq_true_eq, decide_eq_false_iff_not] at h24
              refine (HT_runF 6 [] [] (by simp [*]; rfl) trivial (le_agg 104 [.c (iC 2), .c (iC (B - A)), .c (iC 0), .c (iC 0), .c (iC 0), .c (iC 0), .c (.sl 3 []), .c (.sl 10 []), .c (.sl 10 []), .c (.sl 1 [])] rfl (by (repeat' (first | exact LWk.nil | apply LWk.cons | exact CWk.refl _ | exact CWk.nil _)))) (by simp [*]; rfl) trivial ?_)
              exact ⟨[.mk 2 (B - A) 0 0 (.mk 0 0 []) [] [] []], by unfold waitL posI; rw [if_neg (by rw [if_pos (by omega)]; omega), if_pos (by omega)], le_mk (fun n => if n = 1045 then 106 else n) [] rfl (by simp [upS, keepS, *]) (by simp [*, upS]) (by simp [upS])⟩
            · try simp only [Bool.or_eq_true, Bool.and_eq_true, Bool.or_eq_false_iff, Bool.and_eq_false_iff, Bool.not_eq_true', Bool.not_eq_false', decide_eq_true_eq, decide_eq_false_iff_not] at h24
              exact ⟨[], by unfold waitL posI; rw [if_pos (by rw [if_neg (by omega)])], le_mk (fun n => if n = 1045 then 45 else n) [] rfl (by simp [upS, keepS, *]) (by simp [*, upS]) (by simp [upS])⟩
          rintro W hW
          simp only [upS, keepS, insS]
          try simp only [keepS, List.contains_cons, List.contains_nil, Bool.or_false, Bool.or_true, Bool.true_or, Bool.false_or, Nat.reduceBEq, BEq.rfl, beq_self_eq_true, if_true, if_false, Bool.false_eq_true, ite_true, ite_false, ins, Nat.reduceLT]
          rw [← hW] at hsn0
          clear hW
          refine HT_seq <| (HT_run (by simp [*]; rfl) ?_)
          refine (HT_cond rfl (fun h29 => ?_) (fun h29 => HT_skip ?_))
          · try simp only [Bool.or_eq_true, Bool.and_eq_true, Bool.or_eq_false_iff, Bool.and_eq_false_iff, Bool.not_eq_true', Bool.not_eq_false', decide_eq_true_eq, decide_eq_false_iff_not] at h29
            rw [show waitL (posI (A - B)) = [.mk 2 (A - B) 0 0 (.mk 0 0 []) [] [] []] by unfold waitL posI; rw [if_neg (by rw [if_pos (by omega)]; omega), if_pos (by omega)]] at hsn0
            have hsn : encSs (evR (l.take (k + 1))) = encSs (evR (l.take k)) ++ [[iC 3, iC sc, iC sv, iC sn, iC so, iC stn, .sl 3 (encTs sks), .sl 10 (encSs EA ++ encSs W), .sl 10 (encSs EB ++ [[iC 2, iC (A - B), iC 0, iC 0, iC 0, iC 0, .sl 3 [], .sl 10 [], .sl 10 [], .sl 1 []]]), .sl 1 (encIs sbs)]] := by
              rw [hsn0, encS_app]
              simp
            clear hsn0
            refine (HT_runF 6 [] [] (by simp [*]; rfl) trivial (le_agg 116 [.c (iC 2), .c (iC (A - B)), .c (iC 0), .c (iC 0), .c (iC 0), .c (iC 0), .c (.sl 3 []), .c (.sl 10 []), .c (.sl 10 []), .c (.sl 1 [])] rfl (by (repeat' (first | exact LWk.nil | apply LWk.cons | exact CWk.refl _ | exact CWk.nil _)))) (by simp [*]; rfl) trivial ?_)
            refine HT_le (le_frz 1045 rfl) ?_
            refine HT_le (le_frz 118 rfl) ?_
            refine (HT_run (by simp [*]; rfl) ?_)
            refine (HT_run (by simp [*]; rfl) ?_)
            exact ⟨k + 1, hk1, by omega, le_mk (fun n => if n = 1007 then 123 else n) [] rfl (by simp [upS, keepS, *]) (by simp [*, upS]) (by simp [upS])⟩
          · try simp only [Bool.or_eq_true, Bool.and_eq_true, Bool.or_eq_false_iff, Bool.and_eq_false_iff, Bool.not_eq_true', Bool.not_eq_false', decide_eq_true_eq, decide_eq_false_iff_not] at h29
            rw [show waitL (posI (A - B)) = [] by unfold waitL posI; rw [if_pos (by rw [if_neg (by omega)])]] at hsn0
            have hsn : encSs (evR (l.take (k + 1))) = encSs (evR (l.take k)) ++ [[iC 3, iC sc, iC sv, iC sn, iC so, iC stn, .sl 3 (encTs sks), .sl 10 (encSs EA ++ encSs W), .sl 10 (encSs EB), .sl 1 (encIs sbs)]] := by
              rw [hsn0, encS_app]
              simp
            clear hsn0
            refine HT_le (le_frz 1045 rfl) ?_
            refine HT_le (le_frz 50 rfl) ?_
            refine (HT_run (by simp [*]; rfl) ?_)
            refine (HT_run (by simp [*]; rfl) ?_)
            exact ⟨k + 1, hk1, by omega, le_mk (fun n => if n = 1007 then 123 else n) [] rfl (by simp [upS, keepS, *]) (by simp [*, upS]) (by simp [upS])⟩
        · try simp only [Bool.or_eq_true, Bool.and_eq_true, Bool.or_eq_false_iff, Bool.and_eq_false_iff, Bool.not_eq_true', Bool.not_eq_false', decide_eq_true_eq, decide_eq_false_iff_not] at h20
          have hd4 : sd = 4 := by omega
          subst hd4
          have hso : so ≠ 0 := by
            rcases h15 with h | h
            · exact absurd rfl h
            · exact h
          rw [if_neg (by decide), if_pos ⟨rfl, hso⟩] at hsn0
          clear h8 h15 h20 hso
          refine HT_le (le_frz 45 rfl) ?_
          refine HT_le (le_frz 50 rfl) ?_
          refine HT_seq <| (HT_run (by simp [*]; rfl) ?_)
          refine (HT_cutU [1, 2, 7, 9, 13, 16, 17, 18] (fun (W : List St) => []) (fun (W : List St) => [(9, .box [.c (iC 4), .c (iC sc), .c (iC sv), .c (iC sn), .c (iC so), .c (iC stn), .c (.sl 3 (encTs sks)), .c (.sl 10 (encSs EA)), .c (.sl 10 (encSs EB)), .c (.sl 1 (encIs sbs))]), (13, .box [.c (iC 3), .c (iC 0), .c (iC 0), .c (iC 0), .c (iC so), .c (iC stn), .c (.sl 3 (encTs sks)), .c (.sl 10 (encSs EA)), .own 1065, .c (.lit nilS)]), (1007, .row 56 10 (encSs (evR (l.take k)))), (1065, .row 56 10 (encSs W))]) (fun (W : List St) => W = waitL A) ?_ ?_)
          ·
            refine HT_seq <| (HT_runc [⟨true, .v (li A), none⟩] (by simp [*]; first | exact ⟨rfl, Iff.rfl⟩ | exact ⟨rfl, trivial⟩ | rfl) ?_ ?_)
            · first | exact ta _ | exact trivial | simpa [*] using ta _
            refine HT_seq <| (HT_run (by simp [*]; rfl) ?_)
            refine (HT_cond rfl (fun h41 => ?_) (fun h41 => HT_skip ?_))
            · try simp only [Bool.or_eq_true, Bool.and_eq_true, Bool.or_eq_false_iff, Bool.and_eq_false_iff, Bool.not_eq_true', Bool.not_eq_false', decide_eq_true_eq, decide_eq_false_iff_not] at h41
              refine (HT_runF 2 [] [] (by simp [*]; rfl) trivial (le_agg 64 [.c (iC 2), .c (iC A), .c (iC 0), .c (iC 0), .c (iC 0), .c (iC 0), .c (.sl 3 []), .c (.sl 10 []), .c (.sl 10 []), .c (.sl 1 [])] rfl (by (repeat' (first | exact LWk.nil | apply LWk.cons | exact CWk.refl _ | exact CWk.nil _)))) (by simp [*]; rfl) trivial ?_)
              exact ⟨[.mk 2 A 0 0 (.mk 0 0 []) [] [] []], by unfold waitL; rw [if_neg (by omega)], le_mk (fun n => if n = 1065 then 65 else n) [] rfl (by simp [upS, keepS, *]) (by simp [*, upS]) (by simp [upS])⟩
            · try simp only [Bool.or_eq_true, Bool.and_eq_true, Bool.or_eq_false_iff, Bool.and_eq_false_iff, Bool.not_eq_true', Bool.not_eq_false', decide_eq_true_eq, decide_eq_false_iff_not] at h41
              exact ⟨[], by unfold waitL; rw [if_pos (by omega)], le_mk (fun n => n) [1065] rfl (by simp [upS, keepS, *]) (by simp [*, upS]) (by simp [upS])⟩
          rintro W hW
          simp only [upS, keepS, insS]
          try simp only [keepS, List.contains_cons, List.contains_nil, Bool.or_false, Bool.or_true, Bool.true_or, Bool.false_or, Nat.reduceBEq, BEq.rfl, beq_self_eq_true, if_true, if_false, Bool.false_eq_true, ite_true, ite_false, ins, Nat.reduceLT]
          rw [← hW] at hsn0
          have hsn : encSs (evR (l.take (k + 1))) = encSs (evR (l.take k)) ++ [[iC 4, iC sc, iC sv, iC sn, iC 0, iC 1, .sl 3 [], .sl 10 [[iC 3, iC 0, iC 0, iC 0, iC so, iC stn, .sl 3 (encTs sks), .sl 10 (encSs EA), .sl 10 (encSs W), .sl 1 []]], .sl 10 (encSs EB), .sl 1 (encIs sbs)]] := by
            rw [hsn0, encS_app]
            simp
          clear hsn0 hW
          refine HT_le (le_frz 1065 rfl) ?_
          refine HT_le (le_box 13 [.c (iC 3), .c (iC 0), .c (iC 0), .c (iC 0), .c (iC so), .c (iC stn), .c (.sl 3 (encTs sks)), .c (.sl 10 (encSs EA)), .c (.sl 10 (encSs W)), .c (.sl 1 [])] rfl (by (repeat' (first | exact LWk.nil | apply LWk.cons | exact CWk.refl _ | exact CWk.nil _)))) ?_
          refine (HT_drunH [(13, 13), (70, 9), (71, 9)] (by kernel_rfl) (by kernel_rfl) (by rfl) (by simp [evsH, hokB, hintOf, *]; rfl) ?_)
          refine HT_le (le_frz 69 rfl) ?_
          refine HT_le (le_box 9 [.c (iC 4), .c (iC sc), .c (iC sv), .c (iC sn), .c (iC 0), .c (iC 1), .c (.sl 3 []), .c (.sl 10 [[iC 3, iC 0, iC 0, iC 0, iC so, iC stn, .sl 3 (encTs sks), .sl 10 (encSs EA), .sl 10 (encSs W), .sl 1 []]]), .c (.sl 10 (encSs EB)), .c (.sl 1 (encIs sbs))] rfl (by (repeat' (first | exact LWk.nil | apply LWk.cons | exact CWk.refl _ | exact CWk.nil _)))) ?_
          refine (HT_run (by simp [*]; rfl) ?_)
          refine (HT_run (by simp [*]; rfl) ?_)
          exact ⟨k + 1, hk1, by omega, le_mk (fun n => if n = 1007 then 123 else n) [] rfl (by simp [upS, keepS, *]) (by simp [*, upS]) (by simp [upS])⟩
  · try simp only [Bool.or_eq_true, Bool.and_eq_true, Bool.or_eq_false_iff, Bool.and_eq_false_iff, Bool.not_eq_true', Bool.not_eq_false', decide_eq_true_eq, decide_eq_false_iff_not] at h5
    have hkl : k = l.length := by omega
    subst hkl
    simp only [List.take_length]
    refine (HT_exit ?_)
    refine HT_seq <| (HT_run (by simp [*]; rfl) ?_)
    exact HT_ret ⟨.inr rfl, _, le_name 6 1007 d rfl rfl hd0, ⟨⟨_, by simp; rfl, by simp [resR]⟩, by simp, fun h => by cases h⟩⟩
end Go.Proofs.YtfilidjbpomgoaaGreat

namespace Go.Proofs.YtfilidjbpomgoaaGreat
open Go Go.Hl

theorem right_con (f : Fl) (hv : f.vars.length ≤ 1000000) (hh : f.hats.length ≤ 1000000) (hn : nodesS f.body + nodesH f.hats ≤ 900000000) (hb : bndL f.body = true) (d : Nat) :
    Con Tryz.prog 37 false [aF f] (.tup [aF (chkF f).1, li (chkF f).2]) none d := by
  have cc := checkR_con f hv hh hn hb
  obtain ⟨vars, hats, body⟩ := f
  obtain ⟨res, hres⟩ : ∃ r, chkF ⟨vars, hats, body⟩ = r := ⟨_, rfl⟩
  rw [hres]
  unfold chkF at hres
  obtain ⟨C, hC⟩ : ∃ x, codeC ⟨vars, hats, body⟩ = x := ⟨_, rfl⟩
  rw [hC] at cc hres
  clear hC
  refine con_of_HT Tryz.func37 rfl (by kernel_rfl) (Nat.le_of_ble_eq_true rfl) ?_
  simp only [Tryz.f37]
  simp only [aF, Fl.enc, List.map_cons, List.map_nil] at cc ⊢
  refine HT_seq <| (HT_run (by simp [*]; rfl) ?_)
  refine HT_seq <| HT_seq <| (HT_runc [⟨true, .v (li C), none⟩] (by simp [*]; first | exact ⟨rfl, Iff.rfl⟩ | exact ⟨rfl, trivial⟩ | rfl) ?_ ?_)
  · first | exact cc _ | exact trivial | simpa [*] using cc _
  refine (HT_cond rfl (fun h2 => ?_) (fun h2 => HT_skip ?_))
  · try simp only [Bool.or_eq_true, Bool.and_eq_true, Bool.or_eq_false_iff, Bool.and_eq_false_iff, Bool.not_eq_true', Bool.not_eq_false', decide_eq_true_eq, decide_eq_false_iff_not] at h2
    rw [if_neg h2] at hres
    subst hres
    refine HT_seq <| (HT_run (by simp [*]; rfl) ?_)
    refine HT_le (le_box 2 [.c (.sl 5 []), .c (.sl 6 []), .c (.sl 10 [])] rfl (by (repeat' (first | exact LWk.nil | apply LWk.cons | exact CWk.refl _ | exact CWk.nil _)))) ?_
    exact HT_ret ⟨.inr rfl, _, le_refl _, ⟨⟨_, by simp; rfl, by simp [resR, fl0]⟩, by simp, fun h => by cases h⟩⟩
  · try simp only [Bool.or_eq_true, Bool.and_eq_true, Bool.or_eq_false_iff, Bool.and_eq_false_iff, Bool.not_eq_true', Bool.not_eq_false', decide_eq_true_eq, decide_eq_false_iff_not] at h2
    rw [if_pos (by simpa using h2)] at hres
    subst hres
    refine HT_seq <| (HT_run (by simp [*]; rfl) ?_)
    exact HT_ret ⟨.inr rfl, _, le_refl _, ⟨⟨_, by simp; rfl, by simp [resR]⟩, by simp, fun h => by cases h⟩⟩

theorem with_con (f : Fl) (l : List St) (hv : f.vars.length ≤ 1000000) (hh : f.hats.length ≤ 1000000) (hn : nodesS l + nodesH f.hats ≤ 900000000) (hb : bndL l = true) (d : Nat) :
    Con Tryz.prog 11 false [aF f, lS l] (.tup [aF (chkF ⟨f.vars, f.hats, l⟩).1, li (chkF ⟨f.vars, f.hats, l⟩).2]) none d := by
  have cc := right_con ⟨f.vars, f.hats, l⟩ hv hh hn hb
  obtain ⟨vars, hats, body⟩ := f
  simp only at cc hv hh hn ⊢
  obtain ⟨⟨⟨kv, kh, kb⟩, kc⟩, hK⟩ : ∃ r, chkF ⟨vars, hats, l⟩ = r := ⟨_, rfl⟩
  rw [hK] at cc ⊢
  refine con_of_HT Tryz.func11 rfl (by kernel_rfl) (Nat.le_of_ble_eq_true rfl) ?_
  simp only [Tryz.f11]
  simp only [aF, Fl.enc, List.map_cons, List.map_nil] at cc ⊢
  refine HT_seq <| (HT_run (by simp [*]; rfl) ?_)
  refine HT_seq <| (HT_runc [⟨false, .tup [.agg [.c (.sl 5 (encVs kv)), .c (.sl 6 (encHs kh)), .c (.sl 10 (encSs kb))], li kc], none⟩] (by simp [*]; first | exact ⟨rfl, Iff.rfl⟩ | exact ⟨rfl, trivial⟩ | rfl) ?_ ?_)
  · first | exact cc _ | exact trivial | simpa [*] using cc _
  exact HT_ret ⟨.inr rfl, _, le_refl _, ⟨⟨_, by simp; rfl, by simp [resR]⟩, by simp, fun h => by cases h⟩⟩

def noneB (f : Fl) : Bool := (decide (f.vars.length = 0) && decide (f.hats.length = 0)) && decide (f.body.length = 0)
theorem none_con (f : Fl) (d : Nat) : Con Tryz.prog 10 true [aF f] (.v (lb (noneB f))) none d := by
  obtain ⟨vars, hats, body⟩ := f
  unfold noneB
  refine con_of_HT Tryz.func10 rfl (by kernel_rfl) (Nat.le_of_ble_eq_true rfl) ?_
  simp only [Tryz.f10]
  simp only [aF, Fl.enc, List.map_cons, List.map_nil]
  refine HT_seq <| (HT_run (by simp [*]; rfl) ?_)
  refine HT_seq <| (HT_run (by simp [*]; rfl) ?_)
  exact (HT_retE (fun h => ⟨.inr rfl, h⟩) _ (by simp [*]; rfl) (by simp [resR]) (by simp))
end Go.Proofs.YtfilidjbpomgoaaGreat

namespace Go.Proofs.YtfilidjbpomgoaaGreat
open Go Go.Hl

theorem eqT_con (t : Tm) : t.nodes ≤ 1000000000 → ∀ d : Nat, Con Tryz.prog 76 true [aT t, aT t] (.v (lb true)) none d := by
  induction t using Tm.ind with
  | h o n ks ih =>
  intro hn d
  simp only [Tm.nodes] at hn
  have hlen := len_nodesT ks
  refine con_of_HT Tryz.func76 rfl (by kernel_rfl) (Nat.le_of_ble_eq_true rfl) ?_
  simp only [Tryz.f76]
  simp only [aT, Tm.enc]
  refine HT_seq <| (HT_run (by simp [*]; rfl) ?_)
  refine HT_seq <| HT_seq <| (HT_run (by simp [*]; rfl) ?_)
  refine (HT_cond rfl (fun h2 => ?_) (fun h2 => HT_skip ?_))
  · exact absurd h2 (by simp)
  · try simp only [Bool.or_eq_true, Bool.and_eq_true, Bool.or_eq_false_iff, Bool.and_eq_false_iff, Bool.not_eq_true', Bool.not_eq_false', decide_eq_true_eq, decide_eq_false_iff_not] at h2
    refine HT_seq <| HT_seq <| (HT_run (by simp [*]; rfl) ?_)
    refine HT_block <| (HT_loopU [2, 3] (fun (x : Nat) => [(5, .v (li x))]) (fun (x : Nat) => [(2, .box [.c (iC o), .c (iC n), .c (.sl 3 (encTs ks))]), (3, .box [.c (iC o), .c (iC n), .c (.sl 3 (encTs ks))])]) (fun (x : Nat) => x ≤ ks.length) (fun (x : Nat) => ks.length - x) (0 : Nat) (Nat.zero_le _) ?_ ?_)
    · exact le_mk (fun n => n) [] rfl (by simp [*, upS, keepS]) (by simp [*, upS]) (by simp [upS])
    rintro k hk
    simp only [upS, keepS, insS]
    try simp only [keepS, List.contains_cons, List.contains_nil, Bool.or_false, Bool.or_true, Bool.true_or, Bool.false_or, Nat.reduceBEq, BEq.rfl, beq_self_eq_true, if_true, if_false, Bool.false_eq_true, ite_true, ite_false, ins, Nat.reduceLT]
    refine HT_seq <| HT_seq <| (HT_run (by simp [*]; rfl) ?_)
    refine (HT_cond rfl (fun h8 => HT_skip ?_) (fun h8 => ?_))
    · try simp only [Bool.or_eq_true, Bool.and_eq_true, Bool.or_eq_false_iff, Bool.and_eq_false_iff, Bool.not_eq_true', Bool.not_eq_false', decide_eq_true_eq, decide_eq_false_iff_not] at h8
      have hlt : k < ks.length := by omega
      obtain ⟨⟨eo, en, ek⟩, he, hd⟩ := at_lt hlt
      have he' := get_encT he
      simp only [Tm.enc] at he'
      have hw1 := wrap1 hlt (by omega)
      have hk1 : k + 1 ≤ ks.length := hlt
      have hmem : Tm.mk eo en ek ∈ ks := List.mem_of_getElem? he
      have hnm := nodes_mem hmem
      have c := ih _ hmem (by omega)
      clear hlt h8 ih hmem hnm
      refine HT_seq <| HT_block <| HT_seq <| (HT_drunc [⟨true, .v (lb true), none⟩] (by kernel_rfl) (by kernel_rfl) (by rfl) (by simp [*]; first | exact ⟨rfl, Iff.rfl⟩ | exact ⟨rfl, trivial⟩ | rfl) ?_ ?_)
      · first | exact c _ | exact trivial | simpa [*] using c _
      refine (HT_cond rfl (fun h10 => ?_) (fun h10 => HT_skip ?_))
      · exact absurd h10 (by simp)
      · try simp only [Bool.or_eq_true, Bool.and_eq_true, Bool.or_eq_false_iff, Bool.and_eq_false_iff, Bool.not_eq_true', Bool.not_eq_false', decide_eq_true_eq, decide_eq_false_iff_not] at h10
        refine (HT_run (by simp [*]; rfl) ?_)
        exact ⟨k + 1, hk1, by omega, le_mk (fun n => n) [] rfl (by simp [upS, keepS, *]) (by simp [*, upS]) (by simp [upS])⟩
    · try simp only [Bool.or_eq_true, Bool.and_eq_true, Bool.or_eq_false_iff, Bool.and_eq_false_iff, Bool.not_eq_true', Bool.not_eq_false', decide_eq_true_eq, decide_eq_false_iff_not] at h8
      refine (HT_exit ?_)
      refine HT_seq <| (HT_run (by simp [*]; rfl) ?_)
      exact (HT_retE (fun h => ⟨.inr rfl, h⟩) _ (by simp [*]; rfl) (by first | rfl | (simp [*]; done) | (simp only [resR]; (repeat' split) <;> first | rfl | (exfalso; omega) | simp_all)) (by simp))
theorem eqI_con (l : List Int) (hl : l.length ≤ 1000000000) (d : Nat) : Con Tryz.prog 17 true [lI l, lI l] (.v (lb true)) none d := by
  refine con_of_HT Tryz.func17 rfl (by kernel_rfl) (Nat.le_of_ble_eq_true rfl) ?_
  simp only [Tryz.f17]
  refine HT_seq <| (HT_run (by simp [*]; rfl) ?_)
  refine HT_seq <| HT_seq <| (HT_run (by simp [*]; rfl) ?_)
  refine (HT_cond rfl (fun h2 => ?_) (fun h2 => HT_skip ?_))
  · exact absurd h2 (by simp)
  · try simp only [Bool.or_eq_true, Bool.and_eq_true, Bool.or_eq_false_iff, Bool.and_eq_false_iff, Bool.not_eq_true', Bool.not_eq_false', decide_eq_true_eq, decide_eq_false_iff_not] at h2
    refine HT_seq <| HT_seq <| (HT_run (by simp [*]; rfl) ?_)
    refine HT_block <| (HT_loopU [0, 1] (fun (x : Nat) => [(5, .v (li x))]) (fun (x : Nat) => []) (fun (x : Nat) => x ≤ l.length) (fun (x : Nat) => l.length - x) (0 : Nat) (Nat.zero_le _) ?_ ?_)
    · exact le_mk (fun n => n) [] rfl (by simp [*, upS, keepS]) (by simp [*, upS]) (by simp [upS])
    rintro k hk
    simp only [upS, keepS, insS]
    try simp only [keepS, List.contains_cons, List.contains_nil, Bool.or_false, Bool.or_true, Bool.true_or, Bool.false_or, Nat.reduceBEq, BEq.rfl, beq_self_eq_true, if_true, if_false, Bool.false_eq_true, ite_true, ite_false, ins, Nat.reduceLT]
    refine HT_seq <| HT_seq <| (HT_run (by simp [*]; rfl) ?_)
    refine (HT_cond rfl (fun h8 => HT_skip ?_) (fun h8 => ?_))
    · try simp only [Bool.or_eq_true, Bool.and_eq_true, Bool.or_eq_false_iff, Bool.and_eq_false_iff, Bool.not_eq_true', Bool.not_eq_false', decide_eq_true_eq, decide_eq_false_iff_not] at h8
      have hlt : k < l.length := by omega
      obtain ⟨x, he, hd⟩ := at_lt hlt
      have hw1 := wrap1 hlt (by omega)
      have hk1 : k + 1 ≤ l.length := hlt
      clear hlt h8
      refine HT_seq <| HT_block <| HT_seq <| (HT_drun (by kernel_rfl) (by kernel_rfl) (by rfl) (by simp [*]; rfl) ?_)
      refine (HT_cond rfl (fun h10 => ?_) (fun h10 => HT_skip ?_))
      · exact absurd h10 (by simp)
      · try simp only [Bool.or_eq_true, Bool.and_eq_true, Bool.or_eq_false_iff, Bool.and_eq_false_iff, Bool.not_eq_true', Bool.not_eq_false', decide_eq_true_eq, decide_eq_false_iff_not] at h10
        refine (HT_run (by simp [*]; rfl) ?_)
        exact ⟨k + 1, hk1, by omega, le_mk (fun n => n) [] rfl (by simp [upS, keepS, *]) (by simp [*, upS]) (by simp [upS])⟩
    · try simp only [Bool.or_eq_true, Bool.and_eq_true, Bool.or_eq_false_iff, Bool.and_eq_false_iff, Bool.not_eq_true', Bool.not_eq_false', decide_eq_true_eq, decide_eq_false_iff_not] at h8
      refine (HT_exit ?_)
      refine HT_seq <| (HT_run (by simp [*]; rfl) ?_)
      exact (HT_retE (fun h => ⟨.inr rfl, h⟩) _ (by simp [*]; rfl) (by first | rfl | (simp [*]; done) | (simp only [resR]; (repeat' split) <;> first | rfl | (exfalso; omega) | simp_all)) (by simp))
theorem eqS_con (l : List St) : nodesS l ≤ 1000000000 → bndL l = true → ∀ d : Nat, Con Tryz.prog 75 true [lS l, lS l] (.v (lb true)) none d := by
  revert l
  apply St.lists
  intro l ih hn hbn d
  have hlen := len_nodesS l
  refine con_of_HT Tryz.func75 rfl (by kernel_rfl) (Nat.le_of_ble_eq_true rfl) ?_
  simp only [Tryz.f75]
  refine HT_seq <| (HT_run (by simp [*]; rfl) ?_)
  refine HT_seq <| HT_seq <| (HT_run (by simp [*]; rfl) ?_)
  refine (HT_cond rfl (fun h2 => ?_) (fun h2 => HT_skip ?_))
  · exact absurd h2 (by simp)
  · try simp only [Bool.or_eq_true, Bool.and_eq_true, Bool.or_eq_false_iff, Bool.and_eq_false_iff, Bool.not_eq_true', Bool.not_eq_false', decide_eq_true_eq, decide_eq_false_iff_not] at h2
    refine HT_seq <| HT_seq <| (HT_run (by simp [*]; rfl) ?_)
    refine HT_block <| (HT_loopU [0, 1] (fun (x : Nat) => [(5, .v (li x))]) (fun (x : Nat) => []) (fun (x : Nat) => x ≤ l.length) (fun (x : Nat) => l.length - x) (0 : Nat) (Nat.zero_le _) ?_ ?_)
    · exact le_mk (fun n => n) [] rfl (by simp [*, upS, keepS]) (by simp [*, upS]) (by simp [upS])
    rintro k hk
    simp only [upS, keepS, insS]
    try simp only [keepS, List.contains_cons, List.contains_nil, Bool.or_false, Bool.or_true, Bool.true_or, Bool.false_or, Nat.reduceBEq, BEq.rfl, beq_self_eq_true, if_true, if_false, Bool.false_eq_true, ite_true, ite_false, ins, Nat.reduceLT]
    refine HT_seq <| HT_seq <| (HT_run (by simp [*]; rfl) ?_)
    refine (HT_cond rfl (fun h8 => HT_skip ?_) (fun h8 => ?_))
    · try simp only [Bool.or_eq_true, Bool.and_eq_true, Bool.or_eq_false_iff, Bool.and_eq_false_iff, Bool.not_eq_true', Bool.not_eq_false', decide_eq_true_eq, decide_eq_false_iff_not] at h8
      have hlt : k < l.length := by omega
      obtain ⟨s, he, hd⟩ := at_lt hlt
      have hw1 := wrap1 hlt (by omega)
      have hk1 : k + 1 ≤ l.length := hlt
      have hmem : s ∈ l := List.mem_of_getElem? he
      have hnm := nodesS_mem hmem
      have hbm := bndL_mem hbn hmem
      have ca := (ih s hmem).1 (by omega)
      have cb := (ih s hmem).2 (by omega)
      have ct := eqT_con s.term (by omega)
      have cc := eqI_con s.bounds
      have he' := get_encS he
      obtain ⟨sd, sc, sv, sn, ⟨so, stn, sks⟩, sa, sb, sbs⟩ := s
      simp only [St.then_, St.else_, St.term, St.bounds] at ca cb ct cc
      simp only [bndS, Bool.and_eq_true, decide_eq_true_eq] at hbm
      have ca := ca hbm.2.1
      have cb := cb hbm.2.2
      have cc := cc hbm.1
      simp only [St.enc, Tm.enc, List.cons_append, List.nil_append] at he'
      simp only [aT, Tm.enc, List.map_cons, List.map_nil] at ct
      clear hlt h8 ih hmem hnm he hd hbm
      refine HT_seq <| HT_block <| HT_seq <| (HT_drunH [(6, 6), (7, 7), (23, 2000000), (24, 2000000), (25, 2000000)] (by kernel_rfl) (by kernel_rfl) (by rfl) (by simp [evsH, hokB, hintOf, *]; rfl) ?_)
      refine HT_seq <| (HT_runc [⟨true, .v (lb true), none⟩, ⟨true, .v (lb true), none⟩, ⟨true, .v (lb true), none⟩, ⟨true, .v (lb true), none⟩] (by simp [*]; first | exact ⟨rfl, Iff.rfl⟩ | exact ⟨rfl, trivial⟩ | rfl) ?_ ?_)
      · first | exact ⟨ct _, cc _, ca _, cb _⟩ | exact trivial | (repeat' first | exact trivial | exact ct _ | exact cc _ | exact ca _ | exact cb _ | apply And.intro)
      refine (HT_cond rfl (fun h11 => ?_) (fun h11 => HT_skip ?_))
      · exact absurd h11 (by simp)
      · try simp only [Bool.or_eq_true, Bool.and_eq_true, Bool.or_eq_false_iff, Bool.and_eq_false_iff, Bool.not_eq_true', Bool.not_eq_false', decide_eq_true_eq, decide_eq_false_iff_not] at h11
        refine (HT_run (by simp [*]; rfl) ?_)
        exact ⟨k + 1, hk1, by omega, le_mk (fun n => n) [] rfl (by simp [upS, keepS, *]) (by simp [*, upS]) (by simp [upS])⟩
    · try simp only [Bool.or_eq_true, Bool.and_eq_true, Bool.or_eq_false_iff, Bool.and_eq_false_iff, Bool.not_eq_true', Bool.not_eq_false', decide_eq_true_eq, decide_eq_false_iff_not] at h8
      refine (HT_exit ?_)
      refine HT_seq <| (HT_run (by simp [*]; rfl) ?_)
      exact (HT_retE (fun h => ⟨.inr rfl, h⟩) _ (by simp [*]; rfl) (by first | rfl | (simp [*]; done) | (simp only [resR]; (repeat' split) <;> first | rfl | (exfalso; omega) | simp_all)) (by simp))
theorem eqF_con (f : Fl) (hv : f.vars.length ≤ 1000000) (hh : f.hats.length ≤ 1000000) (hn : nodesS f.body + nodesH f.hats ≤ 900000000) (hb : bndL f.body = true) (d : Nat) :
    Con Tryz.prog 40 true [aF f, aF f] (.v (lb true)) none d := by
  have cs := eqS_con f.body (by omega) hb
  have ct := fun (h : Ht) (hm : h ∈ f.hats) => eqT_con h.term (by have := nodesH_mem hm; omega)
  obtain ⟨vars, hats, body⟩ := f
  simp only at hv hh hn hb cs ct
  refine con_of_HT Tryz.func40 rfl (by kernel_rfl) (Nat.le_of_ble_eq_true rfl) ?_
  simp only [Tryz.f40]
  simp only [aF, Fl.enc, List.map_cons, List.map_nil]
  refine HT_seq <| (HT_run (by simp [*]; rfl) ?_)
  refine HT_seq <| HT_seq <| (HT_runc [⟨true, .v (lb true), none⟩] (by simp [*]; first | exact ⟨rfl, Iff.rfl⟩ | exact ⟨rfl, trivial⟩ | rfl) ?_ ?_)
  · first | exact cs _ | exact trivial | simpa [*] using cs _
  refine (HT_cond rfl (fun h2 => ?_) (fun h2 => HT_skip ?_))
  · exact absurd h2 (by simp)
  · try simp only [Bool.or_eq_true, Bool.and_eq_true, Bool.or_eq_false_iff, Bool.and_eq_false_iff, Bool.not_eq_true', Bool.not_eq_false', decide_eq_true_eq, decide_eq_false_iff_not] at h2
    refine HT_seq <| HT_seq <| (HT_run (by simp [*]; rfl) ?_)
    refine HT_block <| (HT_loopU [2, 3] (fun (x : Nat) => [(5, .v (li x))]) (fun (x : Nat) => [(2, .box [.c (.sl 5 (encVs vars)), .c (.sl 6 (encHs hats)), .c (.sl 10 (encSs body))]), (3, .box [.c (.sl 5 (encVs vars)), .c (.sl 6 (encHs hats)), .c (.sl 10 (encSs body))])]) (fun (x : Nat) => x ≤ vars.length) (fun (x : Nat) => vars.length - x) (0 : Nat) (Nat.zero_le _) ?_ ?_)
    · exact le_mk (fun n => n) [] rfl (by simp [*, upS, keepS]) (by simp [*, upS]) (by simp [upS])
    rintro k hk
    simp only [upS, keepS, insS]
    try simp only [keepS, List.contains_cons, List.contains_nil, Bool.or_false, Bool.or_true, Bool.true_or, Bool.false_or, Nat.reduceBEq, BEq.rfl, beq_self_eq_true, if_true, if_false, Bool.false_eq_true, ite_true, ite_false, ins, Nat.reduceLT]
    refine HT_seq <| HT_seq <| (HT_run (by simp [*]; rfl) ?_)
    refine (HT_cond rfl (fun h8 => HT_skip ?_) (fun h8 => ?_))
    · try simp only [Bool.or_eq_true, Bool.and_eq_true, Bool.or_eq_false_iff, Bool.and_eq_false_iff, Bool.not_eq_true', Bool.not_eq_false', decide_eq_true_eq, decide_eq_false_iff_not] at h8
      have hlt : k < vars.length := by omega
      obtain ⟨v, he, hd⟩ := at_lt hlt
      have hw1 := wrap1 hlt (by omega)
      have hk1 : k + 1 ≤ vars.length := hlt
      clear hlt h8 hd
      refine HT_seq <| HT_block <| HT_seq <| (HT_drun (by kernel_rfl) (by kernel_rfl) (by rfl) (by simp [*]; rfl) ?_)
      refine (HT_cond rfl (fun h10 => ?_) (fun h10 => HT_skip ?_))
      · exact absurd h10 (by simp)
      · try simp only [Bool.or_eq_true, Bool.and_eq_true, Bool.or_eq_false_iff, Bool.and_eq_false_iff, Bool.not_eq_true', Bool.not_eq_false', decide_eq_true_eq, decide_eq_false_iff_not] at h10
        refine (HT_run (by simp [*]; rfl) ?_)
        exact ⟨k + 1, hk1, by omega, le_mk (fun n => n) [] rfl (by simp [upS, keepS, *]) (by simp [*, upS]) (by simp [upS])⟩
    · try simp only [Bool.or_eq_true, Bool.and_eq_true, Bool.or_eq_false_iff, Bool.and_eq_false_iff, Bool.not_eq_true', Bool.not_eq_false', decide_eq_true_eq, decide_eq_false_iff_not] at h8
      refine (HT_exit ?_)
      refine HT_seq <| HT_seq <| (HT_run (by simp [*]; rfl) ?_)
      refine HT_block <| (HT_loopU [2, 3] (fun (x : Nat) => [(6, .v (li x))]) (fun (x : Nat) => [(2, .box [.c (.sl 5 (encVs vars)), .c (.sl 6 (encHs hats)), .c (.sl 10 (encSs body))]), (3, .box [.c (.sl 5 (encVs vars)), .c (.sl 6 (encHs hats)), .c (.sl 10 (encSs body))])]) (fun (x : Nat) => x ≤ hats.length) (fun (x : Nat) => hats.length - x) (0 : Nat) (Nat.zero_le _) ?_ ?_)
      · exact le_mk (fun n => n) [] rfl (by simp [*, upS, keepS]) (by simp [*, upS]) (by simp [upS])
      rintro k hk
      simp only [upS, keepS, insS]
      try simp only [keepS, List.contains_cons, List.contains_nil, Bool.or_false, Bool.or_true, Bool.true_or, Bool.false_or, Nat.reduceBEq, BEq.rfl, beq_self_eq_true, if_true, if_false, Bool.false_eq_true, ite_true, ite_false, ins, Nat.reduceLT]
      refine HT_seq <| HT_seq <| (HT_run (by simp [*]; rfl) ?_)
      refine (HT_cond rfl (fun h18 => HT_skip ?_) (fun h18 => ?_))
      · try simp only [Bool.or_eq_true, Bool.and_eq_true, Bool.or_eq_false_iff, Bool.and_eq_false_iff, Bool.not_eq_true', Bool.not_eq_false', decide_eq_true_eq, decide_eq_false_iff_not] at h18
        have hlt : k < hats.length := by omega
        obtain ⟨h, he, hd⟩ := at_lt hlt
        have hw1 := wrap1 hlt (by omega)
        have hk1 : k + 1 ≤ hats.length := hlt
        have ct := ct h (List.mem_of_getElem? he)
        obtain ⟨nm, lo, hi, ⟨o, tn, ks⟩⟩ := h
        simp only [aT, Tm.enc, List.map_cons, List.map_nil] at ct
        clear hlt h18 hd
        refine HT_seq <| HT_block <| HT_seq <| (HT_drunH [(58, 2), (63, 3), (7, 7), (8, 8), (64, 2000000), (65, 2000000), (66, 2000000)] (by kernel_rfl) (by kernel_rfl) (by rfl) (by simp [evsH, hokB, hintOf, *]; rfl) ?_)
        refine HT_seq <| (HT_runc [⟨true, .v (lb true), none⟩] (by simp [*]; first | exact ⟨rfl, Iff.rfl⟩ | exact ⟨rfl, trivial⟩ | rfl) ?_ ?_)
        · first | exact ct _ | exact trivial | simpa [*] using ct _
        refine (HT_cond rfl (fun h21 => ?_) (fun h21 => HT_skip ?_))
        · exact absurd h21 (by simp)
        · try simp only [Bool.or_eq_true, Bool.and_eq_true, Bool.or_eq_false_iff, Bool.and_eq_false_iff, Bool.not_eq_true', Bool.not_eq_false', decide_eq_true_eq, decide_eq_false_iff_not] at h21
          refine (HT_run (by simp [*]; rfl) ?_)
          exact ⟨k + 1, hk1, by omega, le_mk (fun n => n) [] rfl (by simp [upS, keepS, *]) (by simp [*, upS]) (by simp [upS])⟩
      · try simp only [Bool.or_eq_true, Bool.and_eq_true, Bool.or_eq_false_iff, Bool.and_eq_false_iff, Bool.not_eq_true', Bool.not_eq_false', decide_eq_true_eq, decide_eq_false_iff_not] at h18
        refine (HT_exit ?_)
        refine HT_seq <| (HT_run (by simp [*]; rfl) ?_)
        exact (HT_retE (fun h => ⟨.inr rfl, h⟩) _ (by simp [*]; rfl) (by first | rfl | (simp [*]; done) | (simp only [resR]; (repeat' split) <;> first | rfl | (exfalso; omega) | simp_all)) (by simp))
end Go.Proofs.YtfilidjbpomgoaaGreat
