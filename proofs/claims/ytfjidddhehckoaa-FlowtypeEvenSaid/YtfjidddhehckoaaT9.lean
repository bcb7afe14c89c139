/- Part 9: contracts of functions of the program and of the reference, and plain facts about what they compute; used by the proof of the claimed statement. Conditions: as each theorem states. -/
import Derived.Test.YtfjidddhehckoaaT4
import Derived.Test.YtfjidddhehckoaaT8
import Derived.Test.YtfjidddhehckoaaHlZ
set_option linter.unusedSimpArgs false
set_option linter.unusedVariables false
set_option linter.unnecessarySimpa false
set_option maxRecDepth 100000
set_option maxHeartbeats 2000000
namespace Go.Proofs.Ytfjidddhehckoaa
open Go Go.Hl

theorem spanR_con (l : List St) : nodesS l ≤ 1000000000 → ∀ d : Nat, Con Try.prog 13 true [lS l] (.tup [li (spL l (0, 0)).1, li (spL l (0, 0)).2]) none d := by
  revert l
  apply St.lists
  intro l ih hn d
  have hlen := len_nodesS l
  obtain ⟨res, hres⟩ : ∃ r, spL l (0, 0) = r := ⟨_, rfl⟩
  rw [hres]
  refine con_of_HT Try.func13 rfl (by kernel_rfl) (Nat.le_of_ble_eq_true rfl) ?_
  simp only [Try.f13]
  refine HT_seq <| HT_runA ?_
  refine HT_seq <| HT_runA ?_
  refine HT_seq <| HT_seq <| HT_runA ?_
  refine HT_block <| (HT_loopU [0] (fun (x : Nat × Int × Int) => [(4, .v (li x.2.1)), (5, .v (li x.2.2)), (6, .v (li x.1))]) (fun (x : Nat × Int × Int) => []) (fun (x : Nat × Int × Int) => x.1 ≤ l.length ∧ spL (l.drop x.1) x.2 = res ∧ inT x.2) (fun (x : Nat × Int × Int) => l.length - x.1) (0, 0, 0) ⟨Nat.zero_le _, hres, inT0⟩ ?_ ?_)
  · exact le_mk (fun n => n) [] rfl (by simp [*, upS, keepS]) (by simp [*, upS]) (by simp [upS])
  rintro ⟨k, m, q⟩ ⟨hk, hJ, hin⟩
  simp only [upS, keepS, insS]
  try simp only [keepS, KN, Nat.reduceBEq, if_true, if_false, ins, Nat.reduceLT]
  simp only at hk hJ
  unfold inT at hin
  simp only at hin
  clear hres
  refine HT_seq <| HT_seq <| HT_runA ?_
  refine (HT_cond rfl (fun h5 => HT_skip ?_) (fun h5 => ?_))
  · try simp only [BN] at h5
    have hlt : k < l.length := by omega
    obtain ⟨s, he, hd⟩ := at_lt hlt
    have hmem : s ∈ l := List.mem_of_getElem? he
    have hnm := nodesS_mem hmem
    have iha := fun h => (ih s hmem).1 h
    have ihb := fun h => (ih s hmem).2 h
    have hw1 := wrap1 hlt (by omega)
    have hk1 : k + 1 ≤ l.length := hlt
    rw [hd] at hJ
    simp only [spL] at hJ
    have hsin := spS_in s
    obtain ⟨pq, hpq⟩ : ∃ pq, spS s = pq := ⟨_, rfl⟩
    rw [hpq] at hJ hsin
    obtain ⟨sd, sc, sv, sn, ⟨so, stn, sks⟩, sa, sb, sbs⟩ := s
    simp only [St.then_, St.else_, St.term] at iha ihb hnm
    have ca := iha (by omega)
    have cb := ihb (by omega)
    have he' := get_encS he
    simp only [St.enc, Tm.enc, List.cons_append, List.nil_append] at he'
    simp only [spS] at hpq
    have hxa := spL_in sa (0, 0) inT0
    have hxb := spL_in sb (0, 0) inT0
    obtain ⟨xa, hxa'⟩ : ∃ x, spL sa (0, 0) = x := ⟨_, rfl⟩
    obtain ⟨xb, hxb'⟩ : ∃ x, spL sb (0, 0) = x := ⟨_, rfl⟩
    have hci := held_in (n := sc) (lo := 0) (hi := 67108865) (by decide)
    have hni := held_in (n := sn) (lo := 0) (hi := 4096) (by decide)
    obtain ⟨cc, hcc⟩ : ∃ x, heldI sc 0 67108865 = x := ⟨_, rfl⟩
    obtain ⟨nn, hnn⟩ : ∃ x, heldI sn 0 4096 = x := ⟨_, rfl⟩
    have c1 := held_con sc 0 67108865
    have c2 := held_con sn 0 4096
    rw [hxa'] at ca hxa hpq
    rw [hxb'] at cb hxb hpq
    rw [hcc] at c1 hci hpq
    rw [hnn] at c2 hni hpq
    unfold inT at hxa hxb
    unfold inU at hsin
    clear hlt h5 iha ihb ih hxa' hxb' hcc hnn hmem hnm hd he
    refine HT_seq <| HT_block <| HT_seq <| HT_runA ?_
    refine HT_seq <| (HT_runc [⟨true, .v (li cc), none⟩] (by simp [*]; first | exact ⟨rfl, Iff.rfl⟩ | exact ⟨rfl, trivial⟩ | rfl) ?_ ?_)
    · first | exact c1 _ | exact trivial | simpa [*] using c1 _
    refine HT_seq <| (HT_runc [⟨true, .tup [li xa.1, li xa.2], none⟩] (by simp [*]; first | exact ⟨rfl, Iff.rfl⟩ | exact ⟨rfl, trivial⟩ | rfl) ?_ ?_)
    · first | exact ca _ | exact trivial | simpa [*] using ca _
    refine HT_seq <| (HT_runc [⟨true, .tup [li xb.1, li xb.2], none⟩] (by simp [*]; first | exact ⟨rfl, Iff.rfl⟩ | exact ⟨rfl, trivial⟩ | rfl) ?_ ?_)
    · first | exact cb _ | exact trivial | simpa [*] using cb _
    refine HT_seq <| HT_runA ?_
    refine (HT_cutU [0, 4, 5, 6, 7, 8, 9, 10] (fun (z : Int × Int) => [(13, .v (li z.1)), (14, .v (li z.2))]) (fun (z : Int × Int) => [(7, .box [.c (iC sd), .c (iC sc), .c (iC sv), .c (iC sn), .c (iC so), .c (iC stn), .c (.sl 3 (encTs sks)), .c (.sl 10 (encSs sa)), .c (.sl 10 (encSs sb)), .c (.sl 1 (encIs sbs))])]) (fun (z : Int × Int) => sd ≠ 4 → z = pq) ?_ ?_)
    ·
      refine HT_seq <| HT_runA ?_
      refine (HT_cond rfl (fun h13 => ?_) (fun h13 => HT_skip ?_))
      · try simp only [BN] at h13
        rw [if_pos h13] at hpq
        subst hpq
        have hw2 : IntKind.i64.wrap (cc + mn xa.1 xb.1) = cc + mn xa.1 xb.1 := wrap_in (by simp only at hsin; omega) (by simp only at hsin; omega)
        have hw3 : IntKind.i64.wrap (cc + mx xa.2 xb.2) = cc + mx xa.2 xb.2 := wrap_in (by simp only at hsin; omega) (by simp only at hsin; omega)
        clear hsin
        refine (HT_runc [⟨true, .v (li (mn xa.1 xb.1)), none⟩, ⟨true, .v (li (mx xa.2 xb.2)), none⟩] (by simp [*]; first | exact ⟨rfl, Iff.rfl⟩ | exact ⟨rfl, trivial⟩ | rfl) ?_ ?_)
        · first | exact ⟨least_con _ _ _, most_con _ _ _⟩ | exact trivial | (repeat' first | exact trivial | exact least_con _ _ _ | exact most_con _ _ _ | apply And.intro)
        exact ⟨(cc + mn xa.1 xb.1, cc + mx xa.2 xb.2), fun _ => rfl, le_mk (fun n => n) [] rfl (by simp [upS, keepS, *]) (by simp [*, upS]) (by simp [upS])⟩
      · try simp only [BN] at h13
        rw [if_neg h13] at hpq
        exact ⟨(cc, cc), fun h => by rw [if_neg h] at hpq; exact hpq, le_mk (fun n => n) [] rfl (by simp [upS, keepS, *]) (by simp [*, upS]) (by simp [upS])⟩
    rintro ⟨p0, q0⟩ hz
    simp only [upS, keepS, insS]
    try simp only [keepS, KN, Nat.reduceBEq, if_true, if_false, ins, Nat.reduceLT]
    refine (HT_cutU [0, 4, 5, 6] (fun (z : Unit) => [(13, .v (li pq.1)), (14, .v (li pq.2))]) (fun (z : Unit) => []) (fun (z : Unit) => True) ?_ ?_)
    ·
      refine HT_seq <| HT_runA ?_
      refine (HT_cond rfl (fun h19 => ?_) (fun h19 => HT_skip ?_))
      · try simp only [BN] at h19
        rw [if_neg (by omega), if_pos h19] at hpq
        have hm1 := mulT hni (z := cc + xa.1) (by omega)
        have hm2 := mulT hni (z := cc + xa.2) (by omega)
        have hw2 : IntKind.i64.wrap (cc + xa.1) = cc + xa.1 := wrap_in (by omega) (by omega)
        have hw3 : IntKind.i64.wrap (cc + xa.2) = cc + xa.2 := wrap_in (by omega) (by omega)
        have hw4 : IntKind.i64.wrap (nn * (cc + xa.1)) = nn * (cc + xa.1) := wrap_in (by omega) (by omega)
        have hw5 : IntKind.i64.wrap (nn * (cc + xa.2)) = nn * (cc + xa.2) := wrap_in (by omega) (by omega)
        clear hm1 hm2 hz
        refine HT_seq <| (HT_runc [⟨true, .v (li nn), none⟩] (by simp [*]; first | exact ⟨rfl, Iff.rfl⟩ | exact ⟨rfl, trivial⟩ | rfl) ?_ ?_)
        · first | exact c2 _ | exact trivial | simpa [*] using c2 _
        refine HT_seq <| HT_runA ?_
        refine (HT_cutU [0, 4, 5, 6, 7, 8, 9, 14, 15] (fun (z : Unit) => [(13, .v (li (onceI nn cc)))]) (fun (z : Unit) => [(7, .box [.c (iC sd), .c (iC sc), .c (iC sv), .c (iC sn), .c (iC so), .c (iC stn), .c (.sl 3 (encTs sks)), .c (.sl 10 (encSs sa)), .c (.sl 10 (encSs sb)), .c (.sl 1 (encIs sbs))])]) (fun (z : Unit) => True) ?_ ?_)
        ·
          refine HT_seq <| HT_runA ?_
          refine (HT_cond rfl (fun h24 => ?_) (fun h24 => HT_skip ?_))
          · try simp only [BN] at h24
            have hon : onceI nn cc = cc := by unfold onceI; rw [if_pos h24]
            refine HT_runA ?_
            exact ⟨(), trivial, le_mk (fun n => n) [] rfl (by simp [upS, keepS, *]) (by simp [*, upS]) (by simp [upS])⟩
          · try simp only [BN] at h24
            have hon : onceI nn cc = 0 := by unfold onceI; rw [if_neg h24]
            exact ⟨(), trivial, le_mk (fun n => n) [] rfl (by simp [upS, keepS, *]) (by simp [*, upS]) (by simp [upS])⟩
        rintro z hz
        simp only [upS, keepS, insS]
        try simp only [keepS, KN, Nat.reduceBEq, if_true, if_false, ins, Nat.reduceLT]
        refine (HT_cutU [0, 4, 5, 6, 7, 14] (fun (z : Unit) => [(13, .v (li pq.1))]) (fun (z : Unit) => [(7, .box [.c (iC sd), .c (iC sc), .c (iC sv), .c (iC sn), .c (iC so), .c (iC stn), .c (.sl 3 (encTs sks)), .c (.sl 10 (encSs sa)), .c (.sl 10 (encSs sb)), .c (.sl 1 (encIs sbs))])]) (fun (z : Unit) => True) ?_ ?_)
        ·
          refine HT_seq <| HT_runA ?_
          refine (HT_cond rfl (fun h30 => ?_) (fun h30 => HT_skip ?_))
          · try simp only [BN] at h30
            rw [if_neg (fun h => h h30.1), if_pos h30.2] at hpq
            subst hpq
            refine HT_runA ?_
            exact ⟨(), trivial, le_mk (fun n => n) [] rfl (by simp [upS, keepS, *]) (by simp [*, upS]) (by simp [upS])⟩
          · try simp only [BN] at h30
            have hp1 : onceI nn cc = pq.1 := by
              by_cases h : so = 0
              · rw [if_neg (fun h2 => h2 h), if_neg (fun h2 => by rcases h30 with h3 | h3; exact h3 h; exact h2 h3)] at hpq
                rw [← hpq]
              · rw [if_pos h] at hpq
                rw [← hpq]
            clear hpq
            exact ⟨(), trivial, le_mk (fun n => n) [] rfl (by simp [upS, keepS, *]) (by simp [*, upS]) (by simp [upS])⟩
        rintro z hz
        simp only [upS, keepS, insS]
        try simp only [keepS, KN, Nat.reduceBEq, if_true, if_false, ins, Nat.reduceLT]
        refine HT_seq <| HT_runA ?_
        refine (HT_cond rfl (fun h35 => ?_) (fun h35 => HT_skip ?_))
        · try simp only [BN] at h35
          rw [if_neg (fun h => h h35.1), if_neg (fun h => h h35.2)] at hpq
          subst hpq
          refine HT_runA ?_
          exact ⟨(), trivial, le_mk (fun n => n) [] rfl (by simp [upS, keepS, *]) (by simp [*, upS]) (by simp [upS])⟩
        · try simp only [BN] at h35
          have hp2 : nn * (cc + xa.2) = pq.2 := by
            by_cases h : so = 0
            · rw [if_neg (fun h2 => h2 h), if_pos (by rcases h35 with h3 | h3; exact absurd h h3; exact h3)] at hpq
              rw [← hpq]
            · rw [if_pos h] at hpq
              rw [← hpq]
          clear hpq
          exact ⟨(), trivial, le_mk (fun n => n) [] rfl (by simp [upS, keepS, *]) (by simp [*, upS]) (by simp [upS])⟩
      · try simp only [BN] at h19
        have hz2 := hz h19
        have hp1 : p0 = pq.1 := by rw [← hz2]
        have hp2 : q0 = pq.2 := by rw [← hz2]
        clear hpq hz hz2
        exact ⟨(), trivial, le_mk (fun n => n) [] rfl (by simp [upS, keepS, *]) (by simp [*, upS]) (by simp [upS])⟩
    rintro _ _
    simp only [upS, keepS, insS]
    try simp only [keepS, KN, Nat.reduceBEq, if_true, if_false, ins, Nat.reduceLT]
    clear hpq ca cb c1 c2 hci hni hxa hxb hz
    have hw2 : IntKind.i64.wrap (m + pq.1) = m + pq.1 := wrap_in (by omega) (by omega)
    have hw3 : IntKind.i64.wrap (q + pq.2) = q + pq.2 := wrap_in (by omega) (by omega)
    have hm1 := mn_in (a := m + pq.1) (by omega)
    have hm2 := mn_in (a := q + pq.2) (by omega)
    refine HT_seq <| (HT_runc [⟨true, .v (li (mn (m + pq.1) 67108865)), none⟩] (by simp [*]; first | exact ⟨rfl, Iff.rfl⟩ | exact ⟨rfl, trivial⟩ | rfl) ?_ ?_)
    · first | exact least_con _ _ _ | exact trivial | simpa [*] using least_con _ _ _
    refine (HT_runc [⟨true, .v (li (mn (q + pq.2) 67108865)), none⟩] (by simp [*]; first | exact ⟨rfl, Iff.rfl⟩ | exact ⟨rfl, trivial⟩ | rfl) ?_ ?_)
    · first | exact least_con _ _ _ | exact trivial | simpa [*] using least_con _ _ _
    refine HT_runA ?_
    exact ⟨(k + 1, mn (m + pq.1) 67108865, mn (q + pq.2) 67108865), ⟨hk1, hJ, hm1.1, hm1.2, hm2.1, hm2.2⟩, by simp only; omega, le_mk (fun n => n) [] rfl (by simp [upS, keepS, *]) (by simp [*, upS]) (by simp [upS])⟩
  · try simp only [BN] at h5
    have hkl : k = l.length := by omega
    rw [hkl, List.drop_length] at hJ
    simp only [spL] at hJ
    subst hJ
    refine (HT_exit ?_)
    refine HT_seq <| HT_runA ?_
    exact HT_retA fun h => ⟨.inr rfl, h⟩
end Go.Proofs.Ytfjidddhehckoaa


namespace Go.Proofs.Ytfjidddhehckoaa
open Go Go.Hl

/-! ## the typer's parts -/
def Po.J (p : Po) (a b : Int) : Int := Lt.jmV p.n (Lt.bndI p.n p.M) a b
def Po.B (p : Po) (a b : Int) : Bool := Lt.inB p.n a && (Lt.inB p.n b && p.M a.toNat b.toNat)
theorem joinL_con (p : Po) (a b : Int) (d : Nat) : Con Try.prog 66 true [.one (.c (Lt.latO p.levels p.order)), li a, li b] (.tup [li (p.J a b), li (Lt.jmC p.n a b)]) none d :=
  Lt.join_con p.levels _ _ _ _ a b d
theorem belL_con (p : Po) (a b : Int) (d : Nat) : Con Try.prog 16 true [.one (.c (Lt.latO p.levels p.order)), li a, li b] (.v (lb (p.B a b))) none d :=
  Lt.below_con p.levels p.M _ _ _ a b d
theorem lat_ptr (p : Po) : ∃ cs, Lt.latO p.levels p.order = .ptr cs := ⟨_, rfl⟩
/-- the typer as0 data -/
abbrev ptT (L h w t f a d s c : CD) : TV := .one (.c (.ptr [L, h, w, t, f, a, d, s, c]))
theorem joinT_con (p : Po) (h w t f a0 d0 s c : CD) (a b : Int) (d : Nat) : Con Try.prog 48 true [ptT (Lt.latO p.levels p.order) h w t f a0 d0 s c, li a, li b] (.v (li (p.J a b))) none d := by
  have cj := joinL_con p a b
  obtain ⟨cs, hL⟩ := lat_ptr p
  obtain ⟨R, hR⟩ : ∃ x, p.J a b = x := ⟨_, rfl⟩
  obtain ⟨E, hE⟩ : ∃ x, Lt.jmC p.n a b = x := ⟨_, rfl⟩
  rw [hL, hR, hE] at cj
  rw [hL, hR]
  clear hL hR hE
  refine con_of_HT Try.func48 rfl (by kernel_rfl) (Nat.le_of_ble_eq_true rfl) ?_
  simp only [Try.f48]
  refine HT_seq <| HT_runA ?_
  refine HT_seq <| (HT_runc [⟨true, .tup [li R, li E], none⟩] (by simp [*]; first | exact ⟨rfl, Iff.rfl⟩ | exact ⟨rfl, trivial⟩ | rfl) ?_ ?_)
  · first | exact cj _ | exact trivial | simpa [*] using cj _
  refine HT_seq <| HT_runA ?_
  exact HT_retA fun h => ⟨.inr rfl, h⟩
theorem evenT_con (l : List St) (hn : nodesS l ≤ 1000000000) (d : Nat) : Con Try.prog 6 true [lS l] (.v (lb (evenB l))) none d := by
  have cs := spanP_con l hn
  unfold evenB
  obtain ⟨⟨A, B⟩, hAB⟩ : ∃ x, spL l (0, 0) = x := ⟨_, rfl⟩
  rw [hAB] at cs ⊢
  simp only at cs ⊢
  clear hAB
  refine con_of_HT Try.func6 rfl (by kernel_rfl) (Nat.le_of_ble_eq_true rfl) ?_
  simp only [Try.f6]
  refine HT_seq <| HT_runA ?_
  refine HT_seq <| (HT_runc [⟨true, .tup [li A, li B], none⟩] (by simp [*]; first | exact ⟨rfl, Iff.rfl⟩ | exact ⟨rfl, trivial⟩ | rfl) ?_ ?_)
  · first | exact cs _ | exact trivial | simpa [*] using cs _
  refine HT_seq <| HT_runA ?_
  exact HT_retA fun h => ⟨.inr rfl, h⟩
theorem alike_con (a b : List St) (ha : nodesS a ≤ 1000000000) (hb : nodesS b ≤ 1000000000) (d : Nat) : Con Try.prog 50 true [lS a, lS b] (.v (lb (alikeB a b))) none d := by
  have ca := spanP_con a ha
  have cb := spanP_con b hb
  unfold alikeB
  obtain ⟨⟨A, B⟩, hAB⟩ : ∃ x, spL a (0, 0) = x := ⟨_, rfl⟩
  obtain ⟨⟨C, D⟩, hCD⟩ : ∃ x, spL b (0, 0) = x := ⟨_, rfl⟩
  rw [hAB] at ca ⊢
  rw [hCD] at cb ⊢
  simp only at ca cb ⊢
  clear hAB hCD ha hb
  obtain ⟨res, hres⟩ : ∃ r, decide (A = B ∧ C = D ∧ C = A) = r := ⟨_, rfl⟩
  rw [hres]
  have hr : ((decide (A = B) && decide (C = D)) && decide (A = C)) = res := by
    rw [← hres, Bool.eq_iff_iff]
    simp only [Bool.and_eq_true, decide_eq_true_eq]
    constructor
    · rintro ⟨⟨h1, h2⟩, h3⟩; exact ⟨h1, h2, h3.symm⟩
    · rintro ⟨h1, h2, h3⟩; exact ⟨⟨h1, h2⟩, h3.symm⟩
  clear hres
  refine con_of_HT Try.func50 rfl (by kernel_rfl) (Nat.le_of_ble_eq_true rfl) ?_
  simp only [Try.f50]
  refine HT_seq <| HT_runA ?_
  refine HT_seq <| (HT_runc [⟨true, .tup [li A, li B], none⟩] (by simp [*]; first | exact ⟨rfl, Iff.rfl⟩ | exact ⟨rfl, trivial⟩ | rfl) ?_ ?_)
  · first | exact ca _ | exact trivial | simpa [*] using ca _
  refine HT_seq <| (HT_runc [⟨true, .tup [li C, li D], none⟩] (by simp [*]; first | exact ⟨rfl, Iff.rfl⟩ | exact ⟨rfl, trivial⟩ | rfl) ?_ ?_)
  · first | exact cb _ | exact trivial | simpa [*] using cb _
  refine HT_seq <| HT_runA ?_
  exact HT_retA fun h => ⟨.inr rfl, h⟩
theorem with_con (st : List Int) (v x : Int) (hl : st.length ≤ 1000000) (h0 : 0 ≤ v) (hv : v.toNat < st.length) (d : Nat) : Con Try.prog 47 false [lI st, li v, li x] (.v (lI (st.set v.toNat x))) none d := by
  have cc := cloneO_con st (by omega)
  have hset : (encIs st).set v.toNat [iC x] = encIs (st.set v.toNat x) := by simp [encIs, List.map_set]
  refine con_of_HT Try.func47 rfl (by kernel_rfl) (Nat.le_of_ble_eq_true rfl) ?_
  simp only [Try.f47]
  refine HT_seq <| HT_runA ?_
  refine HT_seq <| (HT_runc [⟨false, .v (.one (.own 9)), some (.row 3 1 (encIs st))⟩] (by simp [*]; first | exact ⟨rfl, Iff.rfl⟩ | exact ⟨rfl, trivial⟩ | rfl) ?_ ?_)
  · first | exact cc 9 (by decide) | exact trivial | simpa [*] using cc 9 (by decide)
  refine HT_seq <| HT_runA ?_
  refine HT_seq <| HT_runA ?_
  exact HT_ret ⟨.inr rfl, _, le_frz 9 rfl, ⟨⟨_, by simp; rfl, by simp [resR, hset]⟩, by simp, fun h => by cases h⟩⟩
theorem termT_con (p : Po) (h w tt f a0 d0 s c : CD) (vars : List Vr) (st : List Int) (hst : st.length = vars.length) (t : Tm) : formB vars false t = true → t.nodes ≤ 1000000 → ∀ (lv : Int) (d : Nat),
    Con Try.prog 46 true [ptT (Lt.latO p.levels p.order) h w tt f a0 d0 s c, li lv, aT t, lI st] (.v (li (tlT p.J st t lv))) none d := by
  have cj := fun a b => joinT_con p h w tt f a0 d0 s c a b
  obtain ⟨cs, hL⟩ := lat_ptr p
  obtain ⟨J, hJ⟩ : ∃ x, p.J = x := ⟨_, rfl⟩
  simp only [hL, hJ] at cj ⊢
  clear hL hJ
  induction t using Tm.ind with
  | h o n ks ih =>
  intro hf hn lv d
  simp only [formB, Bool.and_eq_true] at hf
  have hfk := formBs_mem hf.2
  have hf := hf.1
  obtain ⟨res, hres⟩ : ∃ r, tlT J st (.mk o n ks) lv = r := ⟨_, rfl⟩
  rw [hres]
  simp only [tlT] at hres
  refine con_of_HT Try.func46 rfl (by kernel_rfl) (Nat.le_of_ble_eq_true rfl) ?_
  simp only [Try.f46]
  simp only [aT, Tm.enc, List.map_cons, List.map_nil]
  refine HT_seq <| HT_runA ?_
  refine (HT_cutU [0, 3, 6] (fun z => [(1, .v (li z))]) (fun z => [(6, .box [.c (iC o), .c (iC n), .c (.sl 3 (encTs ks))])]) (fun z => tlTs J st ks z = res) ?_ ?_)
  ·
    refine HT_seq <| HT_runA ?_
    refine (HT_cond rfl (fun h3 => ?_) (fun h3 => HT_skip ?_))
    · try simp only [BN] at h3
      have ho : o = 24 := by simpa using h3
      obtain ⟨hn0, v, hv, _⟩ := node_ref (by subst ho; exact hf)
      have hlt : n.toNat < st.length := by rw [hst]; exact (List.getElem?_eq_some_iff.1 hv).1
      obtain ⟨x, hx⟩ : ∃ x, st[n.toNat]? = some x := ⟨st[n.toNat], by simp [hlt]⟩
      rw [if_pos ho, hx] at hres
      simp only [Option.getD_some] at hres
      have cj := cj lv x
      obtain ⟨R, hR⟩ : ∃ y, J lv x = y := ⟨_, rfl⟩
      rw [hR] at hres cj
      clear hlt hv hR
      refine (HT_runc [⟨true, .v (li R), none⟩] (by simp [*]; first | exact ⟨rfl, Iff.rfl⟩ | exact ⟨rfl, trivial⟩ | rfl) ?_ ?_)
      · first | exact cj _ | exact trivial | simpa [*] using cj _
      exact ⟨R, hres, le_mk (fun n => n) [] rfl (by simp [upS, keepS, *]) (by simp [*, upS]) (by simp [upS])⟩
    · try simp only [BN] at h3
      have ho : ¬ o = 24 := by simpa using h3
      rw [if_neg ho] at hres
      exact ⟨lv, hres, le_mk (fun n => n) [] rfl (by simp [upS, keepS, *]) (by simp [*, upS]) (by simp [upS])⟩
  rintro lv1 hJ1
  simp only [upS, keepS, insS]
  try simp only [keepS, KN, Nat.reduceBEq, if_true, if_false, ins, Nat.reduceLT]
  clear hres hf cj
  refine HT_seq <| HT_seq <| HT_runA ?_
  refine HT_block <| (HT_loopU [0, 3, 23, 24] (fun (x : Nat × Int) => [(1, .v (li x.2)), (25, .v (li x.1))]) (fun (x : Nat × Int) => []) (fun (x : Nat × Int) => x.1 ≤ ks.length ∧ tlTs J st (ks.drop x.1) x.2 = res) (fun (x : Nat × Int) => ks.length - x.1) (0, lv1) ⟨Nat.zero_le _, hJ1⟩ ?_ ?_)
  · exact le_mk (fun n => n) [] rfl (by simp [*, upS, keepS]) (by simp [*, upS]) (by simp [upS])
  rintro ⟨k, l1⟩ ⟨hk, hJ⟩
  simp only [upS, keepS, insS]
  try simp only [keepS, KN, Nat.reduceBEq, if_true, if_false, ins, Nat.reduceLT]
  simp only at hk hJ
  clear hJ1
  refine HT_seq <| HT_runA ?_
  refine HT_seq <| (HT_cond rfl (fun h10 => HT_skip ?_) (fun h10 => ?_))
  · try simp only [BN] at h10
    have hlt : k < ks.length := by omega
    obtain ⟨⟨ko, kn, kk⟩, he, hd⟩ := at_lt hlt
    have hmem := List.mem_of_getElem? he
    have hw1 := wrap1 hlt (by have := len_nodesT ks; simp only [Tm.nodes] at hn; omega)
    have hk1 : k + 1 ≤ ks.length := hlt
    rw [hd] at hJ
    simp only [tlTs] at hJ
    have he' := get_encT he
    have ci := ih _ hmem (hfk _ hmem) (by have := nodes_mem hmem; simp only [Tm.nodes] at hn this ⊢; omega) l1
    obtain ⟨R, hR⟩ : ∃ y, tlT J st (.mk ko kn kk) l1 = y := ⟨_, rfl⟩
    rw [hR] at hJ ci
    simp only [aT, Tm.enc, List.map_cons, List.map_nil] at ci he'
    clear hlt h10 ih hmem hR hd
    refine HT_seq <| HT_block <| HT_seq <| HT_runA ?_
    refine (HT_runc [⟨true, .v (li R), none⟩] (by simp [*]; first | exact ⟨rfl, Iff.rfl⟩ | exact ⟨rfl, trivial⟩ | rfl) ?_ ?_)
    · first | exact ci _ | exact trivial | simpa [*] using ci _
    refine HT_runA ?_
    exact ⟨(k + 1, R), ⟨hk1, hJ⟩, by simp only; omega, le_mk (fun n => n) [] rfl (by simp [upS, keepS, *]) (by simp [*, upS]) (by simp [upS])⟩
  · try simp only [BN] at h10
    have hkl : k = ks.length := by omega
    rw [hkl, List.drop_length] at hJ
    simp only [tlTs] at hJ
    subst hJ
    refine (HT_exit ?_)
    refine HT_seq <| HT_runA ?_
    exact HT_retA fun h => ⟨.inr rfl, h⟩
end Go.Proofs.Ytfjidddhehckoaa


namespace Go.Hl
open Go Go.RowKit
/-! ## a region in many parts, with a weakening between any two -/
inductive RunsF (P : Program) (ops : Array Oper) : List Oper → HS → (HS → Prop) → Prop
  | done {l : List Oper} {s : HS} {K : HS → Prop} : wpR P ops l s K → RunsF P ops l s K
  | cut {l : List Oper} {s s1 s2 : HS} {K : HS → Prop} (k : Nat) : wpR P ops (l.take k) s (fun t => t = s1) → le s1 s2 → RunsF P ops (l.drop k) s2 K → RunsF P ops l s K
section
variable {P : Program} {w0 : World} {B : Nat → Prop} {π : Nat → Option Value}
theorem range_cut (k n m : Nat) : List.range' k (n + m) = List.range' k n ++ List.range' (k + n) m := by
  apply List.ext_getElem?
  intro j
  by_cases hj : j < n
  · rw [List.getElem?_append_left (by simpa using hj), List.getElem?_range' (by omega), List.getElem?_range' (by omega)]
  · rw [List.getElem?_append_right (by simp; omega)]
    simp only [List.length_range']
    by_cases hm : j < n + m
    · rw [List.getElem?_range' (by omega), List.getElem?_range' (by omega)]
      congr 1; omega
    · rw [List.getElem?_eq_none (by simp; omega), List.getElem?_eq_none (by simp; omega)]
theorem runsF_ops {ops : Array Oper} {K : HS → Prop} {Q : Exit → Act → World → Prop} {l : List Oper} {s : HS} (h : RunsF P ops l s K) : ∀ (rest : List Nat) (k : Nat) (F : Nat → Prop) (γ : Nat → Value) (a : Act) (w : World), (∀ j o, l[j]? = some o → ops[k + j]? = some o) →
    Rel w0 B π F γ s a w → (∀ s' F' γ' a' w', K s' → (∀ b, F b → F' b) → (∀ b, F' b → F b ∨ ¬ B b) → Rel w0 B π F' γ' s' a' w' → wpOps P ops Q rest a' w') → wpOps P ops Q (List.range' k l.length ++ rest) a w := by
  induction h with
  | done hw => exact fun rest k F γ a w hd hr hK => wpR_opsK _ k _ F γ a w hd hr hw hK
  | cut n hw hle _ ih =>
    intro rest k F γ a w hd hr hK
    rename_i l s s1 s2 K' _
    have hl : l.length = (l.take n).length + (l.drop n).length := by rw [← List.length_append, List.take_append_drop]
    rw [hl, range_cut, List.append_assoc]
    refine wpR_opsK (l.take n) k s F γ a w (fun j o hj => ?_) hr hw fun s' F1 γ1 a1 w1 hs' h1 h2 hr1 => ?_
    · rw [List.getElem?_take] at hj
      split at hj
      · exact hd j o hj
      · cases hj
    · subst hs'
      obtain ⟨F2, γ2, h3, h4, hr2⟩ := hle w0 B π F1 γ1 a1 w1 hr1
      refine ih rest (k + (l.take n).length) F2 γ2 a1 w1 (fun j o hj => ?_) hr2 fun s3 F3 γ3 a3 w3 hk3 h5 h6 hr3 => ?_
      · rw [List.getElem?_drop] at hj
        have hlt : n + j < l.length := (List.getElem?_eq_some_iff.1 hj).1
        have := hd (n + j) o hj
        rw [List.length_take, Nat.min_eq_left (by omega), Nat.add_assoc]
        exact this
      · exact hK s3 F3 γ3 a3 w3 hk3 (fun b hb => h5 b (h3 b (h1 b hb))) (fun b hb => (h6 b hb).elim (fun hb => (h4 b hb).elim (h2 b) .inr) .inr) hr3
theorem HT_runsF {id : Nat} {ops : Array Oper} {s : HS} {Q : Exit → HS → Prop} (h : RunsF P ops ops.toList s (Q .normal)) : HT P (.region id ops false) s Q := by
  intro w0 B π F γ a w hr
  refine wp_region ?_
  have := runsF_ops (w0 := w0) (B := B) (π := π) (Q := fun e a' w' => ∃ (s' : HS) (F' : Nat → Prop) (γ' : Nat → Value), Q e s' ∧ (∀ b, F b → F' b) ∧ (∀ b, F' b → F b ∨ ¬ B b) ∧ Rel w0 B π F' γ' s' a' w') h [] 0 F γ a w (by simp) hr
    fun s' F' γ' a' w' hk h1 h2 h3 => ⟨s', F', γ', hk, h1, h2, h3⟩
  rw [List.range_eq_range']
  simpa using this
theorem RunsF.cutE {ops : Array Oper} {l : List Oper} {s s1 s2 : HS} {p : Prop} {K : HS → Prop} (k : Nat) (cs : List CR) (h : evc P ops (l.take k) s cs = some (s1, p)) (hp : p) (hle : le s1 s2) (hr : RunsF P ops (l.drop k) s2 K) : RunsF P ops l s K :=
  .cut k (wpR_evc _ _ _ _ _ h hp rfl) hle hr
theorem RunsF.doneE {ops : Array Oper} {l : List Oper} {s s1 : HS} {p : Prop} {K : HS → Prop} (cs : List CR) (h : evc P ops l s cs = some (s1, p)) (hp : p) (hq : K s1) : RunsF P ops l s K :=
  .done (wpR_evc _ _ _ _ _ h hp hq)
end
end Go.Hl


namespace Go.Hl
open Go Go.RowKit
/-! ## a drawn region with a row frozen between: what may be drawn early behind it are new blocks alone -/
theorem CV.menB_frz {d n : Nat} {c : CD} {x : CV} (h : (x.frz n c).menB d = true) : x.menB d = true := by
  induction x with
  | gd b x ih => exact ih h
  | any => exact h
  | c e => exact h
  | own m =>
    simp only [CV.frz] at h
    split at h
    · simp [CV.menB] at h
    · exact h
  | at_ m off =>
    simp only [CV.frz] at h
    split at h
    · split at h <;> simp [CV.menB] at h
    · exact h
  | el m s' i off =>
    simp only [CV.frz] at h
    split at h
    · simp [CV.menB] at h
    · exact h
  | sub m i =>
    simp only [CV.frz] at h
    split at h
    · simp [CV.menB] at h
    · exact h
  | el2 m s' i j off =>
    simp only [CV.frz] at h
    split at h
    · simp [CV.menB] at h
    · exact h
  | fn f caps =>
    simp only [CV.frz] at h
    split at h
    · simp [CV.menB] at h
    · exact h
theorem TV.menB_frz {d n : Nat} {c : CD} {x : TV} (h : (x.frz n c).menB d = true) : x.menB d = true := by
  cases x with
  | one x => exact CV.menB_frz h
  | agg xs =>
    simp only [TV.frz, TV.menB, List.any_map, List.any_eq_true, Function.comp] at h ⊢
    obtain ⟨y, h1, h2⟩ := h
    exact ⟨y, h1, CV.menB_frz h2⟩
theorem RV.menB_frz {d n : Nat} {c : CD} {x : RV} (h : (x.frz n c).menB d = true) : x.menB d = true := by
  cases x with
  | v x => exact TV.menB_frz h
  | tup xs =>
    simp only [RV.frz, RV.menB, List.any_map, List.any_eq_true, Function.comp] at h ⊢
    obtain ⟨y, h1, h2⟩ := h
    exact ⟨y, h1, TV.menB_frz h2⟩
theorem Ob.menB_frz {d n : Nat} {c : CD} {x : Ob} (h : (x.frz n c).menB d = true) : x.menB d = true := by
  cases x with
  | box xs =>
    simp only [Ob.frz, Ob.menB, List.any_map, List.any_eq_true, Function.comp] at h ⊢
    obtain ⟨y, h1, h2⟩ := h
    exact ⟨y, h1, CV.menB_frz h2⟩
  | row _ _ _ => exact h
  | mp _ => exact h
  | mat _ _ _ _ => exact h
  | refs _ _ => exact h
section
variable {P : Program} {ops : Array Oper}
theorem split_at {l : List Nat} {i : Nat} (hs : l.Pairwise (· < ·)) (hi : i ∈ l) : ∃ a b, l = a ++ i :: b ∧ l.filter (fun j => decide (j ≠ i)) = a ++ b ∧ (∀ j ∈ a, j < i) ∧ ∀ j ∈ b, i < j := by
  obtain ⟨a, b, rfl⟩ := List.append_of_mem hi
  obtain ⟨h1, h2, h3⟩ := List.pairwise_append.1 hs
  have h2' := (List.pairwise_cons.1 h2).1
  have h3' : ∀ j ∈ a, j < i := fun j hj => h3 j hj i (by simp)
  refine ⟨a, b, rfl, ?_, h3', h2'⟩
  rw [List.filter_append, List.filter_cons]
  simp only [ne_eq, not_true_eq_false, decide_false, Bool.false_eq_true, if_false]
  rw [List.filter_eq_self.2 fun j hj => by simp; exact Nat.ne_of_lt (h3' j hj), List.filter_eq_self.2 fun j hj => by simp; exact Nat.ne_of_gt (h2' j hj)]
theorem rest_set {listed : Array Bool} {i : Nat} (hsz : listed.size = ops.size) (hi : i ∈ rest ops listed) : rest ops (listed.setIfInBounds i true) = (rest ops listed).filter (fun j => decide (j ≠ i)) := by
  have hii : i < listed.size := by rw [hsz]; exact (mem_rest.1 hi).1
  unfold rest
  rw [List.filter_filter]
  apply List.filter_congr
  intro j hj
  by_cases e : j = i
  · subst e; simp [hii]
  · simp only [Array.getD_eq_getD_getElem?, Array.getElem?_setIfInBounds_ne (Ne.symm e)]
    simp [e]
end
end Go.Hl

