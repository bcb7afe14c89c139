/- Part 16: contracts of functions of the program and of the reference, and plain facts about what they compute; used by the proof of the claimed statement. Conditions: as each theorem states. -/
import Derived.Test.YteekbhkjfaegiaaGreatT15
import Derived.Test.YteekbhkjfaegiaaGreatT8
import Derived.Shelf.Slices.Delete
set_option linter.unusedSimpArgs false
set_option linter.unusedVariables false
set_option linter.unnecessarySimpa false
set_option maxRecDepth 100000
set_option maxHeartbeats 2000000
namespace Go.Proofs.YteekbhkjfaegiaaGreat
open Go Go.Hl

theorem encSs_snoc (l : List St) (s : St) : encSs (l ++ [s]) = encSs l ++ [s.enc] := by
  rw [encSs_map, encSs_map, List.map_append]
  rfl
theorem withoutP_con (l : List St) : nodesS l ≤ 1000000 → bndL l = true → ∀ i : Int, -5000000 ≤ i → i ≤ 5000000 → ∀ d : Nat, Con Tryz.prog 66 false [lS l, li i] (.v (lS (woL l i))) none d := by
  revert l
  apply St.lists
  intro l ih hn hbn i hi0 hi1 d
  have hlen := len_nodesS l
  have hszl := szL_le l
  obtain ⟨res, hres⟩ : ∃ r, woL l i = r := ⟨_, rfl⟩
  rw [hres]
  refine con_of_HT Tryz.func66 rfl (by kernel_rfl) (Nat.le_of_ble_eq_true rfl) ?_
  simp only [Tryz.f66]
  refine HT_seq <| HT_runA ?_
  refine HT_seq <| HT_runA ?_
  refine HT_seq <| HT_seq <| HT_runA ?_
  refine HT_block <| (HT_loopU [11, 12] (fun (x : Nat × Int × List St) => [(1, .v (li x.2.1)), (5, .v (.one (.own 1003))), (13, .v (li x.1))]) (fun (x : Nat × Int × List St) => [(1003, .row 65 10 (encSs x.2.2))]) (fun (x : Nat × Int × List St) => x.1 ≤ l.length ∧ x.2.2 ++ woL (l.drop x.1) x.2.1 = res ∧ x.2.2.length ≤ x.1 ∧ -6000000 ≤ x.2.1 - szL (l.drop x.1) ∧ x.2.1 ≤ 5000000) (fun (x : Nat × Int × List St) => l.length - x.1) (0, i, []) ⟨Nat.zero_le _, by simpa using hres, Nat.le_refl _, by simp only [List.drop_zero]; omega, hi1⟩ ?_ ?_)
  · exact le_mk (fun n => n) [1003] rfl (by simp [*, upS, keepS]) (by simp [*, upS]) (by simp [upS])
  rintro ⟨k, c, acc⟩ ⟨hk, hJ, hal, hc0, hc1⟩
  simp only [upS, keepS, insS]
  try simp only [keepS, KN, Nat.reduceBEq, if_true, if_false, ins, Nat.reduceLT]
  simp only at hk hJ hal hc0 hc1
  clear hres hi0 hi1
  refine HT_seq <| HT_runA ?_
  refine HT_seq <| (HT_cond rfl (fun h5 => HT_skip ?_) (fun h5 => ?_))
  · try simp only [BN] at h5
    have hlt : k < l.length := by omega
    obtain ⟨s, he, hd⟩ := at_lt hlt
    have hw1 := wrap1 hlt (by omega)
    have hk1 : k + 1 ≤ l.length := hlt
    have hmem : s ∈ l := List.mem_of_getElem? he
    have hnm := nodesS_mem hmem
    have hbm := bndL_mem hbn hmem
    have hsz : s.nodes ≤ 1000000 := by
      obtain ⟨sd, sc, sv, sn, t, sa, sb, sbs⟩ := s
      simp only [St.then_, St.else_, St.term, St.nodes] at *
      omega
    have cc := copyS_con s hsz hbm
    rw [hd] at hJ hc0
    simp only [woL] at hJ
    simp only [szL] at hc0
    have he' := get_encS he
    have iha := (ih s hmem).1 (by omega)
    have ihb := (ih s hmem).2 (by omega)
    have hroom : room (acc.length + 1) 144 := room_of (by omega) (by omega)
    obtain ⟨sd, sc, sv, sn, ⟨so, stn, sks⟩, sa, sb, sbs⟩ := s
    simp only [bndS, Bool.and_eq_true, decide_eq_true_eq] at hbm
    simp only [St.then_, St.else_, St.term] at iha ihb hnm
    have iha := iha hbm.2.1
    have ihb := ihb hbm.2.2
    have ca := sizeP_con sa (by omega)
    have cb := sizeP_con sb (by omega)
    have hla := szL_le sa
    have hlb := szL_le sb
    have hida := woL_id sa
    have hidb := woL_id sb
    simp only [woS, szS] at hJ
    simp only [szS] at hc0
    simp only [St.enc, Tm.enc, List.cons_append, List.nil_append] at he'
    simp only [aS, St.enc, Tm.enc, List.map_cons, List.map_nil, List.cons_append, List.nil_append] at cc
    generalize szL sa = na at *
    generalize szL sb = nb at *
    have hwa : IntKind.i64.wrap (c - 1) = c - 1 := wrap_in (by omega) (by omega)
    have hc : c - ((1 + na + nb : Nat) : Int) = c - 1 - ((na : Int) + (nb : Int)) := by omega
    rw [hc] at hJ
    clear hlt h5 ih hmem hd he hbm hsz hc
    refine HT_seq <| HT_block <| HT_seq <| HT_runA ?_
    refine HT_seq <| HT_seq <| HT_runA ?_
    refine (HT_cond rfl (fun h8 => ?_) (fun h8 => HT_skip ?_))
    · try simp only [BN] at h8
      have hw2 : IntKind.i64.wrap ((na : Int) + (nb : Int)) = (na : Int) + (nb : Int) := wrap_in (by omega) (by omega)
      have hw3 : IntKind.i64.wrap (c - 1 - ((na : Int) + (nb : Int))) = c - 1 - ((na : Int) + (nb : Int)) := wrap_in (by omega) (by omega)
      rw [if_pos (by simpa using h8), List.nil_append] at hJ
      clear h8 iha ihb hida hidb cc
      refine HT_seq <| HT_runA ?_
      refine HT_seq <| (HT_drunc [⟨true, .v (li (na : Int)), none⟩, ⟨true, .v (li (nb : Int)), none⟩] (by kernel_rfl) (by kernel_rfl) (by rfl) (by simp [*]; first | exact ⟨rfl, Iff.rfl⟩ | exact ⟨rfl, trivial⟩ | rfl) ?_ ?_)
      · first | exact ⟨ca _, cb _⟩ | exact trivial | (repeat' first | exact trivial | exact ca _ | exact cb _ | apply And.intro)
      refine (HT_exit ?_)
      refine HT_runA ?_
      exact ⟨(k + 1, c - 1 - ((na : Int) + (nb : Int)), acc), ⟨hk1, hJ, by simp only; omega, by simp only; omega, by simp only; omega⟩, by simp only; omega, le_mk (fun n => n) [] rfl (by simp [upS, keepS, *]) (by simp [*, upS]) (by simp [upS])⟩
    · try simp only [BN] at h8
      have hne : ¬ c = 0 := by simpa using h8
      rw [if_neg hne, ← List.append_assoc] at hJ
      have iha := fun h0 h1 => iha (c - 1) h0 h1
      have hida := hida (c - 1)
      have ihb := fun h0 h1 => ihb (c - 1 - (na : Int)) h0 h1
      have hidb := hidb (c - 1 - (na : Int))
      obtain ⟨A, hA⟩ : ∃ x, woL sa (c - 1) = x := ⟨_, rfl⟩
      obtain ⟨B, hB⟩ : ∃ x, woL sb (c - 1 - (na : Int)) = x := ⟨_, rfl⟩
      rw [hA] at iha hida hJ
      rw [hB] at ihb hidb hJ
      have hw4 : IntKind.i64.wrap (c - 1 - (na : Int)) = c - 1 - (na : Int) := wrap_in (by omega) (by omega)
      have hw5 : IntKind.i64.wrap (c - 1 - (na : Int) - (nb : Int)) = c - 1 - (na : Int) - (nb : Int) := wrap_in (by omega) (by omega)
      have hsn := encSs_snoc acc (.mk sd sc sv sn (.mk so stn sks) A B sbs)
      simp only [St.enc, Tm.enc, List.cons_append, List.nil_append] at hsn
      clear h8 hA hB
      refine HT_seq <| HT_runA ?_
      refine HT_seq <| (HT_runc [⟨false, .v (.agg [.c (iC sd), .c (iC sc), .c (iC sv), .c (iC sn), .c (iC so), .c (iC stn), .c (.sl 3 (encTs sks)), .c (.sl 10 (encSs sa)), .c (.sl 10 (encSs sb)), .c (.sl 1 (encIs sbs))]), none⟩] (by simp [*]; first | exact ⟨rfl, Iff.rfl⟩ | exact ⟨rfl, trivial⟩ | rfl) ?_ ?_)
      · first | exact cc _ | exact trivial | simpa [*] using cc _
      refine (HT_cutU [1, 5, 7, 8, 11, 12, 13] (fun (z : Unit) => []) (fun (z : Unit) => [(7, .box [.c (iC sd), .c (iC sc), .c (iC sv), .c (iC sn), .c (iC so), .c (iC stn), .c (.sl 3 (encTs sks)), .c (.sl 10 (encSs sa)), .c (.sl 10 (encSs sb)), .c (.sl 1 (encIs sbs))]), (8, .box [.c (iC sd), .c (iC sc), .c (iC sv), .c (iC sn), .c (iC so), .c (iC stn), .c (.sl 3 (encTs sks)), .c (.sl 10 (encSs A)), .c (.sl 10 (encSs sb)), .c (.sl 1 (encIs sbs))]), (1003, .row 65 10 (encSs acc))]) (fun (z : Unit) => True) ?_ ?_)
      ·
        refine HT_seq <| (HT_runc [⟨true, .v (li (na : Int)), none⟩] (by simp [*]; first | exact ⟨rfl, Iff.rfl⟩ | exact ⟨rfl, trivial⟩ | rfl) ?_ ?_)
        · first | exact ca _ | exact trivial | simpa [*] using ca _
        refine HT_seq <| HT_runA ?_
        refine (HT_cond rfl (fun h18 => ?_) (fun h18 => HT_skip ?_))
        · try simp only [BN] at h18
          have h18' : 1 ≤ c ∧ c - 1 < (na : Int) := by
            first | omega | (simp at h18; omega)
          have iha := iha (by omega) (by omega)
          refine (HT_runc [⟨false, .v (lS A), none⟩] (by simp [*]; first | exact ⟨rfl, Iff.rfl⟩ | exact ⟨rfl, trivial⟩ | rfl) ?_ ?_)
          · first | exact iha _ | exact trivial | simpa [*] using iha _
          exact ⟨(), trivial, le_mk (fun n => n) [] rfl (by simp [upS, keepS, *]) (by simp [*, upS]) (by simp [upS])⟩
        · try simp only [BN] at h18
          have hAs : A = sa := hida (by
            first | omega | (simp at h18; omega))
          clear iha hida hsn hJ
          subst hAs
          exact ⟨(), trivial, le_mk (fun n => n) [] rfl (by simp [upS, keepS, *]) (by simp [*, upS]) (by simp [upS])⟩
      rintro ⟨⟩ hz
      simp only [upS, keepS, insS]
      try simp only [keepS, KN, Nat.reduceBEq, if_true, if_false, ins, Nat.reduceLT]
      refine HT_seq <| (HT_runc [⟨true, .v (li (na : Int)), none⟩] (by simp [*]; first | exact ⟨rfl, Iff.rfl⟩ | exact ⟨rfl, trivial⟩ | rfl) ?_ ?_)
      · first | exact ca _ | exact trivial | simpa [*] using ca _
      refine (HT_cutU [1, 5, 7, 8, 11, 12, 13] (fun (z : Unit) => []) (fun (z : Unit) => [(7, .box [.c (iC sd), .c (iC sc), .c (iC sv), .c (iC sn), .c (iC so), .c (iC stn), .c (.sl 3 (encTs sks)), .c (.sl 10 (encSs sa)), .c (.sl 10 (encSs sb)), .c (.sl 1 (encIs sbs))]), (8, .box [.c (iC sd), .c (iC sc), .c (iC sv), .c (iC sn), .c (iC so), .c (iC stn), .c (.sl 3 (encTs sks)), .c (.sl 10 (encSs A)), .c (.sl 10 (encSs B)), .c (.sl 1 (encIs sbs))]), (1003, .row 65 10 (encSs acc))]) (fun (z : Unit) => True) ?_ ?_)
      ·
        refine HT_seq <| (HT_runc [⟨true, .v (li (nb : Int)), none⟩] (by simp [*]; first | exact ⟨rfl, Iff.rfl⟩ | exact ⟨rfl, trivial⟩ | rfl) ?_ ?_)
        · first | exact cb _ | exact trivial | simpa [*] using cb _
        refine HT_seq <| HT_runA ?_
        refine (HT_cond rfl (fun h26 => ?_) (fun h26 => HT_skip ?_))
        · try simp only [BN] at h26
          have h26' : 0 ≤ c - 1 - (na : Int) ∧ c - 1 - (na : Int) < (nb : Int) := by
            first | omega | (simp at h26; omega)
          have ihb := ihb (by omega) (by omega)
          refine (HT_runc [⟨false, .v (lS B), none⟩] (by simp [*]; first | exact ⟨rfl, Iff.rfl⟩ | exact ⟨rfl, trivial⟩ | rfl) ?_ ?_)
          · first | exact ihb _ | exact trivial | simpa [*] using ihb _
          exact ⟨(), trivial, le_mk (fun n => n) [] rfl (by simp [upS, keepS, *]) (by simp [*, upS]) (by simp [upS])⟩
        · try simp only [BN] at h26
          have hBs : B = sb := hidb (by
            first | omega | (simp at h26; omega))
          clear ihb hidb hsn hJ
          subst hBs
          exact ⟨(), trivial, le_mk (fun n => n) [] rfl (by simp [upS, keepS, *]) (by simp [*, upS]) (by simp [upS])⟩
      rintro ⟨⟩ hz2
      simp only [upS, keepS, insS]
      try simp only [keepS, KN, Nat.reduceBEq, if_true, if_false, ins, Nat.reduceLT]
      refine HT_seq <| (HT_runc [⟨true, .v (li (nb : Int)), none⟩] (by simp [*]; first | exact ⟨rfl, Iff.rfl⟩ | exact ⟨rfl, trivial⟩ | rfl) ?_ ?_)
      · first | exact cb _ | exact trivial | simpa [*] using cb _
      refine HT_runA ?_
      refine HT_runA ?_
      exact ⟨(k + 1, c - 1 - (na : Int) - (nb : Int), acc ++ [.mk sd sc sv sn (.mk so stn sks) A B sbs]), ⟨hk1, by simp only; rw [show c - 1 - (na : Int) - (nb : Int) = c - 1 - ((na : Int) + (nb : Int)) by omega]; exact hJ, by simp only [List.length_append, List.length_singleton]; omega, by simp only; omega, by simp only; omega⟩, by simp only; omega, le_mk (fun n => if n = 1003 then 77 else n) [] rfl (by simp [upS, keepS, *]) (by simp [*, upS]) (by simp [upS])⟩
  · try simp only [BN] at h5
    have hkl : k = l.length := by omega
    rw [hkl, List.drop_length] at hJ
    simp only [woL, List.append_nil] at hJ
    subst hJ
    refine (HT_exit ?_)
    refine HT_seq <| HT_runA ?_
    exact HT_ret ⟨.inr rfl, _, le_frz 1003 rfl, ⟨⟨_, by simp; rfl, by simp [resR]⟩, by simp, fun h => by cases h⟩⟩
end Go.Proofs.YteekbhkjfaegiaaGreat

namespace Go.Proofs.YteekbhkjfaegiaaGreat
open Go Go.Hl

theorem withoutR_con (l : List St) : nodesS l ≤ 1000000 → ∀ i : Int, -5000000 ≤ i → i ≤ 5000000 → ∀ d : Nat, Con Tryz.prog 20 false [lS l, li i] (.v (lS (woL l i))) none d := by
  revert l
  apply St.lists
  intro l ih hn i hi0 hi1 d
  have hlen := len_nodesS l
  have hszl := szL_le l
  obtain ⟨res, hres⟩ : ∃ r, woL l i = r := ⟨_, rfl⟩
  rw [hres]
  refine con_of_HT Tryz.func20 rfl (by kernel_rfl) (Nat.le_of_ble_eq_true rfl) ?_
  simp only [Tryz.f20]
  refine HT_seq <| HT_runA ?_
  refine HT_seq <| HT_runA ?_
  refine HT_seq <| HT_seq <| HT_runA ?_
  refine HT_block <| (HT_loopU [0] (fun (x : Nat × Int × List St) => [(1, .v (li x.2.1)), (5, .v (.one (.own 1003))), (6, .v (li x.1))]) (fun (x : Nat × Int × List St) => [(1003, .row 65 10 (encSs x.2.2))]) (fun (x : Nat × Int × List St) => x.1 ≤ l.length ∧ x.2.2 ++ woL (l.drop x.1) x.2.1 = res ∧ x.2.2.length ≤ x.1 ∧ -6000000 ≤ x.2.1 - szL (l.drop x.1) ∧ x.2.1 ≤ 5000000) (fun (x : Nat × Int × List St) => l.length - x.1) (0, i, []) ⟨Nat.zero_le _, by simpa using hres, Nat.le_refl _, by simp only [List.drop_zero]; omega, hi1⟩ ?_ ?_)
  · exact le_mk (fun n => if n = 1003 then 10 else n) [] rfl (by simp [*, upS, keepS]) (by simp [*, upS]) (by simp [upS])
  rintro ⟨k, c, acc⟩ ⟨hk, hJ, hal, hc0, hc1⟩
  simp only [upS, keepS, insS]
  try simp only [keepS, KN, Nat.reduceBEq, if_true, if_false, ins, Nat.reduceLT]
  simp only at hk hJ hal hc0 hc1
  clear hres hi0 hi1
  refine HT_seq <| HT_seq <| HT_runA ?_
  refine (HT_cond rfl (fun h5 => HT_skip ?_) (fun h5 => ?_))
  · try simp only [BN] at h5
    have hlt : k < l.length := by omega
    obtain ⟨s, he, hd⟩ := at_lt hlt
    have hw1 := wrap1 hlt (by omega)
    have hk1 : k + 1 ≤ l.length := hlt
    have hmem : s ∈ l := List.mem_of_getElem? he
    have hnm := nodesS_mem hmem
    rw [hd] at hJ hc0
    simp only [woL] at hJ
    simp only [szL] at hc0
    have he' := get_encS he
    have iha := (ih s hmem).1 (by omega)
    have ihb := (ih s hmem).2 (by omega)
    have hroom : room (acc.length + 1) 144 := room_of (by omega) (by omega)
    obtain ⟨sd, sc, sv, sn, ⟨so, stn, sks⟩, sa, sb, sbs⟩ := s
    simp only [St.then_, St.else_, St.term] at iha ihb hnm
    have ca := sizeR_con sa (by omega)
    have cb := sizeR_con sb (by omega)
    have hla := szL_le sa
    have hlb := szL_le sb
    have hida := woL_id sa (c - 1)
    have hidb := woL_id sb (c - 1 - (szL sa : Int))
    simp only [woS, szS] at hJ
    simp only [szS] at hc0
    simp only [St.enc, Tm.enc, List.cons_append, List.nil_append] at he'
    generalize szL sa = na at *
    generalize szL sb = nb at *
    have hwa : IntKind.i64.wrap (c - 1) = c - 1 := wrap_in (by omega) (by omega)
    have hwb : IntKind.i64.wrap (1 + (na : Int)) = 1 + (na : Int) := wrap_in (by omega) (by omega)
    have hwc : IntKind.i64.wrap (1 + (na : Int) + (nb : Int)) = 1 + (na : Int) + (nb : Int) := wrap_in (by omega) (by omega)
    have hwd : IntKind.i64.wrap (c - 1 - (na : Int)) = c - 1 - (na : Int) := wrap_in (by omega) (by omega)
    have hwe : IntKind.i64.wrap (c - (1 + (na : Int) + (nb : Int))) = c - (1 + (na : Int) + (nb : Int)) := wrap_in (by omega) (by omega)
    have hc : c - ((1 + na + nb : Nat) : Int) = c - (1 + (na : Int) + (nb : Int)) := by omega
    rw [hc, ← List.append_assoc] at hJ
    have iha := fun h0 h1 => iha (c - 1) h0 h1
    have ihb := fun h0 h1 => ihb (c - 1 - (na : Int)) h0 h1
    obtain ⟨A, hA⟩ : ∃ x, woL sa (c - 1) = x := ⟨_, rfl⟩
    obtain ⟨B, hB⟩ : ∃ x, woL sb (c - 1 - (na : Int)) = x := ⟨_, rfl⟩
    rw [hA] at iha hida hJ
    rw [hB] at ihb hidb hJ
    have hsn := encSs_snoc acc (.mk sd sc sv sn (.mk so stn sks) A B sbs)
    simp only [St.enc, Tm.enc, List.cons_append, List.nil_append] at hsn
    clear hlt h5 ih hmem hd he hc hA hB
    refine HT_seq <| HT_block <| HT_seq <| (HT_drunc [⟨true, .v (li (na : Int)), none⟩, ⟨true, .v (li (nb : Int)), none⟩] (by kernel_rfl) (by kernel_rfl) (by rfl) (by simp [*]; first | exact ⟨rfl, Iff.rfl⟩ | exact ⟨rfl, trivial⟩ | rfl) ?_ ?_)
    · first | exact ⟨ca _, cb _⟩ | exact trivial | (repeat' first | exact trivial | exact ca _ | exact cb _ | apply And.intro)
    refine HT_seq <| HT_runA ?_
    refine (HT_cutU [0, 1, 5, 6, 7, 8] (fun (z : Unit) => []) (fun (z : Unit) => [(8, .box [.c (iC sd), .c (iC sc), .c (iC sv), .c (iC sn), .c (iC so), .c (iC stn), .c (.sl 3 (encTs sks)), .c (.sl 10 (encSs A)), .c (.sl 10 (encSs B)), .c (.sl 1 (encIs sbs))]), (1003, .row 65 10 (encSs acc))]) (fun (z : Unit) => True) ?_ ?_)
    ·
      refine HT_seq <| HT_runA ?_
      refine (HT_cond rfl (fun h10 => ?_) (fun h10 => HT_skip ?_))
      · try simp only [BN] at h10
        have h10' : 0 < c ∧ c < 1 + (na : Int) + (nb : Int) := by
          first | omega | (simp at h10; omega)
        have iha := iha (by omega) (by omega)
        have ihb := ihb (by omega) (by omega)
        clear h10
        refine HT_seq <| (HT_runc [⟨true, .v (li (na : Int)), none⟩] (by simp [*]; first | exact ⟨rfl, Iff.rfl⟩ | exact ⟨rfl, trivial⟩ | rfl) ?_ ?_)
        · first | exact ca _ | exact trivial | simpa [*] using ca _
        refine (HT_druncH [(45, 8), (50, 8), (57, 8), (58, 8)] [⟨false, .v (lS A), none⟩, ⟨false, .v (lS B), none⟩] (by kernel_rfl) (by kernel_rfl) (by rfl) (by simp [evcH, hokB, hintOf, *]; first | exact ⟨rfl, Iff.rfl⟩ | exact ⟨rfl, trivial⟩ | rfl) ?_ ?_)
        · first | exact ⟨iha _, ihb _⟩ | exact trivial | (repeat' first | exact trivial | exact iha _ | exact ihb _ | apply And.intro)
        exact ⟨(), trivial, le_mk (fun n => n) [] rfl (by simp [upS, keepS, *]) (by simp [*, upS]) (by simp [upS])⟩
      · try simp only [BN] at h10
        have h10' : c ≤ 0 ∨ 1 + (na : Int) + (nb : Int) ≤ c := by
          first | omega | (simp at h10; omega)
        have hAs : A = sa := hida (by omega)
        have hBs : B = sb := hidb (by omega)
        clear iha ihb hida hidb hsn hJ
        subst hAs
        subst hBs
        exact ⟨(), trivial, le_mk (fun n => n) [] rfl (by simp [upS, keepS, *]) (by simp [*, upS]) (by simp [upS])⟩
    rintro ⟨⟩ hz
    simp only [upS, keepS, insS]
    try simp only [keepS, KN, Nat.reduceBEq, if_true, if_false, ins, Nat.reduceLT]
    refine HT_seq <| HT_seq <| HT_runA ?_
    refine (HT_cond rfl (fun h16 => ?_) (fun h16 => HT_skip ?_))
    · try simp only [BN] at h16
      have hne : ¬ c = 0 := by simpa using h16
      rw [if_neg hne] at hJ
      refine HT_runA ?_
      refine HT_runA ?_
      refine HT_runA ?_
      exact ⟨(k + 1, c - (1 + (na : Int) + (nb : Int)), acc ++ [.mk sd sc sv sn (.mk so stn sks) A B sbs]), ⟨hk1, hJ, by simp only [List.length_append, List.length_singleton]; omega, by simp only; omega, by simp only; omega⟩, by simp only; omega, le_mk (fun n => if n = 1003 then 64 else n) [] rfl (by simp [upS, keepS, *]) (by simp [*, upS]) (by simp [upS])⟩
    · try simp only [BN] at h16
      have hne : c = 0 := by simpa using h16
      rw [if_pos hne, List.append_nil] at hJ
      clear h16 hne
      refine HT_runA ?_
      refine HT_runA ?_
      exact ⟨(k + 1, c - (1 + (na : Int) + (nb : Int)), acc), ⟨hk1, hJ, by simp only; omega, by simp only; omega, by simp only; omega⟩, by simp only; omega, le_mk (fun n => n) [] rfl (by simp [upS, keepS, *]) (by simp [*, upS]) (by simp [upS])⟩
  · try simp only [BN] at h5
    have hkl : k = l.length := by omega
    rw [hkl, List.drop_length] at hJ
    simp only [woL, List.append_nil] at hJ
    subst hJ
    refine (HT_exit ?_)
    refine HT_seq <| HT_runA ?_
    exact HT_ret ⟨.inr rfl, _, le_frz 1003 rfl, ⟨⟨_, by simp; rfl, by simp [resR]⟩, by simp, fun h => by cases h⟩⟩
end Go.Proofs.YteekbhkjfaegiaaGreat

namespace Go.Proofs.YteekbhkjfaegiaaGreat
open Go Go.Hl

theorem fnd_neg : ∀ (l : List St) (i : Int), i < 0 → fndL l i = none
  | [], i, h => fndL_nil i
  | .mk d c v n t a b bs :: l, i, h => by
    rw [fndL_cons]
    rw [if_neg (by omega), fnd_neg a _ (by omega)]
    simp only
    rw [fnd_neg b _ (by omega)]
    simp only
    exact fnd_neg l _ (by omega)
theorem fnd_ge : ∀ (l : List St) (i : Int), (szL l : Int) ≤ i → fndL l i = none
  | [], i, h => fndL_nil i
  | .mk d c v n t a b bs :: l, i, h => by
    simp only [szL, szS] at h
    rw [fndL_cons]
    rw [if_neg (by omega), fnd_ge a _ (by omega)]
    simp only
    rw [fnd_ge b _ (by omega)]
    simp only
    exact fnd_ge l _ (by omega)
theorem fnd_some : ∀ (l : List St) (i : Int), 0 ≤ i → i < (szL l : Int) → ∃ s, fndL l i = some s ∧ s.nodes ≤ nodesS l ∧ (bndL l = true → bndS s = true) ∧ i + szS s ≤ szL l ∧ szL (woL l i) + szS s = szL l
  | [], i, h0, h => by simp only [szL] at h; omega
  | .mk d c v n t a b bs :: l, i, h0, h => by
    simp only [szL, szS] at h
    rw [fndL_cons]
    split
    · rename_i e
      subst e
      refine ⟨_, rfl, ?_, ?_, ?_, ?_⟩
      · simp only [nodesS]; omega
      · intro hb; simp only [bndL, Bool.and_eq_true] at hb; exact hb.1
      · simp only [szL, szS]; omega
      · simp only [woL, if_pos, List.nil_append, szL]
        rw [woL_id l _ (by have := szS_pos (.mk d c v n t a b bs); omega)]
        omega
    · rename_i e
      by_cases ha : i - 1 < (szL a : Int)
      · obtain ⟨s, h1, h2, h3, h4, h5⟩ := fnd_some a (i - 1) (by omega) ha
        rw [h1]
        refine ⟨s, rfl, ?_, ?_, ?_, ?_⟩
        · simp only [nodesS, St.nodes]; omega
        · intro hb; simp only [bndL, bndS, Bool.and_eq_true] at hb; exact h3 hb.1.2.1
        · simp only [szL, szS]; omega
        · simp only [woL, if_neg e, woS, List.cons_append, List.nil_append, szL, szS]
          rw [woL_id b _ (by omega), woL_id l _ (by omega)]
          omega
      · rw [fnd_ge a _ (by omega)]
        simp only
        by_cases hb : i - 1 - (szL a : Int) < (szL b : Int)
        · obtain ⟨s, h1, h2, h3, h4, h5⟩ := fnd_some b (i - 1 - szL a) (by omega) hb
          rw [h1]
          refine ⟨s, rfl, ?_, ?_, ?_, ?_⟩
          · simp only [nodesS, St.nodes]; omega
          · intro hb; simp only [bndL, bndS, Bool.and_eq_true] at hb; exact h3 hb.1.2.2
          · simp only [szL, szS]; omega
          · simp only [woL, if_neg e, woS, List.cons_append, List.nil_append, szL, szS]
            rw [woL_id a _ (by omega), woL_id l _ (by omega)]
            omega
        · rw [fnd_ge b _ (by omega)]
          simp only
          obtain ⟨s, h1, h2, h3, h4, h5⟩ := fnd_some l (i - 1 - szL a - szL b) (by omega) (by omega)
          rw [h1]
          refine ⟨s, rfl, ?_, ?_, ?_, ?_⟩
          · simp only [nodesS]; omega
          · intro hb; simp only [bndL, Bool.and_eq_true] at hb; exact h3 hb.2
          · simp only [szL, szS]; omega
          · simp only [woL, if_neg e, woS, List.cons_append, List.nil_append, szL, szS]
            rw [woL_id a _ (by omega), woL_id b _ (by omega), show i - ((1 + szL a + szL b : Nat) : Int) = i - 1 - szL a - szL b by omega]
            omega
theorem findR_con (l : List St) : nodesS l ≤ 1000000 → ∀ (i : Int) (s : St), 0 ≤ i → i ≤ 5000000 → fndL l i = some s → ∀ d : Nat, Con Tryz.prog 41 false [lS l, li i] (.tup [aS s, lb true]) none d := by
  revert l
  apply St.lists
  intro l ih hn i s hi0 hi1 hf d
  have hlen := len_nodesS l
  have hneg : ¬ i < 0 := by omega
  obtain ⟨rd, rc, rv, rn, ⟨ro, rtn, rks⟩, ra, rb, rbs⟩ := s
  refine con_of_HT Tryz.func41 rfl (by kernel_rfl) (Nat.le_of_ble_eq_true rfl) ?_
  simp only [Tryz.f41]
  simp only [aS, St.enc, Tm.enc, List.map_cons, List.map_nil, List.cons_append, List.nil_append]
  refine HT_seq <| HT_runA ?_
  refine HT_seq <| HT_seq <| HT_runA ?_
  refine (HT_cond rfl (fun h2 => ?_) (fun h2 => HT_skip ?_))
  · exact absurd h2 (by simp [hneg])
  · try simp only [BN] at h2
    refine HT_seq <| HT_seq <| HT_runA ?_
    refine HT_block <| (HT_loopU [0, 4] (fun (x : Nat × Int) => [(1, .v (li x.2)), (6, .v (li x.1))]) (fun (x : Nat × Int) => [(4, .box [.c (iC 0), .c (iC 0), .c (iC 0), .c (iC 0), .c (iC 0), .c (iC 0), .c (.lit nilS), .c (.lit nilS), .c (.lit nilS), .c (.lit nilS)])]) (fun (x : Nat × Int) => x.1 ≤ l.length ∧ fndL (l.drop x.1) x.2 = some (.mk rd rc rv rn (.mk ro rtn rks) ra rb rbs) ∧ 0 ≤ x.2 ∧ x.2 ≤ 5000000) (fun (x : Nat × Int) => l.length - x.1) (0, i) ⟨Nat.zero_le _, hf, hi0, hi1⟩ ?_ ?_)
    · exact le_mk (fun n => n) [] rfl (by simp [*, upS, keepS]) (by simp [*, upS]) (by simp [upS])
    rintro ⟨k, c⟩ ⟨hk, hJ, hc0, hc1⟩
    simp only [upS, keepS, insS]
    try simp only [keepS, KN, Nat.reduceBEq, if_true, if_false, ins, Nat.reduceLT]
    simp only at hk hJ hc0 hc1
    clear hf hi0 hi1 hneg h2
    refine HT_seq <| HT_seq <| HT_runA ?_
    refine (HT_cond rfl (fun h8 => HT_skip ?_) (fun h8 => ?_))
    · try simp only [BN] at h8
      have hlt : k < l.length := by omega
      obtain ⟨s, he, hd⟩ := at_lt hlt
      have hw1 := wrap1 hlt (by omega)
      have hk1 : k + 1 ≤ l.length := hlt
      have hmem : s ∈ l := List.mem_of_getElem? he
      have hnm := nodesS_mem hmem
      rw [hd] at hJ
      have he' := get_encS he
      have iha := (ih s hmem).1 (by omega)
      have ihb := (ih s hmem).2 (by omega)
      obtain ⟨sd, sc, sv, sn, ⟨so, stn, sks⟩, sa, sb, sbs⟩ := s
      simp only [St.then_, St.else_, St.term] at iha ihb hnm
      have ca := sizeR_con sa (by omega)
      have cb := sizeR_con sb (by omega)
      have hga := fnd_ge sa (c - 1)
      have hna := fnd_neg sa (c - 1)
      have hla := szL_le sa
      have hlb := szL_le sb
      have hsa := fnd_some sa (c - 1)
      have hsb := fnd_some sb (c - 1 - (szL sa : Int))
      have hgb := fnd_ge sb (c - 1 - (szL sa : Int))
      rw [fndL_cons] at hJ
      simp only [St.enc, Tm.enc, List.cons_append, List.nil_append] at he'
      simp only [aS, St.enc, Tm.enc, List.map_cons, List.map_nil, List.cons_append, List.nil_append] at iha ihb
      generalize szL sa = na at *
      generalize szL sb = nb at *
      clear hlt h8 ih hmem hd he
      refine HT_seq <| HT_block <| HT_seq <| HT_seq <| HT_runA ?_
      refine (HT_cond rfl (fun h10 => ?_) (fun h10 => HT_skip ?_))
      · try simp only [BN] at h10
        rw [if_pos (by simpa using h10)] at hJ
        cases hJ
        clear h10
        refine HT_seq <| HT_runA ?_
        exact HT_ret ⟨.inr rfl, _, le_refl _, ⟨⟨_, by simp; rfl, by simp [resR]⟩, by simp, fun h => by cases h⟩⟩
      · try simp only [BN] at h10
        have hne : ¬ c = 0 := by simpa using h10
        rw [if_neg hne] at hJ
        have hwa : IntKind.i64.wrap (c - 1) = c - 1 := wrap_in (by omega) (by omega)
        have hwb : IntKind.i64.wrap (c - 1 - (na : Int)) = c - 1 - (na : Int) := wrap_in (by omega) (by omega)
        have hwc : IntKind.i64.wrap (c - 1 - (na : Int) - (nb : Int)) = c - 1 - (na : Int) - (nb : Int) := wrap_in (by omega) (by omega)
        clear h10
        refine HT_seq <| HT_runA ?_
        refine HT_seq <| (HT_runc [⟨true, .v (li (na : Int)), none⟩] (by simp [*]; first | exact ⟨rfl, Iff.rfl⟩ | exact ⟨rfl, trivial⟩ | rfl) ?_ ?_)
        · first | exact ca _ | exact trivial | simpa [*] using ca _
        refine HT_seq <| HT_seq <| HT_runA ?_
        refine (HT_cond rfl (fun h16 => ?_) (fun h16 => HT_skip ?_))
        · try simp only [BN] at h16
          have h16' : c - 1 < (na : Int) := by
            first | omega | (simp at h16; omega)
          obtain ⟨y, hy, _⟩ := hsa (by omega) h16'
          rw [hy] at hJ
          simp only [Option.some.injEq] at hJ
          subst hJ
          have ci := iha _ _ (by omega) (by omega) hy
          clear h16 hna hga hgb hsb hsa hy iha ihb
          refine HT_seq <| (HT_runc [⟨false, .tup [.agg [.c (iC rd), .c (iC rc), .c (iC rv), .c (iC rn), .c (iC ro), .c (iC rtn), .c (.sl 3 (encTs rks)), .c (.sl 10 (encSs ra)), .c (.sl 10 (encSs rb)), .c (.sl 1 (encIs rbs))], lb true], none⟩] (by simp [*]; first | exact ⟨rfl, Iff.rfl⟩ | exact ⟨rfl, trivial⟩ | rfl) ?_ ?_)
          · first | exact ci _ | exact trivial | simpa [*] using ci _
          exact HT_ret ⟨.inr rfl, _, le_refl _, ⟨⟨_, by simp; rfl, by simp [resR]⟩, by simp, fun h => by cases h⟩⟩
        · try simp only [BN] at h16
          have h16' : (na : Int) ≤ c - 1 := by
            first | omega | (simp at h16; omega)
          rw [hga h16'] at hJ
          simp only at hJ
          clear h16
          refine HT_seq <| HT_runA ?_
          refine HT_seq <| (HT_runc [⟨true, .v (li (nb : Int)), none⟩] (by simp [*]; first | exact ⟨rfl, Iff.rfl⟩ | exact ⟨rfl, trivial⟩ | rfl) ?_ ?_)
          · first | exact cb _ | exact trivial | simpa [*] using cb _
          refine HT_seq <| HT_seq <| HT_runA ?_
          refine (HT_cond rfl (fun h22 => ?_) (fun h22 => HT_skip ?_))
          · try simp only [BN] at h22
            have h22' : c - 1 - (na : Int) < (nb : Int) := by
              first | omega | (simp at h22; omega)
            obtain ⟨y, hy, _⟩ := hsb (by omega) h22'
            rw [hy] at hJ
            simp only [Option.some.injEq] at hJ
            subst hJ
            have ci := ihb _ _ (by omega) (by omega) hy
            clear h22 hna hga hgb hsb hsa hy iha ihb
            refine HT_seq <| (HT_runc [⟨false, .tup [.agg [.c (iC rd), .c (iC rc), .c (iC rv), .c (iC rn), .c (iC ro), .c (iC rtn), .c (.sl 3 (encTs rks)), .c (.sl 10 (encSs ra)), .c (.sl 10 (encSs rb)), .c (.sl 1 (encIs rbs))], lb true], none⟩] (by simp [*]; first | exact ⟨rfl, Iff.rfl⟩ | exact ⟨rfl, trivial⟩ | rfl) ?_ ?_)
            · first | exact ci _ | exact trivial | simpa [*] using ci _
            exact HT_ret ⟨.inr rfl, _, le_refl _, ⟨⟨_, by simp; rfl, by simp [resR]⟩, by simp, fun h => by cases h⟩⟩
          · try simp only [BN] at h22
            have h22' : (nb : Int) ≤ c - 1 - (na : Int) := by
              first | omega | (simp at h22; omega)
            rw [hgb h22'] at hJ
            simp only at hJ
            clear h22 hna hga hgb hsb hsa iha ihb
            refine HT_runA ?_
            refine HT_runA ?_
            exact ⟨(k + 1, c - 1 - (na : Int) - (nb : Int)), ⟨hk1, hJ, by simp only; omega, by simp only; omega⟩, by simp only; omega, le_mk (fun n => n) [] rfl (by simp [upS, keepS, *]) (by simp [*, upS]) (by simp [upS])⟩
    · exfalso
      simp only [BN] at h8
      have hkl : k = l.length := by omega
      rw [hkl, List.drop_length, fndL_nil] at hJ
      cases hJ
end Go.Proofs.YteekbhkjfaegiaaGreat

namespace Go.Proofs.YteekbhkjfaegiaaGreat
open Go Go.Hl Go.Shelf Go.Sort

def delR : Ren := ⟨fun _ => 39, fun t => if t = 22 then 27 else t, fun g => g⟩
theorem delL : Lays2.n23 Tryz.prog delR where
  mixed := by kernel_rfl
  f23 := by kernel_rfl
  t0 := by kernel_rfl
  a0 := fun w => rfl
  z0 := fun w => rfl
  v0 := fun w => rfl
  t3 := by kernel_rfl
  a3 := fun w => rfl
  z3 := fun w => rfl
  v3 := fun w => rfl
  t4 := by kernel_rfl
  a4 := fun w => rfl
  z4 := fun w => rfl
  v4 := fun w => rfl
  t22 := by kernel_rfl
  a22 := fun w => rfl
  z22 := fun w => rfl
  v22 := fun w => rfl
  i3 := by kernel_rfl
theorem getRC_I {zs : List Int} {a b : Nat} {d : CD} (h : getRC (encIs zs) a b = some d) : b = 0 ∧ ∃ n, zs[a]? = some n ∧ d = iC n := by
  unfold getRC at h
  rw [get_encI] at h
  cases hz : zs[a]? with
  | none => rw [hz] at h; cases h
  | some n =>
    rw [hz] at h
    cases b with
    | zero => cases h; exact ⟨rfl, n, rfl, rfl⟩
    | succ b => cases h
theorem delete_con (zs : List Int) (i j : Nat) (hij : i < j) (hj : j ≤ zs.length) :
    ConS Tryz.prog 39 [(900001, .row 3 1 (encIs zs))] [.one (.own 900001), li i, li j] (.v (.one (.own 900001))) [(900001, .row 3 1 (encIs (zs.take i ++ zs.drop j)))] := by
  refine ⟨by kernel_rfl, fun F γ w vs hh hsz hargs => ?_⟩
  have hob := hh.ob 900001 _ rfl
  have hap := hh.apart 900001 _ rfl
  obtain ⟨h0, hrs, xs, ⟨hxl, hown⟩, hx1, hc⟩ := hob
  rcases hown with ⟨_, hn⟩ | ⟨g, cap, cur, hv, hB, hg, hcap, hmax, hcs, htake⟩
  · rw [len_encI] at hn; omega
  rw [len_encI] at hxl hcap htake hv
  rw [Nat.mul_one] at hxl htake hcs
  obtain ⟨l⟩ := vs
  match l, hsz with
  | [v0, v1, v2], _ =>
    have a0 : CVRel F γ w (.own 900001) v0 := hargs 0 _ v0 rfl rfl
    have a1 : CRel F w (.lit (.int .i64 i)) v1 := hargs 1 _ v1 rfl rfl
    have a2 : CRel F w (.lit (.int .i64 j)) v2 := hargs 2 _ v2 rfl rfl
    cases a1
    cases a2
    have e0 : v0 = .slice (some ⟨g, 0, none⟩) zs.length cap := by rw [a0.1, hv]; rfl
    subst e0
    have hcur : ∀ k (hk : k < zs.length), cur[k]? = some (.int .i64 zs[k]) := by
      intro k hk
      obtain ⟨u, hu, hr⟩ := hc k 0 (iC zs[k]) (by unfold getRC; rw [get_encI]; simp [hk])
      cases hr
      have : xs[k]? = cur[k]? := by rw [← htake, List.getElem?_take, if_pos hk, Array.getElem?_toList]
      rw [← this]
      simpa using hu
    have hH : Holds (Value.int .i64) w g 0 zs.toArray := by
      intro k hk
      have hk' : k < zs.length := by simpa using hk
      refine ⟨?_, ?_⟩
      · have : w.cell? ⟨g, 0 + k, none⟩ = cur[k]? := by simp [World.cell?, hg]
        rw [this, hcur k hk']
        simp [hk']
      · simp [World.frozen?, hg]
    have key : Calls Tryz.prog 39 #[.slice (some ⟨g, 0, none⟩) zs.length cap, .int .i64 i, .int .i64 j] w fun e w' => e = .returned (.slice (some ⟨g, 0, none⟩) (zs.length - (j - i)) cap) ∧ ∃ q, w' = putRow (Value.int .i64) (Sort.ahead w q) g 0 (zs.take i ++ zs.drop j ++ List.replicate (j - i) 0).toArray :=
      Any.slices_Delete_int delL g 0 cap i j zs w hH hcap (by unfold maxLen at hmax; omega) (by omega) hj
    refine key.mono ?_
    rintro e w' ⟨rfl, q, rfl⟩
    have hnl : (zs.take i ++ zs.drop j).length = zs.length - (j - i) := by
      simp only [List.length_append, List.length_take, List.length_drop]; omega
    obtain ⟨ys, hys⟩ : ∃ ys, zs.take i ++ zs.drop j = ys := ⟨_, rfl⟩
    rw [hys] at hnl ⊢
    obtain ⟨w', hw'⟩ : ∃ w', putRow (Value.int .i64) (Sort.ahead w q) g 0 (ys ++ List.replicate (j - i) 0).toArray = w' := ⟨_, rfl⟩
    rw [hw']
    have hgs : g < w.heap.size := (Array.getElem?_eq_some_iff.1 hg).1
    have hheap : ∀ k, w'.heap[k]? = if g = k then some (.cells (putCells (Value.int .i64) 0 (ys ++ List.replicate (j - i) 0).toArray cur) 3 (0, 0)) else w.heap[k]? := by
      intro k
      rw [← hw']
      simp only [putRow, mapBlock, heap_ahead, Array.getElem?_modify]
      split
      · rename_i e
        subst e
        rw [hg]
        rfl
      · rfl
    have hsize : w'.heap.size = w.heap.size := by
      rw [← hw']
      simp [putRow, mapBlock]
    have hkept : Kept (ownB γ [(900001, .row 3 1 (encIs zs))] w) w w' := by
      refine ⟨by rw [← hw']; rfl, by rw [← hw']; rfl, by rw [← hw']; rfl, Nat.le_of_eq hsize.symm, fun k hk => ?_⟩
      rw [hheap k, if_neg]
      intro e
      subst e
      exact hB hk
    have hnF : ¬ F g := hap g (by rw [hv]; rfl)
    have hF' : ∀ c, F c → w'.heap[c]? = w.heap[c]? := by
      intro c hc'
      rw [hheap c, if_neg]
      intro e
      subst e
      exact hnF hc'
    let γ' : Nat → Value := fun n => if n = 900001 then .slice (some ⟨g, 0, none⟩) (zs.length - (j - i)) cap else γ n
    have hγ : γ' 900001 = .slice (some ⟨g, 0, none⟩) (zs.length - (j - i)) cap := rfl
    have hcell : ∀ k (hk : k < ys.length), (putCells (Value.int .i64) 0 (ys ++ List.replicate (j - i) 0).toArray cur)[k]? = some (.int .i64 ys[k]) := by
      intro k hk
      have hkc : k < cur.size := by omega
      simp only [putCells, Array.getElem?_mapIdx, Array.getElem?_eq_getElem hkc, Option.map_some, Nat.zero_add, Nat.sub_zero]
      rw [if_pos ⟨Nat.zero_le _, by simp; omega⟩]
      congr 2
      rw [getElem!_pos _ k (by simp; omega)]
      simp [hk]
    have hrow : RowRel (fun c => F c ∨ False) w' (ownB γ [(900001, .row 3 1 (encIs zs))] w) 3 1 (γ' 900001) (encIs ys) := by
      refine ⟨by decide, ?_, ys.map (Value.int .i64), ⟨by simp, .inr ⟨g, cap, putCells (Value.int .i64) 0 (ys ++ List.replicate (j - i) 0).toArray cur, ?_, hB, ?_, by rw [len_encI]; omega, hmax, ?_, ?_⟩⟩, ?_, ?_⟩
      · intro r hr
        simp only [encIs, List.mem_map] at hr
        obtain ⟨n, _, rfl⟩ := hr
        rfl
      · rw [hγ, len_encI, hnl]
      · rw [hheap g, if_pos rfl]
      · simp [putCells, hcs]
      · rw [len_encI, Nat.mul_one]
        apply List.ext_getElem?
        intro k
        rw [List.getElem?_take, List.getElem?_map]
        by_cases hk : k < ys.length
        · rw [if_pos hk, Array.getElem?_toList, hcell k hk]
          simp [hk]
        · rw [if_neg hk, List.getElem?_eq_none (by omega)]
          rfl
      · intro u hu
        obtain ⟨n, _, rfl⟩ := List.mem_map.1 hu
        rfl
      · intro a b d hd
        obtain ⟨rfl, n, hn, rfl⟩ := getRC_I hd
        exact ⟨.int .i64 n, by simp [hn], CRel.lit _⟩
    have hblk : ∀ b, Blk (γ' 900001) b ↔ b = g := by
      intro b
      rw [hγ]
      exact ⟨fun h => by cases h; rfl, fun h => by subst h; rfl⟩
    have hlook : ∀ n o, lkp [(900001, Ob.row 3 1 (encIs ys))] n = some o → n = 900001 ∧ o = .row 3 1 (encIs ys) := by
      intro n o hl
      simp only [lkp] at hl
      split at hl
      · rename_i e
        cases hl
        exact ⟨e.symm, rfl⟩
      · cases hl
    refine ⟨_, fun _ => False, γ', rfl, hkept, fun c hc => hc.elim, ⟨by rw [hγ]; rfl, rfl⟩, ?_, fun n cs hl => ?_⟩
    · exact {
        below := hkept
        hB := fun b hb => by rw [hsize]; exact hb.1
        fsz := fun c hc => by rw [hsize]; exact hh.fsz c (hc.resolve_right id)
        ob := fun n o hl => by
          obtain ⟨rfl, rfl⟩ := hlook n o hl
          exact hrow
        apart := fun n o hl b hb hFb => by
          obtain ⟨rfl, rfl⟩ := hlook n o hl
          rw [hblk] at hb
          subst hb
          exact hnF (hFb.resolve_right id)
        sep := fun n m on om hn hm hne => by
          obtain ⟨rfl, _⟩ := hlook n on hn
          obtain ⟨rfl, _⟩ := hlook m om hm
          exact absurd rfl hne
        pin := fun n v hv => by cases hv }
    · simp only [lkp] at hl
      split at hl
      · cases hl
      · cases hl
end Go.Proofs.YteekbhkjfaegiaaGreat

namespace Go.Proofs.YteekbhkjfaegiaaGreat
open Go Go.Hl

/-! ## flat.At -/
def fdC : Option St → CD
  | none => .lit (.pointer none)
  | some s => .ptr s.enc
def fdO (o : Option St) (fd : Option St) : Option St := match o with | some s => some s | none => fd
theorem fd_step (s : St) (l : List St) (i a : Int) (fd : Option St) (h : 0 ≤ a) :
    fdO (fndL (s :: l) (i - a)) fd = fdO (fndL l (i - (a + 1 + szL s.then_ + szL s.else_))) (fdO (fndL s.else_ (i - (a + 1 + szL s.then_))) (fdO (fndL s.then_ (i - (a + 1))) (if a = i then some s else fd))) := by
  obtain ⟨d, c, v, n, t, sa, sb, bs⟩ := s
  simp only [St.then_, St.else_]
  rw [fndL_cons, show i - (a + 1) = i - a - 1 by omega, show i - (a + 1 + (szL sa : Int)) = i - a - 1 - szL sa by omega, show i - (a + 1 + (szL sa : Int) + szL sb) = i - a - 1 - szL sa - szL sb by omega]
  obtain ⟨j, hj⟩ : ∃ j, i - a = j := ⟨_, rfl⟩
  rw [hj]
  by_cases h0 : j = 0
  · rw [if_pos h0, if_pos (by omega), fnd_neg sa _ (by omega), fnd_neg sb _ (by omega), fnd_neg l _ (by omega)]
    rfl
  · rw [if_neg h0, if_neg (by omega)]
    cases ha : fndL sa (j - 1) with
    | some x =>
      have : j - 1 < szL sa := by
        rcases Int.lt_or_le (j - 1) (szL sa) with h | h
        · exact h
        · rw [fnd_ge sa _ h] at ha; cases ha
      rw [fnd_neg sb _ (by omega), fnd_neg l _ (by omega)]
      rfl
    | none =>
      cases hb : fndL sb (j - 1 - szL sa) with
      | some x =>
        have : j - 1 - szL sa < szL sb := by
          rcases Int.lt_or_le (j - 1 - szL sa) (szL sb) with h | h
          · exact h
          · rw [fnd_ge sb _ h] at hb; cases hb
        rw [fnd_neg l _ (by omega)]
        rfl
      | none => rfl
def atO (i a : Int) (fd : CD) : List (Nat × Ob) := [(1000000, .box [.c (iC a)]), (1000001, .box [.c (iC i)]), (1000002, .box [.c fd]), (1000003, .box [.fn 63 [(1000000, 0), (1000001, 0), (1000002, 0), (1000003, 0)]])]
theorem at1_con (i : Int) (l : List St) : nodesS l ≤ 1000000 → ∀ (a : Int) (fd : Option St), 0 ≤ a → a + szL l ≤ 5000000 →
    ConS Tryz.prog 63 (atO i a (fdC fd)) [lS l, .one (.at_ 1000000 0), .one (.at_ 1000001 0), .one (.at_ 1000002 0), .one (.at_ 1000003 0)] (.tup []) (atO i (a + szL l) (fdC (fdO (fndL l (i - a)) fd))) := by
  revert l
  apply St.lists
  intro l ih hn a fd h0 h1
  have hlen := len_nodesS l
  obtain ⟨A, hA⟩ : ∃ x, a + (szL l : Int) = x := ⟨_, rfl⟩
  obtain ⟨R, hR⟩ : ∃ x, fdO (fndL l (i - a)) fd = x := ⟨_, rfl⟩
  rw [hA] at h1 ⊢
  rw [hR]
  simp only [atO] at ih ⊢
  refine con_s_of_HT Tryz.func63 rfl (by kernel_rfl) (Nat.le_of_ble_eq_true rfl) (pin_mk rfl) ?_
  simp only [Tryz.f63]
  refine HT_seq <| HT_runA ?_
  refine HT_block <| (HT_loopU [0, 1, 2, 3, 4, 8] (fun (x : Nat × Int × Option St) => [(9, .v (li x.1))]) (fun (x : Nat × Int × Option St) => [(1000000, .box [.c (iC x.2.1)]), (1000001, .box [.c (iC i)]), (1000002, .box [.c (fdC x.2.2)]), (1000003, .box [.fn 63 [(1000000, 0), (1000001, 0), (1000002, 0), (1000003, 0)]])]) (fun (x : Nat × Int × Option St) => x.1 ≤ l.length ∧ x.2.1 + (szL (l.drop x.1) : Int) = A ∧ fdO (fndL (l.drop x.1) (i - x.2.1)) x.2.2 = R ∧ 0 ≤ x.2.1) (fun (x : Nat × Int × Option St) => l.length - x.1) (0, a, fd) ⟨Nat.zero_le _, hA, hR, h0⟩ ?_ ?_)
  · exact le_mk (fun n => n) [] rfl (by simp [*, upS, keepS]) (by simp [*, upS]) (by simp [upS])
  rintro ⟨k, c, fc⟩ ⟨hk, hJ, hF, hc0⟩
  simp only [upS, keepS, insS]
  try simp only [keepS, KN, Nat.reduceBEq, if_true, if_false, ins, Nat.reduceLT]
  simp only at hk hJ hF hc0
  clear hA hR h0
  refine HT_seq <| HT_runA ?_
  refine HT_seq <| (HT_cond rfl (fun h3 => HT_skip ?_) (fun h3 => ?_))
  · try simp only [BN] at h3
    have hlt : k < l.length := by omega
    obtain ⟨s, he, hd⟩ := at_lt hlt
    have hw1 := wrap1 hlt (by omega)
    have hk1 : k + 1 ≤ l.length := hlt
    have hmem : s ∈ l := List.mem_of_getElem? he
    have hnm := nodesS_mem hmem
    have he' := get_encS he
    have iha := (ih s hmem).1 (by omega)
    have ihb := (ih s hmem).2 (by omega)
    rw [hd] at hJ hF
    rw [fd_step s _ i c fc hc0] at hF
    simp only [szL] at hJ
    obtain ⟨f1, hf1⟩ : ∃ x, (if c = i then some s else fc) = x := ⟨_, rfl⟩
    rw [hf1] at hF
    have hlb := szL_le s.else_
    have hla := szL_le s.then_
    have hss : szS s = 1 + szL s.then_ + szL s.else_ := by
      obtain ⟨sd, sc, sv, sn, t, sa, sb, sbs⟩ := s
      simp only [szS, St.then_, St.else_]
    have iha := iha (c + 1) f1 (by omega) (by omega)
    have ihb := ihb (c + 1 + szL s.then_) (fdO (fndL s.then_ (i - (c + 1))) f1) (by omega) (by omega)
    obtain ⟨f2, hf2⟩ : ∃ x, fdO (fndL s.then_ (i - (c + 1))) f1 = x := ⟨_, rfl⟩
    rw [hf2] at iha ihb hF
    obtain ⟨f3, hf3⟩ : ∃ x, fdO (fndL s.else_ (i - (c + 1 + (szL s.then_ : Int)))) f2 = x := ⟨_, rfl⟩
    rw [hf3] at ihb hF
    have hfs : c = i → fdC f1 = .ptr s.enc := by
      intro h
      rw [← hf1, if_pos h]
      rfl
    have hfn : ¬ c = i → f1 = fc := by
      intro h
      rw [← hf1, if_neg h]
    obtain ⟨sd, sc, sv, sn, ⟨so, stn, sks⟩, sa, sb, sbs⟩ := s
    simp only [St.then_, St.else_, St.term] at iha ihb hnm hF hla hlb
    simp only [szS] at hJ
    clear hss
    simp only [St.enc, Tm.enc, List.cons_append, List.nil_append] at he' hfs
    generalize szL sa = na at *
    generalize szL sb = nb at *
    have hwa : IntKind.i64.wrap (c + 1) = c + 1 := wrap_in (by omega) (by omega)
    clear hlt h3 ih hmem hd he hf1 hf2 hf3
    refine HT_seq <| HT_block <| HT_seq <| HT_runA ?_
    refine (HT_cutU [0, 1, 2, 3, 4, 6, 8, 9] (fun (z : Unit) => []) (fun (z : Unit) => [(1000000, .box [.c (iC c)]), (1000001, .box [.c (iC i)]), (1000002, .box [.c (fdC f1)]), (1000003, .box [.fn 63 [(1000000, 0), (1000001, 0), (1000002, 0), (1000003, 0)]])]) (fun (z : Unit) => True) ?_ ?_)
    ·
      refine HT_seq <| HT_runA ?_
      refine (HT_cond rfl (fun h7 => ?_) (fun h7 => HT_skip ?_))
      · try simp only [BN] at h7
        have hfs := hfs (by simpa using h7)
        clear h7 hfn
        refine HT_runA ?_
        exact ⟨(), trivial, le_mk (fun n => n) [] rfl (by simp [upS, keepS, *]) (by simp [*, upS]) (by simp [upS])⟩
      · try simp only [BN] at h7
        have hfn := hfn (by simpa using h7)
        clear h7 hfs
        subst hfn
        exact ⟨(), trivial, le_mk (fun n => n) [] rfl (by simp [upS, keepS, *]) (by simp [*, upS]) (by simp [upS])⟩
    rintro ⟨⟩ hz
    simp only [upS, keepS, insS]
    try simp only [keepS, KN, Nat.reduceBEq, if_true, if_false, ins, Nat.reduceLT]
    clear hfs hfn
    refine HT_seq <| HT_runA ?_
    refine HT_seq <| (HT_drawS [] 6 [] (fun n => n) (fun n => n) (by kernel_rfl) (by kernel_rfl) (by rfl) (by kernel_rfl) (by rfl) (by simp [*, evcH, hokB, hintOf]; first | exact ⟨rfl, Iff.rfl⟩ | exact ⟨rfl, trivial⟩ | rfl) trivial (by rfl) (by simp; rfl) (handS_mk (by simp) (by simp) (by simp) (by simp) (by simp)) iha (by rfl) ?_)
    refine (HT_drawS [] 6 [] (fun n => n) (fun n => n) (by kernel_rfl) (by kernel_rfl) (by rfl) (by kernel_rfl) (by rfl) (by simp [*, evcH, hokB, hintOf]; first | exact ⟨rfl, Iff.rfl⟩ | exact ⟨rfl, trivial⟩ | rfl) trivial (by rfl) (by simp; rfl) (handS_mk (by simp) (by simp) (by simp) (by simp) (by simp)) ihb (by rfl) ?_)
    refine HT_runA ?_
    exact ⟨(k + 1, c + 1 + na + nb, f3), ⟨hk1, by simp only; omega, hF, by simp only; omega⟩, by simp only; omega, le_mk (fun n => n) [] rfl (by simp [upS, keepS, *]) (by simp [*, upS]) (by simp [upS])⟩
  · try simp only [BN] at h3
    have hkl : k = l.length := by omega
    rw [hkl, List.drop_length] at hJ hF
    rw [fndL_nil] at hF
    simp only [szL, fdO] at hJ hF
    have hJ : c = A := by omega
    subst hJ hF
    refine (HT_exit ?_)
    exact ⟨.inl rfl, HT_endS (by simp; rfl) (by simp [resR]) (by simp [*])⟩
end Go.Proofs.YteekbhkjfaegiaaGreat

namespace Go.Proofs.YteekbhkjfaegiaaGreat
open Go Go.Hl

theorem atP_con (f : Fl) (hn : nodesS f.body ≤ 1000000) (hb : bndL f.body = true) (i : Int) (s : St) (hs : fndL f.body i = some s) (d : Nat) : Con Tryz.prog 37 false [aF f, li i] (.tup [aS s, li 0]) none d := by
  have hsl := szL_le f.body
  have h0 : 0 ≤ i := by
    rcases Int.lt_or_le i 0 with h | h
    · rw [fnd_neg _ _ h] at hs; cases hs
    · exact h
  have h1 : i < szL f.body := by
    rcases Int.lt_or_le i (szL f.body) with h | h
    · exact h
    · rw [fnd_ge _ _ h] at hs; cases hs
  obtain ⟨s', e1, e2, e3, _⟩ := fnd_some f.body i h0 h1
  rw [hs] at e1
  cases e1
  have cc := copyS_con s (by omega) (e3 hb)
  have ca := at1_con i f.body hn 0 none (by decide) (by omega)
  rw [Int.sub_zero, hs] at ca
  obtain ⟨A, hA⟩ : ∃ x, (0 : Int) + (szL f.body : Int) = x := ⟨_, rfl⟩
  rw [hA] at ca
  obtain ⟨vars, hats, body⟩ := f
  obtain ⟨sd, sc, sv, sn, ⟨so, stn, sks⟩, sa, sb, sbs⟩ := s
  simp only [atO, fdC, fdO, St.enc, Tm.enc, List.cons_append, List.nil_append] at ca
  simp only [aS, St.enc, Tm.enc, List.map_cons, List.map_nil, List.cons_append, List.nil_append] at cc
  clear hsl h0 h1 e2 e3 hs hn hb hA
  refine con_of_HT Tryz.func37 rfl (by kernel_rfl) (Nat.le_of_ble_eq_true rfl) ?_
  simp only [Tryz.f37]
  simp only [aF, Fl.enc, aS, St.enc, Tm.enc, List.map_cons, List.map_nil, List.cons_append, List.nil_append]
  refine HT_seq <| HT_runA ?_
  refine HT_seq <| HT_runA ?_
  refine HT_seq <| HT_runA ?_
  refine HT_seq <| HT_runA ?_
  refine HT_seq <| HT_runA ?_
  refine HT_seq <| (HT_runsS ?_)
  refine RunsS.cutE 3 [] (by simp [*]; rfl) trivial (le_refl _) ?_
  refine RunsS.call (fun n => if n = 1000000 then 8 else if n = 1000001 then 3 else if n = 1000002 then 6 else if n = 1000003 then 7 else n) (fun n => if n = 1000000 then 8 else if n = 1000001 then 3 else if n = 1000002 then 6 else if n = 1000003 then 7 else n) (by simp; rfl) (handS_mk (by simp) (by simp) (by simp) (by simp) (by simp)) ca (by rfl) ?_
  refine RunsS.doneE [] (by simp; rfl) trivial ?_
  refine HT_seq <| HT_seq <| HT_runA ?_
  refine (HT_cond rfl (fun h7 => ?_) (fun h7 => HT_skip ?_))
  · exact Bool.noConfusion h7
  · try simp only [BN] at h7
    refine HT_seq <| (HT_runc [⟨false, .v (.agg [.c (iC sd), .c (iC sc), .c (iC sv), .c (iC sn), .c (iC so), .c (iC stn), .c (.sl 3 (encTs sks)), .c (.sl 10 (encSs sa)), .c (.sl 10 (encSs sb)), .c (.sl 1 (encIs sbs))]), none⟩] (by simp [*]; first | exact ⟨rfl, Iff.rfl⟩ | exact ⟨rfl, trivial⟩ | rfl) ?_ ?_)
    · first | exact cc _ | exact trivial | simpa [*] using cc _
    exact HT_ret ⟨.inr rfl, _, le_refl _, ⟨⟨_, by simp; rfl, by simp [resR]⟩, by simp, fun h => by cases h⟩⟩
end Go.Proofs.YteekbhkjfaegiaaGreat

namespace Go.Proofs.YteekbhkjfaegiaaGreat
open Go Go.Hl

theorem removeP_con (f : Fl) (hv : f.vars.length ≤ 1000000) (hh : f.hats.length ≤ 1000000) (ht : ∀ h ∈ f.hats, h.term.nodes ≤ 1000000) (hn : nodesS f.body ≤ 1000000) (hb : bndL f.body = true) (i : Int) (h0 : 0 ≤ i) (h1 : i < (szL f.body : Int)) (d : Nat) :
    Con Tryz.prog 38 false [aF f, li i] (.tup [aF ⟨f.vars, f.hats, woL f.body i⟩, li 0]) none d := by
  have cs := sizeF_con f (by omega)
  have cv := cloneV_con f.vars hv
  have hsl := szL_le f.body
  have cw := withoutP_con f.body hn hb i (by omega) (by omega)
  obtain ⟨vars, hats, body⟩ := f
  simp only at hv hh ht cs cv cw h1
  obtain ⟨G, hG⟩ : ∃ x, woL body i = x := ⟨_, rfl⟩
  obtain ⟨N, hN⟩ : ∃ x, szL body = x := ⟨_, rfl⟩
  rw [hN] at cs h1
  rw [hG] at cw ⊢
  have hneg : ¬ i < 0 := by omega
  have hge : ¬ (N : Int) ≤ i := by omega
  clear hG hN hsl hn hb
  refine con_of_HT Tryz.func38 rfl (by kernel_rfl) (Nat.le_of_ble_eq_true rfl) ?_
  simp only [Tryz.f38]
  simp only [aF, Fl.enc, List.map_cons, List.map_nil] at cs ⊢
  refine HT_seq <| HT_runA ?_
  refine HT_seq <| HT_seq <| (HT_runc [⟨true, .v (li (N : Int)), none⟩] (by simp [*]; first | exact ⟨rfl, Iff.rfl⟩ | exact ⟨rfl, trivial⟩ | rfl) ?_ ?_)
  · first | exact cs _ | exact trivial | simpa [*] using cs _
  refine (HT_cond rfl (fun h2 => ?_) (fun h2 => HT_skip ?_))
  · exact Bool.noConfusion h2
  · try simp only [BN] at h2
    refine HT_seq <| (HT_drunc [⟨false, .v (lV vars), none⟩, ⟨false, .v (lS G), none⟩] (by kernel_rfl) (by kernel_rfl) (by rfl) (by simp [*, allTyped, fillC, placeOf]; first | exact ⟨rfl, Iff.rfl⟩ | exact ⟨rfl, trivial⟩ | rfl) ?_ ?_)
    · first | exact ⟨cv _, cw _⟩ | exact trivial | (repeat' first | exact trivial | exact cv _ | exact cw _ | apply And.intro)
    refine HT_seq <| HT_seq <| HT_runA ?_
    refine HT_block <| (HT_loopU [4, 6, 27, 28] (fun (x : Nat) => [(29, .v (li x))]) (fun (x : Nat) => [(4, .box [.c (.lit nilS), .c (.lit nilS), .c (.lit nilS)]), (6, .box [.c (.sl 5 (encVs vars)), .own 900001, .c (.sl 10 (encSs G))]), (900001, .row 90 6 (encHs (hats.take x)))]) (fun (x : Nat) => x ≤ hats.length) (fun (x : Nat) => hats.length - x) (0 : Nat) (Nat.zero_le _) ?_ ?_)
    · exact le_mk (fun n => n) [900001] rfl (by simp [*, upS, keepS]) (by simp [*, upS]) (by simp [upS])
    rintro k hk
    simp only [upS, keepS, insS]
    try simp only [keepS, KN, Nat.reduceBEq, if_true, if_false, ins, Nat.reduceLT]
    refine HT_seq <| HT_runA ?_
    refine HT_seq <| (HT_cond rfl (fun h9 => HT_skip ?_) (fun h9 => ?_))
    · try simp only [BN] at h9
      have hlt : k < hats.length := by omega
      obtain ⟨h, he, hd⟩ := at_lt hlt
      have hw1 := wrap1 hlt (by omega)
      have hk1 : k + 1 ≤ hats.length := hlt
      have hmem : h ∈ hats := List.mem_of_getElem? he
      have ct := copyT_con h.term (ht h hmem)
      have htl : (hats.take k).length = k := by rw [List.length_take]; omega
      have hroom : room (k + 1) 72 := room_of (by omega) (by omega)
      have hsn : encHs (hats.take (k + 1)) = encHs (hats.take k) ++ [h.enc] := by
        unfold encHs
        rw [List.take_add_one, he, Option.toList_some, List.map_append]
        rfl
      have he' : (encHs hats)[k]? = some h.enc := by simp [he]
      obtain ⟨hnm, hlo, hhi, ⟨ho, htn, hks⟩⟩ := h
      simp only [aT, Tm.enc, List.map_cons, List.map_nil] at ct
      simp only [Ht.enc, Tm.enc, List.cons_append, List.nil_append] at hsn he'
      clear hlt h9 hmem hd he ht cs cv cw
      refine HT_seq <| HT_block <| HT_seq <| HT_runA ?_
      refine HT_seq <| (HT_runc [⟨false, .v (.agg [.c (iC ho), .c (iC htn), .c (.sl 3 (encTs hks))]), none⟩] (by simp [*]; first | exact ⟨rfl, Iff.rfl⟩ | exact ⟨rfl, trivial⟩ | rfl) ?_ ?_)
      · first | exact ct _ | exact trivial | simpa [*] using ct _
      refine HT_runA ?_
      refine HT_runA ?_
      exact ⟨k + 1, hk1, by omega, le_mk (fun n => if n = 900001 then 41 else n) [] rfl (by simp [upS, keepS, *]) (by simp [*, upS]) (by simp [upS])⟩
    · try simp only [BN] at h9
      have hkl : k = hats.length := by omega
      subst hkl
      simp only [List.take_length]
      refine (HT_exit ?_)
      refine HT_le (le_frz 900001 rfl) ?_
      refine HT_seq <| HT_runA ?_
      exact HT_ret ⟨.inr rfl, _, le_refl _, ⟨⟨_, by simp; rfl, by simp [resR]⟩, by simp, fun h => by cases h⟩⟩
end Go.Proofs.YteekbhkjfaegiaaGreat

namespace Go.Proofs.YteekbhkjfaegiaaGreat
open Go Go.Hl

/-! ## reducing -/
def apB (f : Fl) (v : Vw) (a b : Int) (body : List St) : Bool := !decide (obsF ⟨f.vars, f.hats, body⟩ v a = obsF ⟨f.vars, f.hats, body⟩ v b)
def szO : Option St → Nat
  | some s => szS s
  | none => 1
def psF (ap : List St → Bool) : Nat → List St → List Int → Bool → List St × List Int × Bool
  | 0, bd, l, r => (bd, l, r)
  | i + 1, bd, l, r => if ap (woL bd i) = true then psF ap i (woL bd i) (l.take i ++ l.drop (i + szO (fndL bd i))) true else psF ap i bd l r
def rdF (ap : List St → Bool) : Nat → List St → List Int → List St × List Int
  | 0, bd, l => (bd, l)
  | n + 1, bd, l => let x := psF ap l.length bd l false
    if x.2.2 = true then rdF ap n x.1 x.2.1 else (x.1, x.2.1)
def idxs (n : Nat) : List Int := List.map (fun k : Nat => (k : Int)) (List.range n)
def redF (f : Fl) (v : Vw) (a b : Int) : List St × List Int := rdF (apB f v a b) (szL f.body + 1) f.body (idxs (szL f.body))
def lstC (f : Fl) (v : Vw) (a b : Int) : Int :=
  if askC f v ≠ 0 then askC f v else if a < 0 ∨ spc f.vars 1 ≤ a ∨ b < 0 ∨ spc f.vars 1 ≤ b then 3 else if apB f v a b f.body = true then 0 else 11
theorem Gd.body {f : Fl} (h : Gd f) {bd : List St} (hn : nodesS bd + nodesH f.hats ≤ 1000000) (hb : bndL bd = true) : Gd ⟨f.vars, f.hats, bd⟩ := ⟨h.hv, h.hh, hn, hb, h.vc, h.nr⟩
theorem least1_con (f : Fl) (v : Vw) (a b : Int) (hg : Gd f) (ha : 0 ≤ a ∧ a < spc f.vars 1) (hb : 0 ≤ b ∧ b < spc f.vars 1) (d : Nat) :
    Con Tryz.prog 35 true [aF f, .one (.c (.ptr [.sl 1 (encIs v.pub), bC v.timed])), .one (.c (.ptr [iC a])), .one (.c (.ptr [iC b]))] (.v (lb (!decide (obsF f v a = obsF f v b)))) none d := by
  have c1 := observe_con f v a hg ha.1 ha.2
  have c2 := observe_con f v b hg hb.1 hb.2
  have cs := cmpO_con (obsF f v a) (obsF f v b) (obs_outs hg.hb) (obs_outs hg.hb)
  have ce := cmpO_eq (obsF f v a) (obsF f v b)
  obtain ⟨A, hA⟩ : ∃ x, obsF f v a = x := ⟨_, rfl⟩
  obtain ⟨B, hB⟩ : ∃ x, obsF f v b = x := ⟨_, rfl⟩
  rw [hA] at c1 cs ce ⊢
  rw [hB] at c2 cs ce ⊢
  obtain ⟨C, hC⟩ : ∃ x, cmpO A B = x := ⟨_, rfl⟩
  rw [hC] at cs ce
  have hz : (!decide (A = B)) = decide (C ≠ 0) := by
    by_cases h : A = B
    · simp [h, ce.2 h]
    · have : ¬ C = 0 := fun h0 => h (ce.1 h0)
      simp [h, this]
  rw [hz]
  obtain ⟨ao, at_⟩ := A
  obtain ⟨bo, bt⟩ := B
  obtain ⟨vars, hats, body⟩ := f
  obtain ⟨pub, tm⟩ := v
  clear hA hB hC hz hg ha hb ce
  refine con_of_HT Tryz.func35 rfl (by kernel_rfl) (Nat.le_of_ble_eq_true rfl) ?_
  simp only [Tryz.f35]
  simp only [aF, Fl.enc, aW, aO, List.map_cons, List.map_nil] at c1 c2 cs ⊢
  refine HT_seq <| HT_runA ?_
  refine HT_seq <| (HT_drunc [⟨false, .v (.agg [.c (.sl 1 (encIs ao)), .c (iC at_)]), none⟩, ⟨false, .v (.agg [.c (.sl 1 (encIs bo)), .c (iC bt)]), none⟩, ⟨true, .v (li C), none⟩] (by kernel_rfl) (by kernel_rfl) (by rfl) (by simp [*]; first | exact ⟨rfl, Iff.rfl⟩ | exact ⟨rfl, trivial⟩ | rfl) ?_ ?_)
  · first | exact ⟨c1 _, c2 _, cs _⟩ | exact trivial | (repeat' first | exact trivial | exact c1 _ | exact c2 _ | exact cs _ | apply And.intro)
  exact HT_retA fun h => ⟨.inr rfl, h⟩
end Go.Proofs.YteekbhkjfaegiaaGreat
