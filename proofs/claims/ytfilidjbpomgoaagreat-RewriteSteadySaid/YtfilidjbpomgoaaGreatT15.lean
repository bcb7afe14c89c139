/- T15: contracts of functions of the program and of the reference, and plain facts about what they compute; used by the proof of the claimed statement. Conditions: as each theorem states. -/
import Derived.Test.YtfilidjbpomgoaaGreatT14
import Derived.Test.YtfilidjbpomgoaaGreatT12
import Derived.Test.YtfilidjbpomgoaaGreatT1
import Derived.Test.YtfilidjbpomgoaaGreatRows
set_option linter.unusedSimpArgs false
set_option linter.unusedVariables false
set_option linter.unnecessarySimpa false
set_option maxRecDepth 100000
set_option maxHeartbeats 2000000
namespace Go.Proofs.YtfilidjbpomgoaaGreat
open Go Go.Hl

theorem known_con (d : Nat) : Con Tryz.prog 6 true [] (.v (lb true)) none d := by
  have r0 := ref_con 0
  have r1 := ref_con 1
  have e1 := evenP_con F1 (by decide) (by decide) (by decide) (by kernel_rfl)
  have e2 := evenP_con F2 (by decide) (by decide) (by decide) (by kernel_rfl)
  have u1 := run_con G1 ⟨[0], [], []⟩ (by decide) (by decide) (by decide) (by kernel_rfl) (fun _ => ⟨by kernel_rfl, by decide, by intro h hh; cases hh⟩)
  have u2 := run_con G2 ⟨[], [], []⟩ (by decide) (by decide) (by decide) (by kernel_rfl) (fun _ => ⟨by kernel_rfl, by decide, by intro h hh; cases hh⟩)
  rw [ev1] at e1
  rw [ev2] at e2
  rw [run1] at u1
  rw [run2] at u2
  have hq1 : room 1 144 := room_of (by decide) (by decide)
  have hq2 : room 2 144 := room_of (by decide) (by decide)
  have hq3 : room 2 48 := room_of (by decide) (by decide)
  have hq4 : room 1 48 := room_of (by decide) (by decide)
  have hq5 : room 1 8 := room_of (by decide) (by decide)
  have hq6 : room 2 40 := room_of (by decide) (by decide)
  simp only [F1, F2, G1, G2, nX, nY, aF, Fl.enc, Vr.enc, encVs, encHs, encIs, encSs, encTs, St.enc, Tm.enc, aI, aO, aT, List.map_cons, List.map_nil, List.cons_append, List.nil_append] at r0 r1 e1 e2 u1 u2
  refine con_of_HT Tryz.func6 rfl (by kernel_rfl) (Nat.le_of_ble_eq_true rfl) ?_
  simp only [Tryz.f6]
  refine HT_seq <| (HT_run (by simp [*]; rfl) ?_)
  refine HT_seq <| (HT_run (by simp [*]; rfl) ?_)
  refine HT_seq <| (HT_runsF ?_)
  refine RunsF.cutE 6 [⟨false, .v (.agg [.c (iC 24), .c (iC 0), .c (.sl 3 [])]), none⟩] (by simp [*, allTyped, fillC, placeOf]; first | exact ⟨rfl, Iff.rfl⟩ | exact ⟨rfl, trivial⟩ | rfl) ?_ (le_agg 17 [.c (iC 2), .c (iC 5), .c (iC 0), .c (iC 0), .c (iC 0), .c (iC 0), .c (.sl 3 []), .c (.sl 10 []), .c (.sl 10 []), .c (.sl 1 [])] rfl (by (repeat' (first | exact LWk.nil | apply LWk.cons | exact CWk.refl _ | exact CWk.nil _)))) ?_
  · first | exact r0 _ | exact trivial | simpa using r0 _
  refine RunsF.cutE 5 [⟨false, .v (.agg [.c (iC 24), .c (iC 1), .c (.sl 3 [])]), none⟩] (by simp [*, allTyped, fillC, placeOf]; first | exact ⟨rfl, Iff.rfl⟩ | exact ⟨rfl, trivial⟩ | rfl) ?_ (le_trans (le_frz 18 rfl) (le_trans (le_agg 19 [.c (iC 3), .c (iC 1), .c (iC 0), .c (iC 0), .c (iC 24), .c (iC 0), .c (.sl 3 []), .c (.sl 10 [[iC 2, iC 5, iC 0, iC 0, iC 0, iC 0, .sl 3 [], .sl 10 [], .sl 10 [], .sl 1 []]]), .c (.sl 10 []), .c (.sl 1 [])] rfl (by (repeat' (first | exact LWk.nil | apply LWk.cons | exact CWk.refl _ | exact CWk.nil _)))) (le_agg 22 [.c (iC 1), .c (iC 2), .c (iC 0), .c (iC 0), .c (iC 24), .c (iC 1), .c (.sl 3 []), .c (.sl 10 []), .c (.sl 10 []), .c (.sl 1 [])] rfl (by (repeat' (first | exact LWk.nil | apply LWk.cons | exact CWk.refl _ | exact CWk.nil _)))))) ?_
  · first | exact r1 _ | exact trivial | simpa using r1 _
  refine RunsF.cutE 2 [] (by simp [*, allTyped, fillC, placeOf]; rfl) trivial (le_trans (le_frz 14 rfl) (le_trans (le_frz 23 rfl) (le_agg 24 [.c (.sl 5 [[sC ⟨#[120]⟩, iC 1, iC 0, iC 3, iC 0], [sC ⟨#[121]⟩, iC 0, iC 0, iC 3, iC 0]]), .c (.sl 6 []), .c (.sl 10 [[iC 3, iC 1, iC 0, iC 0, iC 24, iC 0, .sl 3 [], .sl 10 [[iC 2, iC 5, iC 0, iC 0, iC 0, iC 0, .sl 3 [], .sl 10 [], .sl 10 [], .sl 1 []]], .sl 10 [], .sl 1 []], [iC 1, iC 2, iC 0, iC 0, iC 24, iC 1, .sl 3 [], .sl 10 [], .sl 10 [], .sl 1 []]])] rfl (by (repeat' (first | exact LWk.nil | apply LWk.cons | exact CWk.refl _ | exact CWk.nil _)))))) ?_
  refine RunsF.doneE [] (by simp [*, allTyped, fillC, placeOf]; rfl) trivial ?_
  refine HT_seq <| (HT_runc [⟨false, .tup [.agg [.c (.sl 5 [[sC ⟨#[120]⟩, iC 1, iC 0, iC 3, iC 0], [sC ⟨#[121]⟩, iC 0, iC 0, iC 3, iC 0]]), .c (.sl 6 []), .c (.sl 10 [[iC 3, iC 1, iC 0, iC 0, iC 24, iC 0, .sl 3 [], .sl 10 [[iC 2, iC 5, iC 0, iC 0, iC 0, iC 0, .sl 3 [], .sl 10 [], .sl 10 [], .sl 1 []]], .sl 10 [[iC 2, iC 5, iC 0, iC 0, iC 0, iC 0, .sl 3 [], .sl 10 [], .sl 10 [], .sl 1 []]], .sl 1 []], [iC 1, iC 2, iC 0, iC 0, iC 24, iC 1, .sl 3 [], .sl 10 [], .sl 10 [], .sl 1 []]])], li 0], none⟩] (by simp [*]; first | exact ⟨rfl, Iff.rfl⟩ | exact ⟨rfl, trivial⟩ | rfl) ?_ ?_)
  · first | exact e1 _ | exact trivial | simpa [*] using e1 _
  refine HT_seq <| (HT_runsF ?_)
  refine RunsF.cutE 3 [] (by simp [*, allTyped, fillC, placeOf]; rfl) trivial (le_trans (le_frz 32 rfl) (le_agg 33 [.c (.sl 1 [[iC 0]]), .c (.sl 1 []), .c (.sl 1 [])] rfl (by (repeat' (first | exact LWk.nil | apply LWk.cons | exact CWk.refl _ | exact CWk.nil _))))) ?_
  refine RunsF.doneE [⟨false, .tup [.agg [.c (.sl 1 [[iC 0]]), .c (iC 8)], li 0], none⟩] (by simp [*, allTyped, fillC, placeOf]; first | exact ⟨rfl, Iff.rfl⟩ | exact ⟨rfl, trivial⟩ | rfl) ?_ ?_
  · first | exact u1 _ | exact trivial | simpa using u1 _
  refine HT_seq <| (HT_runsF ?_)
  refine RunsF.cutE 7 [⟨false, .v (.agg [.c (iC 24), .c (iC 0), .c (.sl 3 [])]), none⟩, ⟨false, .v (.agg [.c (iC 24), .c (iC 0), .c (.sl 3 [])]), none⟩] (by simp [*, allTyped, fillC, placeOf]; first | exact ⟨rfl, Iff.rfl⟩ | exact ⟨rfl, trivial⟩ | rfl) ?_ (le_agg 43 [.c (iC 0), .c (iC 1), .c (.sl 3 [])] rfl (by (repeat' (first | exact LWk.nil | apply LWk.cons | exact CWk.refl _ | exact CWk.nil _)))) ?_
  · first | exact trivial | (repeat' first | exact trivial | exact r0 _ | apply And.intro)
  refine RunsF.cutE 3 [] (by simp [*, allTyped, fillC, placeOf]; rfl) trivial (le_trans (le_frz 44 rfl) (le_agg 46 [.c (iC 0), .c (iC 2), .c (iC 0), .c (iC 0), .c (iC 9), .c (iC 0), .c (.sl 3 [[iC 24, iC 0, .sl 3 []], [iC 0, iC 1, .sl 3 []]]), .c (.sl 10 []), .c (.sl 10 []), .c (.sl 1 [])] rfl (by (repeat' (first | exact LWk.nil | apply LWk.cons | exact CWk.refl _ | exact CWk.nil _))))) ?_
  refine RunsF.cutE 2 [] (by simp [*, allTyped, fillC, placeOf]; rfl) trivial (le_trans (le_frz 47 rfl) (le_agg 48 [.c (iC 4), .c (iC 1), .c (iC 0), .c (iC 3), .c (iC 24), .c (iC 0), .c (.sl 3 []), .c (.sl 10 [[iC 0, iC 2, iC 0, iC 0, iC 9, iC 0, .sl 3 [[iC 24, iC 0, .sl 3 []], [iC 0, iC 1, .sl 3 []]], .sl 10 [], .sl 10 [], .sl 1 []]]), .c (.sl 10 []), .c (.sl 1 [])] rfl (by (repeat' (first | exact LWk.nil | apply LWk.cons | exact CWk.refl _ | exact CWk.nil _))))) ?_
  refine RunsF.cutE 2 [] (by simp [*, allTyped, fillC, placeOf]; rfl) trivial (le_trans (le_frz 38 rfl) (le_trans (le_frz 49 rfl) (le_agg 50 [.c (.sl 5 [[sC ⟨#[120]⟩, iC 0, iC 0, iC 3, iC 2]]), .c (.sl 6 []), .c (.sl 10 [[iC 4, iC 1, iC 0, iC 3, iC 24, iC 0, .sl 3 [], .sl 10 [[iC 0, iC 2, iC 0, iC 0, iC 9, iC 0, .sl 3 [[iC 24, iC 0, .sl 3 []], [iC 0, iC 1, .sl 3 []]], .sl 10 [], .sl 10 [], .sl 1 []]], .sl 10 [], .sl 1 []]])] rfl (by (repeat' (first | exact LWk.nil | apply LWk.cons | exact CWk.refl _ | exact CWk.nil _)))))) ?_
  refine RunsF.doneE [] (by simp [*, allTyped, fillC, placeOf]; rfl) trivial ?_
  refine HT_seq <| (HT_runc [⟨false, .tup [.agg [.c (.sl 5 [[sC ⟨#[120]⟩, iC 0, iC 0, iC 3, iC 2]]), .c (.sl 6 []), .c (.sl 10 [[iC 4, iC 1, iC 0, iC 3, iC 0, iC 1, .sl 3 [], .sl 10 [[iC 3, iC 0, iC 0, iC 0, iC 24, iC 0, .sl 3 [], .sl 10 [[iC 0, iC 2, iC 0, iC 0, iC 9, iC 0, .sl 3 [[iC 24, iC 0, .sl 3 []], [iC 0, iC 1, .sl 3 []]], .sl 10 [], .sl 10 [], .sl 1 []]], .sl 10 [[iC 2, iC 2, iC 0, iC 0, iC 0, iC 0, .sl 3 [], .sl 10 [], .sl 10 [], .sl 1 []]], .sl 1 []]], .sl 10 [], .sl 1 []]])], li 0], none⟩] (by simp [*]; first | exact ⟨rfl, Iff.rfl⟩ | exact ⟨rfl, trivial⟩ | rfl) ?_ ?_)
  · first | exact e2 _ | exact trivial | simpa [*] using e2 _
  refine HT_seq <| (HT_runsF ?_)
  refine RunsF.cutE 2 [] (by simp [*, allTyped, fillC, placeOf]; rfl) trivial (le_agg 58 [.c (.sl 1 []), .c (.sl 1 []), .c (.sl 1 [])] rfl (by (repeat' (first | exact LWk.nil | apply LWk.cons | exact CWk.refl _ | exact CWk.nil _)))) ?_
  refine RunsF.doneE [⟨false, .tup [.agg [.c (.sl 1 []), .c (iC 9)], li 0], none⟩] (by simp [*, allTyped, fillC, placeOf]; first | exact ⟨rfl, Iff.rfl⟩ | exact ⟨rfl, trivial⟩ | rfl) ?_ ?_
  · first | exact u2 _ | exact trivial | simpa using u2 _
  refine HT_seq <| (HT_run (by simp [*]; rfl) ?_)
  exact (HT_retE (fun h => ⟨.inr rfl, h⟩) _ (by simp [*]; rfl) (by first | rfl | (simp [*]; done) | (simp only [resR]; (repeat' split) <;> first | rfl | (exfalso; omega) | simp_all)) (by simp))
end Go.Proofs.YtfilidjbpomgoaaGreat

namespace Go.Proofs.YtfilidjbpomgoaaGreat
open Go Go.Hl

theorem evenD_con (l : List St) (hn : nodesS l ≤ 300000) (d : Nat) : Con Tryz.prog 12 false [lS l, .one (.c (.lit nilS)), lb true] (.v (lS (evR l))) none d := by
  have hlen := len_nodesS l
  have hev0 : evR [] = [] := by simp [evR]
  refine con_of_HT Tryz.func12 rfl (by kernel_rfl) (Nat.le_of_ble_eq_true rfl) ?_
  simp only [Tryz.f12]
  refine HT_seq <| (HT_run (by simp [*]; rfl) ?_)
  refine HT_seq <| (HT_run (by simp [*]; rfl) ?_)
  refine HT_seq <| HT_seq <| (HT_run (by simp [*]; rfl) ?_)
  refine HT_block <| (HT_loopU [1, 2, 16, 17] (fun (x : Nat) => [(7, .v (.one (.own 1007))), (18, .v (li x))]) (fun (x : Nat) => [(1007, .row 56 10 (encSs (evR (l.take x))))]) (fun (x : Nat) => x ≤ l.length) (fun (x : Nat) => l.length - x) (0 : Nat) (Nat.zero_le _) ?_ ?_)
  · exact le_mk (fun n => if n = 1007 then 15 else n) [] rfl (by simp [*, upS, keepS]) (by simp [*, upS]) (by simp [upS])
  rintro k hk
  simp only [upS, keepS, insS]
  try simp only [keepS, List.contains_cons, List.contains_nil, Bool.or_false, Bool.or_true, Bool.true_or, Bool.false_or, Nat.reduceBEq, BEq.rfl, beq_self_eq_true, if_true, if_false, Bool.false_eq_true, ite_true, ite_false, ins, Nat.reduceLT]
  refine HT_seq <| (HT_run (by simp [*]; rfl) ?_)
  refine HT_seq <| (HT_cond rfl (fun h5 => HT_skip ?_) (fun h5 => ?_))
  · try simp only [Bool.or_eq_true, Bool.and_eq_true, Bool.or_eq_false_iff, Bool.and_eq_false_iff, Bool.not_eq_true', Bool.not_eq_false', decide_eq_true_eq, decide_eq_false_iff_not] at h5
    have hlt : k < l.length := by omega
    obtain ⟨s, he, hd⟩ := at_lt hlt
    have hw1 := wrap1 hlt (by omega)
    have hk1 : k + 1 ≤ l.length := hlt
    have hmem : s ∈ l := List.mem_of_getElem? he
    have hnm := nodesS_mem hmem
    have ca := evenR_con s.then_ (by omega)
    have cb := evenR_con s.else_ (by omega)
    have htl : (evR (l.take k)).length = k := by rw [evR_len, List.length_take]; omega
    have hroom : room (k + 1) 144 := room_of (by omega) (by omega)
    have hsn0 : evR (l.take (k + 1)) = evR (l.take k) ++ evR [s] := by
      rw [List.take_add_one, he, Option.toList_some, evR_app]
    have he' := get_encS he
    have hna := evR_nodes s.then_
    have hnb := evR_nodes s.else_
    have hla := len_nodesS (evR s.then_)
    have hlb := len_nodesS (evR s.else_)
    have ta := const_con (evR s.then_) (by omega)
    have tb := const_con (evR s.else_) (by omega)
    have ia := spL_in (evR s.then_) (0, 0) inT0
    have ib := spL_in (evR s.else_) (0, 0) inT0
    obtain ⟨sd, sc, sv, sn, ⟨so, stn, sks⟩, sa, sb, sbs⟩ := s
    simp only [St.then_, St.else_, St.term] at ca cb hnm hna hnb hla hlb ta tb ia ib
    simp only [St.enc, Tm.enc, List.cons_append, List.nil_append] at he'
    simp only [evR] at hsn0
    clear hlt h5 hmem he hd
    refine HT_seq <| HT_block <| HT_seq <| (HT_run (by simp [*]; rfl) ?_)
    refine HT_seq <| HT_seq <| (HT_run (by simp [*]; rfl) ?_)
    refine (HT_cond rfl (fun h8 => ?_) (fun h8 => HT_skip ?_))
    · try simp only [Bool.or_eq_true, Bool.and_eq_true, Bool.or_eq_false_iff, Bool.and_eq_false_iff, Bool.not_eq_true', Bool.not_eq_false', decide_eq_true_eq, decide_eq_false_iff_not] at h8
      rw [if_neg (by omega)] at hsn0
      have hsn : encSs (evR (l.take (k + 1))) = encSs (evR (l.take k)) ++ [[iC sd, iC sc, iC sv, iC sn, iC so, iC stn, .sl 3 (encTs sks), .sl 10 (encSs sa), .sl 10 (encSs sb), .sl 1 (encIs sbs)]] := by
        rw [hsn0, encS_app]
        simp
      clear hsn0 ca cb ta tb ia ib hna hnb hla hlb
      refine HT_seq <| (HT_run (by simp [*]; rfl) ?_)
      refine (HT_exit ?_)
      refine (HT_run (by simp [*]; rfl) ?_)
      exact ⟨k + 1, hk1, by omega, le_mk (fun n => if n = 1007 then 33 else n) [] rfl (by simp [upS, keepS, *]) (by simp [*, upS]) (by simp [upS])⟩
    · try simp only [Bool.or_eq_true, Bool.and_eq_true, Bool.or_eq_false_iff, Bool.and_eq_false_iff, Bool.not_eq_true', Bool.not_eq_false', decide_eq_true_eq, decide_eq_false_iff_not] at h8
      rw [if_pos (by omega)] at hsn0
      simp only [balS] at hsn0
      obtain ⟨EA, hEA⟩ : ∃ x, evR sa = x := ⟨_, rfl⟩
      obtain ⟨EB, hEB⟩ : ∃ x, evR sb = x := ⟨_, rfl⟩
      rw [hEA] at ca ta ia hsn0 hla hna
      rw [hEB] at cb tb ib hsn0 hlb hnb
      obtain ⟨A, hA⟩ : ∃ x, (spL EA (0, 0)).1 = x := ⟨_, rfl⟩
      obtain ⟨B, hB⟩ : ∃ x, (spL EB (0, 0)).1 = x := ⟨_, rfl⟩
      unfold inT at ia ib
      rw [hA] at ta ia hsn0
      rw [hB] at tb ib hsn0
      have hra : room (EA.length + 1) 144 := room_of (by omega) (by omega)
      have hrb : room (EB.length + 1) 144 := room_of (by omega) (by omega)
      have hr1 : room 1 144 := room_of (by decide) (by decide)
      have hw2 : IntKind.i64.wrap (B - A) = B - A := wrap_in (by omega) (by omega)
      have hw3 : IntKind.i64.wrap (A - B) = A - B := wrap_in (by omega) (by omega)
      clear hEA hEB hA hB hna hnb hla hlb hnm
      refine HT_seq <| (HT_runcS [none] (by simp [*]; first | exact ⟨rfl, trivial⟩ | exact ⟨rfl, Iff.rfl⟩ | rfl) ?_ ?_)
      · trivial
      refine HT_seq <| (HT_drunc [⟨false, .v (.one (.own 45)), some (.row 56 10 (encSs EA))⟩, ⟨false, .v (.one (.own 50)), some (.row 56 10 (encSs EB))⟩] (by kernel_rfl) (by kernel_rfl) (by rfl) (by simp [*]; first | exact ⟨rfl, Iff.rfl⟩ | exact ⟨rfl, trivial⟩ | rfl) ?_ ?_)
      · first | exact trivial | exact trivial | (repeat' first | exact trivial | exact ca 45 (by decide) | exact cb 50 (by decide) | apply And.intro)
      refine HT_seq <| HT_block <| HT_seq <| (HT_run (by simp [*]; rfl) ?_)
      refine (HT_cond rfl (fun h15 => HT_skip ?_) (fun h15 => ?_))
      · try simp only [Bool.or_eq_true, Bool.and_eq_true, Bool.or_eq_false_iff, Bool.and_eq_false_iff, Bool.not_eq_true', Bool.not_eq_false', decide_eq_true_eq, decide_eq_false_iff_not] at h15
        have hd4 : sd = 4 := h15.1
        have hso : so = 0 := h15.2
        subst hd4 hso
        rw [if_neg (by decide), if_neg (fun h => h.2 rfl)] at hsn0
        have hsn : encSs (evR (l.take (k + 1))) = encSs (evR (l.take k)) ++ [[iC 4, iC sc, iC sv, iC sn, iC 0, iC stn, .sl 3 (encTs sks), .sl 10 (encSs EA), .sl 10 (encSs EB), .sl 1 (encIs sbs)]] := by
          rw [hsn0, encS_app]
          simp
        clear hsn0
        refine HT_le (le_frz 45 rfl) ?_
        refine HT_le (le_frz 50 rfl) ?_
        refine (HT_run (by simp [*]; rfl) ?_)
        refine (HT_run (by simp [*]; rfl) ?_)
        exact ⟨k + 1, hk1, by omega, le_mk (fun n => if n = 1007 then 123 else n) [] rfl (by simp [upS, keepS, *]) (by simp [*, upS]) (by simp [upS])⟩
      · try simp only [Bool.or_eq_true, Bool.and_eq_true, Bool.or_eq_false_iff, Bool.and_eq_false_iff, Bool.not_eq_true', Bool.not_eq_false', decide_eq_true_eq, decide_eq_false_iff_not] at h15
        refine HT_seq <| (HT_run (by simp [*]; rfl) ?_)
        refine (HT_cond rfl (fun h20 => ?_) (fun h20 => ?_))
        · try simp only [Bool.or_eq_true, Bool.and_eq_true, Bool.or_eq_false_iff, Bool.and_eq_false_iff, Bool.not_eq_true', Bool.not_eq_false', decide_eq_true_eq, decide_eq_false_iff_not] at h20
          subst h20
          rw [if_pos rfl] at hsn0
          clear h8 h15
          refine HT_seq <| (HT_drunc [⟨true, .v (li A), none⟩, ⟨true, .v (li B), none⟩] (by kernel_rfl) (by kernel_rfl) (by rfl) (by simp [*]; first | exact ⟨rfl, Iff.rfl⟩ | exact ⟨rfl, trivial⟩ | rfl) ?_ ?_)
          · first | exact ⟨ta _, tb _⟩ | exact trivial | (repeat' first | exact trivial | exact ta _ | exact tb _ | apply And.intro)
          refine (HT_cutU [1, 2, 7, 9, 11, 12, 16, 17, 18] (fun (W : List St) => []) (fun (W : List St) => [(9, .box [.c (iC 3), .c (iC sc), .c (iC sv), .c (iC sn), .c (iC so), .c (iC stn), .c (.sl 3 (encTs sks)), .own 1045, .own 50, .c (.sl 1 (encIs sbs))]), (50, .row 56 10 (encSs EB)), (1007, .row 56 10 (encSs (evR (l.take k)))), (1045, .row 56 10 (encSs (EA ++ W)))]) (fun (W : List St) => W = waitL (posI (B - A))) ?_ ?_)
          ·
            refine HT_seq <| (HT_run (by simp [*]; rfl) ?_)
            refine (HT_cond rfl (fun h24 => ?_) (fun h24 => HT_skip ?_))
            · try simp only [Bool.or_eq_true, Bool.and_eq_true, Bool.or_eq_false_iff, Bool.and_eq_false_iff, Bool.not_eq_true', Bool.not_eq_false', decide_eq_true_eq, decide_eq_false_iff_not] at h24
              refine (HT_runF 6 [] [] (by simp [*]; rfl) trivial (le_agg 104 [.c (iC 2), .c (iC (B - A)), .c (iC 0), .c (iC 0), .c (iC 0), .c (iC 0), .c (.sl 3 []), .c (.sl 10 []), .c (.sl 10 []), .c (.sl 1 [])] rfl (by (repeat' (first | exact LWk.nil | apply LWk.cons | exact CWk.refl _ | exact CWk.nil _)))) (by simp [*]; rfl) trivial ?_)
              exact ⟨[.mk 2 (B - A) 0 0 (.mk 0 0 []) [] [] []], by unfold waitL posI; rw [if_neg (by rw [if_pos (by omega)]; omega), if_pos (by omega)], le_mk (fun n => if n = 1045 then 106 else n) [] rfl (by simp [upS, keepS, *]) (by simp [*, upS]) (by simp [upS])⟩
            · try simp only [Bool.or_eq_true, Bool.and_eq_true, Bool.or_eq_false_iff, Bool.and_eq_false_iff, Bool.not_eq_true', Bool.not_eq_false', decide_eq_true_eq, decide_eq_false_iff_not] at h24
              exact ⟨[], by unfold waitL posI; rw [if_pos (by rw [if_neg (by omega)])], le_mk (fun n => if n = 1045 then 45 else n) [] rfl (by simp [upS, keepS, *]) (by simp [*, upS]) (by simp [upS])⟩
          rintro W hW
          simp only [upS, keepS, insS]
          try simp only [keepS, List.contains_cons, List.contains_nil, Bool.or_false, Bool.or_true, Bool.true_or, Bool.false_or, Nat.reduceBEq, BEq.rfl, beq_self_eq_true, if_true, if_false, Bool.false_eq_true, ite_true, ite_false, ins, Nat.reduceLT]
          rw [← hW] at hsn0
          clear hW
          refine HT_seq <| (HT_run (by simp [*]; rfl) ?_)
          refine (HT_cond rfl (fun h29 => ?_) (fun h29 => HT_skip ?_))
          · try simp only [Bool.or_eq_true, Bool.and_eq_true, Bool.or_eq_false_iff, Bool.and_eq_false_iff, Bool.not_eq_true', Bool.not_eq_false', decide_eq_true_eq, decide_eq_false_iff_not] at h29
            rw [show waitL (posI (A - B)) = [.mk 2 (A - B) 0 0 (.mk 0 0 []) [] [] []] by unfold waitL posI; rw [if_neg (by rw [if_pos (by omega)]; omega), if_pos (by omega)]] at hsn0
            have hsn : encSs (evR (l.take (k + 1))) = encSs (evR (l.take k)) ++ [[iC 3, iC sc, iC sv, iC sn, iC so, iC stn, .sl 3 (encTs sks), .sl 10 (encSs EA ++ encSs W), .sl 10 (encSs EB ++ [[iC 2, iC (A - B), iC 0, iC 0, iC 0, iC 0, .sl 3 [], .sl 10 [], .sl 10 [], .sl 1 []]]), .sl 1 (encIs sbs)]] := by
              rw [hsn0, encS_app]
              simp
            clear hsn0
            refine (HT_runF 6 [] [] (by simp [*]; rfl) trivial (le_agg 116 [.c (iC 2), .c (iC (A - B)), .c (iC 0), .c (iC 0), .c (iC 0), .c (iC 0), .c (.sl 3 []), .c (.sl 10 []), .c (.sl 10 []), .c (.sl 1 [])] rfl (by (repeat' (first | exact LWk.nil | apply LWk.cons | exact CWk.refl _ | exact CWk.nil _)))) (by simp [*]; rfl) trivial ?_)
            refine HT_le (le_frz 1045 rfl) ?_
            refine HT_le (le_frz 118 rfl) ?_
            refine (HT_run (by simp [*]; rfl) ?_)
            refine (HT_run (by simp [*]; rfl) ?_)
            exact ⟨k + 1, hk1, by omega, le_mk (fun n => if n = 1007 then 123 else n) [] rfl (by simp [upS, keepS, *]) (by simp [*, upS]) (by simp [upS])⟩
          · try simp only [Bool.or_eq_true, Bool.and_eq_true, Bool.or_eq_false_iff, Bool.and_eq_false_iff, Bool.not_eq_true', Bool.not_eq_false', decide_eq_true_eq, decide_eq_false_iff_not] at h29
            rw [show waitL (posI (A - B)) = [] by unfold waitL posI; rw [if_pos (by rw [if_neg (by omega)])]] at hsn0
            have hsn : encSs (evR (l.take (k + 1))) = encSs (evR (l.take k)) ++ [[iC 3, iC sc, iC sv, iC sn, iC so, iC stn, .sl 3 (encTs sks), .sl 10 (encSs EA ++ encSs W), .sl 10 (encSs EB), .sl 1 (encIs sbs)]] := by
              rw [hsn0, encS_app]
              simp
            clear hsn0
            refine HT_le (le_frz 1045 rfl) ?_
            refine HT_le (le_frz 50 rfl) ?_
            refine (HT_run (by simp [*]; rfl) ?_)
            refine (HT_run (by simp [*]; rfl) ?_)
            exact ⟨k + 1, hk1, by omega, le_mk (fun n => if n = 1007 then 123 else n) [] rfl (by simp [upS, keepS, *]) (by simp [*, upS]) (by simp [upS])⟩
        · try simp only [Bool.or_eq_true, Bool.and_eq_true, Bool.or_eq_false_iff, Bool.and_eq_false_iff, Bool.not_eq_true', Bool.not_eq_false', decide_eq_true_eq, decide_eq_false_iff_not] at h20
          have hd4 : sd = 4 := by omega
          subst hd4
          have hso : so ≠ 0 := by
            rcases h15 with h | h
            · exact absurd rfl h
            · exact h
          rw [if_neg (by decide), if_pos ⟨rfl, hso⟩] at hsn0
          clear h8 h15 h20 hso
          refine HT_le (le_frz 45 rfl) ?_
          refine HT_le (le_frz 50 rfl) ?_
          refine HT_seq <| (HT_run (by simp [*]; rfl) ?_)
          refine (HT_cutU [1, 2, 7, 9, 13, 16, 17, 18] (fun (W : List St) => []) (fun (W : List St) => [(9, .box [.c (iC 4), .c (iC sc), .c (iC sv), .c (iC sn), .c (iC so), .c (iC stn), .c (.sl 3 (encTs sks)), .c (.sl 10 (encSs EA)), .c (.sl 10 (encSs EB)), .c (.sl 1 (encIs sbs))]), (13, .box [.c (iC 3), .c (iC 0), .c (iC 0), .c (iC 0), .c (iC so), .c (iC stn), .c (.sl 3 (encTs sks)), .c (.sl 10 (encSs EA)), .own 1065, .c (.lit nilS)]), (1007, .row 56 10 (encSs (evR (l.take k)))), (1065, .row 56 10 (encSs W))]) (fun (W : List St) => W = waitL A) ?_ ?_)
          ·
            refine HT_seq <| (HT_runc [⟨true, .v (li A), none⟩] (by simp [*]; first | exact ⟨rfl, Iff.rfl⟩ | exact ⟨rfl, trivial⟩ | rfl) ?_ ?_)
            · first | exact ta _ | exact trivial | simpa [*] using ta _
            refine HT_seq <| (HT_run (by simp [*]; rfl) ?_)
            refine (HT_cond rfl (fun h41 => ?_) (fun h41 => HT_skip ?_))
            · try simp only [Bool.or_eq_true, Bool.and_eq_true, Bool.or_eq_false_iff, Bool.and_eq_false_iff, Bool.not_eq_true', Bool.not_eq_false', decide_eq_true_eq, decide_eq_false_iff_not] at h41
              refine (HT_runF 2 [] [] (by simp [*]; rfl) trivial (le_agg 64 [.c (iC 2), .c (iC A), .c (iC 0), .c (iC 0), .c (iC 0), .c (iC 0), .c (.sl 3 []), .c (.sl 10 []), .c (.sl 10 []), .c (.sl 1 [])] rfl (by (repeat' (first | exact LWk.nil | apply LWk.cons | exact CWk.refl _ | exact CWk.nil _)))) (by simp [*]; rfl) trivial ?_)
              exact ⟨[.mk 2 A 0 0 (.mk 0 0 []) [] [] []], by unfold waitL; rw [if_neg (by omega)], le_mk (fun n => if n = 1065 then 65 else n) [] rfl (by simp [upS, keepS, *]) (by simp [*, upS]) (by simp [upS])⟩
            · try simp only [Bool.or_eq_true, Bool.and_eq_true, Bool.or_eq_false_iff, Bool.and_eq_false_iff, Bool.not_eq_true', Bool.not_eq_false', decide_eq_true_eq, decide_eq_false_iff_not] at h41
              exact ⟨[], by unfold waitL; rw [if_pos (by omega)], le_mk (fun n => n) [1065] rfl (by simp [upS, keepS, *]) (by simp [*, upS]) (by simp [upS])⟩
          rintro W hW
          simp only [upS, keepS, insS]
          try simp only [keepS, List.contains_cons, List.contains_nil, Bool.or_false, Bool.or_true, Bool.true_or, Bool.false_or, Nat.reduceBEq, BEq.rfl, beq_self_eq_true, if_true, if_false, Bool.false_eq_true, ite_true, ite_false, ins, Nat.reduceLT]
          rw [← hW] at hsn0
          have hsn : encSs (evR (l.take (k + 1))) = encSs (evR (l.take k)) ++ [[iC 4, iC sc, iC sv, iC sn, iC 0, iC 1, .sl 3 [], .sl 10 [[iC 3, iC 0, iC 0, iC 0, iC so, iC stn, .sl 3 (encTs sks), .sl 10 (encSs EA), .sl 10 (encSs W), .sl 1 []]], .sl 10 (encSs EB), .sl 1 (encIs sbs)]] := by
            rw [hsn0, encS_app]
            simp
          clear hsn0 hW
          refine HT_le (le_frz 1065 rfl) ?_
          refine HT_le (le_box 13 [.c (iC 3), .c (iC 0), .c (iC 0), .c (iC 0), .c (iC so), .c (iC stn), .c (.sl 3 (encTs sks)), .c (.sl 10 (encSs EA)), .c (.sl 10 (encSs W)), .c (.sl 1 [])] rfl (by (repeat' (first | exact LWk.nil | apply LWk.cons | exact CWk.refl _ | exact CWk.nil _)))) ?_
          refine (HT_drunH [(13, 13), (70, 9), (71, 9)] (by kernel_rfl) (by kernel_rfl) (by rfl) (by simp [evsH, hokB, hintOf, *]; rfl) ?_)
          refine HT_le (le_frz 69 rfl) ?_
          refine HT_le (le_box 9 [.c (iC 4), .c (iC sc), .c (iC sv), .c (iC sn), .c (iC 0), .c (iC 1), .c (.sl 3 []), .c (.sl 10 [[iC 3, iC 0, iC 0, iC 0, iC so, iC stn, .sl 3 (encTs sks), .sl 10 (encSs EA), .sl 10 (encSs W), .sl 1 []]]), .c (.sl 10 (encSs EB)), .c (.sl 1 (encIs sbs))] rfl (by (repeat' (first | exact LWk.nil | apply LWk.cons | exact CWk.refl _ | exact CWk.nil _)))) ?_
          refine (HT_run (by simp [*]; rfl) ?_)
          refine (HT_run (by simp [*]; rfl) ?_)
          exact ⟨k + 1, hk1, by omega, le_mk (fun n => if n = 1007 then 123 else n) [] rfl (by simp [upS, keepS, *]) (by simp [*, upS]) (by simp [upS])⟩
  · try simp only [Bool.or_eq_true, Bool.and_eq_true, Bool.or_eq_false_iff, Bool.and_eq_false_iff, Bool.not_eq_true', Bool.not_eq_false', decide_eq_true_eq, decide_eq_false_iff_not] at h5
    have hkl : k = l.length := by omega
    subst hkl
    simp only [List.take_length]
    refine (HT_exit ?_)
    refine HT_seq <| (HT_run (by simp [*]; rfl) ?_)
    exact HT_ret ⟨.inr rfl, _, le_frz 1007 rfl, ⟨⟨_, by simp; rfl, by simp [resR]⟩, by simp, fun h => by cases h⟩⟩
end Go.Proofs.YtfilidjbpomgoaaGreat

namespace Go.Proofs.YtfilidjbpomgoaaGreat
open Go Go.Hl

theorem ev_eq : ∀ l : List St, okL l = true → evL l = evR l
  | [], _ => by simp [evL, evR]
  | .mk d c v n t a b bs :: l, h => by
    simp only [okL, okS, Bool.and_eq_true, Bool.or_eq_true, decide_eq_true_eq, List.isEmpty_iff] at h
    have ha := ev_eq a h.1.2.2.1
    have hb := ev_eq b h.1.2.2.2
    have hl := ev_eq l h.2
    simp only [evL, evR, ha, hb, hl]
    by_cases hd : d = 3 ∨ d = 4
    · rw [if_pos hd]
    · rw [if_neg hd]
      rcases h.1.2.1 with h1 | h1 | ⟨h1, h2⟩
      · exact absurd (.inl h1) hd
      · exact absurd (.inr h1) hd
      · subst h1 h2
        simp only [evR, balS]
        rw [if_neg (fun h => hd (.inl h)), if_neg (fun h => hd (.inr h.1))]
theorem code_ok {f : Fl} (h : codeC f = 0) : okL f.body = true := by
  unfold codeC at h
  split at h
  · cases h
  · split at h
    · split at h
      · split at h
        · rename_i h0
          exact ssC_ok _ _ h0
        · rename_i h0; exact absurd h h0
      · rename_i h0; exact absurd h h0
    · rename_i h0; exact absurd h h0
theorem agrees_con (g : Fl) (e : Int) (h0 : e = 0 → ∀ d, Con Tryz.prog 40 true [aF g, aF g] (.v (lb true)) none d) (h1 : e ≠ 0 → noneB g = true) (d : Nat) :
    Con Tryz.prog 13 true [aF g, li e, aF g, li e] (.v (lb true)) none d := by
  have cn := none_con g
  obtain ⟨N, hN⟩ : ∃ x, noneB g = x := ⟨_, rfl⟩
  rw [hN] at cn h1
  obtain ⟨vars, hats, body⟩ := g
  clear hN
  refine con_of_HT Tryz.func13 rfl (by kernel_rfl) (Nat.le_of_ble_eq_true rfl) ?_
  simp only [Tryz.f13]
  simp only [aF, Fl.enc, List.map_cons, List.map_nil] at cn h0 ⊢
  refine HT_seq <| (HT_run (by simp [*]; rfl) ?_)
  refine HT_seq <| HT_seq <| (HT_run (by simp [*]; rfl) ?_)
  refine (HT_cond rfl (fun h2 => ?_) (fun h2 => HT_skip ?_))
  · try simp only [Bool.or_eq_true, Bool.and_eq_true, Bool.or_eq_false_iff, Bool.and_eq_false_iff, Bool.not_eq_true', Bool.not_eq_false', decide_eq_true_eq, decide_eq_false_iff_not] at h2
    have hz := h1 h2
    subst hz
    clear h0
    refine HT_seq <| (HT_runc [⟨true, .v (lb true), none⟩] (by simp [*]; first | exact ⟨rfl, Iff.rfl⟩ | exact ⟨rfl, trivial⟩ | rfl) ?_ ?_)
    · first | exact cn _ | exact trivial | simpa [*] using cn _
    exact (HT_retE (fun h => ⟨.inr rfl, h⟩) _ (by simp [*]; rfl) (by first | rfl | (simp [*]; done) | (simp only [resR]; (repeat' split) <;> first | rfl | (exfalso; omega) | simp_all)) (by simp))
  · try simp only [Bool.or_eq_true, Bool.and_eq_true, Bool.or_eq_false_iff, Bool.and_eq_false_iff, Bool.not_eq_true', Bool.not_eq_false', decide_eq_true_eq, decide_eq_false_iff_not] at h2
    have he : e = 0 := by simpa using h2
    subst he
    have h0 := h0 rfl
    clear h1 cn h2
    refine HT_seq <| (HT_runc [⟨true, .v (lb true), none⟩] (by simp [*]; first | exact ⟨rfl, Iff.rfl⟩ | exact ⟨rfl, trivial⟩ | rfl) ?_ ?_)
    · first | exact h0 _ | exact trivial | simpa [*] using h0 _
    exact (HT_retE (fun h => ⟨.inr rfl, h⟩) _ (by simp [*]; rfl) (by first | rfl | (simp [*]; done) | (simp only [resR]; (repeat' split) <;> first | rfl | (exfalso; omega) | simp_all)) (by simp))
theorem even_law (f : Fl) (d : Nat) : Con Tryz.prog 3 true [aF f] (.v (lb true)) none d := by
  have ck := known_con
  have cf := few_con f 12 120 (by decide) (by decide)
  obtain ⟨FW, hFW⟩ : ∃ x, fewB f 12 120 = x := ⟨_, rfl⟩
  rw [hFW] at cf
  have hin : FW = true → f.vars.length ≤ 1000000 ∧ f.hats.length ≤ 1000000 ∧ nodesS f.body + nodesH f.hats ≤ 120 ∧ bndL f.body = true := by
    intro h
    have := fewB_in (nodes := 120) (by decide) (hFW.trans h)
    exact ⟨by omega, by omega, by omega, this.2.2.2⟩
  clear hFW
  refine con_of_HT Tryz.func3 rfl (by kernel_rfl) (Nat.le_of_ble_eq_true rfl) ?_
  simp only [Tryz.f3]
  simp only [aF, Fl.enc, List.map_cons, List.map_nil] at cf ⊢
  refine HT_seq <| (HT_run (by simp [*]; rfl) ?_)
  refine HT_seq <| HT_seq <| (HT_runc [⟨true, .v (lb true), none⟩] (by simp [*]; first | exact ⟨rfl, Iff.rfl⟩ | exact ⟨rfl, trivial⟩ | rfl) ?_ ?_)
  · first | exact ck _ | exact trivial | simpa [*] using ck _
  refine (HT_cond rfl (fun h2 => ?_) (fun h2 => HT_skip ?_))
  · exact absurd h2 (by simp)
  · try simp only [Bool.or_eq_true, Bool.and_eq_true, Bool.or_eq_false_iff, Bool.and_eq_false_iff, Bool.not_eq_true', Bool.not_eq_false', decide_eq_true_eq, decide_eq_false_iff_not] at h2
    refine HT_seq <| HT_seq <| (HT_runc [⟨true, .v (lb FW), none⟩] (by simp [*]; first | exact ⟨rfl, Iff.rfl⟩ | exact ⟨rfl, trivial⟩ | rfl) ?_ ?_)
    · first | exact cf _ | exact trivial | simpa [*] using cf _
    refine (HT_cond rfl (fun h6 => ?_) (fun h6 => HT_skip ?_))
    · try simp only [Bool.or_eq_true, Bool.and_eq_true, Bool.or_eq_false_iff, Bool.and_eq_false_iff, Bool.not_eq_true', Bool.not_eq_false', decide_eq_true_eq, decide_eq_false_iff_not] at h6
      refine HT_seq <| (HT_run (by simp [*]; rfl) ?_)
      exact (HT_retE (fun h => ⟨.inr rfl, h⟩) _ (by simp [*]; rfl) (by first | rfl | (simp [*]; done) | (simp only [resR]; (repeat' split) <;> first | rfl | (exfalso; omega) | simp_all)) (by simp))
    · try simp only [Bool.or_eq_true, Bool.and_eq_true, Bool.or_eq_false_iff, Bool.and_eq_false_iff, Bool.not_eq_true', Bool.not_eq_false', decide_eq_true_eq, decide_eq_false_iff_not] at h6
      have hfw : FW = true := by simpa using h6
      obtain ⟨hv, hh, hn, hb⟩ := hin hfw
      clear hin cf ck h2 h6
      have ce := evenP_con f hv hh (by omega) hb
      have cc := checkR_con f hv hh (by omega) hb
      have cev := evenD_con f.body (by omega)
      have hevn := evR_nodes f.body
      have hev : codeC f = 0 → evL f.body = evR f.body := fun h => ev_eq _ (code_ok h)
      have hevb := fun h => (hev h) ▸ evL_bnd f.body hb
      obtain ⟨C, hC⟩ : ∃ x, codeC f = x := ⟨_, rfl⟩
      have hE : evF f = if C = 0 then chkF ⟨f.vars, f.hats, evL f.body⟩ else (fl0, C) := by unfold evF; rw [hC]
      rw [hC] at cc hev hevb
      obtain ⟨⟨⟨gv, gh, gb⟩, ge⟩, hG⟩ : ∃ x, evF f = x := ⟨_, rfl⟩
      rw [hG] at ce hE
      simp only at ce
      simp only [aF, Fl.enc, List.map_cons, List.map_nil] at ce cc
      clear hG hC
      refine HT_seq <| (HT_runc [⟨false, .tup [.agg [.c (.sl 5 (encVs gv)), .c (.sl 6 (encHs gh)), .c (.sl 10 (encSs gb))], li ge], none⟩] (by simp [*]; first | exact ⟨rfl, Iff.rfl⟩ | exact ⟨rfl, trivial⟩ | rfl) ?_ ?_)
      · first | exact ce _ | exact trivial | simpa [*] using ce _
      refine HT_seq <| HT_seq <| (HT_runc [⟨true, .v (li C), none⟩] (by simp [*]; first | exact ⟨rfl, Iff.rfl⟩ | exact ⟨rfl, trivial⟩ | rfl) ?_ ?_)
      · first | exact cc _ | exact trivial | simpa [*] using cc _
      refine HT_seq <| (HT_run (by simp [*]; rfl) ?_)
      refine (HT_cond rfl (fun h12 => ?_) (fun h12 => HT_skip ?_))
      · try simp only [Bool.or_eq_true, Bool.and_eq_true, Bool.or_eq_false_iff, Bool.and_eq_false_iff, Bool.not_eq_true', Bool.not_eq_false', decide_eq_true_eq, decide_eq_false_iff_not] at h12
        rw [if_neg h12] at hE
        simp only [fl0, Prod.mk.injEq, Fl.mk.injEq] at hE
        obtain ⟨⟨e1, e2, e3⟩, e4⟩ := hE
        subst e1 e2 e3 e4
        have cn := none_con ⟨[], [], []⟩
        simp only [aF, Fl.enc, List.map_cons, List.map_nil, show noneB ⟨[], [], []⟩ = true from rfl] at cn
        clear hev hevb
        refine HT_seq <| (HT_runc [⟨true, .v (lb true), none⟩] (by simp [*]; first | exact ⟨rfl, Iff.rfl⟩ | exact ⟨rfl, trivial⟩ | rfl) ?_ ?_)
        · first | exact cn _ | exact trivial | simpa [*] using cn _
        exact (HT_retE (fun h => ⟨.inr rfl, h⟩) _ (by simp [*]; rfl) (by first | rfl | (simp [*]; done) | (simp only [resR]; (repeat' split) <;> first | rfl | (exfalso; omega) | simp_all)) (by simp))
      · try simp only [Bool.or_eq_true, Bool.and_eq_true, Bool.or_eq_false_iff, Bool.and_eq_false_iff, Bool.not_eq_true', Bool.not_eq_false', decide_eq_true_eq, decide_eq_false_iff_not] at h12
        have hc0 : C = 0 := by simpa using h12
        rw [if_pos hc0] at hE
        have hev := hev hc0
        have hevb := hevb hc0
        rw [hev] at hE
        have cw := with_con f (evR f.body) hv hh (by omega) hevb
        have hK : chkF ⟨f.vars, f.hats, evR f.body⟩ = (⟨gv, gh, gb⟩, ge) := hE.symm
        rw [hK] at cw
        have cag := agrees_con ⟨gv, gh, gb⟩ ge (fun h0 => by
            unfold chkF at hK
            split at hK
            · simp only [Prod.mk.injEq, Fl.mk.injEq] at hK
              obtain ⟨⟨e1, e2, e3⟩, e4⟩ := hK
              subst e1 e2 e3
              exact eqF_con _ hv hh (by simp only; omega) hevb
            · simp only [Prod.mk.injEq] at hK
              omega) (fun h0 => by
            unfold chkF at hK
            split at hK
            · simp only [Prod.mk.injEq] at hK
              exact absurd hK.2.symm h0
            · simp only [Prod.mk.injEq] at hK
              rw [← hK.1]
              rfl)
        simp only [aF, Fl.enc, List.map_cons, List.map_nil] at cw cag
        clear hE hK hev hevb hevn h12 ce cc
        refine HT_seq <| (HT_drunc [⟨false, .v (lS (evR f.body)), none⟩, ⟨false, .tup [.agg [.c (.sl 5 (encVs gv)), .c (.sl 6 (encHs gh)), .c (.sl 10 (encSs gb))], li ge], none⟩] (by kernel_rfl) (by kernel_rfl) (by rfl) (by simp [*]; first | exact ⟨rfl, Iff.rfl⟩ | exact ⟨rfl, trivial⟩ | rfl) ?_ ?_)
        · first | exact ⟨cev _, cw _⟩ | exact trivial | (repeat' first | exact trivial | exact cev _ | exact cw _ | apply And.intro)
        refine HT_seq <| (HT_runc [⟨true, .v (lb true), none⟩] (by simp [*]; first | exact ⟨rfl, Iff.rfl⟩ | exact ⟨rfl, trivial⟩ | rfl) ?_ ?_)
        · first | exact cag _ | exact trivial | simpa [*] using cag _
        exact (HT_retE (fun h => ⟨.inr rfl, h⟩) _ (by simp [*]; rfl) (by first | rfl | (simp [*]; done) | (simp only [resR]; (repeat' split) <;> first | rfl | (exfalso; omega) | simp_all)) (by simp))
end Go.Proofs.YtfilidjbpomgoaaGreat

namespace Go.Proofs.YtfilidjbpomgoaaGreat
open Go Go.Hl Go.RowKit Go.ChangeShapes Go.Proofs.YtfilidjbpomgoaaGreat

/-! ## the argument, read as a tree -/
theorem tiled : Tiled Tryz.prog := tiled_mk (by kernel_rfl)
theorem own : ownKnob Tryz.prog.godebug = none := by kernel_rfl
theorem laidOut : laidOutB Tryz.prog = true := by kernel_rfl
section
variable {P : Program} {k : Nat} {t : TypeId} {ds : List CD}
theorem shape_slK {α : Type} {enc : α → List CD} {e : TypeId} {c : Nat} (hu : P.underlying t = some (.slice e)) (hc : P.cellsOf e = c) (he : ∀ k', k' < k → ∀ r, Shape P k' e r → ∃ x, r = enc x) (h : Shape P k t ds) : ∃ xs : List α, ds = [.sl c (xs.map enc)] := by
  cases k with
  | zero => exact h.elim
  | succ k =>
    unfold Shape at h
    rw [hu] at h
    obtain ⟨rows, h1, _, h3⟩ := h
    obtain ⟨xs, hxs⟩ := rows_enc (enc := enc) fun r hr => he k (Nat.lt_succ_self k) r (h3 r hr).2
    subst hxs
    exact ⟨xs, by rw [h1, hc]⟩
theorem shape_structK {fs : Array Field} {l : List (Nat × Nat × TypeId)} {c : Nat} (hu : P.underlying t = some (.struct fs)) (hl : segsF P fs = l) (hc : P.cellsOf t = c) (h : Shape P k t ds) : ds.length = c ∧ ∃ k', k' < k ∧ ∀ x ∈ l, Shape P k' x.2.2 ((ds.drop x.1).take x.2.1) := by
  cases k with
  | zero => exact h.elim
  | succ k =>
    unfold Shape at h
    rw [hu] at h
    have h' : ds.length = P.cellsOf t ∧ ∀ x ∈ segsF P fs, Shape P k x.2.2 ((ds.drop x.1).take x.2.1) := h
    exact ⟨hc ▸ h'.1, k, Nat.lt_succ_self k, fun x hx => h'.2 x (hl ▸ hx)⟩
end
theorem dec_i {k : Nat} {t : TypeId} {ds : List CD} (hu : Tryz.prog.underlying t = some (.int .i64)) (h : Shape Tryz.prog k t ds) : ∃ n : Int, ds = [iC n] := by
  obtain ⟨n, h1, _⟩ := shape_int hu h
  exact ⟨n, h1⟩
theorem dec_s {k : Nat} {ds : List CD} (h : Shape Tryz.prog k 9 ds) : ∃ s : ByteArray, ds = [sC s] := by
  obtain ⟨s, h1, _⟩ := shape_str Tryz.underlying9 h
  exact ⟨s, h1⟩
theorem dec_I {k : Nat} {ds : List CD} (h : Shape Tryz.prog k 39 ds) : ∃ l : List Int, ds = [.sl 1 (encIs l)] :=
  shape_slK (enc := fun x => [iC x]) Tryz.underlying39 (by kernel_rfl : Tryz.prog.cellsOf 3 = 1) (fun _ _ _ hr => dec_i Tryz.underlying3 hr) h
theorem dec_T : ∀ (k : Nat) (ds : List CD), Shape Tryz.prog k 54 ds → ∃ t : Tm, ds = t.enc := by
  intro k
  induction k using Nat.strongRecOn with
  | ind k ih =>
    intro ds h
    obtain ⟨hl, k1, hk1, hx⟩ := shape_structK (l := [(0, 1, 51), (1, 1, 3), (2, 1, 52)]) Tryz.underlying54 (by kernel_rfl) (by kernel_rfl : Tryz.prog.cellsOf 54 = 3) h
    match ds, hl with
    | [a, b, c], _ =>
      obtain ⟨n1, h1⟩ := dec_i Tryz.underlying51 (hx (0, 1, 51) (by simp))
      obtain ⟨n2, h2⟩ := dec_i Tryz.underlying3 (hx (1, 1, 3) (by simp))
      obtain ⟨ks, h3⟩ := shape_slK (enc := Tm.enc) Tryz.underlying52 (by kernel_rfl : Tryz.prog.cellsOf 54 = 3) (fun k' hk' r hr => ih k' (by omega) r hr) (hx (2, 1, 52) (by simp))
      simp only [List.drop, List.take, List.cons.injEq, and_true] at h1 h2 h3
      subst h1 h2 h3
      exact ⟨.mk n1 n2 ks, by simp only [Tm.enc, encTs_map]⟩
theorem dec_S : ∀ (k : Nat) (ds : List CD), Shape Tryz.prog k 56 ds → ∃ s : St, ds = s.enc := by
  intro k
  induction k using Nat.strongRecOn with
  | ind k ih =>
    intro ds h
    obtain ⟨hl, k1, hk1, hx⟩ := shape_structK (l := [(0, 1, 50), (1, 1, 3), (2, 1, 3), (3, 1, 3), (4, 3, 54), (7, 1, 24), (8, 1, 24), (9, 1, 39)]) Tryz.underlying56 (by kernel_rfl) (by kernel_rfl : Tryz.prog.cellsOf 56 = 10) h
    match ds, hl with
    | [a0, a1, a2, a3, a4, a5, a6, a7, a8, a9], _ =>
      obtain ⟨n0, h0⟩ := dec_i Tryz.underlying50 (hx (0, 1, 50) (by simp))
      obtain ⟨n1, h1⟩ := dec_i Tryz.underlying3 (hx (1, 1, 3) (by simp))
      obtain ⟨n2, h2⟩ := dec_i Tryz.underlying3 (hx (2, 1, 3) (by simp))
      obtain ⟨n3, h3⟩ := dec_i Tryz.underlying3 (hx (3, 1, 3) (by simp))
      obtain ⟨t, h4⟩ := dec_T _ _ (hx (4, 3, 54) (by simp))
      obtain ⟨la, h7⟩ := shape_slK (enc := St.enc) Tryz.underlying24 (by kernel_rfl : Tryz.prog.cellsOf 56 = 10) (fun k' hk' r hr => ih k' (by omega) r hr) (hx (7, 1, 24) (by simp))
      obtain ⟨lb', h8⟩ := shape_slK (enc := St.enc) Tryz.underlying24 (by kernel_rfl : Tryz.prog.cellsOf 56 = 10) (fun k' hk' r hr => ih k' (by omega) r hr) (hx (8, 1, 24) (by simp))
      obtain ⟨lc, h9⟩ := dec_I (hx (9, 1, 39) (by simp))
      simp only [List.drop, List.take, List.cons.injEq, and_true] at h0 h1 h2 h3 h4 h7 h8 h9
      subst h0 h1 h2 h3 h7 h8 h9
      refine ⟨.mk n0 n1 n2 n3 t la lb' lc, ?_⟩
      simp only [St.enc, encSs_map, ← h4, List.cons_append, List.nil_append]
theorem dec_V {k : Nat} {ds : List CD} (h : Shape Tryz.prog k 65 ds) : ∃ v : Vr, ds = v.enc := by
  obtain ⟨hl, k1, _, hx⟩ := shape_structK (l := [(0, 1, 9), (1, 1, 63), (2, 1, 3), (3, 1, 3), (4, 1, 3)]) Tryz.underlying65 (by kernel_rfl) (by kernel_rfl : Tryz.prog.cellsOf 65 = 5) h
  match ds, hl with
  | [a0, a1, a2, a3, a4], _ =>
    obtain ⟨n0, h0⟩ := dec_s (hx (0, 1, 9) (by simp))
    obtain ⟨n1, h1⟩ := dec_i Tryz.underlying63 (hx (1, 1, 63) (by simp))
    obtain ⟨n2, h2⟩ := dec_i Tryz.underlying3 (hx (2, 1, 3) (by simp))
    obtain ⟨n3, h3⟩ := dec_i Tryz.underlying3 (hx (3, 1, 3) (by simp))
    obtain ⟨n4, h4⟩ := dec_i Tryz.underlying3 (hx (4, 1, 3) (by simp))
    simp only [List.drop, List.take, List.cons.injEq, and_true] at h0 h1 h2 h3 h4
    subst h0 h1 h2 h3 h4
    exact ⟨⟨n0, n1, n2, n3, n4⟩, rfl⟩
theorem dec_H {k : Nat} {ds : List CD} (h : Shape Tryz.prog k 68 ds) : ∃ v : Ht, ds = v.enc := by
  obtain ⟨hl, k1, _, hx⟩ := shape_structK (l := [(0, 1, 9), (1, 1, 3), (2, 1, 3), (3, 3, 54)]) Tryz.underlying68 (by kernel_rfl) (by kernel_rfl : Tryz.prog.cellsOf 68 = 6) h
  match ds, hl with
  | [a0, a1, a2, a3, a4, a5], _ =>
    obtain ⟨n0, h0⟩ := dec_s (hx (0, 1, 9) (by simp))
    obtain ⟨n1, h1⟩ := dec_i Tryz.underlying3 (hx (1, 1, 3) (by simp))
    obtain ⟨n2, h2⟩ := dec_i Tryz.underlying3 (hx (2, 1, 3) (by simp))
    obtain ⟨t, h3⟩ := dec_T _ _ (hx (3, 3, 54) (by simp))
    simp only [List.drop, List.take, List.cons.injEq, and_true] at h0 h1 h2 h3
    subst h0 h1 h2
    exact ⟨⟨n0, n1, n2, t⟩, by simp only [Ht.enc, ← h3, List.cons_append, List.nil_append]⟩
theorem dec_F {k : Nat} {ds : List CD} (h : Shape Tryz.prog k 26 ds) : ∃ f : Fl, ds = f.enc := by
  obtain ⟨hl, k1, _, hx⟩ := shape_structK (l := [(0, 1, 22), (1, 1, 23), (2, 1, 24)]) Tryz.underlying26 (by kernel_rfl) (by kernel_rfl : Tryz.prog.cellsOf 26 = 3) h
  match ds, hl with
  | [a0, a1, a2], _ =>
    obtain ⟨lv, h0⟩ := shape_slK (enc := Vr.enc) Tryz.underlying22 (by kernel_rfl : Tryz.prog.cellsOf 65 = 5) (fun _ _ _ hr => dec_V hr) (hx (0, 1, 22) (by simp))
    obtain ⟨lh, h1⟩ := shape_slK (enc := Ht.enc) Tryz.underlying23 (by kernel_rfl : Tryz.prog.cellsOf 68 = 6) (fun _ _ _ hr => dec_H hr) (hx (1, 1, 23) (by simp))
    obtain ⟨ls, h2⟩ := shape_slK (enc := St.enc) Tryz.underlying24 (by kernel_rfl : Tryz.prog.cellsOf 56 = 10) (fun k' _ r hr => dec_S k' r hr) (hx (2, 1, 24) (by simp))
    simp only [List.drop, List.take, List.cons.injEq, and_true] at h0 h1 h2
    subst h0 h1 h2
    exact ⟨⟨lv, lh, ls⟩, by simp only [Fl.enc, encVs, encHs, encSs_map]⟩
theorem agg26 : aggT Tryz.prog 26 = true := by unfold aggT; rw [Tryz.underlying26]
end Go.Proofs.YtfilidjbpomgoaaGreat
