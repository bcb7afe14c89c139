/- T7: contracts of functions of the program and of the reference, and plain facts about what they compute; used by the proof of the claimed statement. Conditions: as each theorem states. -/
import Derived.Test.YtfilidjbpomgoaaGreatT5
import Derived.Test.YtfilidjbpomgoaaGreatT3
import Derived.Test.YtfilidjbpomgoaaGreatT6
set_option linter.unusedSimpArgs false
set_option linter.unusedVariables false
set_option maxRecDepth 100000
set_option maxHeartbeats 2000000
namespace Go.Proofs.YtfilidjbpomgoaaGreat
open Go Go.Hl

/-! ## the check of steps -/
def stC (vars : List Vr) (nh : Nat) (d c v n : Int) (t : Tm) (la lc : Nat) (bs : List Int) (last : Bool) : Int :=
  if shB vars nh d v n t la lc bs last = false then 1 else if numB d c n bs = false then 3 else termC vars false t
def ssC (vars : List Vr) (nh : Nat) : List St → Bool → Int
  | [], _ => 0
  | .mk d c v n t a b bs :: l, top =>
    if stC vars nh d c v n t a.length b.length bs (top && l.isEmpty) = 0 then
      (if ssC vars nh a false = 0 then (if ssC vars nh b false = 0 then ssC vars nh l top else ssC vars nh b false) else ssC vars nh a false)
    else stC vars nh d c v n t a.length b.length bs (top && l.isEmpty)
mutual
def bndS : St → Bool
  | .mk _ _ _ _ _ a b bs => decide (bs.length ≤ 1000000000) && (bndL a && bndL b)
def bndL : List St → Bool
  | [] => true
  | s :: l => bndS s && bndL l
end
theorem bndL_mem {l : List St} (h : bndL l = true) {s : St} (hs : s ∈ l) : bndS s = true := by
  induction l with
  | nil => cases hs
  | cons x l ih =>
    simp only [bndL, Bool.and_eq_true] at h
    rcases List.mem_cons.1 hs with rfl | h1
    · exact h.1
    · exact ih h.2 h1
theorem sh_bounds {vars : List Vr} {nh : Nat} {d v n : Int} {t : Tm} {la lc : Nat} {bs : List Int} {last : Bool} (h : shB vars nh d v n t la lc bs last = true) : (d = 6 → bs ≠ []) ∧ (d ≠ 6 → bs = []) ∧ (n < 0 → d = 4) := by
  have hr : riseB bs = true → 1 ≤ bs.length := by
    intro h
    unfold riseB at h
    simp only [Bool.and_eq_true, decide_eq_true_eq] at h
    omega
  have hb : bs ≠ [] ↔ 1 ≤ bs.length := by cases bs <;> simp
  have hb2 : bs = [] ↔ bs.length = 0 := by cases bs <;> simp
  rw [hb, hb2]
  unfold shB at h
  generalize riseB bs = R at *
  generalize bs.length = nb at *
  (repeat' split at h) <;> (try simp only [Bool.and_eq_true, decide_eq_true_eq] at h) <;> (try have := hr h.2) <;> (try cases h) <;> refine ⟨fun h => ?_, fun h => ?_, fun h => ?_⟩ <;> omega
theorem drop_last {l : List St} {k : Nat} (h : k + 1 ≤ l.length) : (l.drop (k + 1)).isEmpty = decide ((k : Int) = (l.length : Int) - 1) := by
  rw [Bool.eq_iff_iff, List.isEmpty_iff, List.drop_eq_nil_iff, decide_eq_true_eq]
  omega
def fnz (vars : List Vr) (nh : Nat) : List (List St) → Int
  | [] => 0
  | x :: r => if ssC vars nh x false = 0 then fnz vars nh r else ssC vars nh x false

theorem stepsP_con (f : Fl) (hv : goodV f.vars) (hl : f.vars.length ≤ 1000000) (l : List St) : nodesS l ≤ 1000000000 → bndL l = true → ∀ (top : Bool) (d : Nat),
    Con Tryz.prog 55 true [aF f, lS l, lb top] (.v (li (ssC f.vars f.hats.length l top))) none d := by
  revert l
  apply St.lists
  intro l ih hn hbn top d
  have hlen := len_nodesS l
  obtain ⟨res, hres⟩ : ∃ r, ssC f.vars f.hats.length l top = r := ⟨_, rfl⟩
  rw [hres]
  have csh := fun s last hb => shapedP_con f s last (by omega) hb
  obtain ⟨vars, hats, body⟩ := f
  simp only at hv hl hres ih csh
  refine con_of_HT Tryz.func55 rfl (by kernel_rfl) (Nat.le_of_ble_eq_true rfl) ?_
  simp only [Tryz.f55]
  simp only [aF, Fl.enc, List.map_cons, List.map_nil]
  refine HT_seq <| (HT_run (by simp [*]; rfl) ?_)
  refine HT_seq <| HT_seq <| (HT_run (by simp [*]; rfl) ?_)
  refine HT_block <| (HT_loopU [1, 2, 3, 13, 14] (fun (x : Nat) => [(15, .v (li x))]) (fun (x : Nat) => [(3, .box [.c (.sl 5 (encVs vars)), .c (.sl 6 (encHs hats)), .c (.sl 10 (encSs body))])]) (fun (x : Nat) => x ≤ l.length ∧ ssC vars hats.length (l.drop x) top = res) (fun (x : Nat) => l.length - x) (0 : Nat) ⟨Nat.zero_le _, hres⟩ ?_ ?_)
  · exact le_mk (fun n => n) [] rfl (by simp [*, upS, keepS]) (by simp [*, upS]) (by simp [upS])
  rintro k ⟨hk, hJ⟩
  simp only [upS, keepS, insS]
  try simp only [keepS, List.contains_cons, List.contains_nil, Bool.or_false, Bool.or_true, Bool.true_or, Bool.false_or, Nat.reduceBEq, BEq.rfl, beq_self_eq_true, if_true, if_false, Bool.false_eq_true, ite_true, ite_false, ins, Nat.reduceLT]
  clear hres
  refine HT_seq <| (HT_run (by simp [*]; rfl) ?_)
  refine HT_seq <| (HT_cond rfl (fun h4 => HT_skip ?_) (fun h4 => ?_))
  · try simp only [Bool.or_eq_true, Bool.and_eq_true, Bool.or_eq_false_iff, Bool.and_eq_false_iff, Bool.not_eq_true', Bool.not_eq_false', decide_eq_true_eq, decide_eq_false_iff_not] at h4
    have hlt : k < l.length := by omega
    obtain ⟨s, he, hd⟩ := at_lt hlt
    have hmem : s ∈ l := List.mem_of_getElem? he
    have hnm := nodesS_mem hmem
    have hbm := bndL_mem hbn hmem
    have iha := fun h h2 => (ih s hmem).1 h h2
    have ihb := fun h h2 => (ih s hmem).2 h h2
    have hw1 := wrap1 hlt (by omega)
    have hw2 : IntKind.i64.wrap ((l.length : Int) - 1) = (l.length : Int) - 1 := wrap_in (by omega) (by omega)
    have hk1 : k + 1 ≤ l.length := hlt
    have hla := drop_last hk1
    rw [hd] at hJ
    have ct := termP_con vars false hv (by omega) s.term
    have csh1 := csh s (top && decide ((k : Int) = (l.length : Int) - 1))
    have cnu := numP_con s
    obtain ⟨sd, sc, sv, sn, ⟨so, stn, sks⟩, sa, sb, sbs⟩ := s
    simp only [St.then_, St.else_, St.term, St.bounds, St.do_, St.var, St.n, St.cost] at iha ihb hnm ct csh1 cnu
    simp only [bndS, Bool.and_eq_true, decide_eq_true_eq] at hbm
    simp only [ssC, hla] at hJ
    have ca := iha (by omega) hbm.2.1
    have cb := ihb (by omega) hbm.2.2
    have ct := ct (by omega)
    have csh1 := csh1 hbm.1
    have cnu := cnu hbm.1
    have he' := get_encS he
    simp only [St.enc, Tm.enc, List.cons_append, List.nil_append] at he'
    simp only [aF, Fl.enc, aS, St.enc, Tm.enc, List.map_cons, List.map_nil, List.cons_append, List.nil_append] at csh1 ca cb cnu
    have hshb := @sh_bounds vars hats.length sd sv sn (.mk so stn sks) sa.length sb.length sbs (top && decide ((k : Int) = (l.length : Int) - 1))
    obtain ⟨SH, hSH⟩ : ∃ x, shB vars hats.length sd sv sn (.mk so stn sks) sa.length sb.length sbs (top && decide ((k : Int) = (l.length : Int) - 1)) = x := ⟨_, rfl⟩
    obtain ⟨NU, hNU⟩ : ∃ x, numB sd sc sn sbs = x := ⟨_, rfl⟩
    obtain ⟨TC, hTC⟩ : ∃ x, termC vars false (.mk so stn sks) = x := ⟨_, rfl⟩
    obtain ⟨SC, hSC⟩ : ∃ x, stC vars hats.length sd sc sv sn (.mk so stn sks) sa.length sb.length sbs (top && decide ((k : Int) = (l.length : Int) - 1)) = x := ⟨_, rfl⟩
    rw [hSC] at hJ
    unfold stC at hSC
    rw [hSH] at csh1 hshb hSC
    rw [hNU] at cnu hSC
    rw [hTC] at ct hSC
    have hlc2 : ∀ x ∈ [sa, sb], ∀ d, Con Tryz.prog 55 true [.agg [.c (.sl 5 (encVs vars)), .c (.sl 6 (encHs hats)), .c (.sl 10 (encSs body))], lS x, lb false] (.v (li (ssC vars hats.length x false))) none d := by
      intro x hx
      simp only [List.mem_cons, List.not_mem_nil, or_false] at hx
      rcases hx with rfl | rfl
      · exact ca false
      · exact cb false
    have hfn : (if ssC vars hats.length sa false = 0 then (if ssC vars hats.length sb false = 0 then ssC vars hats.length (l.drop (k + 1)) top else ssC vars hats.length sb false) else ssC vars hats.length sa false) = (if fnz vars hats.length [sa, sb] = 0 then ssC vars hats.length (l.drop (k + 1)) top else fnz vars hats.length [sa, sb]) := by
      simp only [fnz]
      by_cases h1 : ssC vars hats.length sa false = 0 <;> by_cases h2 : ssC vars hats.length sb false = 0 <;> simp [h1, h2]
    rw [hfn] at hJ
    obtain ⟨LL, hLL⟩ : ∃ x, x = [sa, sb] := ⟨_, rfl⟩
    rw [← hLL] at hJ hlc2
    obtain ⟨FN, hFN⟩ : ∃ x, fnz vars hats.length LL = x := ⟨_, rfl⟩
    rw [hFN] at hJ
    have hrows : LL.map (fun x => [CD.sl 10 (encSs x)]) = [[.sl 10 (encSs sa)], [.sl 10 (encSs sb)]] := by rw [hLL]; rfl
    have hL2 : LL.length = 2 := by rw [hLL]; rfl
    clear hlt h4 iha ihb ih hmem hnm hd he hbm hSH hNU hTC ca cb hfn hLL csh hla
    refine HT_seq <| HT_block <| HT_seq <| (HT_run (by simp [*]; rfl) ?_)
    refine HT_seq <| HT_seq <| (HT_runc [⟨true, .v (lb SH), none⟩] (by simp [*]; first | exact ⟨rfl, Iff.rfl⟩ | exact ⟨rfl, trivial⟩ | rfl) ?_ ?_)
    · first | exact csh1 _ | exact trivial | simpa [*] using csh1 _
    refine (HT_cond rfl (fun h7 => ?_) (fun h7 => HT_skip ?_))
    · try simp only [Bool.or_eq_true, Bool.and_eq_true, Bool.or_eq_false_iff, Bool.and_eq_false_iff, Bool.not_eq_true', Bool.not_eq_false', decide_eq_true_eq, decide_eq_false_iff_not] at h7
      rw [if_pos h7] at hSC
      subst hSC
      rw [if_neg (by decide)] at hJ
      subst hJ
      refine HT_seq <| (HT_run (by simp [*]; rfl) ?_)
      exact (HT_retE (fun h => ⟨.inr rfl, h⟩) _ (by simp [*]; rfl) (by first | rfl | (simp [*]; done) | (simp only [resR]; (repeat' split) <;> first | rfl | (exfalso; omega) | simp_all)) (by simp))
    · try simp only [Bool.or_eq_true, Bool.and_eq_true, Bool.or_eq_false_iff, Bool.and_eq_false_iff, Bool.not_eq_true', Bool.not_eq_false', decide_eq_true_eq, decide_eq_false_iff_not] at h7
      rw [if_neg (by simp [h7])] at hSC
      have hsb := hshb h7
      have cnu2 := cnu hsb.1 hsb.2.1
      clear cnu hshb csh1
      refine HT_seq <| HT_seq <| (HT_runc [⟨true, .v (lb NU), none⟩] (by simp [*]; first | exact ⟨rfl, Iff.rfl⟩ | exact ⟨rfl, trivial⟩ | rfl) ?_ ?_)
      · first | exact cnu2 _ | exact trivial | simpa [*] using cnu2 _
      refine (HT_cond rfl (fun h11 => ?_) (fun h11 => HT_skip ?_))
      · try simp only [Bool.or_eq_true, Bool.and_eq_true, Bool.or_eq_false_iff, Bool.and_eq_false_iff, Bool.not_eq_true', Bool.not_eq_false', decide_eq_true_eq, decide_eq_false_iff_not] at h11
        rw [if_pos h11] at hSC
        subst hSC
        rw [if_neg (by decide)] at hJ
        subst hJ
        refine HT_seq <| (HT_run (by simp [*]; rfl) ?_)
        exact (HT_retE (fun h => ⟨.inr rfl, h⟩) _ (by simp [*]; rfl) (by first | rfl | (simp [*]; done) | (simp only [resR]; (repeat' split) <;> first | rfl | (exfalso; omega) | simp_all)) (by simp))
      · try simp only [Bool.or_eq_true, Bool.and_eq_true, Bool.or_eq_false_iff, Bool.and_eq_false_iff, Bool.not_eq_true', Bool.not_eq_false', decide_eq_true_eq, decide_eq_false_iff_not] at h11
        rw [if_neg (by simp [h11])] at hSC
        subst hSC
        clear cnu2 hsb
        refine HT_seq <| HT_seq <| (HT_runc [⟨true, .v (li TC), none⟩] (by simp [*]; first | exact ⟨rfl, Iff.rfl⟩ | exact ⟨rfl, trivial⟩ | rfl) ?_ ?_)
        · first | exact ct _ | exact trivial | simpa [*] using ct _
        refine HT_seq <| (HT_run (by simp [*]; rfl) ?_)
        refine (HT_cond rfl (fun h16 => ?_) (fun h16 => HT_skip ?_))
        · try simp only [Bool.or_eq_true, Bool.and_eq_true, Bool.or_eq_false_iff, Bool.and_eq_false_iff, Bool.not_eq_true', Bool.not_eq_false', decide_eq_true_eq, decide_eq_false_iff_not] at h16
          rw [if_neg h16] at hJ
          subst hJ
          refine HT_seq <| (HT_run (by simp [*]; rfl) ?_)
          exact (HT_retE (fun h => ⟨.inr rfl, h⟩) _ (by simp [*]; rfl) (by first | rfl | (simp [*]; done) | (simp only [resR]; (repeat' split) <;> first | rfl | (exfalso; omega) | simp_all)) (by simp))
        · try simp only [Bool.or_eq_true, Bool.and_eq_true, Bool.or_eq_false_iff, Bool.and_eq_false_iff, Bool.not_eq_true', Bool.not_eq_false', decide_eq_true_eq, decide_eq_false_iff_not] at h16
          rw [if_pos (by simpa using h16)] at hJ
          clear ct
          refine HT_seq <| (HT_run (by simp [*]; rfl) ?_)
          refine HT_block <| (HT_loopU [1, 2, 3, 13, 14, 15, 47, 48] (fun (x : Nat) => [(49, .v (li x))]) (fun (x : Nat) => [(3, .box [.c (.sl 5 (encVs vars)), .c (.sl 6 (encHs hats)), .c (.sl 10 (encSs body))]), (47, .row 24 1 (LL.map fun x => [CD.sl 10 (encSs x)]))]) (fun (x : Nat) => x ≤ 2 ∧ fnz vars hats.length (LL.drop x) = FN) (fun (x : Nat) => 2 - x) (0 : Nat) ⟨Nat.zero_le _, hFN⟩ ?_ ?_)
          · exact le_mk (fun n => n) [] rfl (by simp [*, upS, keepS]) (by simp [*, upS]) (by simp [upS])
          rintro q ⟨hq, hJ2⟩
          simp only [upS, keepS, insS]
          try simp only [keepS, List.contains_cons, List.contains_nil, Bool.or_false, Bool.or_true, Bool.true_or, Bool.false_or, Nat.reduceBEq, BEq.rfl, beq_self_eq_true, if_true, if_false, Bool.false_eq_true, ite_true, ite_false, ins, Nat.reduceLT]
          clear hFN hrows
          refine HT_seq <| (HT_run (by simp [*]; rfl) ?_)
          refine HT_seq <| (HT_cond rfl (fun h22 => HT_skip ?_) (fun h22 => ?_))
          · try simp only [Bool.or_eq_true, Bool.and_eq_true, Bool.or_eq_false_iff, Bool.and_eq_false_iff, Bool.not_eq_true', Bool.not_eq_false', decide_eq_true_eq, decide_eq_false_iff_not] at h22
            have hlt2 : q < LL.length := by omega
            obtain ⟨y, hy, hdy⟩ := at_lt hlt2
            have hwq := wrap1 hlt2 (by omega)
            have hq1 : q + 1 ≤ 2 := by omega
            have cy := hlc2 y (List.mem_of_getElem? hy)
            rw [hdy] at hJ2
            simp only [fnz] at hJ2
            generalize ssC vars hats.length y false = SY at *
            clear hlt2 h22 hdy hlc2
            refine HT_seq <| HT_block <| HT_seq <| (HT_run (by simp [*]; rfl) ?_)
            refine HT_seq <| (HT_runc [⟨true, .v (li SY), none⟩] (by simp [*]; first | exact ⟨rfl, Iff.rfl⟩ | exact ⟨rfl, trivial⟩ | rfl) ?_ ?_)
            · first | exact cy _ | exact trivial | simpa [*] using cy _
            refine HT_seq <| (HT_run (by simp [*]; rfl) ?_)
            refine (HT_cond rfl (fun h26 => ?_) (fun h26 => HT_skip ?_))
            · try simp only [Bool.or_eq_true, Bool.and_eq_true, Bool.or_eq_false_iff, Bool.and_eq_false_iff, Bool.not_eq_true', Bool.not_eq_false', decide_eq_true_eq, decide_eq_false_iff_not] at h26
              rw [if_neg h26] at hJ2
              subst hJ2
              rw [if_neg h26] at hJ
              subst hJ
              refine HT_seq <| (HT_run (by simp [*]; rfl) ?_)
              exact (HT_retE (fun h => ⟨.inr rfl, h⟩) _ (by simp [*]; rfl) (by first | rfl | (simp [*]; done) | (simp only [resR]; (repeat' split) <;> first | rfl | (exfalso; omega) | simp_all)) (by simp))
            · try simp only [Bool.or_eq_true, Bool.and_eq_true, Bool.or_eq_false_iff, Bool.and_eq_false_iff, Bool.not_eq_true', Bool.not_eq_false', decide_eq_true_eq, decide_eq_false_iff_not] at h26
              rw [if_pos (by simpa using h26)] at hJ2
              refine (HT_run (by simp [*]; rfl) ?_)
              exact ⟨q + 1, ⟨hq1, hJ2⟩, by omega, le_mk (fun n => n) [] rfl (by simp [upS, keepS, *]) (by simp [*, upS]) (by simp [upS])⟩
          · try simp only [Bool.or_eq_true, Bool.and_eq_true, Bool.or_eq_false_iff, Bool.and_eq_false_iff, Bool.not_eq_true', Bool.not_eq_false', decide_eq_true_eq, decide_eq_false_iff_not] at h22
            have hq2 : q = LL.length := by omega
            rw [hq2, List.drop_length] at hJ2
            simp only [fnz] at hJ2
            rw [if_pos hJ2.symm] at hJ
            refine (HT_exit ?_)
            refine (HT_run (by simp [*]; rfl) ?_)
            exact ⟨k + 1, ⟨hk1, hJ⟩, by omega, le_mk (fun n => n) [] rfl (by simp [upS, keepS, *]) (by simp [*, upS]) (by simp [upS])⟩
  · try simp only [Bool.or_eq_true, Bool.and_eq_true, Bool.or_eq_false_iff, Bool.and_eq_false_iff, Bool.not_eq_true', Bool.not_eq_false', decide_eq_true_eq, decide_eq_false_iff_not] at h4
    have hkl : k = l.length := by omega
    rw [hkl, List.drop_length] at hJ
    simp only [ssC] at hJ
    subst hJ
    refine (HT_exit ?_)
    refine HT_seq <| (HT_run (by simp [*]; rfl) ?_)
    exact (HT_retE (fun h => ⟨.inr rfl, h⟩) _ (by simp [*]; rfl) (by first | rfl | (simp [*]; done) | (simp only [resR]; (repeat' split) <;> first | rfl | (exfalso; omega) | simp_all)) (by simp))
end Go.Proofs.YtfilidjbpomgoaaGreat

namespace Go.Proofs.YtfilidjbpomgoaaGreat
open Go Go.Hl

theorem steps_con (l : List St) : nodesS l ≤ 1000000 → bndL l = true → ∀ d : Nat, Con Tryz.prog 60 false [lS l] (.v (lS l)) none d := by
  revert l
  apply St.lists
  intro l ih hn hbn d
  have hlen := len_nodesS l
  refine con_of_HT Tryz.func60 rfl (by kernel_rfl) (Nat.le_of_ble_eq_true rfl) ?_
  simp only [Tryz.f60]
  refine HT_seq <| (HT_run (by simp [*]; rfl) ?_)
  refine HT_seq <| (HT_run (by simp [*]; rfl) ?_)
  refine HT_seq <| HT_seq <| (HT_run (by simp [*]; rfl) ?_)
  refine HT_block <| (HT_loopU [6, 7] (fun (x : Nat) => [(3, .v (.one (.own 1003))), (8, .v (li x))]) (fun (x : Nat) => [(1003, .row 56 10 (encSs (l.take x)))]) (fun (x : Nat) => x ≤ l.length) (fun (x : Nat) => l.length - x) (0 : Nat) (Nat.zero_le _) ?_ ?_)
  · exact le_mk (fun n => n) [1003] rfl (by simp [*, upS, keepS]) (by simp [*, upS]) (by simp [upS])
  rintro k hk
  simp only [upS, keepS, insS]
  try simp only [keepS, List.contains_cons, List.contains_nil, Bool.or_false, Bool.or_true, Bool.true_or, Bool.false_or, Nat.reduceBEq, BEq.rfl, beq_self_eq_true, if_true, if_false, Bool.false_eq_true, ite_true, ite_false, ins, Nat.reduceLT]
  refine HT_seq <| (HT_run (by simp [*]; rfl) ?_)
  refine HT_seq <| (HT_cond rfl (fun h5 => HT_skip ?_) (fun h5 => ?_))
  · try simp only [Bool.or_eq_true, Bool.and_eq_true, Bool.or_eq_false_iff, Bool.and_eq_false_iff, Bool.not_eq_true', Bool.not_eq_false', decide_eq_true_eq, decide_eq_false_iff_not] at h5
    have hlt : k < l.length := by omega
    obtain ⟨s, he, hd⟩ := at_lt hlt
    have hw1 := wrap1 hlt (by omega)
    have hk1 : k + 1 ≤ l.length := hlt
    have hmem : s ∈ l := List.mem_of_getElem? he
    have hnm := nodesS_mem hmem
    have hbm := bndL_mem hbn hmem
    have ca := (ih s hmem).1 (by omega)
    have cb := (ih s hmem).2 (by omega)
    have ct := term_con s.term (by omega)
    have cc := cloneI_con s.bounds
    have htl : (l.take k).length = k := by rw [List.length_take]; omega
    have hroom : room (k + 1) 144 := room_of (by omega) (by omega)
    have hsn : encSs (l.take (k + 1)) = encSs (l.take k) ++ [s.enc] := by
      rw [encSs_map, encSs_map, List.take_add_one, he, Option.toList_some, List.map_append]
      rfl
    have he' := get_encS he
    obtain ⟨sd, sc, sv, sn, ⟨so, stn, sks⟩, sa, sb, sbs⟩ := s
    simp only [St.then_, St.else_, St.term, St.bounds] at ca cb ct cc
    simp only [bndS, Bool.and_eq_true, decide_eq_true_eq] at hbm
    have ca := ca hbm.2.1
    have cb := cb hbm.2.2
    have cc := cc hbm.1
    simp only [St.enc, Tm.enc, List.cons_append, List.nil_append] at he' hsn
    simp only [aT, Tm.enc, List.map_cons, List.map_nil] at ct
    clear hlt h5 ih hmem hnm he hd hbm
    refine HT_seq <| HT_block <| HT_seq <| (HT_run (by simp [*]; rfl) ?_)
    refine HT_seq <| (HT_runc [⟨false, .v (aT (.mk so stn sks)), none⟩] (by simp [*]; first | exact ⟨rfl, Iff.rfl⟩ | exact ⟨rfl, trivial⟩ | rfl) ?_ ?_)
    · first | exact ct _ | exact trivial | simpa [*] using ct _
    refine HT_seq <| (HT_drunc [⟨false, .v (lS sa), none⟩, ⟨false, .v (lS sb), none⟩] (by kernel_rfl) (by kernel_rfl) (by rfl) (by simp [*]; first | exact ⟨rfl, Iff.rfl⟩ | exact ⟨rfl, trivial⟩ | rfl) ?_ ?_)
    · first | exact ⟨ca _, cb _⟩ | exact trivial | (repeat' first | exact trivial | exact ca _ | exact cb _ | apply And.intro)
    refine HT_seq <| (HT_runc [⟨false, .v (lI sbs), none⟩] (by simp [*]; first | exact ⟨rfl, Iff.rfl⟩ | exact ⟨rfl, trivial⟩ | rfl) ?_ ?_)
    · first | exact cc _ | exact trivial | simpa [*] using cc _
    refine (HT_run (by simp [*]; rfl) ?_)
    refine (HT_run (by simp [*]; rfl) ?_)
    exact ⟨k + 1, hk1, by omega, le_mk (fun n => if n = 1003 then 31 else n) [] rfl (by simp [upS, keepS, *]) (by simp [*, upS]) (by simp [upS])⟩
  · try simp only [Bool.or_eq_true, Bool.and_eq_true, Bool.or_eq_false_iff, Bool.and_eq_false_iff, Bool.not_eq_true', Bool.not_eq_false', decide_eq_true_eq, decide_eq_false_iff_not] at h5
    have hkl : k = l.length := by omega
    subst hkl
    simp only [List.take_length]
    refine (HT_exit ?_)
    refine HT_seq <| (HT_run (by simp [*]; rfl) ?_)
    exact HT_ret ⟨.inr rfl, _, le_frz 1003 rfl, ⟨⟨_, by simp; rfl, by simp [resR]⟩, by simp, fun h => by cases h⟩⟩
end Go.Proofs.YtfilidjbpomgoaaGreat

namespace Go.Proofs.YtfilidjbpomgoaaGreat
open Go Go.Hl

attribute [simp] Ob.flat
theorem copied_con (f : Fl) (hv : f.vars.length ≤ 1000000) (hh : f.hats.length ≤ 1000000) (ht : ∀ h ∈ f.hats, h.term.nodes ≤ 1000000) (hb : nodesS f.body ≤ 1000000) (hbn : bndL f.body = true) (d : Nat) :
    Con Tryz.prog 28 false [aF f] (.v (aF f)) none d := by
  obtain ⟨vars, hats, body⟩ := f
  simp only at hv hh ht hb hbn
  have cv := cloneV_con vars hv
  have chh := cloneH_con hats hh
  have cb := steps_con body hb hbn
  refine con_of_HT Tryz.func28 rfl (by kernel_rfl) (Nat.le_of_ble_eq_true rfl) ?_
  simp only [Tryz.f28]
  simp only [aF, Fl.enc, List.map_cons, List.map_nil]
  refine HT_seq <| (HT_run (by simp [*]; rfl) ?_)
  refine HT_seq <| (HT_runc [⟨false, .v (lV vars), none⟩] (by simp [*]; first | exact ⟨rfl, Iff.rfl⟩ | exact ⟨rfl, trivial⟩ | rfl) ?_ ?_)
  · first | exact cv _ | exact trivial | simpa [*] using cv _
  refine HT_seq <| (HT_runc [⟨false, .v (.one (.own 10)), some (.row 68 6 (encHs hats))⟩] (by simp [*]; first | exact ⟨rfl, Iff.rfl⟩ | exact ⟨rfl, trivial⟩ | rfl) ?_ ?_)
  · first | exact chh 10 (by decide) | exact trivial | simpa [*] using chh 10 (by decide)
  refine HT_seq <| HT_seq <| (HT_run (by simp [*]; rfl) ?_)
  refine HT_block <| (HT_loopU [1, 2, 14] (fun (x : Nat) => [(15, .v (li x))]) (fun (x : Nat) => [(1, .box [.c (.sl 5 (encVs vars)), .own 10, .c (.sl 10 (encSs body))]), (2, .box [.c (.lit nilS), .c (.lit nilS), .c (.lit nilS)]), (10, .row 68 6 (encHs hats))]) (fun (x : Nat) => x ≤ hats.length) (fun (x : Nat) => hats.length - x) (0 : Nat) (Nat.zero_le _) ?_ ?_)
  · exact le_mk (fun n => n) [] rfl (by simp [*, upS, keepS]) (by simp [*, upS]) (by simp [upS])
  rintro k hk
  simp only [upS, keepS, insS]
  try simp only [keepS, List.contains_cons, List.contains_nil, Bool.or_false, Bool.or_true, Bool.true_or, Bool.false_or, Nat.reduceBEq, BEq.rfl, beq_self_eq_true, if_true, if_false, Bool.false_eq_true, ite_true, ite_false, ins, Nat.reduceLT]
  refine HT_seq <| (HT_run (by simp [*]; rfl) ?_)
  refine HT_seq <| (HT_cond rfl (fun h6 => HT_skip ?_) (fun h6 => ?_))
  · try simp only [Bool.or_eq_true, Bool.and_eq_true, Bool.or_eq_false_iff, Bool.and_eq_false_iff, Bool.not_eq_true', Bool.not_eq_false', decide_eq_true_eq, decide_eq_false_iff_not] at h6
    have hlt : k < hats.length := by omega
    obtain ⟨h, he, hd⟩ := at_lt hlt
    have hw1 := wrap1 hlt (by omega)
    have hk1 : k + 1 ≤ hats.length := hlt
    have hmem : h ∈ hats := List.mem_of_getElem? he
    have ct := term_con h.term (ht h hmem)
    have hse := set_self (l := encHs hats) (k := k) (x := h.enc) (by simp [he])
    obtain ⟨hn, hlo, hhi, ⟨ho, htn, hks⟩⟩ := h
    simp only [aT, Tm.enc, List.map_cons, List.map_nil] at ct
    simp only [Ht.enc, Tm.enc, List.cons_append, List.nil_append] at hse
    clear hlt h6 hmem hd
    refine HT_seq <| HT_block <| HT_seq <| (HT_run (by simp [*]; rfl) ?_)
    refine (HT_drunc [⟨false, .v (aT (.mk ho htn hks)), none⟩] (by kernel_rfl) (by kernel_rfl) (by rfl) (by simp [*]; first | exact ⟨rfl, Iff.rfl⟩ | exact ⟨rfl, trivial⟩ | rfl) ?_ ?_)
    · first | exact ct _ | exact trivial | simpa [*] using ct _
    refine (HT_run (by simp [*]; rfl) ?_)
    exact ⟨k + 1, hk1, by omega, le_mk (fun n => n) [] rfl (by simp [upS, keepS, *]) (by simp [*, upS]) (by simp [upS])⟩
  · try simp only [Bool.or_eq_true, Bool.and_eq_true, Bool.or_eq_false_iff, Bool.and_eq_false_iff, Bool.not_eq_true', Bool.not_eq_false', decide_eq_true_eq, decide_eq_false_iff_not] at h6
    refine (HT_exit ?_)
    refine HT_seq <| (HT_runc [⟨false, .v (lS body), none⟩] (by simp [*]; first | exact ⟨rfl, Iff.rfl⟩ | exact ⟨rfl, trivial⟩ | rfl) ?_ ?_)
    · first | exact cb _ | exact trivial | simpa [*] using cb _
    refine HT_seq <| (HT_run (by simp [*]; rfl) ?_)
    exact HT_ret ⟨.inr rfl, _, le_frz 10 rfl, ⟨⟨_, by simp; rfl, by simp [resR]⟩, by simp, fun h => by cases h⟩⟩
end Go.Proofs.YtfilidjbpomgoaaGreat

namespace Go.Proofs.YtfilidjbpomgoaaGreat
open Go Go.Hl

theorem time_con (l : List St) (hn : nodesS l ≤ 1000000000) (d : Nat) : Con Tryz.prog 93 true [lS l] (.v (li (spL l (0, 0)).1)) none d := by
  have cs := spanP_con l hn
  obtain ⟨⟨A, B⟩, hp⟩ : ∃ p, spL l (0, 0) = p := ⟨_, rfl⟩
  rw [hp] at cs ⊢
  refine con_of_HT Tryz.func93 rfl (by kernel_rfl) (Nat.le_of_ble_eq_true rfl) ?_
  simp only [Tryz.f93]
  refine HT_seq <| (HT_run (by simp [*]; rfl) ?_)
  refine HT_seq <| (HT_runc [⟨true, .tup [li A, li B], none⟩] (by simp [*]; first | exact ⟨rfl, Iff.rfl⟩ | exact ⟨rfl, trivial⟩ | rfl) ?_ ?_)
  · first | exact cs _ | exact trivial | simpa [*] using cs _
  refine HT_seq <| (HT_run (by simp [*]; rfl) ?_)
  exact (HT_retE (fun h => ⟨.inr rfl, h⟩) _ (by simp [*]; rfl) (by first | rfl | (simp [*]; done) | (simp only [resR]; (repeat' split) <;> first | rfl | (exfalso; omega) | simp_all)) (by simp))

def waitL (n : Int) : List St := if n = 0 then [] else [.mk 2 n 0 0 (.mk 0 0 []) [] [] []]

theorem wait_con (n : Int) (d : Nat) : Con Tryz.prog 94 false [li n] (.v (lS (waitL n))) none d := by
  have hroom : room 1 144 := room_of (by decide) (by decide)
  obtain ⟨res, hres⟩ : ∃ r, waitL n = r := ⟨_, rfl⟩
  rw [hres]
  unfold waitL at hres
  refine con_of_HT Tryz.func94 rfl (by kernel_rfl) (Nat.le_of_ble_eq_true rfl) ?_
  simp only [Tryz.f94]
  refine HT_seq <| (HT_run (by simp [*]; rfl) ?_)
  refine HT_seq <| HT_seq <| (HT_run (by simp [*]; rfl) ?_)
  refine (HT_cond rfl (fun h2 => ?_) (fun h2 => HT_skip ?_))
  · try simp only [Bool.or_eq_true, Bool.and_eq_true, Bool.or_eq_false_iff, Bool.and_eq_false_iff, Bool.not_eq_true', Bool.not_eq_false', decide_eq_true_eq, decide_eq_false_iff_not] at h2
    rw [if_pos h2] at hres
    subst hres
    refine HT_seq <| (HT_run (by simp [*]; rfl) ?_)
    exact HT_ret ⟨.inr rfl, _, le_one 2 10 rfl, ⟨⟨_, by simp; rfl, by simp [resR]⟩, by simp, fun h => by cases h⟩⟩
  · try simp only [Bool.or_eq_true, Bool.and_eq_true, Bool.or_eq_false_iff, Bool.and_eq_false_iff, Bool.not_eq_true', Bool.not_eq_false', decide_eq_true_eq, decide_eq_false_iff_not] at h2
    rw [if_neg h2] at hres
    subst hres
    refine HT_seq <| (HT_runF 2 [] [] (by simp [*]; rfl) trivial (le_agg 6 [.c (iC 2), .c (iC n), .c (iC 0), .c (iC 0), .c (iC 0), .c (iC 0), .c (.sl 3 []), .c (.sl 10 []), .c (.sl 10 []), .c (.sl 1 [])] rfl (by (repeat' (first | exact LWk.nil | apply LWk.cons | exact CWk.refl _ | exact CWk.nil _)))) (by simp [*]; rfl) trivial ?_)
    exact HT_ret ⟨.inr rfl, _, le_frz 7 rfl, ⟨⟨_, by simp; rfl, by simp [resR]⟩, by simp, fun h => by cases h⟩⟩

def posI (n : Int) : Int := if 0 < n then n else 0
def balS : St → St
  | .mk d c v n t a b bs =>
    if d = 3 then .mk d c v n t (a ++ waitL (posI ((spL b (0, 0)).1 - (spL a (0, 0)).1))) (b ++ waitL (posI ((spL a (0, 0)).1 - (spL b (0, 0)).1))) bs
    else if d = 4 ∧ t.op ≠ 0 then .mk d c v n (.mk 0 1 []) [.mk 3 0 0 0 t a (waitL (spL a (0, 0)).1) []] b bs
    else .mk d c v n t a b bs
theorem waitL_len (n : Int) : (waitL n).length ≤ 1 := by
  unfold waitL
  split <;> simp
theorem encS_app (a b : List St) : encSs (a ++ b) = encSs a ++ encSs b := by simp [encSs_map]

theorem balanced_con (sd sc sv sn so stn : Int) (sks : List Tm) (sa sb : List St) (sbs : List Int) (hna : nodesS sa ≤ 1000000) (hnb : nodesS sb ≤ 1000000) :
    ConG Tryz.prog 62 [(1000001, .row 56 10 (encSs sa)), (1000002, .row 56 10 (encSs sb))]
      [.agg [.c (iC sd), .c (iC sc), .c (iC sv), .c (iC sn), .c (iC so), .c (iC stn), .c (.sl 3 (encTs sks)), .own 1000001, .own 1000002, .c (.sl 1 (encIs sbs))]]
      (.v (aS (balS (.mk sd sc sv sn (.mk so stn sks) sa sb sbs)))) := by
  have hla := len_nodesS sa
  have hlb := len_nodesS sb
  have ta := time_con sa (by omega)
  have tb := time_con sb (by omega)
  have ia := spL_in sa (0, 0) inT0
  have ib := spL_in sb (0, 0) inT0
  obtain ⟨res, hres⟩ : ∃ r, balS (.mk sd sc sv sn (.mk so stn sks) sa sb sbs) = r := ⟨_, rfl⟩
  rw [hres]
  simp only [balS, Tm.op] at hres
  obtain ⟨A, hA⟩ : ∃ x, (spL sa (0, 0)).1 = x := ⟨_, rfl⟩
  obtain ⟨B, hB⟩ : ∃ x, (spL sb (0, 0)).1 = x := ⟨_, rfl⟩
  unfold inT at ia ib
  simp only [hA, hB] at ta tb hres ia ib
  have hw1 : IntKind.i64.wrap (B - A) = B - A := wrap_in (by omega) (by omega)
  have hw2 : IntKind.i64.wrap (A - B) = A - B := wrap_in (by omega) (by omega)
  clear ia ib hA hB
  refine con_g_of_HT Tryz.func62 rfl (by kernel_rfl) (Nat.le_of_ble_eq_true rfl) ?_
  simp only [Tryz.f62]
  refine HT_seq <| (HT_run (by simp [*]; rfl) ?_)
  refine HT_seq <| HT_block <| HT_seq <| (HT_run (by simp [*]; rfl) ?_)
  refine (HT_cond rfl (fun h2 => ?_) (fun h2 => ?_))
  · try simp only [Bool.or_eq_true, Bool.and_eq_true, Bool.or_eq_false_iff, Bool.and_eq_false_iff, Bool.not_eq_true', Bool.not_eq_false', decide_eq_true_eq, decide_eq_false_iff_not] at h2
    rw [if_pos h2] at hres
    have c1 := wait_con (posI (B - A))
    have c2 := wait_con (posI (A - B))
    have hl1 := waitL_len (posI (B - A))
    have hl2 := waitL_len (posI (A - B))
    simp only [posI] at c1 c2 hl1 hl2 hres
    obtain ⟨W1, hW1⟩ : ∃ x, waitL (if 0 < B - A then B - A else 0) = x := ⟨_, rfl⟩
    obtain ⟨W2, hW2⟩ : ∃ x, waitL (if 0 < A - B then A - B else 0) = x := ⟨_, rfl⟩
    rw [hW1] at c1 hl1 hres
    rw [hW2] at c2 hl2 hres
    subst hres
    have hr1 : room (sa.length + W1.length) 144 := room_of (by omega) (by omega)
    have hr2 : room (sb.length + W2.length) 144 := room_of (by omega) (by omega)
    clear hW1 hW2 hl1 hl2
    refine HT_seq <| (HT_drunc [⟨true, .v (li A), none⟩, ⟨true, .v (li B), none⟩] (by kernel_rfl) (by kernel_rfl) (by rfl) (by simp [*]; first | exact ⟨rfl, Iff.rfl⟩ | exact ⟨rfl, trivial⟩ | rfl) ?_ ?_)
    · first | exact ⟨ta _, tb _⟩ | exact trivial | (repeat' first | exact trivial | exact ta _ | exact tb _ | apply And.intro)
    refine HT_seq <| (HT_drunc [⟨false, .v (lS W1), none⟩] (by kernel_rfl) (by kernel_rfl) (by rfl) (by simp [*]; first | exact ⟨rfl, Iff.rfl⟩ | exact ⟨rfl, trivial⟩ | rfl) ?_ ?_)
    · first | exact c1 _ | exact trivial | simpa [*] using c1 _
    refine (HT_drunc [⟨false, .v (lS W2), none⟩] (by kernel_rfl) (by kernel_rfl) (by rfl) (by simp [*]; first | exact ⟨rfl, Iff.rfl⟩ | exact ⟨rfl, trivial⟩ | rfl) ?_ ?_)
    · first | exact c2 _ | exact trivial | simpa [*] using c2 _
    refine HT_seq <| (HT_run (by simp [*]; rfl) ?_)
    refine HT_le (le_frz 23 rfl) ?_
    refine HT_le (le_frz 32 rfl) ?_
    exact HT_ret ⟨.inr rfl, _, le_refl _, _, by simp; rfl, by simp [*, resR, encS_app]⟩
  · try simp only [Bool.or_eq_true, Bool.and_eq_true, Bool.or_eq_false_iff, Bool.and_eq_false_iff, Bool.not_eq_true', Bool.not_eq_false', decide_eq_true_eq, decide_eq_false_iff_not] at h2
    rw [if_neg h2] at hres
    refine HT_le (le_frz 1000001 rfl) ?_
    refine HT_le (le_frz 1000002 rfl) ?_
    rcases Classical.em (sd = 4) with h8 | h8
    · refine HT_seq <| (HT_run (by simp [*]; rfl) ?_)
      subst h8
      refine (HT_cond rfl (fun h9 => ?_) (fun h9 => HT_skip ?_))
      · try simp only [Bool.or_eq_true, Bool.and_eq_true, Bool.or_eq_false_iff, Bool.and_eq_false_iff, Bool.not_eq_true', Bool.not_eq_false', decide_eq_true_eq, decide_eq_false_iff_not] at h9
        have hso : so ≠ 0 := by simpa using h9
        rw [if_pos ⟨rfl, hso⟩] at hres
        subst hres
        have c1 := wait_con A
        have hr1 : room 1 144 := room_of (by decide) (by decide)
        refine HT_seq <| (HT_drunc [⟨true, .v (li A), none⟩, ⟨false, .v (lS (waitL A)), none⟩] (by kernel_rfl) (by kernel_rfl) (by rfl) (by simp [*]; first | exact ⟨rfl, Iff.rfl⟩ | exact ⟨rfl, trivial⟩ | rfl) ?_ ?_)
        · first | exact ⟨ta _, c1 _⟩ | exact trivial | (repeat' first | exact trivial | exact ta _ | exact c1 _ | apply And.intro)
        refine HT_le (le_box 5 [.c (iC 3), .c (iC 0), .c (iC 0), .c (iC 0), .c (iC so), .c (iC stn), .c (.sl 3 (encTs sks)), .c (.sl 10 (encSs sa)), .c (.sl 10 (encSs (waitL A))), .c (.sl 1 [])] rfl (by (repeat' (first | exact LWk.nil | apply LWk.cons | exact CWk.refl _ | exact CWk.nil _)))) ?_
        refine (HT_drunH [(5, 5), (56, 1), (57, 1)] (by kernel_rfl) (by kernel_rfl) (by rfl) (by simp [evsH, hokB, hintOf, *]; rfl) ?_)
        refine HT_le (le_frz 55 rfl) ?_
        refine HT_le (le_box 1 [.c (iC 4), .c (iC sc), .c (iC sv), .c (iC sn), .c (iC 0), .c (iC 1), .c (.sl 3 []), .c (.sl 10 (encSs [.mk 3 0 0 0 (.mk so stn sks) sa (waitL A) []])), .c (.sl 10 (encSs sb)), .c (.sl 1 (encIs sbs))] rfl (by (repeat' (first | exact LWk.nil | apply LWk.cons | exact CWk.refl _ | exact CWk.nil _)))) ?_
        refine HT_seq <| (HT_run (by simp [*]; rfl) ?_)
        exact HT_ret ⟨.inr rfl, _, le_refl _, _, by simp; rfl, by simp [resR]⟩
      · try simp only [Bool.or_eq_true, Bool.and_eq_true, Bool.or_eq_false_iff, Bool.and_eq_false_iff, Bool.not_eq_true', Bool.not_eq_false', decide_eq_true_eq, decide_eq_false_iff_not] at h9
        have hso : so = 0 := by simpa using h9
        rw [if_neg (fun h => h.2 hso)] at hres
        subst hres
        refine HT_seq <| (HT_run (by simp [*]; rfl) ?_)
        exact HT_ret ⟨.inr rfl, _, le_refl _, _, by simp; rfl, by simp [*, resR]⟩
    · refine HT_seq <| (HT_run (by simp [*]; rfl) ?_)
      refine (HT_cond rfl (fun h9 => ?_) (fun h9 => HT_skip ?_))
      · exact absurd h9 (by simp)
      · try simp only [Bool.or_eq_true, Bool.and_eq_true, Bool.or_eq_false_iff, Bool.and_eq_false_iff, Bool.not_eq_true', Bool.not_eq_false', decide_eq_true_eq, decide_eq_false_iff_not] at h9
        rw [if_neg (fun h => h8 h.1)] at hres
        subst hres
        refine HT_seq <| (HT_run (by simp [*]; rfl) ?_)
        exact HT_ret ⟨.inr rfl, _, le_refl _, _, by simp; rfl, by simp [resR]⟩
end Go.Proofs.YtfilidjbpomgoaaGreat

namespace Go.Proofs.YtfilidjbpomgoaaGreat
open Go Go.Hl

def evL : List St → List St
  | [] => []
  | .mk d c v n t a b bs :: l => balS (.mk d c v n t (evL a) (evL b) bs) :: evL l
theorem evL_app : ∀ (l m : List St), evL (l ++ m) = evL l ++ evL m
  | [], m => by simp [evL]
  | .mk d c v n t a b bs :: l, m => by simp [evL, evL_app l m]
theorem evL_len : ∀ l : List St, (evL l).length = l.length
  | [] => by simp [evL]
  | .mk d c v n t a b bs :: l => by simp [evL, evL_len l]
theorem nodesS_app : ∀ l m : List St, nodesS (l ++ m) = nodesS l + nodesS m
  | [], m => by simp [nodesS]
  | s :: l, m => by simp only [List.cons_append, nodesS, nodesS_app l m]; omega
theorem waitL_nodes (n : Int) : nodesS (waitL n) ≤ 2 := by
  unfold waitL
  split <;> simp [nodesS, St.nodes, Tm.nodes, nodesT]
theorem balS_nodes (s : St) : (balS s).nodes ≤ s.nodes + 4 := by
  obtain ⟨d, c, v, n, t, a, b, bs⟩ := s
  have h := waitL_nodes
  unfold balS
  simp only
  split
  · have h1 := h (posI ((spL b (0, 0)).1 - (spL a (0, 0)).1))
    have h2 := h (posI ((spL a (0, 0)).1 - (spL b (0, 0)).1))
    simp only [St.nodes, nodesS_app]
    omega
  · split
    · have h1 := h (spL a (0, 0)).1
      simp only [St.nodes, nodesS, Tm.nodes, nodesT]
      omega
    · simp only [St.nodes]; omega
theorem evL_nodes : ∀ l : List St, nodesS (evL l) ≤ 3 * nodesS l
  | [] => by simp [evL, nodesS]
  | .mk d c v n t a b bs :: l => by
    have h1 := evL_nodes a
    have h2 := evL_nodes b
    have h3 := evL_nodes l
    have h4 := balS_nodes (.mk d c v n t (evL a) (evL b) bs)
    have h5 := nodes_pos t
    simp only [evL, nodesS, St.nodes] at h4 ⊢
    omega

theorem even_con (l : List St) : nodesS l ≤ 300000 → ∀ d : Nat, d < 1000000 → Con Tryz.prog 29 false [lS l, .one (.c (.lit nilS))] (.v (.one (.own d))) (some (.row 56 10 (encSs (evL l)))) d := by
  revert l
  apply St.lists
  intro l ih hn d hd0
  have hlen := len_nodesS l
  have hev0 : evL [] = [] := by simp [evL]
  refine con_of_HT Tryz.func29 rfl (by kernel_rfl) (Nat.le_of_ble_eq_true rfl) ?_
  simp only [Tryz.f29]
  refine HT_seq <| (HT_run (by simp [*]; rfl) ?_)
  refine HT_seq <| (HT_run (by simp [*]; rfl) ?_)
  refine HT_seq <| HT_seq <| (HT_run (by simp [*]; rfl) ?_)
  refine HT_block <| (HT_loopU [1, 9, 10] (fun (x : Nat) => [(5, .v (.one (.own 1005))), (11, .v (li x))]) (fun (x : Nat) => [(1005, .row 56 10 (encSs (evL (l.take x))))]) (fun (x : Nat) => x ≤ l.length) (fun (x : Nat) => l.length - x) (0 : Nat) (Nat.zero_le _) ?_ ?_)
  · exact le_mk (fun n => n) [1005] rfl (by simp [*, upS, keepS]) (by simp [*, upS]) (by simp [upS])
  rintro k hk
  simp only [upS, keepS, insS]
  try simp only [keepS, List.contains_cons, List.contains_nil, Bool.or_false, Bool.or_true, Bool.true_or, Bool.false_or, Nat.reduceBEq, BEq.rfl, beq_self_eq_true, if_true, if_false, Bool.false_eq_true, ite_true, ite_false, ins, Nat.reduceLT]
  refine HT_seq <| (HT_run (by simp [*]; rfl) ?_)
  refine HT_seq <| (HT_cond rfl (fun h5 => HT_skip ?_) (fun h5 => ?_))
  · try simp only [Bool.or_eq_true, Bool.and_eq_true, Bool.or_eq_false_iff, Bool.and_eq_false_iff, Bool.not_eq_true', Bool.not_eq_false', decide_eq_true_eq, decide_eq_false_iff_not] at h5
    have hlt : k < l.length := by omega
    obtain ⟨s, he, hd⟩ := at_lt hlt
    have hw1 := wrap1 hlt (by omega)
    have hk1 : k + 1 ≤ l.length := hlt
    have hmem : s ∈ l := List.mem_of_getElem? he
    have hnm := nodesS_mem hmem
    have ca := (ih s hmem).1 (by omega)
    have cb := (ih s hmem).2 (by omega)
    have htl : (evL (l.take k)).length = k := by rw [evL_len, List.length_take]; omega
    have hroom : room (k + 1) 144 := room_of (by omega) (by omega)
    have hsn0 : evL (l.take (k + 1)) = evL (l.take k) ++ evL [s] := by
      rw [List.take_add_one, he, Option.toList_some, evL_app]
    have he' := get_encS he
    have hna := evL_nodes s.then_
    have hnb := evL_nodes s.else_
    obtain ⟨sd, sc, sv, sn, ⟨so, stn, sks⟩, sa, sb, sbs⟩ := s
    simp only [St.then_, St.else_, St.term] at ca cb hnm hna hnb
    simp only [St.enc, Tm.enc, List.cons_append, List.nil_append] at he'
    have cbal := balanced_con sd sc sv sn so stn sks (evL sa) (evL sb) sbs (by omega) (by omega)
    simp only [evL] at hsn0
    obtain ⟨X, hX⟩ : ∃ X, balS (.mk sd sc sv sn (.mk so stn sks) (evL sa) (evL sb) sbs) = X := ⟨_, rfl⟩
    rw [hX] at hsn0 cbal
    obtain ⟨xd, xc, xv, xn, ⟨xo, xtn, xks⟩, xa, xb, xbs⟩ := X
    simp only [aS, St.enc, Tm.enc, List.cons_append, List.nil_append, List.map_cons, List.map_nil] at cbal
    have hsn : encSs (evL (l.take (k + 1))) = encSs (evL (l.take k)) ++ [[iC xd, iC xc, iC xv, iC xn, iC xo, iC xtn, .sl 3 (encTs xks), .sl 10 (encSs xa), .sl 10 (encSs xb), .sl 1 (encIs xbs)]] := by
      rw [hsn0, encS_app]
      simp
    clear hsn0 hlt h5 ih hmem hnm he hd hna hnb hX
    refine HT_seq <| HT_block <| HT_seq <| (HT_run (by simp [*]; rfl) ?_)
    refine HT_seq <| (HT_run (by simp [*]; rfl) ?_)
    refine (HT_cutU [1, 5, 7, 9, 10, 11] (fun (z : Unit) => [(8, .v (.one (.c (.lit nilS))))]) (fun (z : Unit) => [(7, .box [.c (iC sd), .c (iC sc), .c (iC sv), .c (iC sn), .c (iC so), .c (iC stn), .c (.sl 3 (encTs sks)), .c (.sl 10 (encSs sa)), .c (.sl 10 (encSs sb)), .c (.sl 1 (encIs sbs))]), (1005, .row 56 10 (encSs (evL (l.take k))))]) (fun (z : Unit) => True) ?_ ?_)
    ·
      refine HT_seq <| (HT_runcS [none] (by simp [*]; first | exact ⟨rfl, trivial⟩ | exact ⟨rfl, Iff.rfl⟩ | rfl) ?_ ?_)
      · trivial
      refine (HT_cond rfl (fun h10 => ?_) (fun h10 => HT_skip ?_))
      · exact absurd h10 (by simp)
      · try simp only [Bool.or_eq_true, Bool.and_eq_true, Bool.or_eq_false_iff, Bool.and_eq_false_iff, Bool.not_eq_true', Bool.not_eq_false', decide_eq_true_eq, decide_eq_false_iff_not] at h10
        exact ⟨(), trivial, le_mk (fun n => n) [] rfl (by simp [upS, keepS, *]) (by simp [*, upS]) (by simp [upS])⟩
    rintro _ _
    simp only [upS, keepS, insS]
    try simp only [keepS, List.contains_cons, List.contains_nil, Bool.or_false, Bool.or_true, Bool.true_or, Bool.false_or, Nat.reduceBEq, BEq.rfl, beq_self_eq_true, if_true, if_false, Bool.false_eq_true, ite_true, ite_false, ins, Nat.reduceLT]
    refine HT_seq <| (HT_drunc [⟨false, .v (.one (.own 37)), some (.row 56 10 (encSs (evL sa)))⟩, ⟨false, .v (.one (.own 41)), some (.row 56 10 (encSs (evL sb)))⟩] (by kernel_rfl) (by kernel_rfl) (by rfl) (by simp [*]; first | exact ⟨rfl, Iff.rfl⟩ | exact ⟨rfl, trivial⟩ | rfl) ?_ ?_)
    · first | exact trivial | exact trivial | (repeat' first | exact trivial | exact ca 37 (by decide) | exact cb 41 (by decide) | apply And.intro)
    refine HT_seq <| HT_seq <| (HT_run (by simp [*]; rfl) ?_)
    refine (HT_cond rfl (fun h16 => ?_) (fun h16 => HT_skip ?_))
    · try simp only [Bool.or_eq_true, Bool.and_eq_true, Bool.or_eq_false_iff, Bool.and_eq_false_iff, Bool.not_eq_true', Bool.not_eq_false', decide_eq_true_eq, decide_eq_false_iff_not] at h16
      refine (HT_runG 1 [(1000001, .row 56 10 (encSs (evL sa))), (1000002, .row 56 10 (encSs (evL sb)))] _ (fun n => if n = 1000001 then 37 else 41) _ [] [] rfl (by simp [*]; rfl) trivial (by simp [*]; rfl) (hand_mk (by simp [Ob.isRow]) (by simp)) (by simp) cbal (by simp) (by simp [*]; rfl) trivial ?_)
      refine (HT_run (by simp [*]; rfl) ?_)
      refine (HT_run (by simp [*]; rfl) ?_)
      exact ⟨k + 1, hk1, by omega, le_mk (fun n => if n = 1005 then 51 else n) [] rfl (by simp [upS, keepS, *]) (by simp [*, upS]) (by simp [upS])⟩
    · exact absurd h16 (by simp)
  · try simp only [Bool.or_eq_true, Bool.and_eq_true, Bool.or_eq_false_iff, Bool.and_eq_false_iff, Bool.not_eq_true', Bool.not_eq_false', decide_eq_true_eq, decide_eq_false_iff_not] at h5
    have hkl : k = l.length := by omega
    subst hkl
    simp only [List.take_length]
    refine (HT_exit ?_)
    refine HT_seq <| (HT_run (by simp [*]; rfl) ?_)
    exact HT_ret ⟨.inr rfl, _, le_name 4 1005 d rfl rfl hd0, ⟨⟨_, by simp; rfl, by simp [resR]⟩, by simp, fun h => by cases h⟩⟩
end Go.Proofs.YtfilidjbpomgoaaGreat

namespace Go.Proofs.YtfilidjbpomgoaaGreat
open Go Go.Hl

/-! ## ContainsFunc -/
theorem idxV_con (l : List Vr) (g : FuncId) (cap : List CD) (p : Vr → Bool) (hl : l.length ≤ 1000000000) (hp : ∀ v ∈ l, ∀ d, Con Tryz.prog g true (aV v :: cap.map fun c => .one (.c c)) (.v (lb (p v))) none d) (d : Nat) :
    ∃ r : Int, (∀ d, Con Tryz.prog 105 true [lV l, .one (.c (.fn g cap))] (.v (li r)) none d) ∧ (0 ≤ r ↔ l.any p = true) := by
  let rec_ : List Vr → Int → Int := fun l k => match l.findIdx? p with
    | some i => k + i
    | none => -1
  refine ⟨(match l.findIdx? p with | some i => (i : Int) | none => -1), fun d => ?_, ?_⟩
  · have hstep : ∀ k : Nat, (∀ j : Nat, j < k → ∀ v, l[j]? = some v → p v = false) → ∀ v, l[k]? = some v → p v = true → l.findIdx? p = some k := by
      intro k hno v hv hpv
      rw [List.findIdx?_eq_some_iff_getElem]
      have hk : k < l.length := (List.getElem?_eq_some_iff.1 hv).1
      refine ⟨hk, ?_, fun j hj => ?_⟩
      · simp only [List.getElem?_eq_getElem hk, Option.some.injEq] at hv
        rw [hv]; exact hpv
      · have := hno j hj l[j] (by simp)
        simp [this]
    have hnone : (∀ j : Nat, j < l.length → ∀ v, l[j]? = some v → p v = false) → l.findIdx? p = none := by
      intro hno
      rw [List.findIdx?_eq_none_iff]
      intro v hv
      obtain ⟨j, hj⟩ := List.mem_iff_getElem?.1 hv
      exact hno j (List.getElem?_eq_some_iff.1 hj).1 v hj
    clear rec_
    refine con_of_HT Tryz.func105 rfl (by kernel_rfl) (Nat.le_of_ble_eq_true rfl) ?_
    simp only [Tryz.f105]
    refine HT_seq <| (HT_run (by simp [*]; rfl) ?_)
    refine HT_seq <| HT_seq <| (HT_run (by simp [*]; rfl) ?_)
    refine HT_block <| (HT_loopU [0, 1, 7] (fun (x : Nat) => [(8, .v (li x))]) (fun (x : Nat) => []) (fun (x : Nat) => x ≤ l.length ∧ ∀ j : Nat, j < x → ∀ v, l[j]? = some v → p v = false) (fun (x : Nat) => l.length - x) (0 : Nat) ⟨Nat.zero_le _, fun j hj => absurd hj (Nat.not_lt_zero j)⟩ ?_ ?_)
    · exact le_mk (fun n => n) [] rfl (by simp [*, upS, keepS]) (by simp [*, upS]) (by simp [upS])
    rintro k ⟨hk, hJ⟩
    simp only [upS, keepS, insS]
    try simp only [keepS, List.contains_cons, List.contains_nil, Bool.or_false, Bool.or_true, Bool.true_or, Bool.false_or, Nat.reduceBEq, BEq.rfl, beq_self_eq_true, if_true, if_false, Bool.false_eq_true, ite_true, ite_false, ins, Nat.reduceLT]
    refine HT_seq <| (HT_run (by simp [*]; rfl) ?_)
    refine HT_seq <| (HT_cond rfl (fun h4 => HT_skip ?_) (fun h4 => ?_))
    · try simp only [Bool.or_eq_true, Bool.and_eq_true, Bool.or_eq_false_iff, Bool.and_eq_false_iff, Bool.not_eq_true', Bool.not_eq_false', decide_eq_true_eq, decide_eq_false_iff_not] at h4
      have hlt : k < l.length := by omega
      obtain ⟨v, he, hd⟩ := at_lt hlt
      have hw1 := wrap1 hlt (by omega)
      have hk1 : k + 1 ≤ l.length := hlt
      have hpv := hp v (List.mem_of_getElem? he)
      have hs := hstep k hJ v he
      clear hlt h4 hstep hnone hp
      refine HT_seq <| HT_block <| HT_seq <| (HT_run (by simp [*]; rfl) ?_)
      refine HT_seq <| (HT_runc [⟨true, .v (lb (p v)), none⟩] (by simp [*]; first | exact ⟨rfl, Iff.rfl⟩ | exact ⟨rfl, trivial⟩ | rfl) ?_ ?_)
      · first | exact hpv _ | exact trivial | simpa [*] using hpv _
      refine (HT_cond rfl (fun h7 => ?_) (fun h7 => HT_skip ?_))
      · try simp only [Bool.or_eq_true, Bool.and_eq_true, Bool.or_eq_false_iff, Bool.and_eq_false_iff, Bool.not_eq_true', Bool.not_eq_false', decide_eq_true_eq, decide_eq_false_iff_not] at h7
        rw [hs h7]
        refine HT_seq <| (HT_run (by simp [*]; rfl) ?_)
        exact (HT_retE (fun h => ⟨.inr rfl, h⟩) _ (by simp [*]; rfl) (by first | rfl | (simp [*]; done) | (simp only [resR]; (repeat' split) <;> first | rfl | (exfalso; omega) | simp_all)) (by simp))
      · try simp only [Bool.or_eq_true, Bool.and_eq_true, Bool.or_eq_false_iff, Bool.and_eq_false_iff, Bool.not_eq_true', Bool.not_eq_false', decide_eq_true_eq, decide_eq_false_iff_not] at h7
        refine (HT_run (by simp [*]; rfl) ?_)
        exact ⟨k + 1, ⟨hk1, fun j hj w hw => (Nat.lt_succ_iff_lt_or_eq.1 hj).elim (fun h => hJ j h w hw) (fun e => by subst e; rw [he] at hw; cases hw; exact h7)⟩, by omega, le_mk (fun n => n) [] rfl (by simp [upS, keepS, *]) (by simp [*, upS]) (by simp [upS])⟩
    · try simp only [Bool.or_eq_true, Bool.and_eq_true, Bool.or_eq_false_iff, Bool.and_eq_false_iff, Bool.not_eq_true', Bool.not_eq_false', decide_eq_true_eq, decide_eq_false_iff_not] at h4
      rw [hnone fun j hj => hJ j (by omega)]
      refine (HT_exit ?_)
      refine HT_seq <| (HT_run (by simp [*]; rfl) ?_)
      exact (HT_retE (fun h => ⟨.inr rfl, h⟩) _ (by simp [*]; rfl) (by first | rfl | (simp [*]; done) | (simp only [resR]; (repeat' split) <;> first | rfl | (exfalso; omega) | simp_all)) (by simp))
  · rw [List.any_eq]
    cases h : l.findIdx? p with
    | none =>
      rw [List.findIdx?_eq_none_iff] at h
      simp only [decide_eq_true_eq]
      constructor
      · intro h; omega
      · rintro ⟨v, hv, hpv⟩
        have := h v hv
        rw [hpv] at this
        cases this
    | some i =>
      rw [List.findIdx?_eq_some_iff_getElem] at h
      obtain ⟨hi, hpi, _⟩ := h
      simp only [decide_eq_true_eq]
      exact ⟨fun _ => ⟨l[i], List.getElem_mem _, hpi⟩, fun _ => by omega⟩
theorem conV_con (l : List Vr) (g : FuncId) (cap : List CD) (p : Vr → Bool) (hl : l.length ≤ 1000000000) (hp : ∀ v ∈ l, ∀ d, Con Tryz.prog g true (aV v :: cap.map fun c => .one (.c c)) (.v (lb (p v))) none d) (d : Nat) :
    Con Tryz.prog 84 true [lV l, .one (.c (.fn g cap))] (.v (lb (l.any p))) none d := by
  obtain ⟨r, hr, hi⟩ := idxV_con l g cap p hl hp 0
  have hd : decide (0 ≤ r) = l.any p := by rw [Bool.eq_iff_iff, decide_eq_true_eq]; exact hi
  clear hi hp
  refine con_of_HT Tryz.func84 rfl (by kernel_rfl) (Nat.le_of_ble_eq_true rfl) ?_
  simp only [Tryz.f84]
  refine HT_seq <| (HT_run (by simp [*]; rfl) ?_)
  refine HT_seq <| (HT_runc [⟨true, .v (li r), none⟩] (by simp [*]; first | exact ⟨rfl, Iff.rfl⟩ | exact ⟨rfl, trivial⟩ | rfl) ?_ ?_)
  · first | exact hr _ | exact trivial | simpa [*] using hr _
  exact (HT_retE (fun h => ⟨.inr rfl, h⟩) _ (by simp [*]; rfl) (by first | rfl | (simp [*]; done) | (simp only [resR]; (repeat' split) <;> first | rfl | (exfalso; omega) | simp_all)) (by simp))
theorem sameV_con (w v : Vr) (d : Nat) : Con Tryz.prog 82 true [aV w, .one (.c (.ptr v.enc))] (.v (lb (decide (w.name = v.name)))) none d := by
  refine con_of_HT Tryz.func82 rfl (by kernel_rfl) (Nat.le_of_ble_eq_true rfl) ?_
  simp only [Tryz.f82]
  refine HT_seq <| (HT_run (by simp [*]; rfl) ?_)
  refine HT_seq <| (HT_run (by simp [*]; rfl) ?_)
  exact (HT_retE (fun h => ⟨.inr rfl, h⟩) _ (by simp [*]; rfl) (by first | rfl | (simp [*]; done) | (simp only [resR]; (repeat' split) <;> first | rfl | (exfalso; omega) | simp_all)) (by simp))
end Go.Proofs.YtfilidjbpomgoaaGreat
