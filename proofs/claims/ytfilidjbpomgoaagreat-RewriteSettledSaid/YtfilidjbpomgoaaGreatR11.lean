/- Part 11: contracts of functions of the program and of the reference, and plain facts about what they compute; used by the proof of the claimed statement. Conditions: as each theorem states. -/
import Derived.Test.YtfilidjbpomgoaaGreatR7
import Derived.Test.YtfilidjbpomgoaaGreatR8
import Derived.Test.YtfilidjbpomgoaaGreatR9
import Derived.Test.YtfilidjbpomgoaaGreatR10
import Derived.Test.YtfilidjbpomgoaaGreatR5
set_option linter.unusedSimpArgs false
set_option linter.unusedVariables false
set_option linter.unnecessarySimpa false
set_option maxRecDepth 100000
set_option maxHeartbeats 2000000
namespace Go.Proofs.YtfilidjbpomgoaaGreat
open Go Go.Hl

theorem stepsR_con (f : Fl) (hv : goodV f.vars) (hl : f.vars.length ≤ 1000000) (l : List St) : nodesS l ≤ 1000000000 → bndL l = true → ∀ (top : Bool) (d : Nat),
    Con Tryz.prog 36 true [aF f, lS l, lb top] (.v (li (ssC f.vars f.hats.length l top))) none d := by
  revert l
  apply St.lists
  intro l ih hn hbn top d
  have hlen := len_nodesS l
  obtain ⟨res, hres⟩ : ∃ r, ssC f.vars f.hats.length l top = r := ⟨_, rfl⟩
  rw [hres]
  have csh := fun s last hb => shapedR_con f s last (by omega) hb
  obtain ⟨vars, hats, body⟩ := f
  simp only at hv hl hres ih csh
  refine con_of_HT Tryz.func36 rfl (by kernel_rfl) (Nat.le_of_ble_eq_true rfl) ?_
  simp only [Tryz.f36]
  simp only [aF, Fl.enc, List.map_cons, List.map_nil]
  refine HT_seq <| (HT_run (by simp [*]; rfl) ?_)
  refine HT_seq <| HT_seq <| (HT_run (by simp [*]; rfl) ?_)
  refine HT_block <| (HT_loopU [1, 2, 3] (fun (x : Nat) => [(7, .v (li x))]) (fun (x : Nat) => [(3, .box [.c (.sl 5 (encVs vars)), .c (.sl 6 (encHs hats)), .c (.sl 10 (encSs body))])]) (fun (x : Nat) => x ≤ l.length ∧ ssC vars hats.length (l.drop x) top = res) (fun (x : Nat) => l.length - x) (0 : Nat) ⟨Nat.zero_le _, hres⟩ ?_ ?_)
  · exact le_mk (fun n => n) [] rfl (by simp [*, upS, keepS]) (by simp [*, upS]) (by simp [upS])
  rintro k ⟨hk, hJ⟩
  simp only [upS, keepS, insS]
  try simp only [keepS, List.contains_cons, List.contains_nil, Bool.or_false, Bool.or_true, Bool.true_or, Bool.false_or, Nat.reduceBEq, BEq.rfl, beq_self_eq_true, if_true, if_false, Bool.false_eq_true, ite_true, ite_false, ins, Nat.reduceLT]
  clear hres
  refine HT_seq <| HT_seq <| (HT_run (by simp [*]; rfl) ?_)
  refine (HT_cond rfl (fun h4 => HT_skip ?_) (fun h4 => ?_))
  · try simp only [Bool.or_eq_true, Bool.and_eq_true, Bool.or_eq_false_iff, Bool.and_eq_false_iff, Bool.not_eq_true', Bool.not_eq_false', decide_eq_true_eq, decide_eq_false_iff_not] at h4
    have hlt : k < l.length := by omega
    obtain ⟨s, he, hd⟩ := at_lt hlt
    have hmem : s ∈ l := List.mem_of_getElem? he
    have hnm := nodesS_mem hmem
    have hbm := bndL_mem hbn hmem
    have iha := fun h h2 => (ih s hmem).1 h h2
    have ihb := fun h h2 => (ih s hmem).2 h h2
    have hw1 := wrap1 hlt (by omega)
    have hw2 : IntKind.i64.wrap ((l.length : Int) - 1) = (l.length : Int) - 1 := wrap_in (by omega) (by omega)
    have hk1 : k + 1 ≤ l.length := hlt
    have hla := drop_last hk1
    rw [hd] at hJ
    have ct := termR_con vars false hv (by omega) s.term
    have csh1 := csh s (top && decide ((k : Int) = (l.length : Int) - 1))
    obtain ⟨sd, sc, sv, sn, ⟨so, stn, sks⟩, sa, sb, sbs⟩ := s
    simp only [St.then_, St.else_, St.term, St.bounds, St.do_, St.var, St.n, St.cost] at iha ihb hnm ct csh1
    simp only [bndS, Bool.and_eq_true, decide_eq_true_eq] at hbm
    simp only [ssC, hla] at hJ
    have ca := iha (by omega) hbm.2.1
    have cb := ihb (by omega) hbm.2.2
    have ct := ct (by omega)
    have csh1 := csh1 hbm.1
    have hbl := hbm.1
    have he' := get_encS he
    simp only [St.enc, Tm.enc, List.cons_append, List.nil_append] at he'
    simp only [aF, Fl.enc, aS, St.enc, Tm.enc, List.map_cons, List.map_nil, List.cons_append, List.nil_append] at csh1 ca cb
    have hshb := @sh_bounds vars hats.length sd sv sn (.mk so stn sks) sa.length sb.length sbs (top && decide ((k : Int) = (l.length : Int) - 1))
    obtain ⟨SH, hSH⟩ : ∃ x, shB vars hats.length sd sv sn (.mk so stn sks) sa.length sb.length sbs (top && decide ((k : Int) = (l.length : Int) - 1)) = x := ⟨_, rfl⟩
    obtain ⟨NU, hNU⟩ : ∃ x, numB sd sc sn sbs = x := ⟨_, rfl⟩
    obtain ⟨TC, hTC⟩ : ∃ x, termC vars false (.mk so stn sks) = x := ⟨_, rfl⟩
    obtain ⟨SC, hSC⟩ : ∃ x, stC vars hats.length sd sc sv sn (.mk so stn sks) sa.length sb.length sbs (top && decide ((k : Int) = (l.length : Int) - 1)) = x := ⟨_, rfl⟩
    rw [hSC] at hJ
    unfold stC at hSC
    rw [hSH] at csh1 hshb hSC
    rw [hNU] at hSC
    rw [hTC] at ct hSC
    have ca := fun d => ca false d
    have cb := fun d => cb false d
    obtain ⟨SA, hSA⟩ : ∃ x, ssC vars hats.length sa false = x := ⟨_, rfl⟩
    obtain ⟨SB, hSB⟩ : ∃ x, ssC vars hats.length sb false = x := ⟨_, rfl⟩
    rw [hSA] at ca hJ
    rw [hSB] at cb hJ
    clear hlt h4 iha ihb ih hmem hnm hd he hbm hSH hTC hSA hSB csh hla
    refine HT_seq <| HT_block <| HT_seq <| (HT_run (by simp [*]; rfl) ?_)
    refine HT_seq <| HT_seq <| (HT_runc [⟨true, .v (lb SH), none⟩] (by simp [*]; first | exact ⟨rfl, Iff.rfl⟩ | exact ⟨rfl, trivial⟩ | rfl) ?_ ?_)
    · first | exact csh1 _ | exact trivial | simpa [*] using csh1 _
    refine (HT_cond rfl (fun h7 => ?_) (fun h7 => HT_skip ?_))
    · try simp only [Bool.or_eq_true, Bool.and_eq_true, Bool.or_eq_false_iff, Bool.and_eq_false_iff, Bool.not_eq_true', Bool.not_eq_false', decide_eq_true_eq, decide_eq_false_iff_not] at h7
      rw [if_pos h7] at hSC
      subst hSC
      rw [if_neg (by decide)] at hJ
      subst hJ
      refine HT_seq <| (HT_run (by simp [*]; rfl) ?_)
      exact (HT_retE (fun h => ⟨.inr rfl, h⟩) _ (by simp [*]; rfl) (by first | rfl | (simp [*]; done) | (simp only [resR]; (repeat' split) <;> first | rfl | (exfalso; omega) | simp_all)) (by simp))
    · try simp only [Bool.or_eq_true, Bool.and_eq_true, Bool.or_eq_false_iff, Bool.and_eq_false_iff, Bool.not_eq_true', Bool.not_eq_false', decide_eq_true_eq, decide_eq_false_iff_not] at h7
      rw [if_neg (by simp [h7])] at hSC
      obtain ⟨hs6, hs5, hs4⟩ := hshb h7
      clear hshb csh1
      refine HT_seq <| (HT_run (by simp [*]; rfl) ?_)
      refine (HT_cutU [1, 2, 3, 7, 8] (fun (z : Int) => [(9, .v (li z))]) (fun (z : Int) => [(3, .box [.c (.sl 5 (encVs vars)), .c (.sl 6 (encHs hats)), .c (.sl 10 (encSs body))]), (8, .box [.c (iC sd), .c (iC sc), .c (iC sv), .c (iC sn), .c (iC so), .c (iC stn), .c (.sl 3 (encTs sks)), .c (.sl 10 (encSs sa)), .c (.sl 10 (encSs sb)), .c (.sl 1 (encIs sbs))])]) (fun (z : Int) => z = mostI sd) ?_ ?_)
      ·
        refine HT_seq <| (HT_run (by simp [*]; rfl) ?_)
        refine (HT_cond rfl (fun h13 => ?_) (fun h13 => HT_skip ?_))
        · try simp only [Bool.or_eq_true, Bool.and_eq_true, Bool.or_eq_false_iff, Bool.and_eq_false_iff, Bool.not_eq_true', Bool.not_eq_false', decide_eq_true_eq, decide_eq_false_iff_not] at h13
          refine (HT_run (by simp [*]; rfl) ?_)
          exact ⟨67108864, by simp [mostI, h13], le_mk (fun n => n) [] rfl (by simp [upS, keepS, *]) (by simp [*, upS]) (by simp [upS])⟩
        · try simp only [Bool.or_eq_true, Bool.and_eq_true, Bool.or_eq_false_iff, Bool.and_eq_false_iff, Bool.not_eq_true', Bool.not_eq_false', decide_eq_true_eq, decide_eq_false_iff_not] at h13
          exact ⟨10000, by simp [mostI, h13], le_mk (fun n => n) [] rfl (by simp [upS, keepS, *]) (by simp [*, upS]) (by simp [upS])⟩
      rintro M hM
      simp only [upS, keepS, insS]
      try simp only [keepS, List.contains_cons, List.contains_nil, Bool.or_false, Bool.or_true, Bool.true_or, Bool.false_or, Nat.reduceBEq, BEq.rfl, beq_self_eq_true, if_true, if_false, Bool.false_eq_true, ite_true, ite_false, ins, Nat.reduceLT]
      refine HT_seq <| HT_seq <| (HT_run (by simp [*]; rfl) ?_)
      refine (HT_cond rfl (fun h18 => ?_) (fun h18 => HT_skip ?_))
      · try simp only [Bool.or_eq_true, Bool.and_eq_true, Bool.or_eq_false_iff, Bool.and_eq_false_iff, Bool.not_eq_true', Bool.not_eq_false', decide_eq_true_eq, decide_eq_false_iff_not] at h18
        have hz : NU = false := by
          rw [← hNU]
          unfold numB
          rw [← hM]
          simp only [Bool.and_eq_false_iff, Bool.or_eq_true, Bool.and_eq_true, Bool.not_eq_false', decide_eq_true_eq]
          by_cases hn0 : sn < 0
          · have := hs4 hn0; omega
          · omega
        rw [if_pos hz] at hSC
        subst hSC
        rw [if_neg (by decide)] at hJ
        subst hJ
        refine HT_seq <| (HT_run (by simp [*]; rfl) ?_)
        exact (HT_retE (fun h => ⟨.inr rfl, h⟩) _ (by simp [*]; rfl) (by first | rfl | (simp [*]; done) | (simp only [resR]; (repeat' split) <;> first | rfl | (exfalso; omega) | simp_all)) (by simp))
      · try simp only [Bool.or_eq_true, Bool.and_eq_true, Bool.or_eq_false_iff, Bool.and_eq_false_iff, Bool.not_eq_true', Bool.not_eq_false', decide_eq_true_eq, decide_eq_false_iff_not] at h18
        have hz : NU = (decide (sd ≠ 6) || lastOk sbs) := by
          rw [← hNU]
          unfold numB
          rw [← hM]
          rw [show (!(decide (sc < 0) || decide (M < sc) || (decide (sd = 4) && (decide (sn < 0) || decide (4096 < sn))))) = true by
            simp only [Bool.or_eq_false_iff, Bool.and_eq_false_iff, Bool.not_eq_true', decide_eq_false_iff_not]
            omega]
          rfl
        clear h18 hNU hM hs4
        rcases nil_or sbs with h0 | ⟨b0, hb0⟩
        · subst h0
          have hd6 : sd ≠ 6 := fun h => hs6 h rfl
          have hw3 : IntKind.i64.wrap (-1) = -1 := by decide
          have hz2 : NU = true := by rw [hz]; simp [hd6]
          rw [if_neg (by simp [hz2])] at hSC
          clear hs6 hs5 hz
          refine HT_seq <| HT_seq <| (HT_run (by simp [*]; rfl) ?_)
          refine (HT_cond rfl (fun h22 => ?_) (fun h22 => HT_skip ?_))
          · exact absurd h22 (by simp)
          · try simp only [Bool.or_eq_true, Bool.and_eq_true, Bool.or_eq_false_iff, Bool.and_eq_false_iff, Bool.not_eq_true', Bool.not_eq_false', decide_eq_true_eq, decide_eq_false_iff_not] at h22
            subst hSC
            refine HT_seq <| (HT_runc [⟨true, .v (li TC), none⟩] (by simp [*]; first | exact ⟨rfl, Iff.rfl⟩ | exact ⟨rfl, trivial⟩ | rfl) ?_ ?_)
            · first | exact ct _ | exact trivial | simpa [*] using ct _
            refine HT_seq <| HT_seq <| (HT_run (by simp [*]; rfl) ?_)
            refine (HT_cond rfl (fun h27 => ?_) (fun h27 => HT_skip ?_))
            · try simp only [Bool.or_eq_true, Bool.and_eq_true, Bool.or_eq_false_iff, Bool.and_eq_false_iff, Bool.not_eq_true', Bool.not_eq_false', decide_eq_true_eq, decide_eq_false_iff_not] at h27
              rw [if_neg h27] at hJ
              subst hJ
              refine HT_seq <| (HT_run (by simp [*]; rfl) ?_)
              exact (HT_retE (fun h => ⟨.inr rfl, h⟩) _ (by simp [*]; rfl) (by first | rfl | (simp [*]; done) | (simp only [resR]; (repeat' split) <;> first | rfl | (exfalso; omega) | simp_all)) (by simp))
            · try simp only [Bool.or_eq_true, Bool.and_eq_true, Bool.or_eq_false_iff, Bool.and_eq_false_iff, Bool.not_eq_true', Bool.not_eq_false', decide_eq_true_eq, decide_eq_false_iff_not] at h27
              rw [if_pos (by simpa using h27)] at hJ
              refine HT_seq <| (HT_runc [⟨true, .v (li SA), none⟩] (by simp [*]; first | exact ⟨rfl, Iff.rfl⟩ | exact ⟨rfl, trivial⟩ | rfl) ?_ ?_)
              · first | exact ca _ | exact trivial | simpa [*] using ca _
              refine HT_seq <| HT_seq <| (HT_run (by simp [*]; rfl) ?_)
              refine (HT_cond rfl (fun h32 => ?_) (fun h32 => HT_skip ?_))
              · try simp only [Bool.or_eq_true, Bool.and_eq_true, Bool.or_eq_false_iff, Bool.and_eq_false_iff, Bool.not_eq_true', Bool.not_eq_false', decide_eq_true_eq, decide_eq_false_iff_not] at h32
                rw [if_neg h32] at hJ
                subst hJ
                refine HT_seq <| (HT_run (by simp [*]; rfl) ?_)
                exact (HT_retE (fun h => ⟨.inr rfl, h⟩) _ (by simp [*]; rfl) (by first | rfl | (simp [*]; done) | (simp only [resR]; (repeat' split) <;> first | rfl | (exfalso; omega) | simp_all)) (by simp))
              · try simp only [Bool.or_eq_true, Bool.and_eq_true, Bool.or_eq_false_iff, Bool.and_eq_false_iff, Bool.not_eq_true', Bool.not_eq_false', decide_eq_true_eq, decide_eq_false_iff_not] at h32
                rw [if_pos (by simpa using h32)] at hJ
                refine HT_seq <| (HT_runc [⟨true, .v (li SB), none⟩] (by simp [*]; first | exact ⟨rfl, Iff.rfl⟩ | exact ⟨rfl, trivial⟩ | rfl) ?_ ?_)
                · first | exact cb _ | exact trivial | simpa [*] using cb _
                refine HT_seq <| (HT_run (by simp [*]; rfl) ?_)
                refine (HT_cond rfl (fun h37 => ?_) (fun h37 => HT_skip ?_))
                · try simp only [Bool.or_eq_true, Bool.and_eq_true, Bool.or_eq_false_iff, Bool.and_eq_false_iff, Bool.not_eq_true', Bool.not_eq_false', decide_eq_true_eq, decide_eq_false_iff_not] at h37
                  rw [if_neg h37] at hJ
                  subst hJ
                  refine HT_seq <| (HT_run (by simp [*]; rfl) ?_)
                  exact (HT_retE (fun h => ⟨.inr rfl, h⟩) _ (by simp [*]; rfl) (by first | rfl | (simp [*]; done) | (simp only [resR]; (repeat' split) <;> first | rfl | (exfalso; omega) | simp_all)) (by simp))
                · try simp only [Bool.or_eq_true, Bool.and_eq_true, Bool.or_eq_false_iff, Bool.and_eq_false_iff, Bool.not_eq_true', Bool.not_eq_false', decide_eq_true_eq, decide_eq_false_iff_not] at h37
                  rw [if_pos (by simpa using h37)] at hJ
                  refine (HT_run (by simp [*]; rfl) ?_)
                  exact ⟨k + 1, ⟨hk1, hJ⟩, by omega, le_mk (fun n => n) [] rfl (by simp [upS, keepS, *]) (by simp [*, upS]) (by simp [upS])⟩
        · have hpos : 1 ≤ sbs.length := (List.getElem?_eq_some_iff.1 hb0).1
          obtain ⟨x, hx⟩ := get_I (show sbs.length - 1 < sbs.length by omega)
          have hd6 : sd = 6 := Classical.byContradiction fun h => by rw [hs5 h] at hpos; simp at hpos
          have hw3 : IntKind.i64.wrap ((sbs.length : Int) - 1) = (sbs.length : Int) - 1 := wrap_in (by omega) (by omega)
          have hw4 : 0 ≤ (sbs.length : Int) - 1 := by omega
          have hw5 : ((sbs.length : Int) - 1).toNat = sbs.length - 1 := by omega
          have hw6 : 1 ≤ (sbs.length : Int) := by omega
          have hw7 : decide (0 < (sbs.length : Int)) = true := decide_eq_true (by omega)
          have hz2 : NU = decide (x ≤ 67108864) := by rw [hz]; unfold lastOk; rw [hx, hd6]; simp
          have hne : sbs ≠ [] := by intro h; rw [h] at hpos; simp at hpos
          clear hs6 hs5 hz hb0 hpos
          refine HT_seq <| HT_seq <| (HT_run (by simp [*]; rfl) ?_)
          refine (HT_cond rfl (fun h22 => ?_) (fun h22 => HT_skip ?_))
          · try simp only [Bool.or_eq_true, Bool.and_eq_true, Bool.or_eq_false_iff, Bool.and_eq_false_iff, Bool.not_eq_true', Bool.not_eq_false', decide_eq_true_eq, decide_eq_false_iff_not] at h22
            have hx2 : 67108864 < x := by
              omega
            rw [if_pos (by rw [hz2]; exact decide_eq_false (by omega))] at hSC
            subst hSC
            rw [if_neg (by decide)] at hJ
            subst hJ
            refine HT_seq <| (HT_run (by simp [*]; rfl) ?_)
            exact (HT_retE (fun h => ⟨.inr rfl, h⟩) _ (by simp [*]; rfl) (by first | rfl | (simp [*]; done) | (simp only [resR]; (repeat' split) <;> first | rfl | (exfalso; omega) | simp_all)) (by simp))
          · try simp only [Bool.or_eq_true, Bool.and_eq_true, Bool.or_eq_false_iff, Bool.and_eq_false_iff, Bool.not_eq_true', Bool.not_eq_false', decide_eq_true_eq, decide_eq_false_iff_not] at h22
            have hx2 : x ≤ 67108864 := by
              first
                | omega
                | (rcases h22 with h | h
                   · exact absurd h (by simp [hne])
                   · omega)
            rw [if_neg (by rw [hz2, decide_eq_true hx2]; decide)] at hSC
            subst hSC
            refine HT_seq <| (HT_runc [⟨true, .v (li TC), none⟩] (by simp [*]; first | exact ⟨rfl, Iff.rfl⟩ | exact ⟨rfl, trivial⟩ | rfl) ?_ ?_)
            · first | exact ct _ | exact trivial | simpa [*] using ct _
            refine HT_seq <| HT_seq <| (HT_run (by simp [*]; rfl) ?_)
            refine (HT_cond rfl (fun h27 => ?_) (fun h27 => HT_skip ?_))
            · try simp only [Bool.or_eq_true, Bool.and_eq_true, Bool.or_eq_false_iff, Bool.and_eq_false_iff, Bool.not_eq_true', Bool.not_eq_false', decide_eq_true_eq, decide_eq_false_iff_not] at h27
              rw [if_neg h27] at hJ
              subst hJ
              refine HT_seq <| (HT_run (by simp [*]; rfl) ?_)
              exact (HT_retE (fun h => ⟨.inr rfl, h⟩) _ (by simp [*]; rfl) (by first | rfl | (simp [*]; done) | (simp only [resR]; (repeat' split) <;> first | rfl | (exfalso; omega) | simp_all)) (by simp))
            · try simp only [Bool.or_eq_true, Bool.and_eq_true, Bool.or_eq_false_iff, Bool.and_eq_false_iff, Bool.not_eq_true', Bool.not_eq_false', decide_eq_true_eq, decide_eq_false_iff_not] at h27
              rw [if_pos (by simpa using h27)] at hJ
              refine HT_seq <| (HT_runc [⟨true, .v (li SA), none⟩] (by simp [*]; first | exact ⟨rfl, Iff.rfl⟩ | exact ⟨rfl, trivial⟩ | rfl) ?_ ?_)
              · first | exact ca _ | exact trivial | simpa [*] using ca _
              refine HT_seq <| HT_seq <| (HT_run (by simp [*]; rfl) ?_)
              refine (HT_cond rfl (fun h32 => ?_) (fun h32 => HT_skip ?_))
              · try simp only [Bool.or_eq_true, Bool.and_eq_true, Bool.or_eq_false_iff, Bool.and_eq_false_iff, Bool.not_eq_true', Bool.not_eq_false', decide_eq_true_eq, decide_eq_false_iff_not] at h32
                rw [if_neg h32] at hJ
                subst hJ
                refine HT_seq <| (HT_run (by simp [*]; rfl) ?_)
                exact (HT_retE (fun h => ⟨.inr rfl, h⟩) _ (by simp [*]; rfl) (by first | rfl | (simp [*]; done) | (simp only [resR]; (repeat' split) <;> first | rfl | (exfalso; omega) | simp_all)) (by simp))
              · try simp only [Bool.or_eq_true, Bool.and_eq_true, Bool.or_eq_false_iff, Bool.and_eq_false_iff, Bool.not_eq_true', Bool.not_eq_false', decide_eq_true_eq, decide_eq_false_iff_not] at h32
                rw [if_pos (by simpa using h32)] at hJ
                refine HT_seq <| (HT_runc [⟨true, .v (li SB), none⟩] (by simp [*]; first | exact ⟨rfl, Iff.rfl⟩ | exact ⟨rfl, trivial⟩ | rfl) ?_ ?_)
                · first | exact cb _ | exact trivial | simpa [*] using cb _
                refine HT_seq <| (HT_run (by simp [*]; rfl) ?_)
                refine (HT_cond rfl (fun h37 => ?_) (fun h37 => HT_skip ?_))
                · try simp only [Bool.or_eq_true, Bool.and_eq_true, Bool.or_eq_false_iff, Bool.and_eq_false_iff, Bool.not_eq_true', Bool.not_eq_false', decide_eq_true_eq, decide_eq_false_iff_not] at h37
                  rw [if_neg h37] at hJ
                  subst hJ
                  refine HT_seq <| (HT_run (by simp [*]; rfl) ?_)
                  exact (HT_retE (fun h => ⟨.inr rfl, h⟩) _ (by simp [*]; rfl) (by first | rfl | (simp [*]; done) | (simp only [resR]; (repeat' split) <;> first | rfl | (exfalso; omega) | simp_all)) (by simp))
                · try simp only [Bool.or_eq_true, Bool.and_eq_true, Bool.or_eq_false_iff, Bool.and_eq_false_iff, Bool.not_eq_true', Bool.not_eq_false', decide_eq_true_eq, decide_eq_false_iff_not] at h37
                  rw [if_pos (by simpa using h37)] at hJ
                  refine (HT_run (by simp [*]; rfl) ?_)
                  exact ⟨k + 1, ⟨hk1, hJ⟩, by omega, le_mk (fun n => n) [] rfl (by simp [upS, keepS, *]) (by simp [*, upS]) (by simp [upS])⟩
  · try simp only [Bool.or_eq_true, Bool.and_eq_true, Bool.or_eq_false_iff, Bool.and_eq_false_iff, Bool.not_eq_true', Bool.not_eq_false', decide_eq_true_eq, decide_eq_false_iff_not] at h4
    have hkl : k = l.length := by omega
    rw [hkl, List.drop_length] at hJ
    simp only [ssC] at hJ
    subst hJ
    refine (HT_exit ?_)
    refine HT_seq <| (HT_run (by simp [*]; rfl) ?_)
    exact (HT_retE (fun h => ⟨.inr rfl, h⟩) _ (by simp [*]; rfl) (by first | rfl | (simp [*]; done) | (simp only [resR]; (repeat' split) <;> first | rfl | (exfalso; omega) | simp_all)) (by simp))
end Go.Proofs.YtfilidjbpomgoaaGreat

namespace Go.Proofs.YtfilidjbpomgoaaGreat
open Go Go.Hl

/-! ## a program is valid -/
theorem shB_free {vars : List Vr} {nh : Nat} {d v n : Int} {t : Tm} {la lb : Nat} {bs : List Int} {last : Bool} (h : shB vars nh d v n t la lb bs last = true) : d = 3 ∨ d = 4 ∨ (la = 0 ∧ lb = 0) := by
  by_cases h3 : d = 3
  · exact .inl h3
  · by_cases h4 : d = 4
    · exact .inr (.inl h4)
    · refine .inr (.inr ?_)
      unfold shB at h
      simp only [if_neg h3, if_neg h4] at h
      split at h
      · simp only [Bool.and_eq_true, decide_eq_true_eq] at h
        exact h.1.1.1
      · split at h
        · simp only [Bool.and_eq_true, decide_eq_true_eq] at h
          exact h.1.1.1
        · split at h
          · simp only [Bool.and_eq_true, decide_eq_true_eq] at h
            exact h.1.1.1.1
          · split at h
            · simp only [Bool.and_eq_true, decide_eq_true_eq] at h
              exact h.1.1.1.1.1
            · split at h
              · simp only [Bool.and_eq_true, decide_eq_true_eq] at h
                exact h.1.1.1.1.1
              · cases h
theorem ssC_ok {vars : List Vr} {nh : Nat} : ∀ (l : List St) (top : Bool), ssC vars nh l top = 0 → okL l = true
  | [], _, _ => by simp [okL]
  | .mk d c v n t a b bs :: l, top, h => by
    simp only [ssC] at h
    split at h
    · rename_i h0
      split at h
      · rename_i ha
        split at h
        · rename_i hb
          have ia := ssC_ok a false ha
          have ib := ssC_ok b false hb
          have il := ssC_ok l top h
          unfold stC at h0
          split at h0
          · cases h0
          · rename_i hs
            split at h0
            · cases h0
            · rename_i hn
              have hs : shB vars nh d v n t a.length b.length bs (top && l.isEmpty) = true := by simpa using hs
              have hn : numB d c n bs = true := by simpa using hn
              have hf := shB_free hs
              unfold numB at hn
              simp only [Bool.and_eq_true, Bool.not_eq_true', Bool.or_eq_false_iff, Bool.and_eq_false_iff, decide_eq_false_iff_not] at hn
              have hm : mostI d ≤ 67108864 := by unfold mostI; split <;> omega
              simp only [okL, okS, Bool.and_eq_true, Bool.or_eq_true, decide_eq_true_eq, List.isEmpty_iff, ia, ib, il]
              have hla : a.length = 0 → a = [] := List.eq_nil_of_length_eq_zero
              have hlb : b.length = 0 → b = [] := List.eq_nil_of_length_eq_zero
              refine ⟨⟨⟨by omega, by omega, by omega⟩, ?_, by simp⟩, by simp⟩
              rcases hf with hf | hf | hf
              · exact .inl hf
              · exact .inr (.inl hf)
              · exact .inr (.inr ⟨hla hf.1, hlb hf.2⟩)
        · rename_i hb
          exact absurd h hb
      · rename_i ha
        exact absurd h ha
    · rename_i h0
      exact absurd h h0

def nodesH : List Ht → Nat
  | [] => 0
  | h :: l => h.term.nodes + nodesH l
def mH : List Ht → Int × Bool → Int × Bool
  | [], s => s
  | h :: l, s => mH l (if over s = true then s else mTm h.term 1 s)
theorem nodesH_mem {l : List Ht} {h : Ht} (hm : h ∈ l) : h.term.nodes ≤ nodesH l := by
  induction l with
  | nil => cases hm
  | cons x l ih =>
    simp only [nodesH]
    rcases List.mem_cons.1 hm with rfl | h1
    · omega
    · have := ih h1; omega
theorem mH_over : ∀ (l : List Ht) (s : Int × Bool), over s = true → over (mH l s) = true
  | [], s, h => h
  | x :: l, s, h => by
    simp only [mH, if_pos h]
    exact mH_over l s h
def deepH (l : List Ht) : Bool := l.all fun h => decide (tdT h.term ≤ 12)
theorem mH_fit : ∀ (l : List Ht) (s : Int × Bool), 0 ≤ s.1 → over s = false →
    (s.1 + nodesH l ≤ 1024 ∧ deepH l = true → over (mH l s) = false) ∧ (¬ (s.1 + nodesH l ≤ 1024 ∧ deepH l = true) → over (mH l s) = true)
  | [], s, h0, h => by
    have := over_f h
    simp only [mH, nodesH, deepH, List.all_nil]
    exact ⟨fun _ => h, fun hn => absurd ⟨by omega, trivial⟩ hn⟩
  | x :: l, s, h0, h => by
    have ho := over_f h
    have ht := mTm_fit x.term 1 s h0 (by omega) h
    have hle := mTm_le x.term 1 s
    simp only [mH, h, nodesH, deepH, List.all_cons, Bool.and_eq_true, decide_eq_true_eq, Bool.false_eq_true, if_false]
    by_cases hf : s.1 + x.term.nodes ≤ 1024 ∧ 1 + (tdT x.term : Int) ≤ 13
    · have e := ht.1 hf
      rw [e]
      have ih := mH_fit l (s.1 + x.term.nodes, false) (by simp only; omega) (by simp only [over, Bool.false_or, decide_eq_false_iff_not]; omega)
      simp only [deepH] at ih
      refine ⟨fun hh => ih.1 ⟨by omega, hh.2.2⟩, fun hh => ih.2 fun h2 => hh ⟨by omega, by omega, h2.2⟩⟩
    · have e := ht.2 hf
      refine ⟨fun hh => absurd ⟨by omega, by omega⟩ hf, fun _ => mH_over _ _ e⟩
def sizesB (f : Fl) : Bool := ((((decide (f.vars.length ≤ 64) && decide (f.hats.length ≤ 8)) && decide (nodesS f.body + nodesH f.hats ≤ 1024)) && decide (sdL f.body ≤ 12)) && !tdeep f.body) && deepH f.hats
def mF (f : Fl) : Int × Bool := mH f.hats (mSs f.body 1 (0, false))
theorem sizes_over (f : Fl) : sizesB f = false ↔ 64 < f.vars.length ∨ 8 < f.hats.length ∨ over (mF f) = true := by
  have h1 := mSs_fit f.body 1 (0, false) (by decide) (by decide) rfl
  unfold mF sizesB
  simp only [Bool.and_eq_false_iff, decide_eq_false_iff_not, Bool.not_eq_false', Nat.not_le]
  by_cases hs : ((0 : Int), false).1 + nodesS f.body ≤ 1024 ∧ 1 + (sdL f.body : Int) ≤ 13 ∧ tdeep f.body = false
  · rw [h1.1 hs]
    have h2 := mH_fit f.hats (0 + (nodesS f.body : Int), false) (by simp only; omega) (by simp only [over, Bool.false_or, decide_eq_false_iff_not]; have := hs.1; simp only at this; omega)
    obtain ⟨a1, a2, a3⟩ := hs
    simp only at a1 h2
    by_cases hh : 0 + (nodesS f.body : Int) + nodesH f.hats ≤ 1024 ∧ deepH f.hats = true
    · have e := h2.1 hh
      have e3 := hh.2
      simp only [show ((0 : Int), false).1 = 0 from rfl]
      rw [e, a3, e3]
      simp
      omega
    · have e := h2.2 hh
      simp only [show ((0 : Int), false).1 = 0 from rfl]
      rw [e, a3]
      constructor
      · intro _; exact .inr (.inr rfl)
      · intro _
        by_cases hd : deepH f.hats = true
        · left; left; left; right
          by_cases hc : 0 + (nodesS f.body : Int) + nodesH f.hats ≤ 1024
          · exact absurd ⟨hc, hd⟩ hh
          · omega
        · right; simpa using hd
  · have e := mH_over f.hats _ (h1.2 hs)
    rw [e]
    constructor
    · intro _; exact .inr (.inr rfl)
    · intro _
      simp only at hs
      by_cases ht : tdeep f.body = true
      · left; right; exact ht
      · have ht : tdeep f.body = false := by simpa using ht
        by_cases hd : sdL f.body ≤ 12
        · left; left; left; right
          by_cases hc : 0 + (nodesS f.body : Int) ≤ 1024
          · exact absurd ⟨hc, by omega, ht⟩ hs
          · omega
        · left; left; right; omega
def overL (l : List St) : Bool := decide (4096 < (bdL CR l ⟨0, 0, 0⟩).s) || (decide (8 < (bdL CR l ⟨0, 0, 0⟩).o) || decide (67108864 < (bdL CR l ⟨0, 0, 0⟩).t))
/-- the code of a program -/
def codeC (f : Fl) : Int :=
  if sizesB f = false then 4 else if varsC f.vars = 0 then
    (if hcs f.vars [] f.hats = 0 then (if ssC f.vars f.hats.length f.body true = 0 then (if overL f.body = true then 4 else 0) else ssC f.vars f.hats.length f.body true) else hcs f.vars [] f.hats)
  else varsC f.vars
theorem varsC_good {vars : List Vr} (h : varsC vars = 0) : goodV vars := by
  unfold varsC at h
  split at h
  · rename_i h0
    exact vcs_good _ _ h0
  · rename_i h0
    exact absurd h h0
end Go.Proofs.YtfilidjbpomgoaaGreat

namespace Go.Proofs.YtfilidjbpomgoaaGreat
open Go Go.Hl

theorem sizes_con (f : Fl) (hv : f.vars.length ≤ 1000000) (hh : f.hats.length ≤ 1000000) (hn : nodesS f.body + nodesH f.hats ≤ 900000000) (d : Nat) :
    Con Tryz.prog 31 true [aF f] (.v (lb (sizesB f))) none d := by
  obtain ⟨res, hres⟩ : ∃ r, sizesB f = r := ⟨_, rfl⟩
  rw [hres]
  have cn := nodes_con f.body (by omega)
  have csd := sdepth_con f.body (by omega)
  have ctd := tdeep_con f.body (by omega)
  unfold sizesB at hres
  obtain ⟨vars, hats, body⟩ := f
  simp only at hv hh hn hres cn csd ctd
  refine con_of_HT Tryz.func31 rfl (by kernel_rfl) (Nat.le_of_ble_eq_true rfl) ?_
  simp only [Tryz.f31]
  simp only [aF, Fl.enc, List.map_cons, List.map_nil]
  refine HT_seq <| (HT_run (by simp [*]; rfl) ?_)
  refine HT_seq <| HT_seq <| (HT_run (by simp [*]; rfl) ?_)
  refine (HT_cond rfl (fun h2 => ?_) (fun h2 => HT_skip ?_))
  · try simp only [Bool.or_eq_true, Bool.and_eq_true, Bool.or_eq_false_iff, Bool.and_eq_false_iff, Bool.not_eq_true', Bool.not_eq_false', decide_eq_true_eq, decide_eq_false_iff_not] at h2
    have hz : (decide (vars.length ≤ 64) && decide (hats.length ≤ 8)) = false := by
      simp only [Bool.and_eq_false_iff, decide_eq_false_iff_not]
      omega
    rw [hz] at hres
    simp only [Bool.false_and] at hres
    subst hres
    refine HT_seq <| (HT_run (by simp [*]; rfl) ?_)
    exact (HT_retE (fun h => ⟨.inr rfl, h⟩) _ (by simp [*]; rfl) (by first | rfl | (simp [*]; done) | (simp only [resR]; (repeat' split) <;> first | rfl | (exfalso; omega) | simp_all)) (by simp))
  · try simp only [Bool.or_eq_true, Bool.and_eq_true, Bool.or_eq_false_iff, Bool.and_eq_false_iff, Bool.not_eq_true', Bool.not_eq_false', decide_eq_true_eq, decide_eq_false_iff_not] at h2
    have hz : (decide (vars.length ≤ 64) && decide (hats.length ≤ 8)) = true := by
      simp only [Bool.and_eq_true, decide_eq_true_eq]
      omega
    rw [hz] at hres
    simp only [Bool.true_and] at hres
    refine HT_seq <| (HT_runc [⟨true, .v (li (nodesS body)), none⟩] (by simp [*]; first | exact ⟨rfl, Iff.rfl⟩ | exact ⟨rfl, trivial⟩ | rfl) ?_ ?_)
    · first | exact cn _ | exact trivial | simpa [*] using cn _
    refine HT_seq <| HT_seq <| (HT_run (by simp [*]; rfl) ?_)
    refine HT_block <| (HT_loopU [1] (fun (x : Nat × Nat) => [(3, .v (li x.2)), (4, .v (li x.1))]) (fun (x : Nat × Nat) => [(1, .box [.c (.sl 5 (encVs vars)), .c (.sl 6 (encHs hats)), .c (.sl 10 (encSs body))])]) (fun (x : Nat × Nat) => x.1 ≤ hats.length ∧ x.2 + nodesH (hats.drop x.1) = nodesS body + nodesH hats ∧ deepH (hats.drop x.1) = deepH hats) (fun (x : Nat × Nat) => hats.length - x.1) (0, nodesS body) ⟨Nat.zero_le _, by simp, by simp⟩ ?_ ?_)
    · exact le_mk (fun n => n) [] rfl (by simp [*, upS, keepS]) (by simp [*, upS]) (by simp [upS])
    rintro ⟨k, n⟩ ⟨hk, hJ, hJ2⟩
    simp only [upS, keepS, insS]
    try simp only [keepS, List.contains_cons, List.contains_nil, Bool.or_false, Bool.or_true, Bool.true_or, Bool.false_or, Nat.reduceBEq, BEq.rfl, beq_self_eq_true, if_true, if_false, Bool.false_eq_true, ite_true, ite_false, ins, Nat.reduceLT]
    simp only at hk hJ hJ2
    refine HT_seq <| HT_seq <| (HT_run (by simp [*]; rfl) ?_)
    refine (HT_cond rfl (fun h9 => HT_skip ?_) (fun h9 => ?_))
    · try simp only [Bool.or_eq_true, Bool.and_eq_true, Bool.or_eq_false_iff, Bool.and_eq_false_iff, Bool.not_eq_true', Bool.not_eq_false', decide_eq_true_eq, decide_eq_false_iff_not] at h9
      have hlt : k < hats.length := by omega
      obtain ⟨h, he, hd⟩ := at_lt hlt
      have hw1 := wrap1 hlt (by omega)
      have hk1 : k + 1 ≤ hats.length := hlt
      rw [hd] at hJ hJ2
      simp only [nodesH] at hJ
      have hJ2 : (decide (tdT h.term ≤ 12) && deepH (hats.drop (k + 1))) = deepH hats := hJ2
      have ctn := tnodes_con h.term (by omega)
      have ctd2 := tdepth_con h.term (by omega)
      have hw2 : IntKind.i64.wrap ((n : Int) + h.term.nodes) = ((n + h.term.nodes : Nat) : Int) := by rw [wrap_in (by omega) (by omega)]; simp
      obtain ⟨nm, lo, hi, ⟨o, tn, ks⟩⟩ := h
      simp only at hJ hJ2 ctn ctd2 hw2
      simp only [aT, Tm.enc, List.map_cons, List.map_nil] at ctn ctd2
      obtain ⟨N, hN⟩ : ∃ x, (Tm.mk o tn ks).nodes = x := ⟨_, rfl⟩
      obtain ⟨D, hD⟩ : ∃ x, tdT (Tm.mk o tn ks) = x := ⟨_, rfl⟩
      rw [hN] at ctn hJ hw2
      rw [hD] at ctd2 hJ2
      clear hlt h9 hd hN hD
      refine HT_seq <| HT_block <| HT_seq <| (HT_runc [⟨true, .v (li N), none⟩] (by simp [*]; first | exact ⟨rfl, Iff.rfl⟩ | exact ⟨rfl, trivial⟩ | rfl) ?_ ?_)
      · first | exact ctn _ | exact trivial | simpa [*] using ctn _
      refine HT_seq <| (HT_runc [⟨true, .v (li D), none⟩] (by simp [*]; first | exact ⟨rfl, Iff.rfl⟩ | exact ⟨rfl, trivial⟩ | rfl) ?_ ?_)
      · first | exact ctd2 _ | exact trivial | simpa [*] using ctd2 _
      refine (HT_cond rfl (fun h12 => ?_) (fun h12 => HT_skip ?_))
      · try simp only [Bool.or_eq_true, Bool.and_eq_true, Bool.or_eq_false_iff, Bool.and_eq_false_iff, Bool.not_eq_true', Bool.not_eq_false', decide_eq_true_eq, decide_eq_false_iff_not] at h12
        have hz2 : deepH hats = false := by rw [← hJ2]; simp only [Bool.and_eq_false_iff, decide_eq_false_iff_not]; omega
        rw [hz2, Bool.and_false] at hres
        subst hres
        refine HT_seq <| (HT_run (by simp [*]; rfl) ?_)
        exact (HT_retE (fun h => ⟨.inr rfl, h⟩) _ (by simp [*]; rfl) (by first | rfl | (simp [*]; done) | (simp only [resR]; (repeat' split) <;> first | rfl | (exfalso; omega) | simp_all)) (by simp))
      · try simp only [Bool.or_eq_true, Bool.and_eq_true, Bool.or_eq_false_iff, Bool.and_eq_false_iff, Bool.not_eq_true', Bool.not_eq_false', decide_eq_true_eq, decide_eq_false_iff_not] at h12
        rw [decide_eq_true (by omega), Bool.true_and] at hJ2
        refine (HT_run (by simp [*]; rfl) ?_)
        exact ⟨(k + 1, n + N), ⟨hk1, by simp only; omega, hJ2⟩, by simp only; omega, le_mk (fun n => n) [] rfl (by simp [upS, keepS, *]) (by simp [*, upS]) (by simp [upS])⟩
    · try simp only [Bool.or_eq_true, Bool.and_eq_true, Bool.or_eq_false_iff, Bool.and_eq_false_iff, Bool.not_eq_true', Bool.not_eq_false', decide_eq_true_eq, decide_eq_false_iff_not] at h9
      have hkl : k = hats.length := by omega
      subst hkl
      rw [List.drop_length] at hJ hJ2
      simp only [nodesH, Nat.add_zero] at hJ
      have hJ2 : deepH hats = true := hJ2.symm
      rw [hJ2, Bool.and_true, ← hJ] at hres
      obtain ⟨S, hS⟩ : ∃ x, sdL body = x := ⟨_, rfl⟩
      obtain ⟨T, hT⟩ : ∃ x, tdeep body = x := ⟨_, rfl⟩
      rw [hS] at csd hres
      rw [hT] at ctd hres
      have e1 : decide (n ≤ 1024) = decide ((n : Int) ≤ 1024) := by rw [Bool.eq_iff_iff, decide_eq_true_eq, decide_eq_true_eq]; omega
      have e2 : decide (S ≤ 12) = decide ((S : Int) ≤ 12) := by rw [Bool.eq_iff_iff, decide_eq_true_eq, decide_eq_true_eq]; omega
      rw [e1, e2] at hres
      clear e1 e2 hS hT hJ2 h9 hJ
      refine (HT_exit ?_)
      refine HT_seq <| (HT_runc [⟨true, .v (li S), none⟩, ⟨true, .v (lb T), none⟩] (by simp [*]; first | exact ⟨rfl, Iff.rfl⟩ | exact ⟨rfl, trivial⟩ | rfl) ?_ ?_)
      · first | exact ⟨csd _, ctd _⟩ | exact trivial | (repeat' first | exact trivial | exact csd _ | exact ctd _ | apply And.intro)
      exact (HT_retE (fun h => ⟨.inr rfl, h⟩) _ (by simp [*]; rfl) (by subst hres; simp [resR]) (by simp))
end Go.Proofs.YtfilidjbpomgoaaGreat

namespace Go.Proofs.YtfilidjbpomgoaaGreat
open Go Go.Hl

theorem checkR_con (f : Fl) (hv : f.vars.length ≤ 1000000) (hh : f.hats.length ≤ 1000000) (hn : nodesS f.body + nodesH f.hats ≤ 900000000) (hb : bndL f.body = true) (d : Nat) :
    Con Tryz.prog 9 true [aF f] (.v (li (codeC f))) none d := by
  obtain ⟨res, hres⟩ : ∃ r, codeC f = r := ⟨_, rfl⟩
  rw [hres]
  have csz := sizes_con f hv hh hn
  have cvars := varsR_con f.vars hv
  have ct := fun (hg : goodV f.vars) (h : Ht) (hm : h ∈ f.hats) => termR_con f.vars true hg (by omega) h.term (by have := nodesH_mem hm; omega)
  have cst := fun hg => stepsR_con f hg hv f.body (by omega) hb
  have cup := fun ho => boundsR_con f.body (by omega) ho
  have hgood : varsC f.vars = 0 → goodV f.vars := varsC_good
  have hok : ssC f.vars f.hats.length f.body true = 0 → okL f.body = true := ssC_ok _ _
  unfold codeC overL at hres
  obtain ⟨SZ, hSZ⟩ : ∃ x, sizesB f = x := ⟨_, rfl⟩
  rw [hSZ] at csz hres
  obtain ⟨vars, hats, body⟩ := f
  simp only at hv hh hn hb hres csz cvars ct cst cup hgood hok
  obtain ⟨VC, hVC⟩ : ∃ x, varsC vars = x := ⟨_, rfl⟩
  obtain ⟨HC, hHC⟩ : ∃ x, hcs vars [] hats = x := ⟨_, rfl⟩
  obtain ⟨SC, hSC⟩ : ∃ x, ssC vars hats.length body true = x := ⟨_, rfl⟩
  rw [hVC] at cvars hres hgood
  rw [hHC] at hres
  rw [hSC] at hres hok
  have cst := fun hg => cst hg true
  rw [hSC] at cst
  clear hVC hSC hSZ
  refine con_of_HT Tryz.func9 rfl (by kernel_rfl) (Nat.le_of_ble_eq_true rfl) ?_
  simp only [Tryz.f9]
  simp only [aF, Fl.enc, List.map_cons, List.map_nil] at csz cst ⊢
  refine HT_seq <| (HT_run (by simp [*]; rfl) ?_)
  refine HT_seq <| HT_seq <| (HT_runc [⟨true, .v (lb SZ), none⟩] (by simp [*]; first | exact ⟨rfl, Iff.rfl⟩ | exact ⟨rfl, trivial⟩ | rfl) ?_ ?_)
  · first | exact csz _ | exact trivial | simpa [*] using csz _
  refine (HT_cond rfl (fun h2 => ?_) (fun h2 => HT_skip ?_))
  · try simp only [Bool.or_eq_true, Bool.and_eq_true, Bool.or_eq_false_iff, Bool.and_eq_false_iff, Bool.not_eq_true', Bool.not_eq_false', decide_eq_true_eq, decide_eq_false_iff_not] at h2
    have hz : SZ = false := by simpa using h2
    rw [if_pos hz] at hres
    subst hres
    refine HT_seq <| (HT_run (by simp [*]; rfl) ?_)
    exact (HT_retE (fun h => ⟨.inr rfl, h⟩) _ (by simp [*]; rfl) (by first | rfl | (simp [*]; done) | (simp only [resR]; (repeat' split) <;> first | rfl | (exfalso; omega) | simp_all)) (by simp))
  · try simp only [Bool.or_eq_true, Bool.and_eq_true, Bool.or_eq_false_iff, Bool.and_eq_false_iff, Bool.not_eq_true', Bool.not_eq_false', decide_eq_true_eq, decide_eq_false_iff_not] at h2
    have hz : SZ = true := by simpa using h2
    rw [if_neg (by rw [hz]; decide)] at hres
    clear csz h2
    subst hz
    refine HT_seq <| (HT_runc [⟨true, .v (li VC), none⟩] (by simp [*]; first | exact ⟨rfl, Iff.rfl⟩ | exact ⟨rfl, trivial⟩ | rfl) ?_ ?_)
    · first | exact cvars _ | exact trivial | simpa [*] using cvars _
    refine HT_seq <| HT_seq <| (HT_run (by simp [*]; rfl) ?_)
    refine (HT_cond rfl (fun h7 => ?_) (fun h7 => HT_skip ?_))
    · try simp only [Bool.or_eq_true, Bool.and_eq_true, Bool.or_eq_false_iff, Bool.and_eq_false_iff, Bool.not_eq_true', Bool.not_eq_false', decide_eq_true_eq, decide_eq_false_iff_not] at h7
      rw [if_neg h7] at hres
      subst hres
      refine HT_seq <| (HT_run (by simp [*]; rfl) ?_)
      exact (HT_retE (fun h => ⟨.inr rfl, h⟩) _ (by simp [*]; rfl) (by first | rfl | (simp [*]; done) | (simp only [resR]; (repeat' split) <;> first | rfl | (exfalso; omega) | simp_all)) (by simp))
    · try simp only [Bool.or_eq_true, Bool.and_eq_true, Bool.or_eq_false_iff, Bool.and_eq_false_iff, Bool.not_eq_true', Bool.not_eq_false', decide_eq_true_eq, decide_eq_false_iff_not] at h7
      have hv0 : VC = 0 := by simpa using h7
      have hg := hgood hv0
      have ct := ct hg
      have cst := cst hg
      rw [if_pos hv0] at hres
      clear cvars hgood h7
      subst hv0
      refine HT_seq <| HT_seq <| (HT_run (by simp [*]; rfl) ?_)
      refine HT_block <| (HT_loopU [1] (fun (x : Nat) => [(4, .v (li x))]) (fun (x : Nat) => [(1, .box [.c (.sl 5 (encVs vars)), .c (.sl 6 (encHs hats)), .c (.sl 10 (encSs body))])]) (fun (x : Nat) => x ≤ hats.length ∧ hcs vars (hats.take x) (hats.drop x) = HC) (fun (x : Nat) => hats.length - x) (0 : Nat) ⟨Nat.zero_le _, hHC⟩ ?_ ?_)
      · exact le_mk (fun n => n) [] rfl (by simp [*, upS, keepS]) (by simp [*, upS]) (by simp [upS])
      rintro k ⟨hk, hJ⟩
      simp only [upS, keepS, insS]
      try simp only [keepS, List.contains_cons, List.contains_nil, Bool.or_false, Bool.or_true, Bool.true_or, Bool.false_or, Nat.reduceBEq, BEq.rfl, beq_self_eq_true, if_true, if_false, Bool.false_eq_true, ite_true, ite_false, ins, Nat.reduceLT]
      clear hHC
      refine HT_seq <| HT_seq <| (HT_run (by simp [*]; rfl) ?_)
      refine (HT_cond rfl (fun h13 => HT_skip ?_) (fun h13 => ?_))
      · try simp only [Bool.or_eq_true, Bool.and_eq_true, Bool.or_eq_false_iff, Bool.and_eq_false_iff, Bool.not_eq_true', Bool.not_eq_false', decide_eq_true_eq, decide_eq_false_iff_not] at h13
        have hlt : k < hats.length := by omega
        obtain ⟨h, he, hd⟩ := at_lt hlt
        have hw1 := wrap1 hlt (by omega)
        have hk1 : k + 1 ≤ hats.length := hlt
        have hkl : (hats.take k).length = k := by rw [List.length_take]; omega
        rw [hd] at hJ
        simp only [hcs] at hJ
        rw [← take_snoc he] at hJ
        have ct := ct h (List.mem_of_getElem? he)
        obtain ⟨nm, lo, hi, ⟨o, tn, ks⟩⟩ := h
        obtain ⟨C, hC⟩ : ∃ x, hcode vars (hats.take k) ⟨nm, lo, hi, .mk o tn ks⟩ = x := ⟨_, rfl⟩
        rw [hC] at hJ
        simp only [hcode] at hC
        simp only [aT, Tm.enc, List.map_cons, List.map_nil] at ct
        obtain ⟨TC, hTC⟩ : ∃ x, termC vars true (.mk o tn ks) = x := ⟨_, rfl⟩
        rw [hTC] at ct hC
        clear hlt h13 hd cup hok cst hTC
        refine HT_seq <| HT_block <| HT_seq <| (HT_run (by simp [*]; rfl) ?_)
        refine HT_seq <| HT_seq <| (HT_runc [⟨true, .v (lb (nameB nm)), none⟩] (by simp [*]; first | exact ⟨rfl, Iff.rfl⟩ | exact ⟨rfl, trivial⟩ | rfl) ?_ ?_)
        · first | exact nameR_con _ _ | exact trivial | simpa [*] using nameR_con _ _
        refine (HT_cond rfl (fun h16 => ?_) (fun h16 => HT_skip ?_))
        · try simp only [Bool.or_eq_true, Bool.and_eq_true, Bool.or_eq_false_iff, Bool.and_eq_false_iff, Bool.not_eq_true', Bool.not_eq_false', decide_eq_true_eq, decide_eq_false_iff_not] at h16
          rw [if_pos h16] at hC
          subst hC
          rw [if_neg (by decide)] at hJ
          subst hJ
          rw [if_neg (by decide)] at hres
          subst hres
          refine HT_seq <| (HT_run (by simp [*]; rfl) ?_)
          exact (HT_retE (fun h => ⟨.inr rfl, h⟩) _ (by simp [*]; rfl) (by first | rfl | (simp [*]; done) | (simp only [resR]; (repeat' split) <;> first | rfl | (exfalso; omega) | simp_all)) (by simp))
        · try simp only [Bool.or_eq_true, Bool.and_eq_true, Bool.or_eq_false_iff, Bool.and_eq_false_iff, Bool.not_eq_true', Bool.not_eq_false', decide_eq_true_eq, decide_eq_false_iff_not] at h16
          rw [if_neg (by simp [h16])] at hC
          clear h16
          refine HT_seq <| HT_seq <| (HT_run (by simp [*]; rfl) ?_)
          refine HT_block <| (HT_loopU [1, 4, 5] (fun (x : Nat) => [(6, .v (li x))]) (fun (x : Nat) => [(1, .box [.c (.sl 5 (encVs vars)), .c (.sl 6 (encHs hats)), .c (.sl 10 (encSs body))]), (5, .box [.c (sC nm), .c (iC lo), .c (iC hi), .c (iC o), .c (iC tn), .c (.sl 3 (encTs ks))])]) (fun (x : Nat) => x ≤ k ∧ ∀ j : Nat, j < x → ∀ w, hats[j]? = some w → w.name ≠ nm) (fun (x : Nat) => k - x) (0 : Nat) ⟨Nat.zero_le _, fun j hj => absurd hj (Nat.not_lt_zero j)⟩ ?_ ?_)
          · exact le_mk (fun n => n) [] rfl (by simp [*, upS, keepS]) (by simp [*, upS]) (by simp [upS])
          rintro j ⟨hj, hno⟩
          simp only [upS, keepS, insS]
          try simp only [keepS, List.contains_cons, List.contains_nil, Bool.or_false, Bool.or_true, Bool.true_or, Bool.false_or, Nat.reduceBEq, BEq.rfl, beq_self_eq_true, if_true, if_false, Bool.false_eq_true, ite_true, ite_false, ins, Nat.reduceLT]
          refine HT_seq <| HT_seq <| (HT_run (by simp [*]; rfl) ?_)
          refine (HT_cond rfl (fun h22 => HT_skip ?_) (fun h22 => ?_))
          · try simp only [Bool.or_eq_true, Bool.and_eq_true, Bool.or_eq_false_iff, Bool.and_eq_false_iff, Bool.not_eq_true', Bool.not_eq_false', decide_eq_true_eq, decide_eq_false_iff_not] at h22
            have hjk : j < k := by omega
            obtain ⟨w, hw⟩ : ∃ w, hats[j]? = some w := ⟨hats[j], by simp [show j < hats.length by omega]⟩
            have hwj := wrap1 hjk (by omega)
            have hj1 : j + 1 ≤ k := hjk
            have hmemw : w ∈ hats.take k := by
              have : (hats.take k)[j]? = some w := by rw [List.getElem?_take_of_lt hjk]; exact hw
              exact List.mem_of_getElem? this
            obtain ⟨n2, l2, i2, ⟨o2, t2, k2⟩⟩ := w
            clear hjk h22
            refine HT_seq <| HT_block <| HT_seq <| (HT_drun (by kernel_rfl) (by kernel_rfl) (by rfl) (by simp [*]; rfl) ?_)
            refine (HT_cond rfl (fun h24 => ?_) (fun h24 => HT_skip ?_))
            · try simp only [Bool.or_eq_true, Bool.and_eq_true, Bool.or_eq_false_iff, Bool.and_eq_false_iff, Bool.not_eq_true', Bool.not_eq_false', decide_eq_true_eq, decide_eq_false_iff_not] at h24
              have hany : ((hats.take k).any fun w => decide (w.name = nm)) = true := by
                rw [List.any_eq_true]
                exact ⟨_, hmemw, by simpa using h24⟩
              rw [if_pos hany] at hC
              subst hC
              rw [if_neg (by decide)] at hJ
              subst hJ
              rw [if_neg (by decide)] at hres
              subst hres
              refine HT_seq <| (HT_run (by simp [*]; rfl) ?_)
              exact (HT_retE (fun h => ⟨.inr rfl, h⟩) _ (by simp [*]; rfl) (by first | rfl | (simp [*]; done) | (simp only [resR]; (repeat' split) <;> first | rfl | (exfalso; omega) | simp_all)) (by simp))
            · try simp only [Bool.or_eq_true, Bool.and_eq_true, Bool.or_eq_false_iff, Bool.and_eq_false_iff, Bool.not_eq_true', Bool.not_eq_false', decide_eq_true_eq, decide_eq_false_iff_not] at h24
              refine (HT_run (by simp [*]; rfl) ?_)
              exact ⟨j + 1, ⟨hj1, fun i hi u hu => by
                rcases Nat.lt_or_eq_of_le (Nat.le_of_lt_succ hi) with h | h
                · exact hno i h u hu
                · subst h
                  rw [hw] at hu
                  cases hu
                  simpa using h24⟩, by omega, le_mk (fun n => n) [] rfl (by simp [upS, keepS, *]) (by simp [*, upS]) (by simp [upS])⟩
          · try simp only [Bool.or_eq_true, Bool.and_eq_true, Bool.or_eq_false_iff, Bool.and_eq_false_iff, Bool.not_eq_true', Bool.not_eq_false', decide_eq_true_eq, decide_eq_false_iff_not] at h22
            have hjk : j = k := by omega
            subst hjk
            have hany : ((hats.take j).any fun w => decide (w.name = nm)) = false := by
              rw [List.any_eq_false]
              intro w hw
              obtain ⟨i, hi⟩ := List.mem_iff_getElem?.1 hw
              have hij : i < j := by have := (List.getElem?_eq_some_iff.1 hi).1; omega
              rw [List.getElem?_take_of_lt hij] at hi
              simpa using hno i hij w hi
            rw [if_neg (by simp [hany])] at hC
            clear hno hkl hany
            refine (HT_exit ?_)
            refine HT_seq <| HT_seq <| (HT_runc [⟨true, .v (lb (boundedB lo hi)), none⟩] (by simp [*]; first | exact ⟨rfl, Iff.rfl⟩ | exact ⟨rfl, trivial⟩ | rfl) ?_ ?_)
            · first | exact boundedR_con _ _ _ | exact trivial | simpa [*] using boundedR_con _ _ _
            refine (HT_cond rfl (fun h30 => ?_) (fun h30 => HT_skip ?_))
            · try simp only [Bool.or_eq_true, Bool.and_eq_true, Bool.or_eq_false_iff, Bool.and_eq_false_iff, Bool.not_eq_true', Bool.not_eq_false', decide_eq_true_eq, decide_eq_false_iff_not] at h30
              rw [if_pos h30] at hC
              subst hC
              rw [if_neg (by decide)] at hJ
              subst hJ
              rw [if_neg (by decide)] at hres
              subst hres
              refine HT_seq <| (HT_run (by simp [*]; rfl) ?_)
              exact (HT_retE (fun h => ⟨.inr rfl, h⟩) _ (by simp [*]; rfl) (by first | rfl | (simp [*]; done) | (simp only [resR]; (repeat' split) <;> first | rfl | (exfalso; omega) | simp_all)) (by simp))
            · try simp only [Bool.or_eq_true, Bool.and_eq_true, Bool.or_eq_false_iff, Bool.and_eq_false_iff, Bool.not_eq_true', Bool.not_eq_false', decide_eq_true_eq, decide_eq_false_iff_not] at h30
              rw [if_neg (by simp [h30])] at hC
              subst hC
              clear h30
              refine HT_seq <| (HT_runc [⟨true, .v (li TC), none⟩] (by simp [*]; first | exact ⟨rfl, Iff.rfl⟩ | exact ⟨rfl, trivial⟩ | rfl) ?_ ?_)
              · first | exact ct _ | exact trivial | simpa [*] using ct _
              refine HT_seq <| (HT_run (by simp [*]; rfl) ?_)
              refine (HT_cond rfl (fun h35 => ?_) (fun h35 => HT_skip ?_))
              · try simp only [Bool.or_eq_true, Bool.and_eq_true, Bool.or_eq_false_iff, Bool.and_eq_false_iff, Bool.not_eq_true', Bool.not_eq_false', decide_eq_true_eq, decide_eq_false_iff_not] at h35
                rw [if_neg h35] at hJ
                subst hJ
                rw [if_neg h35] at hres
                subst hres
                refine HT_seq <| (HT_run (by simp [*]; rfl) ?_)
                exact (HT_retE (fun h => ⟨.inr rfl, h⟩) _ (by simp [*]; rfl) (by first | rfl | (simp [*]; done) | (simp only [resR]; (repeat' split) <;> first | rfl | (exfalso; omega) | simp_all)) (by simp))
              · try simp only [Bool.or_eq_true, Bool.and_eq_true, Bool.or_eq_false_iff, Bool.and_eq_false_iff, Bool.not_eq_true', Bool.not_eq_false', decide_eq_true_eq, decide_eq_false_iff_not] at h35
                rw [if_pos (by simpa using h35)] at hJ
                refine (HT_run (by simp [*]; rfl) ?_)
                exact ⟨j + 1, ⟨hk1, hJ⟩, by omega, le_mk (fun n => n) [] rfl (by simp [upS, keepS, *]) (by simp [*, upS]) (by simp [upS])⟩
      · try simp only [Bool.or_eq_true, Bool.and_eq_true, Bool.or_eq_false_iff, Bool.and_eq_false_iff, Bool.not_eq_true', Bool.not_eq_false', decide_eq_true_eq, decide_eq_false_iff_not] at h13
        have hkl : k = hats.length := by omega
        rw [hkl, List.drop_length] at hJ
        simp only [hcs] at hJ
        rw [if_pos hJ.symm] at hres
        clear hJ hkl hk h13 ct
        refine (HT_exit ?_)
        refine HT_seq <| (HT_runc [⟨true, .v (li SC), none⟩] (by simp [*]; first | exact ⟨rfl, Iff.rfl⟩ | exact ⟨rfl, trivial⟩ | rfl) ?_ ?_)
        · first | exact cst _ | exact trivial | simpa [*] using cst _
        refine HT_seq <| HT_seq <| (HT_run (by simp [*]; rfl) ?_)
        refine (HT_cond rfl (fun h42 => ?_) (fun h42 => HT_skip ?_))
        · try simp only [Bool.or_eq_true, Bool.and_eq_true, Bool.or_eq_false_iff, Bool.and_eq_false_iff, Bool.not_eq_true', Bool.not_eq_false', decide_eq_true_eq, decide_eq_false_iff_not] at h42
          rw [if_neg h42] at hres
          subst hres
          refine HT_seq <| (HT_run (by simp [*]; rfl) ?_)
          exact (HT_retE (fun h => ⟨.inr rfl, h⟩) _ (by simp [*]; rfl) (by first | rfl | (simp [*]; done) | (simp only [resR]; (repeat' split) <;> first | rfl | (exfalso; omega) | simp_all)) (by simp))
        · try simp only [Bool.or_eq_true, Bool.and_eq_true, Bool.or_eq_false_iff, Bool.and_eq_false_iff, Bool.not_eq_true', Bool.not_eq_false', decide_eq_true_eq, decide_eq_false_iff_not] at h42
          have hs0 : SC = 0 := by simpa using h42
          rw [if_pos hs0] at hres
          have hok := hok hs0
          have cup := cup hok
          obtain ⟨Y, hY⟩ : ∃ x, bdL CR body ⟨0, 0, 0⟩ = x := ⟨_, rfl⟩
          rw [hY] at hres cup
          obtain ⟨y1, y2, y3⟩ := Y
          simp only [Bool.or_eq_true, decide_eq_true_eq] at hres
          simp only at cup
          clear hY cst h42 hok
          refine HT_seq <| (HT_runc [⟨true, .tup [li y1, li y2, li y3], none⟩] (by simp [*]; first | exact ⟨rfl, Iff.rfl⟩ | exact ⟨rfl, trivial⟩ | rfl) ?_ ?_)
          · first | exact cup _ | exact trivial | simpa [*] using cup _
          refine HT_seq <| HT_seq <| (HT_run (by simp [*]; rfl) ?_)
          refine (HT_cond rfl (fun h47 => ?_) (fun h47 => HT_skip ?_))
          · try simp only [Bool.or_eq_true, Bool.and_eq_true, Bool.or_eq_false_iff, Bool.and_eq_false_iff, Bool.not_eq_true', Bool.not_eq_false', decide_eq_true_eq, decide_eq_false_iff_not] at h47
            rw [if_pos (by omega)] at hres
            subst hres
            refine HT_seq <| (HT_run (by simp [*]; rfl) ?_)
            exact (HT_retE (fun h => ⟨.inr rfl, h⟩) _ (by simp [*]; rfl) (by first | rfl | (simp [*]; done) | (simp only [resR]; (repeat' split) <;> first | rfl | (exfalso; omega) | simp_all)) (by simp))
          · try simp only [Bool.or_eq_true, Bool.and_eq_true, Bool.or_eq_false_iff, Bool.and_eq_false_iff, Bool.not_eq_true', Bool.not_eq_false', decide_eq_true_eq, decide_eq_false_iff_not] at h47
            rw [if_neg (by omega)] at hres
            subst hres
            refine HT_seq <| (HT_run (by simp [*]; rfl) ?_)
            exact (HT_retE (fun h => ⟨.inr rfl, h⟩) _ (by simp [*]; rfl) (by first | rfl | (simp [*]; done) | (simp only [resR]; (repeat' split) <;> first | rfl | (exfalso; omega) | simp_all)) (by simp))
end Go.Proofs.YtfilidjbpomgoaaGreat

namespace Go.Proofs.YtfilidjbpomgoaaGreat
open Go Go.Hl

theorem steps_con (l : List St) : nodesS l ≤ 1000000 → bndL l = true → ∀ d : Nat, Con Tryz.prog 60 false [lS l] (.v (lS l)) none d := by
  revert l
  apply St.lists
  intro l ih hn hbn d
  have hlen := len_nodesS l
  refine con_of_HT Tryz.func60 rfl (by kernel_rfl) (Nat.le_of_ble_eq_true rfl) ?_
  simp only [Tryz.f60]
  refine HT_seq <| (HT_run (by simp [*]; rfl) ?_)
  refine HT_seq <| (HT_run (by simp [*]; rfl) ?_)
  refine HT_seq <| HT_seq <| (HT_run (by simp [*]; rfl) ?_)
  refine HT_block <| (HT_loopU [6, 7] (fun (x : Nat) => [(3, .v (.one (.own 1003))), (8, .v (li x))]) (fun (x : Nat) => [(1003, .row 56 10 (encSs (l.take x)))]) (fun (x : Nat) => x ≤ l.length) (fun (x : Nat) => l.length - x) (0 : Nat) (Nat.zero_le _) ?_ ?_)
  · exact le_mk (fun n => n) [1003] rfl (by simp [*, upS, keepS]) (by simp [*, upS]) (by simp [upS])
  rintro k hk
  simp only [upS, keepS, insS]
  try simp only [keepS, List.contains_cons, List.contains_nil, Bool.or_false, Bool.or_true, Bool.true_or, Bool.false_or, Nat.reduceBEq, BEq.rfl, beq_self_eq_true, if_true, if_false, Bool.false_eq_true, ite_true, ite_false, ins, Nat.reduceLT]
  refine HT_seq <| (HT_run (by simp [*]; rfl) ?_)
  refine HT_seq <| (HT_cond rfl (fun h5 => HT_skip ?_) (fun h5 => ?_))
  · try simp only [Bool.or_eq_true, Bool.and_eq_true, Bool.or_eq_false_iff, Bool.and_eq_false_iff, Bool.not_eq_true', Bool.not_eq_false', decide_eq_true_eq, decide_eq_false_iff_not] at h5
    have hlt : k < l.length := by omega
    obtain ⟨s, he, hd⟩ := at_lt hlt
    have hw1 := wrap1 hlt (by omega)
    have hk1 : k + 1 ≤ l.length := hlt
    have hmem : s ∈ l := List.mem_of_getElem? he
    have hnm := nodesS_mem hmem
    have hbm := bndL_mem hbn hmem
    have ca := (ih s hmem).1 (by omega)
    have cb := (ih s hmem).2 (by omega)
    have ct := term_con s.term (by omega)
    have cc := cloneI_con s.bounds
    have htl : (l.take k).length = k := by rw [List.length_take]; omega
    have hroom : room (k + 1) 144 := room_of (by omega) (by omega)
    have hsn : encSs (l.take (k + 1)) = encSs (l.take k) ++ [s.enc] := by
      rw [encSs_map, encSs_map, List.take_add_one, he, Option.toList_some, List.map_append]
      rfl
    have he' := get_encS he
    obtain ⟨sd, sc, sv, sn, ⟨so, stn, sks⟩, sa, sb, sbs⟩ := s
    simp only [St.then_, St.else_, St.term, St.bounds] at ca cb ct cc
    simp only [bndS, Bool.and_eq_true, decide_eq_true_eq] at hbm
    have ca := ca hbm.2.1
    have cb := cb hbm.2.2
    have cc := cc hbm.1
    simp only [St.enc, Tm.enc, List.cons_append, List.nil_append] at he' hsn
    simp only [aT, Tm.enc, List.map_cons, List.map_nil] at ct
    clear hlt h5 ih hmem hnm he hd hbm
    refine HT_seq <| HT_block <| HT_seq <| (HT_run (by simp [*]; rfl) ?_)
    refine HT_seq <| (HT_runc [⟨false, .v (aT (.mk so stn sks)), none⟩] (by simp [*]; first | exact ⟨rfl, Iff.rfl⟩ | exact ⟨rfl, trivial⟩ | rfl) ?_ ?_)
    · first | exact ct _ | exact trivial | simpa [*] using ct _
    refine HT_seq <| (HT_drunc [⟨false, .v (lS sa), none⟩, ⟨false, .v (lS sb), none⟩] (by kernel_rfl) (by kernel_rfl) (by rfl) (by simp [*]; first | exact ⟨rfl, Iff.rfl⟩ | exact ⟨rfl, trivial⟩ | rfl) ?_ ?_)
    · first | exact ⟨ca _, cb _⟩ | exact trivial | (repeat' first | exact trivial | exact ca _ | exact cb _ | apply And.intro)
    refine HT_seq <| (HT_runc [⟨false, .v (lI sbs), none⟩] (by simp [*]; first | exact ⟨rfl, Iff.rfl⟩ | exact ⟨rfl, trivial⟩ | rfl) ?_ ?_)
    · first | exact cc _ | exact trivial | simpa [*] using cc _
    refine (HT_run (by simp [*]; rfl) ?_)
    refine (HT_run (by simp [*]; rfl) ?_)
    exact ⟨k + 1, hk1, by omega, le_mk (fun n => if n = 1003 then 31 else n) [] rfl (by simp [upS, keepS, *]) (by simp [*, upS]) (by simp [upS])⟩
  · try simp only [Bool.or_eq_true, Bool.and_eq_true, Bool.or_eq_false_iff, Bool.and_eq_false_iff, Bool.not_eq_true', Bool.not_eq_false', decide_eq_true_eq, decide_eq_false_iff_not] at h5
    have hkl : k = l.length := by omega
    subst hkl
    simp only [List.take_length]
    refine (HT_exit ?_)
    refine HT_seq <| (HT_run (by simp [*]; rfl) ?_)
    exact HT_ret ⟨.inr rfl, _, le_frz 1003 rfl, ⟨⟨_, by simp; rfl, by simp [resR]⟩, by simp, fun h => by cases h⟩⟩
end Go.Proofs.YtfilidjbpomgoaaGreat
