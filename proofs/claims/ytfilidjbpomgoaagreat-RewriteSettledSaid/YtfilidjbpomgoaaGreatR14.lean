/- Part 14: contracts of functions of the program and of the reference, and plain facts about what they compute; used by the proof of the claimed statement. Conditions: as each theorem states. -/
import Derived.Test.YtfilidjbpomgoaaGreatR11
import Derived.Test.YtfilidjbpomgoaaGreatR13
import Derived.Test.YtfilidjbpomgoaaGreatHlZ
set_option linter.unusedSimpArgs false
set_option linter.unusedVariables false
set_option linter.unnecessarySimpa false
set_option maxRecDepth 100000
set_option maxHeartbeats 2000000
namespace Go.Proofs.YtfilidjbpomgoaaGreat
open Go Go.Hl

theorem checkP_con (f : Fl) (hv : f.vars.length ≤ 1000000) (hh : f.hats.length ≤ 1000000) (hn : nodesS f.body + nodesH f.hats ≤ 900000000) (hb : bndL f.body = true) (d : Nat) :
    Con Tryz.prog 27 true [aF f] (.v (li (codeC f))) none d := by
  obtain ⟨res, hres⟩ : ∃ r, codeC f = r := ⟨_, rfl⟩
  rw [hres]
  have hso := sizes_over f
  have cvars := varsP_con f.vars hv
  have chat := fun hg => hatsP_con f hg hv hh (fun h hm => by have := nodesH_mem hm; omega)
  have cst := fun hg => stepsP_con f hg hv f.body (by omega) hb
  have cup := fun ho => upper_con f.body (by omega) ho
  have cms := msteps_con f.body 1 0 false (by decide) (by decide) (by omega)
  have hms := mSs_le f.body 1 (0, false)
  have hgood : varsC f.vars = 0 → goodV f.vars := varsC_good
  have hok : ssC f.vars f.hats.length f.body true = 0 → okL f.body = true := ssC_ok _ _
  have hcmp := fun h => @bd_cmp f.body h
  unfold codeC overL at hres
  unfold mF at hso
  obtain ⟨vars, hats, body⟩ := f
  simp only at hv hh hn hb hres hso cvars chat cst cup cms hms hgood hok hcmp
  obtain ⟨m0, hm0⟩ : ∃ m, mSs body 1 (0, false) = m := ⟨_, rfl⟩
  rw [hm0] at cms hms hso
  obtain ⟨c0, b0⟩ := m0
  simp only at cms hms
  obtain ⟨mE, hmE⟩ : ∃ m, mH hats (c0, b0) = m := ⟨_, rfl⟩
  rw [hmE] at hso
  obtain ⟨VC, hVC⟩ : ∃ x, varsC vars = x := ⟨_, rfl⟩
  obtain ⟨HC, hHC⟩ : ∃ x, hcs vars [] hats = x := ⟨_, rfl⟩
  obtain ⟨SC, hSC⟩ : ∃ x, ssC vars hats.length body true = x := ⟨_, rfl⟩
  rw [hVC] at cvars hres hgood
  rw [hHC] at chat hres
  rw [hSC] at hres hok
  have cst := fun hg => cst hg true
  rw [hSC] at cst
  clear hVC hHC hSC hm0
  refine con_of_HT Tryz.func27 rfl (by kernel_rfl) (Nat.le_of_ble_eq_true rfl) ?_
  simp only [Tryz.f27]
  simp only [aF, Fl.enc, List.map_cons, List.map_nil] at chat cst ⊢
  refine HT_seq <| (HT_run (by simp [*]; rfl) ?_)
  refine HT_seq <| (HT_run (by simp [*]; rfl) ?_)
  refine HT_seq <| (HT_runIO 2 (.tup []) ([iC c0, bC b0]) rfl (by simp [*]; rfl) (by simp [ioOf, *]; first | exact ⟨rfl, rfl, rfl, rfl, rfl⟩ | exact ⟨rfl, rfl, rfl, rfl⟩ | exact ⟨rfl, rfl, rfl⟩ | exact ⟨rfl, rfl⟩ | rfl) (cms) (by simp) (by simp [*]; rfl) ?_)
  refine HT_seq <| HT_seq <| (HT_run (by simp [*]; rfl) ?_)
  refine HT_block <| (HT_loopU [1, 3, 14, 15] (fun (x : Nat × Int × Bool) => [(16, .v (li x.1))]) (fun (x : Nat × Int × Bool) => [(1, .box [.c (.sl 5 (encVs vars)), .c (.sl 6 (encHs hats)), .c (.sl 10 (encSs body))]), (3, .box [.c (iC x.2.1), .c (bC x.2.2)])]) (fun (x : Nat × Int × Bool) => x.1 ≤ hats.length ∧ mH (hats.drop x.1) x.2 = mE ∧ 0 ≤ x.2.1 ∧ x.2.1 + nodesH (hats.drop x.1) ≤ 1000000000) (fun (x : Nat × Int × Bool) => hats.length - x.1) (0, c0, b0) ⟨Nat.zero_le _, by simpa using hmE, by simp only; omega, by simp only [List.drop_zero]; omega⟩ ?_ ?_)
  · exact le_mk (fun n => n) [] rfl (by simp [*, upS, keepS]) (by simp [*, upS]) (by simp [upS])
  rintro ⟨k, m, q⟩ ⟨hk, hJ, hm, hbb⟩
  simp only [upS, keepS, insS]
  try simp only [keepS, List.contains_cons, List.contains_nil, Bool.or_false, Bool.or_true, Bool.true_or, Bool.false_or, Nat.reduceBEq, BEq.rfl, beq_self_eq_true, if_true, if_false, Bool.false_eq_true, ite_true, ite_false, ins, Nat.reduceLT]
  simp only at hk hJ hm hbb
  clear hmE hms cms
  refine HT_seq <| (HT_run (by simp [*]; rfl) ?_)
  refine HT_seq <| (HT_cond rfl (fun h6 => HT_skip ?_) (fun h6 => ?_))
  · try simp only [Bool.or_eq_true, Bool.and_eq_true, Bool.or_eq_false_iff, Bool.and_eq_false_iff, Bool.not_eq_true', Bool.not_eq_false', decide_eq_true_eq, decide_eq_false_iff_not] at h6
    have hlt : k < hats.length := by omega
    obtain ⟨h, he, hd⟩ := at_lt hlt
    have hw1 := wrap1 hlt (by omega)
    have hk1 : k + 1 ≤ hats.length := hlt
    rw [hd] at hJ hbb
    simp only [mH, nodesH] at hJ hbb
    have hle := mTm_le h.term 1 (m, q)
    have cmt := mterm_con h.term 1 m q (by decide) hm (by omega)
    obtain ⟨nm, lo, hi, ⟨o, tn, ks⟩⟩ := h
    simp only at hle cmt hJ hbb
    obtain ⟨m1, hm1⟩ : ∃ x, mTm (.mk o tn ks) 1 (m, q) = x := ⟨_, rfl⟩
    rw [hm1] at cmt hle hJ
    obtain ⟨c1, b1⟩ := m1
    simp only [aT, Tm.enc, List.map_cons, List.map_nil] at cmt hle
    clear hlt h6 hd hm1 hso hres chat cst cup hok hcmp
    refine HT_seq <| HT_block <| HT_seq <| (HT_run (by simp [*]; rfl) ?_)
    refine HT_seq <| (HT_runc [⟨true, .v (lb (q || decide (1024 < m))), none⟩] (by simp [*]; first | exact ⟨rfl, Iff.rfl⟩ | exact ⟨rfl, trivial⟩ | rfl) ?_ ?_)
    · first | exact overP_con _ _ _ | exact trivial | simpa [*] using overP_con _ _ _
    refine (HT_cond rfl (fun h9 => ?_) (fun h9 => HT_skip ?_))
    · try simp only [Bool.or_eq_true, Bool.and_eq_true, Bool.or_eq_false_iff, Bool.and_eq_false_iff, Bool.not_eq_true', Bool.not_eq_false', decide_eq_true_eq, decide_eq_false_iff_not] at h9
      have hov : over (m, q) = false := by
        simp only [over, Bool.or_eq_false_iff, decide_eq_false_iff_not]
        first | exact h9 | simpa using h9
      rw [if_neg (by rw [hov]; decide)] at hJ
      clear hov
      refine (HT_runIO 2 (.tup []) ([iC c1, bC b1]) rfl (by simp [*]; rfl) (by simp [ioOf, *]; first | exact ⟨rfl, rfl, rfl, rfl, rfl⟩ | exact ⟨rfl, rfl, rfl, rfl⟩ | exact ⟨rfl, rfl, rfl⟩ | exact ⟨rfl, rfl⟩ | rfl) (cmt) (by simp) (by simp [*]; rfl) ?_)
      refine (HT_run (by simp [*]; rfl) ?_)
      exact ⟨(k + 1, c1, b1), ⟨hk1, hJ, by simp only; omega, by simp only; omega⟩, by simp only; omega, le_mk (fun n => n) [] rfl (by simp [upS, keepS, *]) (by simp [*, upS]) (by simp [upS])⟩
    · try simp only [Bool.or_eq_true, Bool.and_eq_true, Bool.or_eq_false_iff, Bool.and_eq_false_iff, Bool.not_eq_true', Bool.not_eq_false', decide_eq_true_eq, decide_eq_false_iff_not] at h9
      have hov : over (m, q) = true := by
        simp only [over, Bool.or_eq_true, decide_eq_true_eq]
        first | exact h9 | simpa using h9
      rw [if_pos hov] at hJ
      clear hov
      refine (HT_run (by simp [*]; rfl) ?_)
      exact ⟨(k + 1, m, q), ⟨hk1, hJ, hm, by simp only; omega⟩, by simp only; omega, le_mk (fun n => n) [] rfl (by simp [upS, keepS, *]) (by simp [*, upS]) (by simp [upS])⟩
  · try simp only [Bool.or_eq_true, Bool.and_eq_true, Bool.or_eq_false_iff, Bool.and_eq_false_iff, Bool.not_eq_true', Bool.not_eq_false', decide_eq_true_eq, decide_eq_false_iff_not] at h6
    have hkl : k = hats.length := by omega
    subst hkl
    rw [List.drop_length] at hJ
    simp only [mH] at hJ
    subst hJ
    simp only [over, Bool.or_eq_true, decide_eq_true_eq] at hso
    refine (HT_exit ?_)
    refine HT_seq <| HT_seq <| (HT_runc [⟨true, .v (lb (q || decide (1024 < m))), none⟩] (by simp [*]; first | exact ⟨rfl, Iff.rfl⟩ | exact ⟨rfl, trivial⟩ | rfl) ?_ ?_)
    · first | exact overP_con _ _ _ | exact trivial | simpa [*] using overP_con _ _ _
    refine (HT_cond rfl (fun h16 => ?_) (fun h16 => HT_skip ?_))
    · try simp only [Bool.or_eq_true, Bool.and_eq_true, Bool.or_eq_false_iff, Bool.and_eq_false_iff, Bool.not_eq_true', Bool.not_eq_false', decide_eq_true_eq, decide_eq_false_iff_not] at h16
      rw [if_pos (hso.2 (by
          simp only [or_assoc] at h16
          rcases h16 with h | h | h | h
          · exact .inl (by omega)
          · exact .inr (.inl (by omega))
          · exact .inr (.inr (.inl h))
          · exact .inr (.inr (.inr h))))] at hres
      subst hres
      refine HT_seq <| (HT_run (by simp [*]; rfl) ?_)
      exact (HT_retE (fun h => ⟨.inr rfl, h⟩) _ (by simp [*]; rfl) (by first | rfl | (simp [*]; done) | (simp only [resR]; (repeat' split) <;> first | rfl | (exfalso; omega) | simp_all)) (by simp))
    · try simp only [Bool.or_eq_true, Bool.and_eq_true, Bool.or_eq_false_iff, Bool.and_eq_false_iff, Bool.not_eq_true', Bool.not_eq_false', decide_eq_true_eq, decide_eq_false_iff_not] at h16
      rw [if_neg (by
          rw [hso]
          rintro (h | h | h | h)
          · omega
          · omega
          · exact absurd h (by simp [h16])
          · omega)] at hres
      refine HT_seq <| HT_seq <| (HT_runc [⟨true, .v (li VC), none⟩] (by simp [*]; first | exact ⟨rfl, Iff.rfl⟩ | exact ⟨rfl, trivial⟩ | rfl) ?_ ?_)
      · first | exact cvars _ | exact trivial | simpa [*] using cvars _
      refine HT_seq <| (HT_run (by simp [*]; rfl) ?_)
      refine (HT_cond rfl (fun h21 => ?_) (fun h21 => HT_skip ?_))
      · try simp only [Bool.or_eq_true, Bool.and_eq_true, Bool.or_eq_false_iff, Bool.and_eq_false_iff, Bool.not_eq_true', Bool.not_eq_false', decide_eq_true_eq, decide_eq_false_iff_not] at h21
        rw [if_neg h21] at hres
        subst hres
        refine HT_seq <| (HT_run (by simp [*]; rfl) ?_)
        exact (HT_retE (fun h => ⟨.inr rfl, h⟩) _ (by simp [*]; rfl) (by first | rfl | (simp [*]; done) | (simp only [resR]; (repeat' split) <;> first | rfl | (exfalso; omega) | simp_all)) (by simp))
      · try simp only [Bool.or_eq_true, Bool.and_eq_true, Bool.or_eq_false_iff, Bool.and_eq_false_iff, Bool.not_eq_true', Bool.not_eq_false', decide_eq_true_eq, decide_eq_false_iff_not] at h21
        have hv0 : VC = 0 := by simpa using h21
        have hg := hgood hv0
        have chat := chat hg
        have cst := cst hg
        rw [if_pos hv0] at hres
        clear cvars hgood h21
        refine HT_seq <| HT_seq <| (HT_runc [⟨true, .v (li HC), none⟩] (by simp [*]; first | exact ⟨rfl, Iff.rfl⟩ | exact ⟨rfl, trivial⟩ | rfl) ?_ ?_)
        · first | exact chat _ | exact trivial | simpa [*] using chat _
        refine HT_seq <| (HT_run (by simp [*]; rfl) ?_)
        refine (HT_cond rfl (fun h26 => ?_) (fun h26 => HT_skip ?_))
        · try simp only [Bool.or_eq_true, Bool.and_eq_true, Bool.or_eq_false_iff, Bool.and_eq_false_iff, Bool.not_eq_true', Bool.not_eq_false', decide_eq_true_eq, decide_eq_false_iff_not] at h26
          rw [if_neg h26] at hres
          subst hres
          refine HT_seq <| (HT_run (by simp [*]; rfl) ?_)
          exact (HT_retE (fun h => ⟨.inr rfl, h⟩) _ (by simp [*]; rfl) (by first | rfl | (simp [*]; done) | (simp only [resR]; (repeat' split) <;> first | rfl | (exfalso; omega) | simp_all)) (by simp))
        · try simp only [Bool.or_eq_true, Bool.and_eq_true, Bool.or_eq_false_iff, Bool.and_eq_false_iff, Bool.not_eq_true', Bool.not_eq_false', decide_eq_true_eq, decide_eq_false_iff_not] at h26
          have hh0 : HC = 0 := by simpa using h26
          rw [if_pos hh0] at hres
          clear chat h26
          refine HT_seq <| HT_seq <| (HT_runc [⟨true, .v (li SC), none⟩] (by simp [*]; first | exact ⟨rfl, Iff.rfl⟩ | exact ⟨rfl, trivial⟩ | rfl) ?_ ?_)
          · first | exact cst _ | exact trivial | simpa [*] using cst _
          refine HT_seq <| (HT_run (by simp [*]; rfl) ?_)
          refine (HT_cond rfl (fun h31 => ?_) (fun h31 => HT_skip ?_))
          · try simp only [Bool.or_eq_true, Bool.and_eq_true, Bool.or_eq_false_iff, Bool.and_eq_false_iff, Bool.not_eq_true', Bool.not_eq_false', decide_eq_true_eq, decide_eq_false_iff_not] at h31
            rw [if_neg h31] at hres
            subst hres
            refine HT_seq <| (HT_run (by simp [*]; rfl) ?_)
            exact (HT_retE (fun h => ⟨.inr rfl, h⟩) _ (by simp [*]; rfl) (by first | rfl | (simp [*]; done) | (simp only [resR]; (repeat' split) <;> first | rfl | (exfalso; omega) | simp_all)) (by simp))
          · try simp only [Bool.or_eq_true, Bool.and_eq_true, Bool.or_eq_false_iff, Bool.and_eq_false_iff, Bool.not_eq_true', Bool.not_eq_false', decide_eq_true_eq, decide_eq_false_iff_not] at h31
            have hs0 : SC = 0 := by simpa using h31
            rw [if_pos hs0] at hres
            have hok := hok hs0
            have cup := cup hok
            have hcmp := hcmp hok
            obtain ⟨X, hX⟩ : ∃ x, bdL CP body ⟨0, 0, 0⟩ = x := ⟨_, rfl⟩
            obtain ⟨Y, hY⟩ : ∃ x, bdL CR body ⟨0, 0, 0⟩ = x := ⟨_, rfl⟩
            rw [hX] at cup hcmp
            rw [hY] at hcmp hres
            obtain ⟨x1, x2, x3⟩ := X
            obtain ⟨y1, y2, y3⟩ := Y
            simp only [Bool.or_eq_true, decide_eq_true_eq] at hcmp hres
            clear hX hY cst h31 hok
            refine HT_seq <| HT_seq <| (HT_runc [⟨true, .v (aB ⟨x1, x2, x3⟩), none⟩] (by simp [*]; first | exact ⟨rfl, Iff.rfl⟩ | exact ⟨rfl, trivial⟩ | rfl) ?_ ?_)
            · first | exact cup _ | exact trivial | simpa [*] using cup _
            refine HT_seq <| (HT_run (by simp [*]; rfl) ?_)
            refine (HT_cond rfl (fun h36 => ?_) (fun h36 => HT_skip ?_))
            · try simp only [Bool.or_eq_true, Bool.and_eq_true, Bool.or_eq_false_iff, Bool.and_eq_false_iff, Bool.not_eq_true', Bool.not_eq_false', decide_eq_true_eq, decide_eq_false_iff_not] at h36
              rw [if_pos (by omega)] at hres
              subst hres
              refine HT_seq <| (HT_run (by simp [*]; rfl) ?_)
              exact (HT_retE (fun h => ⟨.inr rfl, h⟩) _ (by simp [*]; rfl) (by first | rfl | (simp [*]; done) | (simp only [resR]; (repeat' split) <;> first | rfl | (exfalso; omega) | simp_all)) (by simp))
            · try simp only [Bool.or_eq_true, Bool.and_eq_true, Bool.or_eq_false_iff, Bool.and_eq_false_iff, Bool.not_eq_true', Bool.not_eq_false', decide_eq_true_eq, decide_eq_false_iff_not] at h36
              rw [if_neg (by omega)] at hres
              subst hres
              refine HT_seq <| (HT_run (by simp [*]; rfl) ?_)
              exact (HT_retE (fun h => ⟨.inr rfl, h⟩) _ (by simp [*]; rfl) (by first | rfl | (simp [*]; done) | (simp only [resR]; (repeat' split) <;> first | rfl | (exfalso; omega) | simp_all)) (by simp))
end Go.Proofs.YtfilidjbpomgoaaGreat

namespace Go.Proofs.YtfilidjbpomgoaaGreat
open Go Go.Hl

theorem waitL_bnd (n : Int) : bndL (waitL n) = true := by
  unfold waitL
  split <;> simp [bndL, bndS]
theorem bndL_app : ∀ a b : List St, bndL (a ++ b) = (bndL a && bndL b)
  | [], b => by simp [bndL]
  | s :: a, b => by simp [bndL, bndL_app a b, Bool.and_assoc]
theorem balS_bnd (s : St) (h : bndS s = true) : bndS (balS s) = true := by
  obtain ⟨d, c, v, n, t, a, b, bs⟩ := s
  simp only [bndS, Bool.and_eq_true, decide_eq_true_eq] at h
  unfold balS
  simp only
  split
  · simp [bndS, bndL_app, waitL_bnd, h.1, h.2.1, h.2.2]
  · split
    · simp [bndS, bndL, waitL_bnd, h.1, h.2.1, h.2.2]
    · simp [bndS, h.1, h.2.1, h.2.2]
theorem evL_bnd : ∀ l : List St, bndL l = true → bndL (evL l) = true
  | [], _ => by simp [evL, bndL]
  | .mk d c v n t a b bs :: l, h => by
    simp only [bndL, bndS, Bool.and_eq_true, decide_eq_true_eq] at h
    have ha := evL_bnd a h.1.2.1
    have hb := evL_bnd b h.1.2.2
    have hl := evL_bnd l h.2
    simp only [evL, bndL, hl, Bool.and_true]
    exact balS_bnd _ (by simp [bndS, ha, hb, h.1.1])

def fl0 : Fl := ⟨[], [], []⟩
def chkF (f : Fl) : Fl × Int := if codeC f = 0 then (f, 0) else (fl0, 4)
def evF (f : Fl) : Fl × Int := if codeC f = 0 then chkF ⟨f.vars, f.hats, evL f.body⟩ else (fl0, codeC f)

theorem checked_con (f : Fl) (hv : f.vars.length ≤ 1000000) (hh : f.hats.length ≤ 1000000) (hn : nodesS f.body + nodesH f.hats ≤ 900000000) (hb : bndL f.body = true) (d : Nat) :
    Con Tryz.prog 30 false [aF f] (.tup [aF (chkF f).1, li (chkF f).2]) none d := by
  have cc := checkP_con f hv hh hn hb
  obtain ⟨vars, hats, body⟩ := f
  obtain ⟨res, hres⟩ : ∃ r, chkF ⟨vars, hats, body⟩ = r := ⟨_, rfl⟩
  rw [hres]
  unfold chkF at hres
  obtain ⟨C, hC⟩ : ∃ x, codeC ⟨vars, hats, body⟩ = x := ⟨_, rfl⟩
  rw [hC] at cc hres
  clear hC
  refine con_of_HT Tryz.func30 rfl (by kernel_rfl) (Nat.le_of_ble_eq_true rfl) ?_
  simp only [Tryz.f30]
  simp only [aF, Fl.enc, List.map_cons, List.map_nil] at cc ⊢
  refine HT_seq <| (HT_run (by simp [*]; rfl) ?_)
  refine HT_seq <| HT_seq <| (HT_runc [⟨true, .v (li C), none⟩] (by simp [*]; first | exact ⟨rfl, Iff.rfl⟩ | exact ⟨rfl, trivial⟩ | rfl) ?_ ?_)
  · first | exact cc _ | exact trivial | simpa [*] using cc _
  refine (HT_cond rfl (fun h2 => ?_) (fun h2 => HT_skip ?_))
  · try simp only [Bool.or_eq_true, Bool.and_eq_true, Bool.or_eq_false_iff, Bool.and_eq_false_iff, Bool.not_eq_true', Bool.not_eq_false', decide_eq_true_eq, decide_eq_false_iff_not] at h2
    rw [if_neg h2] at hres
    subst hres
    refine HT_seq <| (HT_run (by simp [*]; rfl) ?_)
    refine HT_le (le_box 2 [.c (.sl 5 []), .c (.sl 6 []), .c (.sl 10 [])] rfl (by (repeat' (first | exact LWk.nil | apply LWk.cons | exact CWk.refl _ | exact CWk.nil _)))) ?_
    exact HT_ret ⟨.inr rfl, _, le_refl _, ⟨⟨_, by simp; rfl, by simp [resR, fl0]⟩, by simp, fun h => by cases h⟩⟩
  · try simp only [Bool.or_eq_true, Bool.and_eq_true, Bool.or_eq_false_iff, Bool.and_eq_false_iff, Bool.not_eq_true', Bool.not_eq_false', decide_eq_true_eq, decide_eq_false_iff_not] at h2
    rw [if_pos (by simpa using h2)] at hres
    subst hres
    refine HT_seq <| (HT_run (by simp [*]; rfl) ?_)
    exact HT_ret ⟨.inr rfl, _, le_refl _, ⟨⟨_, by simp; rfl, by simp [resR]⟩, by simp, fun h => by cases h⟩⟩

theorem evenP_con (f : Fl) (hv : f.vars.length ≤ 1000000) (hh : f.hats.length ≤ 1000000) (hn : nodesS f.body + nodesH f.hats ≤ 100000) (hb : bndL f.body = true) (d : Nat) :
    Con Tryz.prog 8 false [aF f] (.tup [aF (evF f).1, li (evF f).2]) none d := by
  have cc := checkP_con f hv hh (by omega) hb
  have cp := copied_con f hv hh (fun h hm => by have := nodesH_mem hm; omega) (by omega) hb
  have ce := even_con f.body (by omega)
  have hen := evL_nodes f.body
  have ck := checked_con ⟨f.vars, f.hats, evL f.body⟩ hv hh (by simp only; omega) (evL_bnd _ hb)
  obtain ⟨res, hres⟩ : ∃ r, evF f = r := ⟨_, rfl⟩
  rw [hres]
  unfold evF at hres
  obtain ⟨C, hC⟩ : ∃ x, codeC f = x := ⟨_, rfl⟩
  obtain ⟨K, hK⟩ : ∃ x, chkF ⟨f.vars, f.hats, evL f.body⟩ = x := ⟨_, rfl⟩
  rw [hC] at cc hres
  rw [hK] at ck hres
  clear hC hK hen
  obtain ⟨vars, hats, body⟩ := f
  obtain ⟨⟨kv, kh, kb⟩, kc⟩ := K
  simp only at hv hh hn hb cc cp ce ck hres
  refine con_of_HT Tryz.func8 rfl (by kernel_rfl) (Nat.le_of_ble_eq_true rfl) ?_
  simp only [Tryz.f8]
  simp only [aF, Fl.enc, List.map_cons, List.map_nil] at cc cp ck ⊢
  refine HT_seq <| (HT_run (by simp [*]; rfl) ?_)
  refine HT_seq <| HT_seq <| (HT_runc [⟨true, .v (li C), none⟩] (by simp [*]; first | exact ⟨rfl, Iff.rfl⟩ | exact ⟨rfl, trivial⟩ | rfl) ?_ ?_)
  · first | exact cc _ | exact trivial | simpa [*] using cc _
  refine HT_seq <| (HT_run (by simp [*]; rfl) ?_)
  refine (HT_cond rfl (fun h3 => ?_) (fun h3 => HT_skip ?_))
  · try simp only [Bool.or_eq_true, Bool.and_eq_true, Bool.or_eq_false_iff, Bool.and_eq_false_iff, Bool.not_eq_true', Bool.not_eq_false', decide_eq_true_eq, decide_eq_false_iff_not] at h3
    rw [if_neg h3] at hres
    subst hres
    refine HT_seq <| (HT_run (by simp [*]; rfl) ?_)
    refine HT_le (le_box 2 [.c (.sl 5 []), .c (.sl 6 []), .c (.sl 10 [])] rfl (by (repeat' (first | exact LWk.nil | apply LWk.cons | exact CWk.refl _ | exact CWk.nil _)))) ?_
    exact HT_ret ⟨.inr rfl, _, le_refl _, ⟨⟨_, by simp; rfl, by simp [resR, fl0]⟩, by simp, fun h => by cases h⟩⟩
  · try simp only [Bool.or_eq_true, Bool.and_eq_true, Bool.or_eq_false_iff, Bool.and_eq_false_iff, Bool.not_eq_true', Bool.not_eq_false', decide_eq_true_eq, decide_eq_false_iff_not] at h3
    rw [if_pos (by simpa using h3)] at hres
    subst hres
    refine HT_seq <| (HT_runc [⟨false, .v (.agg [.c (.sl 5 (encVs vars)), .c (.sl 6 (encHs hats)), .c (.sl 10 (encSs body))]), none⟩] (by simp [*]; first | exact ⟨rfl, Iff.rfl⟩ | exact ⟨rfl, trivial⟩ | rfl) ?_ ?_)
    · first | exact cp _ | exact trivial | simpa [*] using cp _
    refine HT_seq <| (HT_runc [⟨false, .v (.one (.own 15)), some (.row 56 10 (encSs (evL body)))⟩] (by simp [*]; first | exact ⟨rfl, Iff.rfl⟩ | exact ⟨rfl, trivial⟩ | rfl) ?_ ?_)
    · first | exact ce 15 (by decide) | exact trivial | simpa [*] using ce 15 (by decide)
    refine HT_le (le_frz 15 rfl) ?_
    refine HT_seq <| (HT_runc [⟨false, .tup [.agg [.c (.sl 5 (encVs kv)), .c (.sl 6 (encHs kh)), .c (.sl 10 (encSs kb))], li kc], none⟩] (by simp [*]; first | exact ⟨rfl, Iff.rfl⟩ | exact ⟨rfl, trivial⟩ | rfl) ?_ ?_)
    · first | exact ck _ | exact trivial | simpa [*] using ck _
    exact HT_ret ⟨.inr rfl, _, le_refl _, ⟨⟨_, by simp; rfl, by simp [resR]⟩, by simp, fun h => by cases h⟩⟩
end Go.Proofs.YtfilidjbpomgoaaGreat

namespace Go.Proofs.YtfilidjbpomgoaaGreat
open Go Go.Hl

/-! ## copies that are one's own, lists of numbers, bounds -/
theorem cloneS_con (l : List St) (hl : l.length ≤ 1000000) (d : Nat) (hd : d < 1000000) : Con Tryz.prog 21 false [.one (.c (.sl 10 (encSs l)))] (.v (.one (.own d))) (some (.row 56 10 (encSs l))) d := by
  have hroom : room l.length 144 := room_of (by omega) (by omega)
  cases l with
  | nil =>
    refine con_emp ?_ ?_
    · refine con_of_HT Tryz.func21 rfl (by kernel_rfl) (Nat.le_of_ble_eq_true rfl) ?_
      simp only [Tryz.f21]
      refine HT_seq <| (HT_run (by simp [*]; rfl) ?_)
      refine HT_seq <| HT_seq <| (HT_run (by simp [*]; rfl) ?_)
      refine (HT_cond rfl (fun h2 => ?_) (fun h2 => HT_skip ?_))
      · try simp only [Bool.or_eq_true, Bool.and_eq_true, Bool.or_eq_false_iff, Bool.and_eq_false_iff, Bool.not_eq_true', Bool.not_eq_false', decide_eq_true_eq, decide_eq_false_iff_not] at h2
        refine HT_seq <| (HT_run (by simp [*]; rfl) ?_)
        exact HT_ret ⟨.inr rfl, _, le_nameN 2 d 56 10 rfl (by decide) hd, ⟨⟨_, by simp; rfl, by simp [resR]⟩, by simp, fun h => by cases h⟩⟩
      · exact absurd h2 (by simp)
    · intro a cap
      refine con_of_HT Tryz.func21 rfl (by kernel_rfl) (Nat.le_of_ble_eq_true rfl) ?_
      simp only [Tryz.f21]
      refine HT_seq <| (HT_run (by simp [*]; rfl) ?_)
      refine HT_seq <| HT_seq <| (HT_run (by simp [*]; rfl) ?_)
      refine (HT_cond rfl (fun h2 => ?_) (fun h2 => HT_skip ?_))
      · exact absurd h2 (by simp)
      · try simp only [Bool.or_eq_true, Bool.and_eq_true, Bool.or_eq_false_iff, Bool.and_eq_false_iff, Bool.not_eq_true', Bool.not_eq_false', decide_eq_true_eq, decide_eq_false_iff_not] at h2
        refine HT_le (le_emp 0 10 rfl) ?_
        refine HT_seq <| (HT_run (by simp [*]; rfl) ?_)
        exact HT_ret ⟨.inr rfl, _, le_name 2 7 d rfl rfl hd, ⟨⟨_, by simp; rfl, by simp [resR]⟩, by simp, fun h => by cases h⟩⟩
  | cons v r =>
    refine con_of_HT Tryz.func21 rfl (by kernel_rfl) (Nat.le_of_ble_eq_true rfl) ?_
    simp only [Tryz.f21]
    rw [List.length_cons] at hroom
    refine HT_seq <| (HT_run (by simp [*]; rfl) ?_)
    refine HT_seq <| HT_seq <| (HT_run (by simp [*]; rfl) ?_)
    refine (HT_cond rfl (fun h2 => ?_) (fun h2 => HT_skip ?_))
    · exact absurd h2 (by simp)
    · try simp only [Bool.or_eq_true, Bool.and_eq_true, Bool.or_eq_false_iff, Bool.and_eq_false_iff, Bool.not_eq_true', Bool.not_eq_false', decide_eq_true_eq, decide_eq_false_iff_not] at h2
      refine HT_seq <| (HT_run (by simp [*]; rfl) ?_)
      exact HT_ret ⟨.inr rfl, _, le_name 2 7 d rfl rfl hd, ⟨⟨_, by simp; rfl, by simp [resR]⟩, by simp, fun h => by cases h⟩⟩

theorem rising46_con (l : List Int) (hl : l.length ≤ 1000000000) (d : Nat) : Con Tryz.prog 20 true [lI l] (.v (lb (risB l))) none d := by
  refine con_of_HT Tryz.func20 rfl (by kernel_rfl) (Nat.le_of_ble_eq_true rfl) ?_
  simp only [Tryz.f20]
  refine HT_seq <| (HT_run (by simp [*]; rfl) ?_)
  refine HT_seq <| HT_seq <| (HT_run (by simp [*]; rfl) ?_)
  refine HT_block <| (HT_loopU [0, 5] (fun (x : Nat) => [(6, .v (li x))]) (fun (x : Nat) => []) (fun (x : Nat) => x ≤ l.length ∧ ∀ j : Nat, j + 1 < x → risAt l j = true) (fun (x : Nat) => l.length - x) (0 : Nat) ⟨Nat.zero_le _, fun j hj => absurd hj (by omega)⟩ ?_ ?_)
  · exact le_mk (fun n => n) [] rfl (by simp [*, upS, keepS]) (by simp [*, upS]) (by simp [upS])
  rintro k ⟨hk, hJ⟩
  simp only [upS, keepS, insS]
  try simp only [keepS, List.contains_cons, List.contains_nil, Bool.or_false, Bool.or_true, Bool.true_or, Bool.false_or, Nat.reduceBEq, BEq.rfl, beq_self_eq_true, if_true, if_false, Bool.false_eq_true, ite_true, ite_false, ins, Nat.reduceLT]
  refine HT_seq <| (HT_run (by simp [*]; rfl) ?_)
  refine HT_seq <| (HT_cond rfl (fun h4 => HT_skip ?_) (fun h4 => ?_))
  · try simp only [Bool.or_eq_true, Bool.and_eq_true, Bool.or_eq_false_iff, Bool.and_eq_false_iff, Bool.not_eq_true', Bool.not_eq_false', decide_eq_true_eq, decide_eq_false_iff_not] at h4
    have hlt : k < l.length := by omega
    obtain ⟨b, hb⟩ := get_I hlt
    have hw := wrap1 hlt hl
    have hk1 : k + 1 ≤ l.length := hlt
    have hk9 : k ≤ 1000000000 := by omega
    clear hlt h4
    refine HT_seq <| HT_block <| HT_seq <| (HT_run (by simp [*]; rfl) ?_)
    rcases k with _ | j
    · have hw1 : IntKind.i64.wrap 1 = 1 := wrap_in (by omega) (by omega)
      have hwm : IntKind.i64.wrap (-1) = -1 := by decide
      refine HT_seq <| (HT_drun (by kernel_rfl) (by kernel_rfl) (by rfl) (by simp [*]; rfl) ?_)
      refine (HT_cond rfl (fun h7 => ?_) (fun h7 => HT_skip ?_))
      · exact absurd h7 (by simp)
      · try simp only [Bool.or_eq_true, Bool.and_eq_true, Bool.or_eq_false_iff, Bool.and_eq_false_iff, Bool.not_eq_true', Bool.not_eq_false', decide_eq_true_eq, decide_eq_false_iff_not] at h7
        refine (HT_run (by simp [*]; rfl) ?_)
        exact ⟨1, ⟨hk1, fun j hj => absurd hj (by omega)⟩, by omega, le_mk (fun n => n) [] rfl (by simp [upS, keepS, *]) (by simp [*, upS]) (by simp [upS])⟩
    · have hw1 : IntKind.i64.wrap ((j : Int) + 1 + 1) = (j : Int) + 1 + 1 := wrap_in (by omega) (by omega)
      obtain ⟨a, ha⟩ := get_I (show j < l.length by omega)
      have hwj : IntKind.i64.wrap (j : Int) = j := wrap_in (by omega) (by omega)
      have hri : risAt l j = decide (a < b) := by unfold risAt; rw [ha, hb]
      have hj0 : (0 : Int) < (j : Int) + 1 := by omega
      have hj1 : 0 ≤ (j : Int) + 1 := by omega
      have hj2 : ((j : Int) + 1).toNat = j + 1 := by omega
      refine HT_seq <| (HT_drun (by kernel_rfl) (by kernel_rfl) (by rfl) (by simp [*]; rfl) ?_)
      refine (HT_cond rfl (fun h7 => ?_) (fun h7 => HT_skip ?_))
      · try simp only [Bool.or_eq_true, Bool.and_eq_true, Bool.or_eq_false_iff, Bool.and_eq_false_iff, Bool.not_eq_true', Bool.not_eq_false', decide_eq_true_eq, decide_eq_false_iff_not] at h7
        have hz : risB l = false := ris_bad (i := j) (by omega) (by rw [hri]; simpa using h7)
        refine HT_seq <| (HT_run (by simp [*]; rfl) ?_)
        exact (HT_retE (fun h => ⟨.inr rfl, h⟩) _ (by simp [*]; rfl) (by first | rfl | (simp [*]; done) | (simp only [resR]; (repeat' split) <;> first | rfl | (exfalso; omega) | simp_all)) (by simp))
      · try simp only [Bool.or_eq_true, Bool.and_eq_true, Bool.or_eq_false_iff, Bool.and_eq_false_iff, Bool.not_eq_true', Bool.not_eq_false', decide_eq_true_eq, decide_eq_false_iff_not] at h7
        refine (HT_run (by simp [*]; rfl) ?_)
        exact ⟨j + 1 + 1, ⟨hk1, fun i hi => by
          rcases Nat.lt_or_eq_of_le (Nat.le_of_lt_succ hi) with h | h
          · exact hJ i (by omega)
          · have : i = j := by omega
            rw [this, hri]
            simpa using h7⟩, by omega, le_mk (fun n => n) [] rfl (by simp [upS, keepS, *]) (by simp [*, upS]) (by simp [upS])⟩
  · try simp only [Bool.or_eq_true, Bool.and_eq_true, Bool.or_eq_false_iff, Bool.and_eq_false_iff, Bool.not_eq_true', Bool.not_eq_false', decide_eq_true_eq, decide_eq_false_iff_not] at h4
    have hz : risB l = true := ris_good fun i hi => hJ i (by omega)
    refine (HT_exit ?_)
    refine HT_seq <| (HT_run (by simp [*]; rfl) ?_)
    exact (HT_retE (fun h => ⟨.inr rfl, h⟩) _ (by simp [*]; rfl) (by first | rfl | (simp [*]; done) | (simp only [resR]; (repeat' split) <;> first | rfl | (exfalso; omega) | simp_all)) (by simp))
theorem stepsO_con (l : List St) (hn : nodesS l ≤ 1000000) (hbn : bndL l = true) (d : Nat) (hd0 : d < 1000000) : Con Tryz.prog 60 false [lS l] (.v (.one (.own d))) (some (.row 56 10 (encSs l))) d := by
  have hlen := len_nodesS l
  refine con_of_HT Tryz.func60 rfl (by kernel_rfl) (Nat.le_of_ble_eq_true rfl) ?_
  simp only [Tryz.f60]
  refine HT_seq <| (HT_run (by simp [*]; rfl) ?_)
  refine HT_seq <| (HT_run (by simp [*]; rfl) ?_)
  refine HT_seq <| HT_seq <| (HT_run (by simp [*]; rfl) ?_)
  refine HT_block <| (HT_loopU [6, 7] (fun (x : Nat) => [(3, .v (.one (.own 1003))), (8, .v (li x))]) (fun (x : Nat) => [(1003, .row 56 10 (encSs (l.take x)))]) (fun (x : Nat) => x ≤ l.length) (fun (x : Nat) => l.length - x) (0 : Nat) (Nat.zero_le _) ?_ ?_)
  · exact le_mk (fun n => n) [1003] rfl (by simp [*, upS, keepS]) (by simp [*, upS]) (by simp [upS])
  rintro k hk
  simp only [upS, keepS, insS]
  try simp only [keepS, List.contains_cons, List.contains_nil, Bool.or_false, Bool.or_true, Bool.true_or, Bool.false_or, Nat.reduceBEq, BEq.rfl, beq_self_eq_true, if_true, if_false, Bool.false_eq_true, ite_true, ite_false, ins, Nat.reduceLT]
  refine HT_seq <| (HT_run (by simp [*]; rfl) ?_)
  refine HT_seq <| (HT_cond rfl (fun h5 => HT_skip ?_) (fun h5 => ?_))
  · try simp only [Bool.or_eq_true, Bool.and_eq_true, Bool.or_eq_false_iff, Bool.and_eq_false_iff, Bool.not_eq_true', Bool.not_eq_false', decide_eq_true_eq, decide_eq_false_iff_not] at h5
    have hlt : k < l.length := by omega
    obtain ⟨s, he, hd⟩ := at_lt hlt
    have hw1 := wrap1 hlt (by omega)
    have hk1 : k + 1 ≤ l.length := hlt
    have hmem : s ∈ l := List.mem_of_getElem? he
    have hnm := nodesS_mem hmem
    have hbm := bndL_mem hbn hmem
    have hna : nodesS s.then_ ≤ 1000000 ∧ nodesS s.else_ ≤ 1000000 := by
      obtain ⟨sd, sc, sv, sn, st, sa, sb, sbs⟩ := s
      simp only [St.nodes, St.then_, St.else_] at hnm ⊢
      omega
    have ca := steps_con s.then_ hna.1
    have cb := steps_con s.else_ hna.2
    have ct := term_con s.term (by
      obtain ⟨sd, sc, sv, sn, st, sa, sb, sbs⟩ := s
      simp only [St.nodes, St.term] at hnm ⊢
      omega)
    have cc := cloneI_con s.bounds
    have htl : (l.take k).length = k := by rw [List.length_take]; omega
    have hroom : room (k + 1) 144 := room_of (by omega) (by omega)
    have hsn : encSs (l.take (k + 1)) = encSs (l.take k) ++ [s.enc] := by
      rw [encSs_map, encSs_map, List.take_add_one, he, Option.toList_some, List.map_append]
      rfl
    have he' := get_encS he
    obtain ⟨sd, sc, sv, sn, ⟨so, stn, sks⟩, sa, sb, sbs⟩ := s
    simp only [St.then_, St.else_, St.term, St.bounds] at ca cb ct cc
    simp only [bndS, Bool.and_eq_true, decide_eq_true_eq] at hbm
    have ca := ca hbm.2.1
    have cb := cb hbm.2.2
    have cc := cc hbm.1
    simp only [St.enc, Tm.enc, List.cons_append, List.nil_append] at he' hsn
    simp only [aT, Tm.enc, List.map_cons, List.map_nil] at ct
    clear hlt h5 hmem hnm he hd hbm
    refine HT_seq <| HT_block <| HT_seq <| (HT_run (by simp [*]; rfl) ?_)
    refine HT_seq <| (HT_runc [⟨false, .v (aT (.mk so stn sks)), none⟩] (by simp [*]; first | exact ⟨rfl, Iff.rfl⟩ | exact ⟨rfl, trivial⟩ | rfl) ?_ ?_)
    · first | exact ct _ | exact trivial | simpa [*] using ct _
    refine HT_seq <| (HT_drunc [⟨false, .v (lS sa), none⟩, ⟨false, .v (lS sb), none⟩] (by kernel_rfl) (by kernel_rfl) (by rfl) (by simp [*]; first | exact ⟨rfl, Iff.rfl⟩ | exact ⟨rfl, trivial⟩ | rfl) ?_ ?_)
    · first | exact ⟨ca _, cb _⟩ | exact trivial | (repeat' first | exact trivial | exact ca _ | exact cb _ | apply And.intro)
    refine HT_seq <| (HT_runc [⟨false, .v (lI sbs), none⟩] (by simp [*]; first | exact ⟨rfl, Iff.rfl⟩ | exact ⟨rfl, trivial⟩ | rfl) ?_ ?_)
    · first | exact cc _ | exact trivial | simpa [*] using cc _
    refine (HT_run (by simp [*]; rfl) ?_)
    refine (HT_run (by simp [*]; rfl) ?_)
    exact ⟨k + 1, hk1, by omega, le_mk (fun n => if n = 1003 then 31 else n) [] rfl (by simp [upS, keepS, *]) (by simp [*, upS]) (by simp [upS])⟩
  · try simp only [Bool.or_eq_true, Bool.and_eq_true, Bool.or_eq_false_iff, Bool.and_eq_false_iff, Bool.not_eq_true', Bool.not_eq_false', decide_eq_true_eq, decide_eq_false_iff_not] at h5
    have hkl : k = l.length := by omega
    subst hkl
    simp only [List.take_length]
    refine (HT_exit ?_)
    refine HT_seq <| (HT_run (by simp [*]; rfl) ?_)
    exact HT_ret ⟨.inr rfl, _, le_name 2 1003 d rfl rfl hd0, ⟨⟨_, by simp; rfl, by simp [resR]⟩, by simp, fun h => by cases h⟩⟩
theorem copiedO_con (f : Fl) (hv : f.vars.length ≤ 1000000) (hh : f.hats.length ≤ 1000000) (ht : ∀ h ∈ f.hats, h.term.nodes ≤ 1000000) (hb : nodesS f.body ≤ 1000000) (hbn : bndL f.body = true) :
    Con Tryz.prog 28 false [aF f] (.v (.agg [.c (.sl 5 (encVs f.vars)), .c (.sl 6 (encHs f.hats)), .own 87])) (some (.row 56 10 (encSs f.body))) 87 := by
  obtain ⟨vars, hats, body⟩ := f
  simp only at hv hh ht hb hbn
  have cv := cloneV_con vars hv
  have chh := cloneH_con hats hh
  have cb := stepsO_con body hb hbn
  refine con_of_HT Tryz.func28 rfl (by kernel_rfl) (Nat.le_of_ble_eq_true rfl) ?_
  simp only [Tryz.f28]
  simp only [aF, Fl.enc, List.map_cons, List.map_nil]
  refine HT_seq <| (HT_run (by simp [*]; rfl) ?_)
  refine HT_seq <| (HT_runc [⟨false, .v (lV vars), none⟩] (by simp [*]; first | exact ⟨rfl, Iff.rfl⟩ | exact ⟨rfl, trivial⟩ | rfl) ?_ ?_)
  · first | exact cv _ | exact trivial | simpa [*] using cv _
  refine HT_seq <| (HT_runc [⟨false, .v (.one (.own 10)), some (.row 68 6 (encHs hats))⟩] (by simp [*]; first | exact ⟨rfl, Iff.rfl⟩ | exact ⟨rfl, trivial⟩ | rfl) ?_ ?_)
  · first | exact chh 10 (by decide) | exact trivial | simpa [*] using chh 10 (by decide)
  refine HT_seq <| HT_seq <| (HT_run (by simp [*]; rfl) ?_)
  refine HT_block <| (HT_loopU [1, 2, 14] (fun (x : Nat) => [(15, .v (li x))]) (fun (x : Nat) => [(1, .box [.c (.sl 5 (encVs vars)), .own 10, .c (.sl 10 (encSs body))]), (2, .box [.c (.lit nilS), .c (.lit nilS), .c (.lit nilS)]), (10, .row 68 6 (encHs hats))]) (fun (x : Nat) => x ≤ hats.length) (fun (x : Nat) => hats.length - x) (0 : Nat) (Nat.zero_le _) ?_ ?_)
  · exact le_mk (fun n => n) [] rfl (by simp [*, upS, keepS]) (by simp [*, upS]) (by simp [upS])
  rintro k hk
  simp only [upS, keepS, insS]
  try simp only [keepS, List.contains_cons, List.contains_nil, Bool.or_false, Bool.or_true, Bool.true_or, Bool.false_or, Nat.reduceBEq, BEq.rfl, beq_self_eq_true, if_true, if_false, Bool.false_eq_true, ite_true, ite_false, ins, Nat.reduceLT]
  refine HT_seq <| (HT_run (by simp [*]; rfl) ?_)
  refine HT_seq <| (HT_cond rfl (fun h6 => HT_skip ?_) (fun h6 => ?_))
  · try simp only [Bool.or_eq_true, Bool.and_eq_true, Bool.or_eq_false_iff, Bool.and_eq_false_iff, Bool.not_eq_true', Bool.not_eq_false', decide_eq_true_eq, decide_eq_false_iff_not] at h6
    have hlt : k < hats.length := by omega
    obtain ⟨h, he, hd⟩ := at_lt hlt
    have hw1 := wrap1 hlt (by omega)
    have hk1 : k + 1 ≤ hats.length := hlt
    have hmem : h ∈ hats := List.mem_of_getElem? he
    have ct := term_con h.term (ht h hmem)
    have hse := set_self (l := encHs hats) (k := k) (x := h.enc) (by simp [he])
    obtain ⟨hn, hlo, hhi, ⟨ho, htn, hks⟩⟩ := h
    simp only [aT, Tm.enc, List.map_cons, List.map_nil] at ct
    simp only [Ht.enc, Tm.enc, List.cons_append, List.nil_append] at hse
    clear hlt h6 hmem hd
    refine HT_seq <| HT_block <| HT_seq <| (HT_run (by simp [*]; rfl) ?_)
    refine (HT_drunc [⟨false, .v (aT (.mk ho htn hks)), none⟩] (by kernel_rfl) (by kernel_rfl) (by rfl) (by simp [*]; first | exact ⟨rfl, Iff.rfl⟩ | exact ⟨rfl, trivial⟩ | rfl) ?_ ?_)
    · first | exact ct _ | exact trivial | simpa [*] using ct _
    refine (HT_run (by simp [*]; rfl) ?_)
    exact ⟨k + 1, hk1, by omega, le_mk (fun n => n) [] rfl (by simp [upS, keepS, *]) (by simp [*, upS]) (by simp [upS])⟩
  · try simp only [Bool.or_eq_true, Bool.and_eq_true, Bool.or_eq_false_iff, Bool.and_eq_false_iff, Bool.not_eq_true', Bool.not_eq_false', decide_eq_true_eq, decide_eq_false_iff_not] at h6
    refine (HT_exit ?_)
    refine HT_seq <| (HT_runc [⟨false, .v (.one (.own 33)), some (.row 56 10 (encSs body))⟩] (by simp [*]; first | exact ⟨rfl, Iff.rfl⟩ | exact ⟨rfl, trivial⟩ | rfl) ?_ ?_)
    · first | exact cb 33 (by decide) | exact trivial | simpa [*] using cb 33 (by decide)
    refine HT_seq <| (HT_run (by simp [*]; rfl) ?_)
    exact HT_ret ⟨.inr rfl, _, le_trans (le_frz 10 rfl) (le_mk (s' := ⟨36, [(2, .v (.one (.at_ 2 0)))], [(2, .box [.c (.sl 5 (encVs vars)), .c (.sl 6 (encHs hats)), .own 87]), (87, .row 56 10 (encSs body))]⟩) (fun n => if n = 87 then 33 else n) [] rfl (by simp) (by simp) (by simp)), ⟨⟨_, by simp; rfl, by simp [resR]⟩, by simp, fun h => by cases h⟩⟩

def idxF : List Int → Int → Nat → Int
  | [], _, _ => -1
  | y :: l, x, k => if x = y then k else idxF l x (k + 1)
theorem idxF_mem : ∀ (l : List Int) (x : Int) (k : Nat), x ∈ l → 0 ≤ idxF l x k
  | [], _, _, h => by cases h
  | y :: l, x, k, h => by
    simp only [idxF]
    split
    · omega
    · rename_i hne
      rcases List.mem_cons.1 h with h | h
      · exact absurd h hne
      · exact idxF_mem l x _ h
theorem index_con (l : List Int) (x : Int) (hl : l.length ≤ 1000000000) (d : Nat) : Con Tryz.prog 49 true [lI l, li x] (.v (li (idxF l x 0))) none d := by
  obtain ⟨res, hres⟩ : ∃ r, idxF l x 0 = r := ⟨_, rfl⟩
  rw [hres]
  refine con_of_HT Tryz.func49 rfl (by kernel_rfl) (Nat.le_of_ble_eq_true rfl) ?_
  simp only [Tryz.f49]
  refine HT_seq <| (HT_run (by simp [*]; rfl) ?_)
  refine HT_seq <| HT_seq <| (HT_run (by simp [*]; rfl) ?_)
  refine HT_block <| (HT_loopU [0, 1, 7] (fun (z : Nat) => [(8, .v (li z))]) (fun (z : Nat) => []) (fun (z : Nat) => z ≤ l.length ∧ idxF (l.drop z) x z = res) (fun (z : Nat) => l.length - z) (0 : Nat) ⟨Nat.zero_le _, hres⟩ ?_ ?_)
  · exact le_mk (fun n => n) [] rfl (by simp [*, upS, keepS]) (by simp [*, upS]) (by simp [upS])
  rintro k ⟨hk, hJ⟩
  simp only [upS, keepS, insS]
  try simp only [keepS, List.contains_cons, List.contains_nil, Bool.or_false, Bool.or_true, Bool.true_or, Bool.false_or, Nat.reduceBEq, BEq.rfl, beq_self_eq_true, if_true, if_false, Bool.false_eq_true, ite_true, ite_false, ins, Nat.reduceLT]
  clear hres
  refine HT_seq <| (HT_run (by simp [*]; rfl) ?_)
  refine HT_seq <| (HT_cond rfl (fun h4 => HT_skip ?_) (fun h4 => ?_))
  · try simp only [Bool.or_eq_true, Bool.and_eq_true, Bool.or_eq_false_iff, Bool.and_eq_false_iff, Bool.not_eq_true', Bool.not_eq_false', decide_eq_true_eq, decide_eq_false_iff_not] at h4
    have hlt : k < l.length := by omega
    obtain ⟨b, he, hd⟩ := at_lt hlt
    have hw1 := wrap1 hlt (by omega)
    have hk1 : k + 1 ≤ l.length := hlt
    rw [hd] at hJ
    simp only [idxF] at hJ
    clear hlt h4 hd
    refine HT_seq <| HT_block <| HT_seq <| (HT_run (by simp [*]; rfl) ?_)
    refine HT_seq <| (HT_run (by simp [*]; rfl) ?_)
    refine (HT_cond rfl (fun h7 => ?_) (fun h7 => HT_skip ?_))
    · try simp only [Bool.or_eq_true, Bool.and_eq_true, Bool.or_eq_false_iff, Bool.and_eq_false_iff, Bool.not_eq_true', Bool.not_eq_false', decide_eq_true_eq, decide_eq_false_iff_not] at h7
      rw [if_pos (by simpa using h7)] at hJ
      subst hJ
      refine HT_seq <| (HT_run (by simp [*]; rfl) ?_)
      exact (HT_retE (fun h => ⟨.inr rfl, h⟩) _ (by simp [*]; rfl) (by first | rfl | (simp [*]; done) | (simp only [resR]; (repeat' split) <;> first | rfl | (exfalso; omega) | simp_all)) (by simp))
    · try simp only [Bool.or_eq_true, Bool.and_eq_true, Bool.or_eq_false_iff, Bool.and_eq_false_iff, Bool.not_eq_true', Bool.not_eq_false', decide_eq_true_eq, decide_eq_false_iff_not] at h7
      rw [if_neg (by simpa using h7)] at hJ
      refine (HT_run (by simp [*]; rfl) ?_)
      exact ⟨k + 1, ⟨hk1, hJ⟩, by omega, le_mk (fun n => n) [] rfl (by simp [upS, keepS, *]) (by simp [*, upS]) (by simp [upS])⟩
  · try simp only [Bool.or_eq_true, Bool.and_eq_true, Bool.or_eq_false_iff, Bool.and_eq_false_iff, Bool.not_eq_true', Bool.not_eq_false', decide_eq_true_eq, decide_eq_false_iff_not] at h4
    have hkl : k = l.length := by omega
    rw [hkl, List.drop_length] at hJ
    simp only [idxF] at hJ
    subst hJ
    refine (HT_exit ?_)
    refine HT_seq <| (HT_run (by simp [*]; rfl) ?_)
    exact (HT_retE (fun h => ⟨.inr rfl, h⟩) _ (by simp [*]; rfl) (by first | rfl | (simp [*]; done) | (simp only [resR]; (repeat' split) <;> first | rfl | (exfalso; omega) | simp_all)) (by simp))
theorem contains_con (l : List Int) (x : Int) (hl : l.length ≤ 1000000000) (d : Nat) : Con Tryz.prog 23 true [lI l, li x] (.v (lb (decide (0 ≤ idxF l x 0)))) none d := by
  have ci := index_con l x hl
  obtain ⟨res, hres⟩ : ∃ r, idxF l x 0 = r := ⟨_, rfl⟩
  rw [hres] at ci ⊢
  clear hres
  refine con_of_HT Tryz.func23 rfl (by kernel_rfl) (Nat.le_of_ble_eq_true rfl) ?_
  simp only [Tryz.f23]
  refine HT_seq <| (HT_run (by simp [*]; rfl) ?_)
  refine HT_seq <| (HT_runc [⟨true, .v (li res), none⟩] (by simp [*]; first | exact ⟨rfl, Iff.rfl⟩ | exact ⟨rfl, trivial⟩ | rfl) ?_ ?_)
  · first | exact ci _ | exact trivial | simpa [*] using ci _
  exact (HT_retE (fun h => ⟨.inr rfl, h⟩) _ (by simp [*]; rfl) (by first | rfl | (simp [*]; done) | (simp only [resR]; (repeat' split) <;> first | rfl | (exfalso; omega) | simp_all)) (by simp))
theorem boundsP_con (f : Fl) (hv : f.vars.length ≤ 1000000) (hh : f.hats.length ≤ 1000000) (hn : nodesS f.body + nodesH f.hats ≤ 900000000) (hb : bndL f.body = true) (hc : codeC f = 0) (d : Nat) :
    Con Tryz.prog 45 true [aF f] (.tup [li (bdL CP f.body ⟨0, 0, 0⟩).s, li (bdL CP f.body ⟨0, 0, 0⟩).o, li (bdL CP f.body ⟨0, 0, 0⟩).t, li 0]) none d := by
  have cc := checkP_con f hv hh hn hb
  have cu := upper_con f.body (by omega) (ssC_ok _ _ (code_split hc).2.2.2.1)
  rw [hc] at cc
  obtain ⟨vars, hats, body⟩ := f
  simp only at cu ⊢
  obtain ⟨⟨bs, bo, bt⟩, hB⟩ : ∃ x, bdL CP body ⟨0, 0, 0⟩ = x := ⟨_, rfl⟩
  rw [hB] at cu ⊢
  simp only [aB] at cu ⊢
  clear hB hc hn hb hv hh
  refine con_of_HT Tryz.func45 rfl (by kernel_rfl) (Nat.le_of_ble_eq_true rfl) ?_
  simp only [Tryz.f45]
  simp only [aF, Fl.enc, List.map_cons, List.map_nil] at cc ⊢
  refine HT_seq <| (HT_run (by simp [*]; rfl) ?_)
  refine HT_seq <| HT_seq <| (HT_runc [⟨true, .v (li 0), none⟩] (by simp [*]; first | exact ⟨rfl, Iff.rfl⟩ | exact ⟨rfl, trivial⟩ | rfl) ?_ ?_)
  · first | exact cc _ | exact trivial | simpa [*] using cc _
  refine HT_seq <| (HT_run (by simp [*]; rfl) ?_)
  refine (HT_cond rfl (fun h3 => ?_) (fun h3 => HT_skip ?_))
  · exact absurd h3 (by simp)
  · try simp only [Bool.or_eq_true, Bool.and_eq_true, Bool.or_eq_false_iff, Bool.and_eq_false_iff, Bool.not_eq_true', Bool.not_eq_false', decide_eq_true_eq, decide_eq_false_iff_not] at h3
    refine HT_seq <| (HT_runc [⟨true, .v (.agg [.c (iC bs), .c (iC bo), .c (iC bt)]), none⟩] (by simp [*]; first | exact ⟨rfl, Iff.rfl⟩ | exact ⟨rfl, trivial⟩ | rfl) ?_ ?_)
    · first | exact cu _ | exact trivial | simpa [*] using cu _
    refine HT_seq <| (HT_drun (by kernel_rfl) (by kernel_rfl) (by rfl) (by simp [*]; rfl) ?_)
    exact (HT_retE (fun h => ⟨.inr rfl, h⟩) _ (by simp [*]; rfl) (by first | rfl | (simp [*]; done) | (simp only [resR]; (repeat' split) <;> first | rfl | (exfalso; omega) | simp_all)) (by simp))
end Go.Proofs.YtfilidjbpomgoaaGreat

namespace Go.Hl
open Go Go.RowKit
/-! ## a region in many parts, with a weakening between any two -/
inductive RunsF (P : Program) (ops : Array Oper) : List Oper → HS → (HS → Prop) → Prop
  | done {l : List Oper} {s : HS} {K : HS → Prop} : wpR P ops l s K → RunsF P ops l s K
  | cut {l : List Oper} {s s1 s2 : HS} {K : HS → Prop} (k : Nat) : wpR P ops (l.take k) s (fun t => t = s1) → le s1 s2 → RunsF P ops (l.drop k) s2 K → RunsF P ops l s K
section
variable {P : Program} {w0 : World} {B : Nat → Prop} {π : Nat → Option Value}
theorem range_cut (k n m : Nat) : List.range' k (n + m) = List.range' k n ++ List.range' (k + n) m := by
  apply List.ext_getElem?
  intro j
  by_cases hj : j < n
  · rw [List.getElem?_append_left (by simpa using hj), List.getElem?_range' (by omega), List.getElem?_range' (by omega)]
  · rw [List.getElem?_append_right (by simp; omega)]
    simp only [List.length_range']
    by_cases hm : j < n + m
    · rw [List.getElem?_range' (by omega), List.getElem?_range' (by omega)]
      congr 1; omega
    · rw [List.getElem?_eq_none (by simp; omega), List.getElem?_eq_none (by simp; omega)]
theorem runsF_ops {ops : Array Oper} {K : HS → Prop} {Q : Exit → Act → World → Prop} {l : List Oper} {s : HS} (h : RunsF P ops l s K) : ∀ (rest : List Nat) (k : Nat) (F : Nat → Prop) (γ : Nat → Value) (a : Act) (w : World), (∀ j o, l[j]? = some o → ops[k + j]? = some o) →
    Rel w0 B π F γ s a w → (∀ s' F' γ' a' w', K s' → (∀ b, F b → F' b) → (∀ b, F' b → F b ∨ ¬ B b) → Rel w0 B π F' γ' s' a' w' → wpOps P ops Q rest a' w') → wpOps P ops Q (List.range' k l.length ++ rest) a w := by
  induction h with
  | done hw => exact fun rest k F γ a w hd hr hK => wpR_opsK _ k _ F γ a w hd hr hw hK
  | cut n hw hle _ ih =>
    intro rest k F γ a w hd hr hK
    rename_i l s s1 s2 K' _
    have hl : l.length = (l.take n).length + (l.drop n).length := by rw [← List.length_append, List.take_append_drop]
    rw [hl, range_cut, List.append_assoc]
    refine wpR_opsK (l.take n) k s F γ a w (fun j o hj => ?_) hr hw fun s' F1 γ1 a1 w1 hs' h1 h2 hr1 => ?_
    · rw [List.getElem?_take] at hj
      split at hj
      · exact hd j o hj
      · cases hj
    · subst hs'
      obtain ⟨F2, γ2, h3, h4, hr2⟩ := hle w0 B π F1 γ1 a1 w1 hr1
      refine ih rest (k + (l.take n).length) F2 γ2 a1 w1 (fun j o hj => ?_) hr2 fun s3 F3 γ3 a3 w3 hk3 h5 h6 hr3 => ?_
      · rw [List.getElem?_drop] at hj
        have hlt : n + j < l.length := (List.getElem?_eq_some_iff.1 hj).1
        have := hd (n + j) o hj
        rw [List.length_take, Nat.min_eq_left (by omega), Nat.add_assoc]
        exact this
      · exact hK s3 F3 γ3 a3 w3 hk3 (fun b hb => h5 b (h3 b (h1 b hb))) (fun b hb => (h6 b hb).elim (fun hb => (h4 b hb).elim (h2 b) .inr) .inr) hr3
theorem HT_runsF {id : Nat} {ops : Array Oper} {s : HS} {Q : Exit → HS → Prop} (h : RunsF P ops ops.toList s (Q .normal)) : HT P (.region id ops false) s Q := by
  intro w0 B π F γ a w hr
  refine wp_region ?_
  have := runsF_ops (w0 := w0) (B := B) (π := π) (Q := fun e a' w' => ∃ (s' : HS) (F' : Nat → Prop) (γ' : Nat → Value), Q e s' ∧ (∀ b, F b → F' b) ∧ (∀ b, F' b → F b ∨ ¬ B b) ∧ Rel w0 B π F' γ' s' a' w') h [] 0 F γ a w (by simp) hr
    fun s' F' γ' a' w' hk h1 h2 h3 => ⟨s', F', γ', hk, h1, h2, h3⟩
  rw [List.range_eq_range']
  simpa using this
theorem RunsF.cutE {ops : Array Oper} {l : List Oper} {s s1 s2 : HS} {p : Prop} {K : HS → Prop} (k : Nat) (cs : List CR) (h : evc P ops (l.take k) s cs = some (s1, p)) (hp : p) (hle : le s1 s2) (hr : RunsF P ops (l.drop k) s2 K) : RunsF P ops l s K :=
  .cut k (wpR_evc _ _ _ _ _ h hp rfl) hle hr
theorem RunsF.doneE {ops : Array Oper} {l : List Oper} {s s1 : HS} {p : Prop} {K : HS → Prop} (cs : List CR) (h : evc P ops l s cs = some (s1, p)) (hp : p) (hq : K s1) : RunsF P ops l s K :=
  .done (wpR_evc _ _ _ _ _ h hp hq)
theorem le_trans' {x y z : HS} (h1 : le x y) (h2 : le y z) : le x z := by
  intro w0 B π F γ a w hr
  obtain ⟨F1, γ1, a1, a2, hr1⟩ := h1 w0 B π F γ a w hr
  obtain ⟨F2, γ2, b1, b2, hr2⟩ := h2 w0 B π F1 γ1 a w hr1
  exact ⟨F2, γ2, fun b hb => b1 b (a1 b hb), fun b hb => (b2 b hb).elim (a2 b) .inr, hr2⟩
end
end Go.Hl
