/- Part 17: contracts of functions of the program and of the reference, and plain facts about what they compute; used by the proof of the claimed statement. Conditions: as each theorem states. -/
import Derived.Test.YtfilidjbpomgoaaGreatR14
import Derived.Test.YtfilidjbpomgoaaGreatR12
import Derived.Test.YtfilidjbpomgoaaGreatR16
import Derived.Test.YtfilidjbpomgoaaGreatR13
import Derived.Test.YtfilidjbpomgoaaGreatR1
import Derived.Test.YtfilidjbpomgoaaGreatRows
set_option linter.unusedSimpArgs false
set_option linter.unusedVariables false
set_option linter.unnecessarySimpa false
set_option maxRecDepth 100000
set_option maxHeartbeats 2000000
namespace Go.Proofs.YtfilidjbpomgoaaGreat
open Go Go.Hl

theorem ref_con (n : Int) (d : Nat) : Con Tryz.prog 24 false [li n] (.v (aT (.mk 24 n []))) none d := by
  refine con_of_HT Tryz.func24 rfl (by kernel_rfl) (Nat.le_of_ble_eq_true rfl) ?_
  simp only [Tryz.f24]
  simp only [aT, Tm.enc, List.map_cons, List.map_nil, encTs]
  refine HT_seq <| (HT_run (by simp [*]; rfl) ?_)
  refine HT_seq <| (HT_run (by simp [*]; rfl) ?_)
  refine HT_le (le_box 2 [.c (iC 24), .c (iC n), .c (.sl 3 [])] rfl (by (repeat' (first | exact LWk.nil | apply LWk.cons | exact CWk.refl _ | exact CWk.nil _)))) ?_
  exact HT_ret ⟨.inr rfl, _, le_refl _, ⟨⟨_, by simp; rfl, by simp [resR]⟩, by simp, fun h => by cases h⟩⟩
def nX : ByteArray := ⟨#[120]⟩
def nY : ByteArray := ⟨#[121]⟩
def F1 : Fl := ⟨[⟨nX, 1, 0, 3, 0⟩, ⟨nY, 0, 0, 3, 0⟩], [], [.mk 3 1 0 0 (.mk 24 0 []) [.mk 2 5 0 0 (.mk 0 0 []) [] [] []] [] [], .mk 1 2 0 0 (.mk 24 1 []) [] [] []]⟩
def F2 : Fl := ⟨[⟨nX, 0, 0, 3, 2⟩], [], [.mk 4 1 0 3 (.mk 24 0 []) [.mk 0 2 0 0 (.mk 9 0 [.mk 24 0 [], .mk 0 1 []]) [] [] []] [] []]⟩
def G1 : Fl := ⟨[⟨nX, 1, 0, 3, 0⟩, ⟨nY, 0, 0, 3, 0⟩], [], [.mk 3 1 0 0 (.mk 24 0 []) [.mk 2 5 0 0 (.mk 0 0 []) [] [] []] [.mk 2 5 0 0 (.mk 0 0 []) [] [] []] [], .mk 1 2 0 0 (.mk 24 1 []) [] [] []]⟩
def G2 : Fl := ⟨[⟨nX, 0, 0, 3, 2⟩], [], [.mk 4 1 0 3 (.mk 0 1 []) [.mk 3 0 0 0 (.mk 24 0 []) [.mk 0 2 0 0 (.mk 9 0 [.mk 24 0 [], .mk 0 1 []]) [] [] []] [.mk 2 2 0 0 (.mk 0 0 []) [] [] []] []] [] []]⟩
theorem cF1 : codeC F1 = 0 := by
  simp only [codeC, sizesB, F1, sdL, tdeep, ssC]
  kernel_rfl
theorem cF2 : codeC F2 = 0 := by
  simp only [codeC, sizesB, F2, sdL, tdeep, ssC]
  kernel_rfl
theorem cG1 : codeC G1 = 0 := by
  simp only [codeC, sizesB, G1, sdL, tdeep, ssC]
  kernel_rfl
theorem cG2 : codeC G2 = 0 := by
  simp only [codeC, sizesB, G2, sdL, tdeep, ssC]
  kernel_rfl
theorem eF1 : evL F1.body = G1.body := by
  simp only [F1, evL]
  kernel_rfl
theorem eF2 : evL F2.body = G2.body := by
  simp only [F2, evL]
  kernel_rfl
theorem ev1 : evF F1 = (G1, 0) := by
  unfold evF
  rw [if_pos cF1, eF1]
  exact if_pos cG1
theorem ev2 : evF F2 = (G2, 0) := by
  unfold evF
  rw [if_pos cF2, eF2]
  exact if_pos cG2
theorem play1 : playF G1 ⟨[0], [], []⟩ = (⟨[0, 0], [0], 8⟩, 0) := by
  unfold playF
  rw [if_pos cG1]
  simp only [G1, stepsF]
  kernel_rfl
theorem play2 : playF G2 ⟨[], [], []⟩ = (⟨[0], [], 9⟩, 0) := by
  unfold playF
  rw [if_pos cG2]
  simp only [G2, stepsF]
  kernel_rfl
theorem run1 : runF G1 ⟨[0], [], []⟩ = (⟨[0], 8⟩, 0) := by
  unfold runF
  rw [play1]
  rfl
theorem run2 : runF G2 ⟨[], [], []⟩ = (⟨[], 9⟩, 0) := by
  unfold runF
  rw [play2]
  rfl
end Go.Proofs.YtfilidjbpomgoaaGreat

namespace Go.Proofs.YtfilidjbpomgoaaGreat
open Go Go.Hl

theorem known_con (d : Nat) : Con Tryz.prog 6 true [] (.v (lb true)) none d := by
  have r0 := ref_con 0
  have r1 := ref_con 1
  have e1 := evenP_con F1 (by decide) (by decide) (by decide) (by kernel_rfl)
  have e2 := evenP_con F2 (by decide) (by decide) (by decide) (by kernel_rfl)
  have u1 := run_con G1 ⟨[0], [], []⟩ (by decide) (by decide) (by decide) (by kernel_rfl) (fun _ => ⟨by kernel_rfl, by decide, by intro h hh; cases hh⟩)
  have u2 := run_con G2 ⟨[], [], []⟩ (by decide) (by decide) (by decide) (by kernel_rfl) (fun _ => ⟨by kernel_rfl, by decide, by intro h hh; cases hh⟩)
  rw [ev1] at e1
  rw [ev2] at e2
  rw [run1] at u1
  rw [run2] at u2
  have hq1 : room 1 144 := room_of (by decide) (by decide)
  have hq2 : room 2 144 := room_of (by decide) (by decide)
  have hq3 : room 2 48 := room_of (by decide) (by decide)
  have hq4 : room 1 48 := room_of (by decide) (by decide)
  have hq5 : room 1 8 := room_of (by decide) (by decide)
  have hq6 : room 2 40 := room_of (by decide) (by decide)
  simp only [F1, F2, G1, G2, nX, nY, aF, Fl.enc, Vr.enc, encVs, encHs, encIs, encSs, encTs, St.enc, Tm.enc, aI, aO, aT, List.map_cons, List.map_nil, List.cons_append, List.nil_append] at r0 r1 e1 e2 u1 u2
  refine con_of_HT Tryz.func6 rfl (by kernel_rfl) (Nat.le_of_ble_eq_true rfl) ?_
  simp only [Tryz.f6]
  refine HT_seq <| (HT_run (by simp [*]; rfl) ?_)
  refine HT_seq <| (HT_run (by simp [*]; rfl) ?_)
  refine HT_seq <| (HT_runsF ?_)
  refine RunsF.cutE 6 [⟨false, .v (.agg [.c (iC 24), .c (iC 0), .c (.sl 3 [])]), none⟩] (by simp [*, allTyped, fillC, placeOf]; first | exact ⟨rfl, Iff.rfl⟩ | exact ⟨rfl, trivial⟩ | rfl) ?_ (le_agg 17 [.c (iC 2), .c (iC 5), .c (iC 0), .c (iC 0), .c (iC 0), .c (iC 0), .c (.sl 3 []), .c (.sl 10 []), .c (.sl 10 []), .c (.sl 1 [])] rfl (by (repeat' (first | exact LWk.nil | apply LWk.cons | exact CWk.refl _ | exact CWk.nil _)))) ?_
  · first | exact r0 _ | exact trivial | simpa using r0 _
  refine RunsF.cutE 5 [⟨false, .v (.agg [.c (iC 24), .c (iC 1), .c (.sl 3 [])]), none⟩] (by simp [*, allTyped, fillC, placeOf]; first | exact ⟨rfl, Iff.rfl⟩ | exact ⟨rfl, trivial⟩ | rfl) ?_ (le_trans (le_frz 18 rfl) (le_trans (le_agg 19 [.c (iC 3), .c (iC 1), .c (iC 0), .c (iC 0), .c (iC 24), .c (iC 0), .c (.sl 3 []), .c (.sl 10 [[iC 2, iC 5, iC 0, iC 0, iC 0, iC 0, .sl 3 [], .sl 10 [], .sl 10 [], .sl 1 []]]), .c (.sl 10 []), .c (.sl 1 [])] rfl (by (repeat' (first | exact LWk.nil | apply LWk.cons | exact CWk.refl _ | exact CWk.nil _)))) (le_agg 22 [.c (iC 1), .c (iC 2), .c (iC 0), .c (iC 0), .c (iC 24), .c (iC 1), .c (.sl 3 []), .c (.sl 10 []), .c (.sl 10 []), .c (.sl 1 [])] rfl (by (repeat' (first | exact LWk.nil | apply LWk.cons | exact CWk.refl _ | exact CWk.nil _)))))) ?_
  · first | exact r1 _ | exact trivial | simpa using r1 _
  refine RunsF.cutE 2 [] (by simp [*, allTyped, fillC, placeOf]; rfl) trivial (le_trans (le_frz 14 rfl) (le_trans (le_frz 23 rfl) (le_agg 24 [.c (.sl 5 [[sC ⟨#[120]⟩, iC 1, iC 0, iC 3, iC 0], [sC ⟨#[121]⟩, iC 0, iC 0, iC 3, iC 0]]), .c (.sl 6 []), .c (.sl 10 [[iC 3, iC 1, iC 0, iC 0, iC 24, iC 0, .sl 3 [], .sl 10 [[iC 2, iC 5, iC 0, iC 0, iC 0, iC 0, .sl 3 [], .sl 10 [], .sl 10 [], .sl 1 []]], .sl 10 [], .sl 1 []], [iC 1, iC 2, iC 0, iC 0, iC 24, iC 1, .sl 3 [], .sl 10 [], .sl 10 [], .sl 1 []]])] rfl (by (repeat' (first | exact LWk.nil | apply LWk.cons | exact CWk.refl _ | exact CWk.nil _)))))) ?_
  refine RunsF.doneE [] (by simp [*, allTyped, fillC, placeOf]; rfl) trivial ?_
  refine HT_seq <| (HT_runc [⟨false, .tup [.agg [.c (.sl 5 [[sC ⟨#[120]⟩, iC 1, iC 0, iC 3, iC 0], [sC ⟨#[121]⟩, iC 0, iC 0, iC 3, iC 0]]), .c (.sl 6 []), .c (.sl 10 [[iC 3, iC 1, iC 0, iC 0, iC 24, iC 0, .sl 3 [], .sl 10 [[iC 2, iC 5, iC 0, iC 0, iC 0, iC 0, .sl 3 [], .sl 10 [], .sl 10 [], .sl 1 []]], .sl 10 [[iC 2, iC 5, iC 0, iC 0, iC 0, iC 0, .sl 3 [], .sl 10 [], .sl 10 [], .sl 1 []]], .sl 1 []], [iC 1, iC 2, iC 0, iC 0, iC 24, iC 1, .sl 3 [], .sl 10 [], .sl 10 [], .sl 1 []]])], li 0], none⟩] (by simp [*]; first | exact ⟨rfl, Iff.rfl⟩ | exact ⟨rfl, trivial⟩ | rfl) ?_ ?_)
  · first | exact e1 _ | exact trivial | simpa [*] using e1 _
  refine HT_seq <| (HT_runsF ?_)
  refine RunsF.cutE 3 [] (by simp [*, allTyped, fillC, placeOf]; rfl) trivial (le_trans (le_frz 32 rfl) (le_agg 33 [.c (.sl 1 [[iC 0]]), .c (.sl 1 []), .c (.sl 1 [])] rfl (by (repeat' (first | exact LWk.nil | apply LWk.cons | exact CWk.refl _ | exact CWk.nil _))))) ?_
  refine RunsF.doneE [⟨false, .tup [.agg [.c (.sl 1 [[iC 0]]), .c (iC 8)], li 0], none⟩] (by simp [*, allTyped, fillC, placeOf]; first | exact ⟨rfl, Iff.rfl⟩ | exact ⟨rfl, trivial⟩ | rfl) ?_ ?_
  · first | exact u1 _ | exact trivial | simpa using u1 _
  refine HT_seq <| (HT_runsF ?_)
  refine RunsF.cutE 7 [⟨false, .v (.agg [.c (iC 24), .c (iC 0), .c (.sl 3 [])]), none⟩, ⟨false, .v (.agg [.c (iC 24), .c (iC 0), .c (.sl 3 [])]), none⟩] (by simp [*, allTyped, fillC, placeOf]; first | exact ⟨rfl, Iff.rfl⟩ | exact ⟨rfl, trivial⟩ | rfl) ?_ (le_agg 43 [.c (iC 0), .c (iC 1), .c (.sl 3 [])] rfl (by (repeat' (first | exact LWk.nil | apply LWk.cons | exact CWk.refl _ | exact CWk.nil _)))) ?_
  · first | exact trivial | (repeat' first | exact trivial | exact r0 _ | apply And.intro)
  refine RunsF.cutE 3 [] (by simp [*, allTyped, fillC, placeOf]; rfl) trivial (le_trans (le_frz 44 rfl) (le_agg 46 [.c (iC 0), .c (iC 2), .c (iC 0), .c (iC 0), .c (iC 9), .c (iC 0), .c (.sl 3 [[iC 24, iC 0, .sl 3 []], [iC 0, iC 1, .sl 3 []]]), .c (.sl 10 []), .c (.sl 10 []), .c (.sl 1 [])] rfl (by (repeat' (first | exact LWk.nil | apply LWk.cons | exact CWk.refl _ | exact CWk.nil _))))) ?_
  refine RunsF.cutE 2 [] (by simp [*, allTyped, fillC, placeOf]; rfl) trivial (le_trans (le_frz 47 rfl) (le_agg 48 [.c (iC 4), .c (iC 1), .c (iC 0), .c (iC 3), .c (iC 24), .c (iC 0), .c (.sl 3 []), .c (.sl 10 [[iC 0, iC 2, iC 0, iC 0, iC 9, iC 0, .sl 3 [[iC 24, iC 0, .sl 3 []], [iC 0, iC 1, .sl 3 []]], .sl 10 [], .sl 10 [], .sl 1 []]]), .c (.sl 10 []), .c (.sl 1 [])] rfl (by (repeat' (first | exact LWk.nil | apply LWk.cons | exact CWk.refl _ | exact CWk.nil _))))) ?_
  refine RunsF.cutE 2 [] (by simp [*, allTyped, fillC, placeOf]; rfl) trivial (le_trans (le_frz 38 rfl) (le_trans (le_frz 49 rfl) (le_agg 50 [.c (.sl 5 [[sC ⟨#[120]⟩, iC 0, iC 0, iC 3, iC 2]]), .c (.sl 6 []), .c (.sl 10 [[iC 4, iC 1, iC 0, iC 3, iC 24, iC 0, .sl 3 [], .sl 10 [[iC 0, iC 2, iC 0, iC 0, iC 9, iC 0, .sl 3 [[iC 24, iC 0, .sl 3 []], [iC 0, iC 1, .sl 3 []]], .sl 10 [], .sl 10 [], .sl 1 []]], .sl 10 [], .sl 1 []]])] rfl (by (repeat' (first | exact LWk.nil | apply LWk.cons | exact CWk.refl _ | exact CWk.nil _)))))) ?_
  refine RunsF.doneE [] (by simp [*, allTyped, fillC, placeOf]; rfl) trivial ?_
  refine HT_seq <| (HT_runc [⟨false, .tup [.agg [.c (.sl 5 [[sC ⟨#[120]⟩, iC 0, iC 0, iC 3, iC 2]]), .c (.sl 6 []), .c (.sl 10 [[iC 4, iC 1, iC 0, iC 3, iC 0, iC 1, .sl 3 [], .sl 10 [[iC 3, iC 0, iC 0, iC 0, iC 24, iC 0, .sl 3 [], .sl 10 [[iC 0, iC 2, iC 0, iC 0, iC 9, iC 0, .sl 3 [[iC 24, iC 0, .sl 3 []], [iC 0, iC 1, .sl 3 []]], .sl 10 [], .sl 10 [], .sl 1 []]], .sl 10 [[iC 2, iC 2, iC 0, iC 0, iC 0, iC 0, .sl 3 [], .sl 10 [], .sl 10 [], .sl 1 []]], .sl 1 []]], .sl 10 [], .sl 1 []]])], li 0], none⟩] (by simp [*]; first | exact ⟨rfl, Iff.rfl⟩ | exact ⟨rfl, trivial⟩ | rfl) ?_ ?_)
  · first | exact e2 _ | exact trivial | simpa [*] using e2 _
  refine HT_seq <| (HT_runsF ?_)
  refine RunsF.cutE 2 [] (by simp [*, allTyped, fillC, placeOf]; rfl) trivial (le_agg 58 [.c (.sl 1 []), .c (.sl 1 []), .c (.sl 1 [])] rfl (by (repeat' (first | exact LWk.nil | apply LWk.cons | exact CWk.refl _ | exact CWk.nil _)))) ?_
  refine RunsF.doneE [⟨false, .tup [.agg [.c (.sl 1 []), .c (iC 9)], li 0], none⟩] (by simp [*, allTyped, fillC, placeOf]; first | exact ⟨rfl, Iff.rfl⟩ | exact ⟨rfl, trivial⟩ | rfl) ?_ ?_
  · first | exact u2 _ | exact trivial | simpa using u2 _
  refine HT_seq <| (HT_run (by simp [*]; rfl) ?_)
  exact (HT_retE (fun h => ⟨.inr rfl, h⟩) _ (by simp [*]; rfl) (by first | rfl | (simp [*]; done) | (simp only [resR]; (repeat' split) <;> first | rfl | (exfalso; omega) | simp_all)) (by simp))
end Go.Proofs.YtfilidjbpomgoaaGreat

namespace Go.Proofs.YtfilidjbpomgoaaGreat
open Go Go.Hl

theorem settled_law (f : Fl) (bs : List Int) (d : Nat) : Con Tryz.prog 5 true [aF f, lI bs] (.v (lb true)) none d := by
  have ck := known_con
  have cf := fit_con f
  obtain ⟨FW, hFW⟩ : ∃ x, fitB f 16 4 4 = x := ⟨_, rfl⟩
  rw [hFW] at cf
  have hin : FW = true → Fit f 16 4 4 := fun h => fit_in (hFW.trans h)
  clear hFW
  refine con_of_HT Tryz.func5 rfl (by kernel_rfl) (Nat.le_of_ble_eq_true rfl) ?_
  simp only [Tryz.f5]
  simp only [aF, Fl.enc, List.map_cons, List.map_nil] at cf ⊢
  refine HT_seq <| (HT_run (by simp [*]; rfl) ?_)
  refine HT_seq <| HT_seq <| (HT_runc [⟨true, .v (lb true), none⟩] (by simp [*]; first | exact ⟨rfl, Iff.rfl⟩ | exact ⟨rfl, trivial⟩ | rfl) ?_ ?_)
  · first | exact ck _ | exact trivial | simpa [*] using ck _
  refine (HT_cond rfl (fun h2 => ?_) (fun h2 => HT_skip ?_))
  · exact absurd h2 (by simp)
  · try simp only [Bool.or_eq_true, Bool.and_eq_true, Bool.or_eq_false_iff, Bool.and_eq_false_iff, Bool.not_eq_true', Bool.not_eq_false', decide_eq_true_eq, decide_eq_false_iff_not] at h2
    refine HT_seq <| HT_seq <| (HT_runc [⟨true, .v (lb FW), none⟩] (by simp [*]; first | exact ⟨rfl, Iff.rfl⟩ | exact ⟨rfl, trivial⟩ | rfl) ?_ ?_)
    · first | exact cf _ | exact trivial | simpa [*] using cf _
    refine (HT_cond rfl (fun h6 => ?_) (fun h6 => HT_skip ?_))
    · try simp only [Bool.or_eq_true, Bool.and_eq_true, Bool.or_eq_false_iff, Bool.and_eq_false_iff, Bool.not_eq_true', Bool.not_eq_false', decide_eq_true_eq, decide_eq_false_iff_not] at h6
      refine HT_seq <| (HT_run (by simp [*]; rfl) ?_)
      exact (HT_retE (fun h => ⟨.inr rfl, h⟩) _ (by simp [*]; rfl) (by first | rfl | (simp [*]; done) | (simp only [resR]; (repeat' split) <;> first | rfl | (exfalso; omega) | simp_all)) (by simp))
    · try simp only [Bool.or_eq_true, Bool.and_eq_true, Bool.or_eq_false_iff, Bool.and_eq_false_iff, Bool.not_eq_true', Bool.not_eq_false', decide_eq_true_eq, decide_eq_false_iff_not] at h6
      have hfw : FW = true := by
        cases FW with
        | true => rfl
        | false => simp at h6
      have hbs : bs.length ≤ 50 := by
        subst hfw
        simp at h6
        omega
      have hF := hin hfw
      clear hin cf ck h2 h6 hfw
      have hcode := hF.code
      have hbnd := hF.hb
      have hhn := hF.hn
      have hhv := hF.hv
      have hhh := hF.hh
      have cst := settledP_con f bs (by omega) (by omega) (by omega) hF.hb hF.code hbs
      have cbd := boundsR_con f.body (by omega) (ssC_ok _ _ (code_split hF.code).2.2.2.1)
      obtain ⟨eT, eT2, _, _⟩ := times_eq hF.code
      rw [eT] at cst
      rw [eT2] at cbd
      have ccl := cloneS_con f.body (by have := len_nodesS f.body; omega) 109 (by decide)
      have cw := with_con f (f.body ++ [setl bs]) (by omega) (by omega) (by rw [nodes_setl]; omega) (bnd_setl hF.hb (by omega))
      have ceq := fun (h0 : chkF ⟨f.vars, f.hats, f.body ++ [setl bs]⟩ = (⟨f.vars, f.hats, f.body ++ [setl bs]⟩, 0)) => eqF_con ⟨f.vars, f.hats, f.body ++ [setl bs]⟩ (by simp only; omega) (by simp only; omega) (by simp only [nodes_setl]; omega) (bnd_setl hF.hb (by omega))
      have cris := rising46_con bs (by omega)
      have ci := inputs_con f hF.good (by omega) hF.s1 hF.s2 hF.s3
      have hil := insL_len hF.good hF.s1 hF.s2 hF.s3
      have hiok := fun i hi => @ins_ok f.vars (code_split hF.code).2.1 i hi
      have r1 := fun i => runG_con f i (by omega) (by omega) (by omega) hbnd
      have r2 := fun i => runG_con ⟨f.vars, f.hats, f.body ++ [setl bs]⟩ i (by simp only; omega) (by simp only; omega) (by simp only [nodes_setl]; omega) (bnd_setl hF.hb (by omega))
      have hol := fun i => @outs_len f i hbnd
      have hsr := fun (h0 : codeC ⟨f.vars, f.hats, f.body ++ [setl bs]⟩ = 0) (h1 : setC f.body bs (BT f.body) = 0) i (hi : i ∈ insL f.vars) => settled_run hF.code h0 h1 i (hiok i hi)
      have cse := fun t => settled_con bs t (by omega)
      have cct := fun x => contains_con bs x (by omega)
      clear hF hiok eT eT2
      obtain ⟨L, hL⟩ : ∃ x, insL f.vars = x := ⟨_, rfl⟩
      rw [hL] at ci hil hsr
      obtain ⟨T, hT⟩ : ∃ x, BT f.body = x := ⟨_, rfl⟩
      rw [hT] at cst cbd hsr
      obtain ⟨vars, hats, body⟩ := f
      simp only at cbd cst ccl cw ceq ci r2 hsr hcode hhn hhv hhh
      have hres : setF ⟨vars, hats, body⟩ bs T = if setC body bs T = 0 then chkF ⟨vars, hats, body ++ [setl bs]⟩ else (fl0, setC body bs T) := rfl
      obtain ⟨b1, hb1⟩ : ∃ x, (bdL CR body ⟨0, 0, 0⟩).s = x := ⟨_, rfl⟩
      obtain ⟨b2, hb2⟩ : ∃ x, (bdL CR body ⟨0, 0, 0⟩).o = x := ⟨_, rfl⟩
      rw [hb1, hb2] at cbd
      obtain ⟨⟨⟨gv, gh, gb⟩, e⟩, hg⟩ : ∃ x, setF ⟨vars, hats, body⟩ bs T = x := ⟨_, rfl⟩
      rw [hg] at cst hres
      simp only at cst
      simp only [aF, Fl.enc, List.map_cons, List.map_nil] at cst cw ci r1 r2
      clear hL hT hb1 hb2 hg
      refine HT_seq <| (HT_runc [⟨false, .tup [.agg [.c (.sl 5 (encVs gv)), .c (.sl 6 (encHs gh)), .c (.sl 10 (encSs gb))], li e], none⟩] (by simp [*]; first | exact ⟨rfl, Iff.rfl⟩ | exact ⟨rfl, trivial⟩ | rfl) ?_ ?_)
      · first | exact cst _ | exact trivial | simpa [*] using cst _
      refine HT_seq <| (HT_run (by simp [*]; rfl) ?_)
      refine HT_seq <| (HT_runc [⟨true, .tup [li b1, li b2, li T], none⟩] (by simp [*]; first | exact ⟨rfl, Iff.rfl⟩ | exact ⟨rfl, trivial⟩ | rfl) ?_ ?_)
      · first | exact cbd _ | exact trivial | simpa [*] using cbd _
      refine (HT_cutU [1, 2, 5, 6] (fun (z : Int) => [(7, .v (li z))]) (fun (z : Int) => [(2, .box [.c (.sl 5 (encVs vars)), .c (.sl 6 (encHs hats)), .c (.sl 10 (encSs body))]), (5, .box [.c (.sl 5 (encVs gv)), .c (.sl 6 (encHs gh)), .c (.sl 10 (encSs gb))])]) (fun (z : Int) => z = setC body bs T) ?_ ?_)
      ·
        clear hres cst cbd ccl cw ceq ci r1 r2 hsr hol cse cct
        have hC : setC body bs T = if lastS body = true then 15 else if riseB bs = false then 1 else if 67108864 < lastI bs ∨ lastI bs < T then 3 else 0 := rfl
        refine HT_block <| HT_cutU [1, 2, 5, 6, 7, 10] (fun (z : Bool) => [(41, .v (lb z))]) (fun (z : Bool) => [(2, .box [.c (.sl 5 (encVs vars)), .c (.sl 6 (encHs hats)), .c (.sl 10 (encSs body))]), (5, .box [.c (.sl 5 (encVs gv)), .c (.sl 6 (encHs gh)), .c (.sl 10 (encSs gb))])]) (fun (z : Bool) => z = lastS body) ?_ ?_
        · clear hC
          rcases last_or body with ⟨h0, hls⟩ | ⟨⟨sd, sc, sv, sn, ⟨so, stn, sks⟩, sa, sb, sbs⟩, he, hpos, hls⟩
          · subst h0
            have hwm : IntKind.i64.wrap (-1) = -1 := by decide
            refine HT_run (by simp [*]; rfl) ?_
            exact ⟨false, hls.symm, le_mk (fun n => n) [] rfl (by simp [upS, keepS, *]) (by simp [*, upS]) (by simp [upS])⟩
          · have hnb : body.length ≤ 1000000 := by have := len_nodesS body; omega
            have hw1 : IntKind.i64.wrap ((body.length : Int) - 1) = (body.length : Int) - 1 := wrap_in (by omega) (by omega)
            have hw2 : 0 ≤ (body.length : Int) - 1 := by omega
            have hw3 : ((body.length : Int) - 1).toNat = body.length - 1 := by omega
            have hw4 : 0 < body.length := hpos
            have hw5 : 1 ≤ (body.length : Int) := by omega
            have he' := get_encS he
            simp only [St.enc, Tm.enc, List.cons_append, List.nil_append] at he'
            simp only [St.do_] at hls
            clear he
            refine HT_run (by simp [*]; rfl) ?_
            exact ⟨decide (sd = 6), hls.symm, le_mk (fun n => n) [] rfl (by simp [upS, keepS, *]) (by simp [*, upS]) (by simp [upS])⟩
        rintro LS hLS
        simp only [upS, keepS, insS]
        try simp only [keepS, List.contains_cons, List.contains_nil, Bool.or_false, Bool.or_true, Bool.true_or, Bool.false_or, Nat.reduceBEq, BEq.rfl, beq_self_eq_true, if_true, if_false, Bool.false_eq_true, ite_true, ite_false, ins, Nat.reduceLT]
        rw [← hLS] at hC
        clear hLS
        refine (HT_cond rfl (fun h14 => ?_) (fun h14 => ?_))
        · try simp only [Bool.or_eq_true, Bool.and_eq_true, Bool.or_eq_false_iff, Bool.and_eq_false_iff, Bool.not_eq_true', Bool.not_eq_false', decide_eq_true_eq, decide_eq_false_iff_not] at h14
          rw [if_pos h14] at hC
          refine (HT_run (by simp [*]; rfl) ?_)
          exact ⟨15, hC.symm, le_mk (fun n => n) [] rfl (by simp [upS, keepS, *]) (by simp [*, upS]) (by simp [upS])⟩
        · try simp only [Bool.or_eq_true, Bool.and_eq_true, Bool.or_eq_false_iff, Bool.and_eq_false_iff, Bool.not_eq_true', Bool.not_eq_false', decide_eq_true_eq, decide_eq_false_iff_not] at h14
          rw [if_neg (by simpa using h14)] at hC
          refine HT_cutU [1, 2, 5, 6, 7, 10] (fun (z : Bool) => [(58, .v (lb z))]) (fun (z : Bool) => [(2, .box [.c (.sl 5 (encVs vars)), .c (.sl 6 (encHs hats)), .c (.sl 10 (encSs body))]), (5, .box [.c (.sl 5 (encVs gv)), .c (.sl 6 (encHs gh)), .c (.sl 10 (encSs gb))])]) (fun (z : Bool) => z = !riseB bs) ?_ ?_
          · clear hC
            rcases nil_or bs with h0 | ⟨b0, hb0⟩
            · subst h0
              refine HT_runcS [none] (by simp [*]; first | exact ⟨rfl, Iff.rfl⟩ | exact ⟨rfl, trivial⟩ | rfl) ?_ ?_
              · trivial
              exact ⟨true, by simp [rise_nil], le_mk (fun n => n) [] rfl (by simp [upS, keepS, *]) (by simp [*, upS]) (by simp [upS])⟩
            · have hpos : 1 ≤ bs.length := (List.getElem?_eq_some_iff.1 hb0).1
              have hrz := rise_or hb0
              have hne : ¬ (bs.length : Int) = 0 := by omega
              have hne2 : ¬ bs.length = 0 := by omega
              by_cases hg : 32 < (bs.length : Int) ∨ b0 < 0
              · have hz : riseB bs = false := by
                  rw [hrz]
                  simp only [Bool.and_eq_false_iff, decide_eq_false_iff_not]
                  omega
                have hg2 : (decide (32 < (bs.length : Int)) || decide (b0 < 0)) = true := by simpa using hg
                clear hg hrz
                by_cases hq : 32 < (bs.length : Int)
                · refine HT_runcS [none] (by simp [*]; first | exact ⟨rfl, Iff.rfl⟩ | exact ⟨rfl, trivial⟩ | rfl) ?_ ?_
                  · trivial
                  exact ⟨true, by simp [hz], le_mk (fun n => n) [] rfl (by simp [upS, keepS, *]) (by simp [*, upS]) (by simp [upS])⟩
                · have hq2 : b0 < 0 := by simpa [hq] using hg2
                  refine HT_runcS [none] (by simp [*]; first | exact ⟨rfl, Iff.rfl⟩ | exact ⟨rfl, trivial⟩ | rfl) ?_ ?_
                  · trivial
                  exact ⟨true, by simp [hz], le_mk (fun n => n) [] rfl (by simp [upS, keepS, *]) (by simp [*, upS]) (by simp [upS])⟩
              · have hg1 : ¬ 32 < (bs.length : Int) := fun h => hg (.inl h)
                have hg2 : ¬ b0 < 0 := fun h => hg (.inr h)
                have hz : riseB bs = risB bs := by
                  rw [hrz, decide_eq_true (by omega), decide_eq_true (by omega), decide_eq_true (by omega)]
                  rfl
                obtain ⟨R, hR⟩ : ∃ x, risB bs = x := ⟨_, rfl⟩
                rw [hR] at cris hz
                clear hg hrz hR
                refine HT_runc [⟨true, .v (lb R), none⟩] (by simp [*]; first | exact ⟨rfl, Iff.rfl⟩ | exact ⟨rfl, trivial⟩ | rfl) ?_ ?_
                · first | exact cris _ | exact trivial | simpa [*] using cris _
                exact ⟨!R, by rw [hz], le_mk (fun n => n) [] rfl (by simp [upS, keepS, *]) (by simp [*, upS]) (by simp [upS])⟩
          rintro RB hRB
          simp only [upS, keepS, insS]
          try simp only [keepS, List.contains_cons, List.contains_nil, Bool.or_false, Bool.or_true, Bool.true_or, Bool.false_or, Nat.reduceBEq, BEq.rfl, beq_self_eq_true, if_true, if_false, Bool.false_eq_true, ite_true, ite_false, ins, Nat.reduceLT]
          have hRB' : riseB bs = !RB := by rw [hRB]; simp
          rw [hRB'] at hC
          clear hRB
          refine (HT_cond rfl (fun h18 => ?_) (fun h18 => ?_))
          · try simp only [Bool.or_eq_true, Bool.and_eq_true, Bool.or_eq_false_iff, Bool.and_eq_false_iff, Bool.not_eq_true', Bool.not_eq_false', decide_eq_true_eq, decide_eq_false_iff_not] at h18
            rw [if_pos (by simp [h18])] at hC
            refine (HT_run (by simp [*]; rfl) ?_)
            exact ⟨1, hC.symm, le_mk (fun n => n) [] rfl (by simp [upS, keepS, *]) (by simp [*, upS]) (by simp [upS])⟩
          · try simp only [Bool.or_eq_true, Bool.and_eq_true, Bool.or_eq_false_iff, Bool.and_eq_false_iff, Bool.not_eq_true', Bool.not_eq_false', decide_eq_true_eq, decide_eq_false_iff_not] at h18
            have hRF : RB = false := by simpa using h18
            rw [if_neg (by simp [hRF])] at hC
            have hrt : riseB bs = true := by rw [hRB', hRF]; rfl
            have hpos : 1 ≤ bs.length := by
              unfold riseB at hrt
              simp only [Bool.and_eq_true, decide_eq_true_eq] at hrt
              exact hrt.1.1
            obtain ⟨y, hy⟩ := get_I (show bs.length - 1 < bs.length by omega)
            have hly : lastI bs = y := by unfold lastI; rw [hy]; rfl
            rw [hly] at hC
            have hv1 : IntKind.i64.wrap ((bs.length : Int) - 1) = (bs.length : Int) - 1 := wrap_in (by omega) (by omega)
            have hv2 : 0 ≤ (bs.length : Int) - 1 := by omega
            have hv3 : ((bs.length : Int) - 1).toNat = bs.length - 1 := by omega
            have hv4 : 1 ≤ (bs.length : Int) := by omega
            clear hly hrt hRB' hRF h18 cris hpos
            refine HT_seq <| (HT_run (by simp [*]; rfl) ?_)
            refine (HT_cond rfl (fun h22 => ?_) (fun h22 => HT_skip ?_))
            · try simp only [Bool.or_eq_true, Bool.and_eq_true, Bool.or_eq_false_iff, Bool.and_eq_false_iff, Bool.not_eq_true', Bool.not_eq_false', decide_eq_true_eq, decide_eq_false_iff_not] at h22
              rw [if_pos (by simpa using h22)] at hC
              refine (HT_run (by simp [*]; rfl) ?_)
              exact ⟨3, hC.symm, le_mk (fun n => n) [] rfl (by simp [upS, keepS, *]) (by simp [*, upS]) (by simp [upS])⟩
            · try simp only [Bool.or_eq_true, Bool.and_eq_true, Bool.or_eq_false_iff, Bool.and_eq_false_iff, Bool.not_eq_true', Bool.not_eq_false', decide_eq_true_eq, decide_eq_false_iff_not] at h22
              rw [if_neg (by simpa using h22)] at hC
              exact ⟨0, hC.symm, le_mk (fun n => n) [] rfl (by simp [upS, keepS, *]) (by simp [*, upS]) (by simp [upS])⟩
      rintro z hz
      simp only [upS, keepS, insS]
      try simp only [keepS, List.contains_cons, List.contains_nil, Bool.or_false, Bool.or_true, Bool.true_or, Bool.false_or, Nat.reduceBEq, BEq.rfl, beq_self_eq_true, if_true, if_false, Bool.false_eq_true, ite_true, ite_false, ins, Nat.reduceLT]
      rw [← hz] at hres hsr
      clear cst cbd hz
      refine HT_seq <| HT_seq <| (HT_run (by simp [*]; rfl) ?_)
      refine (HT_cond rfl (fun h27 => ?_) (fun h27 => HT_skip ?_))
      · try simp only [Bool.or_eq_true, Bool.and_eq_true, Bool.or_eq_false_iff, Bool.and_eq_false_iff, Bool.not_eq_true', Bool.not_eq_false', decide_eq_true_eq, decide_eq_false_iff_not] at h27
        rw [if_neg h27] at hres
        simp only [fl0, Prod.mk.injEq, Fl.mk.injEq] at hres
        obtain ⟨⟨e1, e2, e3⟩, e4⟩ := hres
        subst e1 e2 e3 e4
        have cn := none_con ⟨[], [], []⟩
        simp only [aF, Fl.enc, List.map_cons, List.map_nil, show noneB ⟨[], [], []⟩ = true from rfl] at cn
        clear hsr ccl cw ceq ci r1 r2 hol cse cct
        refine HT_seq <| (HT_runc [⟨true, .v (lb true), none⟩] (by simp [*]; first | exact ⟨rfl, Iff.rfl⟩ | exact ⟨rfl, trivial⟩ | rfl) ?_ ?_)
        · first | exact cn _ | exact trivial | simpa [*] using cn _
        exact (HT_retE (fun h => ⟨.inr rfl, h⟩) _ (by simp [*]; rfl) (by first | rfl | (simp [*]; done) | (simp only [resR]; (repeat' split) <;> first | rfl | (exfalso; omega) | simp_all)) (by simp))
      · try simp only [Bool.or_eq_true, Bool.and_eq_true, Bool.or_eq_false_iff, Bool.and_eq_false_iff, Bool.not_eq_true', Bool.not_eq_false', decide_eq_true_eq, decide_eq_false_iff_not] at h27
        have hz0 : z = 0 := by simpa using h27
        subst hz0
        rw [if_pos rfl] at hres
        have hres := hres.symm
        rw [hres] at cw ceq
        simp only at cw ceq
        have cag := agrees_con ⟨gv, gh, gb⟩ e (fun h0 => by
            subst h0
            unfold chkF at hres
            split at hres
            · simp only [Prod.mk.injEq] at hres
              rw [← hres.1]
              have h2 := ceq (by rw [← hres.1])
              exact h2
            · simp only [Prod.mk.injEq] at hres
              exact absurd hres.2 (by decide)) (fun h0 => by
            unfold chkF at hres
            split at hres
            · simp only [Prod.mk.injEq] at hres
              exact absurd hres.2.symm h0
            · simp only [Prod.mk.injEq] at hres
              rw [← hres.1]
              rfl)
        have hrun : e = 0 → ∀ i ∈ L, runF ⟨gv, gh, gb⟩ i = (⟨(runF ⟨vars, hats, body⟩ i).1.outs, stlL bs (runF ⟨vars, hats, body⟩ i).1.time (runF ⟨vars, hats, body⟩ i).1.time false⟩, 0) ∧ stlL bs (runF ⟨vars, hats, body⟩ i).1.time (runF ⟨vars, hats, body⟩ i).1.time false ∈ bs := by
          intro h0 i hi
          subst h0
          unfold chkF at hres
          split at hres
          · rename_i h1
            simp only [Prod.mk.injEq] at hres
            rw [← hres.1]
            exact hsr h1 rfl i hi
          · simp only [Prod.mk.injEq] at hres
            exact absurd hres.2 (by decide)
        have r2 : e = 0 → ∀ i d, Con Tryz.prog 16 false [aF ⟨gv, gh, gb⟩, aI i] (.tup [aO (runF ⟨gv, gh, gb⟩ i).1, li (runF ⟨gv, gh, gb⟩ i).2]) none d := by
          intro h0 i d
          subst h0
          unfold chkF at hres
          split at hres
          · simp only [Prod.mk.injEq] at hres
            rw [← hres.1]
            exact r2 i d
          · simp only [Prod.mk.injEq] at hres
            exact absurd hres.2 (by decide)
        have eset : encSs (body ++ [setl bs]) = encSs body ++ [[iC 6, iC 0, iC 0, iC 0, iC 0, iC 0, .sl 3 [], .sl 10 [], .sl 10 [], .sl 1 (encIs bs)]] := by
          rw [encS_app]
          simp [setl]
        have cw' : ∀ d, Con Tryz.prog 11 false [.agg [.c (.sl 5 (encVs vars)), .c (.sl 6 (encHs hats)), .c (.sl 10 (encSs body))], .one (.c (.sl 10 (encSs body ++ [[iC 6, iC 0, iC 0, iC 0, iC 0, iC 0, .lit nilS, .lit nilS, .lit nilS, .sl 1 (encIs bs)]])))] (.tup [.agg [.c (.sl 5 (encVs gv)), .c (.sl 6 (encHs gh)), .c (.sl 10 (encSs gb))], li e]) none d := by
          intro d
          refine con_argR (n := 1) (t' := lS (body ++ [setl bs])) (cw d) rfl fun F γ w v hv => ?_
          have hv : CRel F w (.sl 10 (encSs body ++ [[iC 6, iC 0, iC 0, iC 0, iC 0, iC 0, .lit nilS, .lit nilS, .lit nilS, .sl 1 (encIs bs)]])) v := hv
          show CRel F w (.sl 10 (encSs (body ++ [setl bs]))) v
          rw [eset]
          exact rows_wk hv (by simp [rwk, dwk])
        simp only [aF, Fl.enc, List.map_cons, List.map_nil] at cag r2
        have hroom : room (body.length + 1) 144 := room_of (by have := len_nodesS body; omega) (by omega)
        clear hsr cw ceq hres eset h27
        refine HT_seq <| (HT_druncW [(2, 2), (107, 2), (11, 11)] 8 113 [⟨false, .v (.one (.own 109)), some (.row 56 10 (encSs body))⟩] [⟨false, .tup [.agg [.c (.sl 5 (encVs gv)), .c (.sl 6 (encHs gh)), .c (.sl 10 (encSs gb))], li e], none⟩] (by kernel_rfl) (by kernel_rfl) (by kernel_rfl) (by rfl) (by simp [*, evcH, hokB, hintOf, allTyped, fillC, placeOf]; first | exact ⟨rfl, Iff.rfl⟩ | exact ⟨rfl, trivial⟩ | rfl) ?_ (by rfl) (by simp [*, evcH, hokB, hintOf]; first | exact ⟨rfl, Iff.rfl⟩ | exact ⟨rfl, trivial⟩ | rfl) ?_ ?_)
        · first | exact ccl | exact trivial | simpa using ccl
        · first | exact cw' _ | exact trivial | simpa using cw' _
        refine HT_seq <| HT_seq <| (HT_runc [⟨true, .v (lb true), none⟩] (by simp [*]; first | exact ⟨rfl, Iff.rfl⟩ | exact ⟨rfl, trivial⟩ | rfl) ?_ ?_)
        · first | exact cag _ | exact trivial | simpa [*] using cag _
        refine (HT_cond rfl (fun h32 => ?_) (fun h32 => HT_skip ?_))
        · exact absurd h32 (by simp)
        · try simp only [Bool.or_eq_true, Bool.and_eq_true, Bool.or_eq_false_iff, Bool.and_eq_false_iff, Bool.not_eq_true', Bool.not_eq_false', decide_eq_true_eq, decide_eq_false_iff_not] at h32
          refine HT_seq <| HT_seq <| (HT_run (by simp [*]; rfl) ?_)
          refine (HT_cond rfl (fun h36 => ?_) (fun h36 => HT_skip ?_))
          · try simp only [Bool.or_eq_true, Bool.and_eq_true, Bool.or_eq_false_iff, Bool.and_eq_false_iff, Bool.not_eq_true', Bool.not_eq_false', decide_eq_true_eq, decide_eq_false_iff_not] at h36
            refine HT_seq <| (HT_run (by simp [*]; rfl) ?_)
            exact (HT_retE (fun h => ⟨.inr rfl, h⟩) _ (by simp [*]; rfl) (by first | rfl | (simp [*]; done) | (simp only [resR]; (repeat' split) <;> first | rfl | (exfalso; omega) | simp_all)) (by simp))
          · try simp only [Bool.or_eq_true, Bool.and_eq_true, Bool.or_eq_false_iff, Bool.and_eq_false_iff, Bool.not_eq_true', Bool.not_eq_false', decide_eq_true_eq, decide_eq_false_iff_not] at h36
            have he : e = 0 := by simpa using h36
            have hrun := hrun he
            have r2 := r2 he
            clear cag cw' h36 ccl hroom
            refine HT_seq <| HT_seq <| (HT_runc [⟨false, .v (.one (.c (.sl 3 (encNs L)))), none⟩] (by simp [*]; first | exact ⟨rfl, Iff.rfl⟩ | exact ⟨rfl, trivial⟩ | rfl) ?_ ?_)
            · first | exact ci _ | exact trivial | simpa [*] using ci _
            refine HT_block <| (HT_loopU [1, 2, 5, 126, 127] (fun (x : Nat) => [(128, .v (li x))]) (fun (x : Nat) => [(2, .box [.c (.sl 5 (encVs vars)), .c (.sl 6 (encHs hats)), .c (.sl 10 (encSs body))]), (5, .box [.c (.sl 5 (encVs gv)), .c (.sl 6 (encHs gh)), .c (.sl 10 (encSs gb))])]) (fun (x : Nat) => x ≤ L.length) (fun (x : Nat) => L.length - x) (0 : Nat) (Nat.zero_le _) ?_ ?_)
            · exact le_mk (fun n => n) [] rfl (by simp [*, upS, keepS]) (by simp [*, upS]) (by simp [upS])
            rintro k hk
            simp only [upS, keepS, insS]
            try simp only [keepS, List.contains_cons, List.contains_nil, Bool.or_false, Bool.or_true, Bool.true_or, Bool.false_or, Nat.reduceBEq, BEq.rfl, beq_self_eq_true, if_true, if_false, Bool.false_eq_true, ite_true, ite_false, ins, Nat.reduceLT]
            clear ci
            refine HT_seq <| (HT_run (by simp [*]; rfl) ?_)
            refine HT_seq <| (HT_cond rfl (fun h42 => HT_skip ?_) (fun h42 => ?_))
            · try simp only [Bool.or_eq_true, Bool.and_eq_true, Bool.or_eq_false_iff, Bool.and_eq_false_iff, Bool.not_eq_true', Bool.not_eq_false', decide_eq_true_eq, decide_eq_false_iff_not] at h42
              have hlt : k < L.length := by omega
              obtain ⟨⟨is, ip, ir⟩, he', hd⟩ := at_lt hlt
              have hw1 : IntKind.i64.wrap ((k : Int) + 1) = (k : Int) + 1 := wrap_in (by omega) (by omega)
              have hk1 : k + 1 ≤ L.length := hlt
              have heN : (encNs L)[k]? = some [.sl 1 (encIs is), .sl 1 (encIs ip), .sl 1 (encIs ir)] := by rw [get_encN, he']; rfl
              obtain ⟨hT1, hT2⟩ := hrun _ (List.mem_of_getElem? he')
              have r1 := r1 ⟨is, ip, ir⟩
              have r2 := r2 ⟨is, ip, ir⟩
              have hol := hol ⟨is, ip, ir⟩
              rw [hT1] at r2
              obtain ⟨⟨⟨O, t⟩, c⟩, hR⟩ : ∃ x, runF ⟨vars, hats, body⟩ ⟨is, ip, ir⟩ = x := ⟨_, rfl⟩
              rw [hR] at r1 r2 hol hT2
              simp only at r1 r2 hol hT2
              have cse := cse t
              obtain ⟨S, hS⟩ : ∃ x, stlL bs t t false = x := ⟨_, rfl⟩
              rw [hS] at r2 hT2 cse
              have cct := cct S
              rw [decide_eq_true (idxF_mem bs S 0 hT2)] at cct
              simp only [aI] at r1 r2
              have cq := eqI_con O hol
              clear hlt h42 hT1 hR hd he' hol hrun hS hT2
              refine HT_seq <| HT_block <| HT_seq <| (HT_run (by simp [*]; rfl) ?_)
              refine HT_seq <| (HT_runc [⟨false, .tup [.agg [.c (.sl 1 (encIs O)), .c (iC t)], li c], none⟩] (by simp [*]; first | exact ⟨rfl, Iff.rfl⟩ | exact ⟨rfl, trivial⟩ | rfl) ?_ ?_)
              · first | exact r1 _ | exact trivial | simpa [*] using r1 _
              refine HT_seq <| (HT_runc [⟨false, .tup [.agg [.c (.sl 1 (encIs O)), .c (iC S)], li 0], none⟩] (by simp [*]; first | exact ⟨rfl, Iff.rfl⟩ | exact ⟨rfl, trivial⟩ | rfl) ?_ ?_)
              · first | exact r2 _ | exact trivial | simpa [*] using r2 _
              refine HT_seq <| (HT_drunc [⟨true, .v (lb true), none⟩, ⟨true, .v (li S), none⟩, ⟨true, .v (lb true), none⟩] (by kernel_rfl) (by kernel_rfl) (by rfl) (by simp [*]; first | exact ⟨rfl, Iff.rfl⟩ | exact ⟨rfl, trivial⟩ | rfl) ?_ ?_)
              · first | exact ⟨cq _, cse _, cct _⟩ | exact trivial | (repeat' first | exact trivial | exact cq _ | exact cse _ | exact cct _ | apply And.intro)
              refine (HT_cond rfl (fun h47 => ?_) (fun h47 => HT_skip ?_))
              · exact absurd h47 (by simp)
              · try simp only [Bool.or_eq_true, Bool.and_eq_true, Bool.or_eq_false_iff, Bool.and_eq_false_iff, Bool.not_eq_true', Bool.not_eq_false', decide_eq_true_eq, decide_eq_false_iff_not] at h47
                refine (HT_run (by simp [*]; rfl) ?_)
                exact ⟨k + 1, hk1, by omega, le_mk (fun n => n) [] rfl (by simp [upS, keepS, *]) (by simp [*, upS]) (by simp [upS])⟩
            · try simp only [Bool.or_eq_true, Bool.and_eq_true, Bool.or_eq_false_iff, Bool.and_eq_false_iff, Bool.not_eq_true', Bool.not_eq_false', decide_eq_true_eq, decide_eq_false_iff_not] at h42
              refine (HT_exit ?_)
              refine HT_seq <| (HT_run (by simp [*]; rfl) ?_)
              exact (HT_retE (fun h => ⟨.inr rfl, h⟩) _ (by simp [*]; rfl) (by first | rfl | (simp [*]; done) | (simp only [resR]; (repeat' split) <;> first | rfl | (exfalso; omega) | simp_all)) (by simp))
end Go.Proofs.YtfilidjbpomgoaaGreat

namespace Go.Proofs.YtfilidjbpomgoaaGreat
open Go Go.Hl Go.RowKit Go.ChangeShapes Go.Proofs.YtfilidjbpomgoaaGreat

/-! ## the argument, read as a tree -/
theorem tiled : Tiled Tryz.prog := tiled_mk (by kernel_rfl)
theorem own : ownKnob Tryz.prog.godebug = none := by kernel_rfl
theorem laidOut : laidOutB Tryz.prog = true := by kernel_rfl
section
variable {P : Program} {k : Nat} {t : TypeId} {ds : List CD}
theorem shape_slK {α : Type} {enc : α → List CD} {e : TypeId} {c : Nat} (hu : P.underlying t = some (.slice e)) (hc : P.cellsOf e = c) (he : ∀ k', k' < k → ∀ r, Shape P k' e r → ∃ x, r = enc x) (h : Shape P k t ds) : ∃ xs : List α, ds = [.sl c (xs.map enc)] := by
  cases k with
  | zero => exact h.elim
  | succ k =>
    unfold Shape at h
    rw [hu] at h
    obtain ⟨rows, h1, _, h3⟩ := h
    obtain ⟨xs, hxs⟩ := rows_enc (enc := enc) fun r hr => he k (Nat.lt_succ_self k) r (h3 r hr).2
    subst hxs
    exact ⟨xs, by rw [h1, hc]⟩
theorem shape_structK {fs : Array Field} {l : List (Nat × Nat × TypeId)} {c : Nat} (hu : P.underlying t = some (.struct fs)) (hl : segsF P fs = l) (hc : P.cellsOf t = c) (h : Shape P k t ds) : ds.length = c ∧ ∃ k', k' < k ∧ ∀ x ∈ l, Shape P k' x.2.2 ((ds.drop x.1).take x.2.1) := by
  cases k with
  | zero => exact h.elim
  | succ k =>
    unfold Shape at h
    rw [hu] at h
    have h' : ds.length = P.cellsOf t ∧ ∀ x ∈ segsF P fs, Shape P k x.2.2 ((ds.drop x.1).take x.2.1) := h
    exact ⟨hc ▸ h'.1, k, Nat.lt_succ_self k, fun x hx => h'.2 x (hl ▸ hx)⟩
end
theorem dec_i {k : Nat} {t : TypeId} {ds : List CD} (hu : Tryz.prog.underlying t = some (.int .i64)) (h : Shape Tryz.prog k t ds) : ∃ n : Int, ds = [iC n] := by
  obtain ⟨n, h1, _⟩ := shape_int hu h
  exact ⟨n, h1⟩
theorem dec_s {k : Nat} {ds : List CD} (h : Shape Tryz.prog k 9 ds) : ∃ s : ByteArray, ds = [sC s] := by
  obtain ⟨s, h1, _⟩ := shape_str Tryz.underlying9 h
  exact ⟨s, h1⟩
theorem dec_I {k : Nat} {ds : List CD} (h : Shape Tryz.prog k 39 ds) : ∃ l : List Int, ds = [.sl 1 (encIs l)] :=
  shape_slK (enc := fun x => [iC x]) Tryz.underlying39 (by kernel_rfl : Tryz.prog.cellsOf 3 = 1) (fun _ _ _ hr => dec_i Tryz.underlying3 hr) h
theorem dec_T : ∀ (k : Nat) (ds : List CD), Shape Tryz.prog k 54 ds → ∃ t : Tm, ds = t.enc := by
  intro k
  induction k using Nat.strongRecOn with
  | ind k ih =>
    intro ds h
    obtain ⟨hl, k1, hk1, hx⟩ := shape_structK (l := [(0, 1, 51), (1, 1, 3), (2, 1, 52)]) Tryz.underlying54 (by kernel_rfl) (by kernel_rfl : Tryz.prog.cellsOf 54 = 3) h
    match ds, hl with
    | [a, b, c], _ =>
      obtain ⟨n1, h1⟩ := dec_i Tryz.underlying51 (hx (0, 1, 51) (by simp))
      obtain ⟨n2, h2⟩ := dec_i Tryz.underlying3 (hx (1, 1, 3) (by simp))
      obtain ⟨ks, h3⟩ := shape_slK (enc := Tm.enc) Tryz.underlying52 (by kernel_rfl : Tryz.prog.cellsOf 54 = 3) (fun k' hk' r hr => ih k' (by omega) r hr) (hx (2, 1, 52) (by simp))
      simp only [List.drop, List.take, List.cons.injEq, and_true] at h1 h2 h3
      subst h1 h2 h3
      exact ⟨.mk n1 n2 ks, by simp only [Tm.enc, encTs_map]⟩
theorem dec_S : ∀ (k : Nat) (ds : List CD), Shape Tryz.prog k 56 ds → ∃ s : St, ds = s.enc := by
  intro k
  induction k using Nat.strongRecOn with
  | ind k ih =>
    intro ds h
    obtain ⟨hl, k1, hk1, hx⟩ := shape_structK (l := [(0, 1, 50), (1, 1, 3), (2, 1, 3), (3, 1, 3), (4, 3, 54), (7, 1, 24), (8, 1, 24), (9, 1, 39)]) Tryz.underlying56 (by kernel_rfl) (by kernel_rfl : Tryz.prog.cellsOf 56 = 10) h
    match ds, hl with
    | [a0, a1, a2, a3, a4, a5, a6, a7, a8, a9], _ =>
      obtain ⟨n0, h0⟩ := dec_i Tryz.underlying50 (hx (0, 1, 50) (by simp))
      obtain ⟨n1, h1⟩ := dec_i Tryz.underlying3 (hx (1, 1, 3) (by simp))
      obtain ⟨n2, h2⟩ := dec_i Tryz.underlying3 (hx (2, 1, 3) (by simp))
      obtain ⟨n3, h3⟩ := dec_i Tryz.underlying3 (hx (3, 1, 3) (by simp))
      obtain ⟨t, h4⟩ := dec_T _ _ (hx (4, 3, 54) (by simp))
      obtain ⟨la, h7⟩ := shape_slK (enc := St.enc) Tryz.underlying24 (by kernel_rfl : Tryz.prog.cellsOf 56 = 10) (fun k' hk' r hr => ih k' (by omega) r hr) (hx (7, 1, 24) (by simp))
      obtain ⟨lb', h8⟩ := shape_slK (enc := St.enc) Tryz.underlying24 (by kernel_rfl : Tryz.prog.cellsOf 56 = 10) (fun k' hk' r hr => ih k' (by omega) r hr) (hx (8, 1, 24) (by simp))
      obtain ⟨lc, h9⟩ := dec_I (hx (9, 1, 39) (by simp))
      simp only [List.drop, List.take, List.cons.injEq, and_true] at h0 h1 h2 h3 h4 h7 h8 h9
      subst h0 h1 h2 h3 h7 h8 h9
      refine ⟨.mk n0 n1 n2 n3 t la lb' lc, ?_⟩
      simp only [St.enc, encSs_map, ← h4, List.cons_append, List.nil_append]
theorem dec_V {k : Nat} {ds : List CD} (h : Shape Tryz.prog k 65 ds) : ∃ v : Vr, ds = v.enc := by
  obtain ⟨hl, k1, _, hx⟩ := shape_structK (l := [(0, 1, 9), (1, 1, 63), (2, 1, 3), (3, 1, 3), (4, 1, 3)]) Tryz.underlying65 (by kernel_rfl) (by kernel_rfl : Tryz.prog.cellsOf 65 = 5) h
  match ds, hl with
  | [a0, a1, a2, a3, a4], _ =>
    obtain ⟨n0, h0⟩ := dec_s (hx (0, 1, 9) (by simp))
    obtain ⟨n1, h1⟩ := dec_i Tryz.underlying63 (hx (1, 1, 63) (by simp))
    obtain ⟨n2, h2⟩ := dec_i Tryz.underlying3 (hx (2, 1, 3) (by simp))
    obtain ⟨n3, h3⟩ := dec_i Tryz.underlying3 (hx (3, 1, 3) (by simp))
    obtain ⟨n4, h4⟩ := dec_i Tryz.underlying3 (hx (4, 1, 3) (by simp))
    simp only [List.drop, List.take, List.cons.injEq, and_true] at h0 h1 h2 h3 h4
    subst h0 h1 h2 h3 h4
    exact ⟨⟨n0, n1, n2, n3, n4⟩, rfl⟩
theorem dec_H {k : Nat} {ds : List CD} (h : Shape Tryz.prog k 68 ds) : ∃ v : Ht, ds = v.enc := by
  obtain ⟨hl, k1, _, hx⟩ := shape_structK (l := [(0, 1, 9), (1, 1, 3), (2, 1, 3), (3, 3, 54)]) Tryz.underlying68 (by kernel_rfl) (by kernel_rfl : Tryz.prog.cellsOf 68 = 6) h
  match ds, hl with
  | [a0, a1, a2, a3, a4, a5], _ =>
    obtain ⟨n0, h0⟩ := dec_s (hx (0, 1, 9) (by simp))
    obtain ⟨n1, h1⟩ := dec_i Tryz.underlying3 (hx (1, 1, 3) (by simp))
    obtain ⟨n2, h2⟩ := dec_i Tryz.underlying3 (hx (2, 1, 3) (by simp))
    obtain ⟨t, h3⟩ := dec_T _ _ (hx (3, 3, 54) (by simp))
    simp only [List.drop, List.take, List.cons.injEq, and_true] at h0 h1 h2 h3
    subst h0 h1 h2
    exact ⟨⟨n0, n1, n2, t⟩, by simp only [Ht.enc, ← h3, List.cons_append, List.nil_append]⟩
theorem dec_F {k : Nat} {ds : List CD} (h : Shape Tryz.prog k 26 ds) : ∃ f : Fl, ds = f.enc := by
  obtain ⟨hl, k1, _, hx⟩ := shape_structK (l := [(0, 1, 22), (1, 1, 23), (2, 1, 24)]) Tryz.underlying26 (by kernel_rfl) (by kernel_rfl : Tryz.prog.cellsOf 26 = 3) h
  match ds, hl with
  | [a0, a1, a2], _ =>
    obtain ⟨lv, h0⟩ := shape_slK (enc := Vr.enc) Tryz.underlying22 (by kernel_rfl : Tryz.prog.cellsOf 65 = 5) (fun _ _ _ hr => dec_V hr) (hx (0, 1, 22) (by simp))
    obtain ⟨lh, h1⟩ := shape_slK (enc := Ht.enc) Tryz.underlying23 (by kernel_rfl : Tryz.prog.cellsOf 68 = 6) (fun _ _ _ hr => dec_H hr) (hx (1, 1, 23) (by simp))
    obtain ⟨ls, h2⟩ := shape_slK (enc := St.enc) Tryz.underlying24 (by kernel_rfl : Tryz.prog.cellsOf 56 = 10) (fun k' _ r hr => dec_S k' r hr) (hx (2, 1, 24) (by simp))
    simp only [List.drop, List.take, List.cons.injEq, and_true] at h0 h1 h2
    subst h0 h1 h2
    exact ⟨⟨lv, lh, ls⟩, by simp only [Fl.enc, encVs, encHs, encSs_map]⟩
theorem agg26 : aggT Tryz.prog 26 = true := by unfold aggT; rw [Tryz.underlying26]
end Go.Proofs.YtfilidjbpomgoaaGreat
