/- Part 18: contracts of functions of the program and of the reference, and plain facts about what they compute; used by the proof of the claimed statement. Conditions: as each theorem states. -/
import Derived.Test.YteekbhkjfaegiaaGreatT17
import Derived.Test.YteekbhkjfaegiaaGreatT14
import Derived.Test.YteekbhkjfaegiaaGreatRows
set_option linter.unusedSimpArgs false
set_option linter.unusedVariables false
set_option linter.unnecessarySimpa false
set_option maxRecDepth 100000
set_option maxHeartbeats 2000000
namespace Go.Proofs.YteekbhkjfaegiaaGreat
open Go Go.Hl

/-! ## the example -/
def eVs : List Vr := [⟨⟨#[120]⟩, 1, 0, 3, 0⟩, ⟨⟨#[121]⟩, 0, 0, 3, 0⟩]
def e0 : St := .mk 0 0 1 0 (.mk 11 0 [.mk 24 0 [], .mk 0 2 []]) [] [] []
def e1 : St := .mk 2 0 0 0 (.mk 0 0 []) [] [] []
def e2 : St := .mk 1 0 0 0 (.mk 24 1 []) [] [] []
def K1 : Fl := ⟨eVs, [], [e0, e1, e2]⟩
def V0 : Vw := ⟨[], false⟩
theorem c012 : codeC ⟨eVs, [], [e0, e1, e2]⟩ = 0 := by
  simp only [codeC, sizesB, e0, e1, e2, sdL, tdeep, ssC]
  kernel_rfl
theorem c01 : codeC ⟨eVs, [], [e0, e1]⟩ = 0 := by
  simp only [codeC, sizesB, e0, e1, e2, sdL, tdeep, ssC]
  kernel_rfl
theorem c02 : codeC ⟨eVs, [], [e0, e2]⟩ = 0 := by
  simp only [codeC, sizesB, e0, e1, e2, sdL, tdeep, ssC]
  kernel_rfl
theorem c0 : codeC ⟨eVs, [], [e0]⟩ = 0 := by
  simp only [codeC, sizesB, e0, e1, e2, sdL, tdeep, ssC]
  kernel_rfl
theorem c2 : codeC ⟨eVs, [], [e2]⟩ = 0 := by
  simp only [codeC, sizesB, e0, e1, e2, sdL, tdeep, ssC]
  kernel_rfl
theorem ob_of {f : Fl} {r : Int} {o : List Int} (h0 : codeC f = 0) (h1 : ∃ t : List Int × Int, (if (stL ⟨uL (ofK f.vars 1) r, V0.pub, []⟩ f.vars 0 0 0 [] true).2 = 0 then (stepsF f.vars (hvals (stL ⟨uL (ofK f.vars 1) r, V0.pub, []⟩ f.vars 0 0 0 [] true).1 f.hats) f.body ⟨(stL ⟨uL (ofK f.vars 1) r, V0.pub, []⟩ f.vars 0 0 0 [] true).1, [], 0⟩, (0 : Int))
    else (st0, (stL ⟨uL (ofK f.vars 1) r, V0.pub, []⟩ f.vars 0 0 0 [] true).2)) = (⟨t.1, o, t.2⟩, 0)) : obsF f V0 r = ⟨o, 0⟩ := by
  obtain ⟨t, h1⟩ := h1
  have hp : playF f ⟨uL (ofK f.vars 1) r, V0.pub, []⟩ = (⟨t.1, o, t.2⟩, 0) := by
    unfold playF
    rw [if_pos h0]
    exact h1
  unfold obsF rawO runF
  rw [hp]
  rfl
theorem apB_of {f : Fl} {v : Vw} {a b : Int} {bd : List St} {x y : Obs} (h1 : obsF ⟨f.vars, f.hats, bd⟩ v a = x) (h2 : obsF ⟨f.vars, f.hats, bd⟩ v b = y) : apB f v a b bd = !decide (x = y) := by
  unfold apB
  rw [h1, h2]
theorem o012_0 : obsF ⟨eVs, [], [e0, e1, e2]⟩ V0 0 = ⟨[0], 0⟩ := ob_of c012 ⟨([0, 0], 0), by simp only [e0, e1, e2, stepsF]; kernel_rfl⟩
theorem o012_1 : obsF ⟨eVs, [], [e0, e1, e2]⟩ V0 1 = ⟨[0], 0⟩ := ob_of c012 ⟨([1, 0], 0), by simp only [e0, e1, e2, stepsF]; kernel_rfl⟩
theorem o012_2 : obsF ⟨eVs, [], [e0, e1, e2]⟩ V0 2 = ⟨[1], 0⟩ := ob_of c012 ⟨([2, 1], 0), by simp only [e0, e1, e2, stepsF]; kernel_rfl⟩
theorem o01_0 : obsF ⟨eVs, [], [e0, e1]⟩ V0 0 = ⟨[], 0⟩ := ob_of c01 ⟨([0, 0], 0), by simp only [e0, e1, e2, stepsF]; kernel_rfl⟩
theorem o01_2 : obsF ⟨eVs, [], [e0, e1]⟩ V0 2 = ⟨[], 0⟩ := ob_of c01 ⟨([2, 1], 0), by simp only [e0, e1, e2, stepsF]; kernel_rfl⟩
theorem o02_0 : obsF ⟨eVs, [], [e0, e2]⟩ V0 0 = ⟨[0], 0⟩ := ob_of c02 ⟨([0, 0], 0), by simp only [e0, e1, e2, stepsF]; kernel_rfl⟩
theorem o02_2 : obsF ⟨eVs, [], [e0, e2]⟩ V0 2 = ⟨[1], 0⟩ := ob_of c02 ⟨([2, 1], 0), by simp only [e0, e1, e2, stepsF]; kernel_rfl⟩
theorem o0_0 : obsF ⟨eVs, [], [e0]⟩ V0 0 = ⟨[], 0⟩ := ob_of c0 ⟨([0, 0], 0), by simp only [e0, e1, e2, stepsF]; kernel_rfl⟩
theorem o0_2 : obsF ⟨eVs, [], [e0]⟩ V0 2 = ⟨[], 0⟩ := ob_of c0 ⟨([2, 1], 0), by simp only [e0, e1, e2, stepsF]; kernel_rfl⟩
theorem o2_0 : obsF ⟨eVs, [], [e2]⟩ V0 0 = ⟨[0], 0⟩ := ob_of c2 ⟨([0, 0], 0), by simp only [e0, e1, e2, stepsF]; kernel_rfl⟩
theorem o2_2 : obsF ⟨eVs, [], [e2]⟩ V0 2 = ⟨[0], 0⟩ := ob_of c2 ⟨([2, 0], 0), by simp only [e0, e1, e2, stepsF]; kernel_rfl⟩
theorem a012 : apB K1 V0 0 2 [e0, e1, e2] = true := by rw [apB_of (f := K1) o012_0 o012_2]; rfl
theorem a01 : apB K1 V0 0 2 [e0, e1] = false := by rw [apB_of (f := K1) o01_0 o01_2]; rfl
theorem a02 : apB K1 V0 0 2 [e0, e2] = true := by rw [apB_of (f := K1) o02_0 o02_2]; rfl
theorem a0' : apB K1 V0 0 2 [e0] = false := by rw [apB_of (f := K1) o0_0 o0_2]; rfl
theorem a2' : apB K1 V0 0 2 [e2] = false := by rw [apB_of (f := K1) o2_0 o2_2]; rfl
theorem kask : askC K1 V0 = 0 := by
  unfold askC
  rw [show codeC K1 = 0 from c012]
  kernel_rfl
theorem kspc : spc K1.vars 1 = 4 := by kernel_rfl
theorem kpair : pairV K1 V0 = some 2 := by
  unfold pairV
  have hn : nSec K1 = 4 := by unfold nSec; rw [kspc]; rfl
  rw [hn]
  have h0 : obsN K1 V0 0 = ⟨[0], 0⟩ := o012_0
  have h1 : obsN K1 V0 1 = ⟨[0], 0⟩ := o012_1
  have h2 : obsN K1 V0 2 = ⟨[1], 0⟩ := o012_2
  refine fst_some (by decide) (by rw [h0, h2]; decide) fun j hj => ?_
  have : j = 0 ∨ j = 1 := by omega
  rcases this with rfl | rfl
  · rfl
  · rw [h0, h1]
theorem klst : lstC K1 V0 0 2 = 0 := by
  unfold lstC
  rw [kask, kspc, show apB K1 V0 0 2 K1.body = true from a012]
  rfl
theorem kred : (redF K1 V0 0 2).2 = [0, 2] := by
  unfold redF
  have hs : szL K1.body = 3 := by kernel_rfl
  rw [hs, show K1.body = [e0, e1, e2] from rfl]
  have w1 : woL [e0, e1, e2] ((2 : Nat) : Int) = [e0, e1] := by kernel_rfl
  have w2 : woL [e0, e1, e2] ((1 : Nat) : Int) = [e0, e2] := by kernel_rfl
  have w3 : woL [e0, e2] ((0 : Nat) : Int) = [e2] := by kernel_rfl
  have w4 : woL [e0, e2] ((1 : Nat) : Int) = [e0] := by kernel_rfl
  have z1 : szO (fndL [e0, e1, e2] ((1 : Nat) : Int)) = 1 := by kernel_rfl
  have p1 : psF (apB K1 V0 0 2) 3 [e0, e1, e2] (idxs 3) false = ([e0, e2], [0, 2], true) := by
    unfold psF
    rw [w1, a01, if_neg (by decide)]
    unfold psF
    rw [w2, a02, if_pos rfl, z1]
    unfold psF
    rw [w3, a2', if_neg (by decide)]
    unfold psF
    rfl
  have p2 : psF (apB K1 V0 0 2) 2 [e0, e2] [0, 2] false = ([e0, e2], [0, 2], false) := by
    unfold psF
    rw [w4, a0', if_neg (by decide)]
    unfold psF
    rw [w3, a2', if_neg (by decide)]
    unfold psF
    rfl
  unfold rdF
  rw [show (idxs 3).length = 3 from rfl, p1]
  simp only [if_true]
  unfold rdF
  rw [show ([0, 2] : List Int).length = 2 from rfl, p2]
  rfl
end Go.Proofs.YteekbhkjfaegiaaGreat

namespace Go.Proofs.YteekbhkjfaegiaaGreat
open Go Go.Hl

theorem ref_con (n : Int) (d : Nat) : Con Tryz.prog 21 false [li n] (.v (aT (.mk 24 n []))) none d := by
  refine con_of_HT Tryz.func21 rfl (by kernel_rfl) (Nat.le_of_ble_eq_true rfl) ?_
  simp only [Tryz.f21]
  simp only [aT, Tm.enc, List.map_cons, List.map_nil, encTs]
  refine HT_seq <| HT_runA ?_
  refine HT_seq <| HT_runA ?_
  refine HT_le (le_box 2 [.c (iC 24), .c (iC n), .c (.sl 3 [])] rfl (by (repeat' (first | exact LWk.nil | apply LWk.cons | exact CWk.refl _ | exact CWk.nil _)))) ?_
  exact HT_ret ⟨.inr rfl, _, le_refl _, ⟨⟨_, by simp; rfl, by simp [resR]⟩, by simp, fun h => by cases h⟩⟩
theorem known_con (d : Nat) : Con Tryz.prog 6 true [] (.v (lb true)) none d := by
  have r0 := ref_con 0
  have r1 := ref_con 1
  have hp := pairP_con K1 V0 (by decide) (by decide) (by decide) (by kernel_rfl) (by decide) ⟨[0], 0⟩ ⟨[1], 0⟩ 2 0 (fun h => absurd kask h) (fun _ => by
    rw [kpair]
    exact ⟨o012_0.symm, o012_2.symm, rfl, rfl⟩)
  have hl := leastP_con K1 V0 (by decide) (by decide) (by decide) (by kernel_rfl) (by decide) 0 2 0 [0, 2] klst (by rw [if_pos rfl]; exact kred)
  have he := eqSl_con [0, 2] [0, 2] (by decide) (by decide)
  have hq1 : room 3 144 := room_of (by decide) (by decide)
  have hq3 : room 2 48 := room_of (by decide) (by decide)
  have hq5 : room 2 8 := room_of (by decide) (by decide)
  have hq6 : room 2 40 := room_of (by decide) (by decide)
  simp only [K1, V0, eVs, e0, e1, e2, aF, aW, Fl.enc, Vr.enc, encVs, encHs, encIs, encSs, encTs, St.enc, Tm.enc, aO, aT, List.map_cons, List.map_nil, List.cons_append, List.nil_append] at r0 r1 hp hl he
  refine con_of_HT Tryz.func6 rfl (by kernel_rfl) (Nat.le_of_ble_eq_true rfl) ?_
  simp only [Tryz.f6]
  refine HT_seq <| HT_runA ?_
  refine HT_seq <| HT_runA ?_
  refine HT_seq <| (HT_runsF ?_)
  refine RunsF.cutE 6 [⟨false, .v (.agg [.c (iC 24), .c (iC 0), .c (.sl 3 [])]), none⟩] (by simp [*, allTyped, fillC, placeOf]; first | exact ⟨rfl, Iff.rfl⟩ | exact ⟨rfl, trivial⟩ | rfl) ?_ (le_agg 15 [.c (iC 0), .c (iC 2), .c (.sl 3 [])] rfl (by (repeat' (first | exact LWk.nil | apply LWk.cons | exact CWk.refl _ | exact CWk.nil _)))) ?_
  · first | exact r0 _ | exact trivial | simpa using r0 _
  refine RunsF.cutE 1 [] (by simp [*, allTyped, fillC, placeOf]; rfl) trivial (le_frz 16 rfl) ?_
  refine RunsF.cutE 3 [] (by simp [*, allTyped, fillC, placeOf]; rfl) trivial (le_trans (le_agg 18 [.c (iC 0), .c (iC 0), .c (iC 1), .c (iC 0), .c (iC 11), .c (iC 0), .c (.sl 3 [[iC 24, iC 0, .sl 3 []], [iC 0, iC 2, .sl 3 []]]), .c (.sl 10 []), .c (.sl 10 []), .c (.sl 1 [])] rfl (by (repeat' (first | exact LWk.nil | apply LWk.cons | exact CWk.refl _ | exact CWk.nil _)))) (le_agg 19 [.c (iC 2), .c (iC 0), .c (iC 0), .c (iC 0), .c (iC 0), .c (iC 0), .c (.sl 3 []), .c (.sl 10 []), .c (.sl 10 []), .c (.sl 1 [])] rfl (by (repeat' (first | exact LWk.nil | apply LWk.cons | exact CWk.refl _ | exact CWk.nil _))))) ?_
  refine RunsF.cutE 3 [⟨false, .v (.agg [.c (iC 24), .c (iC 1), .c (.sl 3 [])]), none⟩] (by simp [*, allTyped, fillC, placeOf]; first | exact ⟨rfl, Iff.rfl⟩ | exact ⟨rfl, trivial⟩ | rfl) ?_ (le_agg 22 [.c (iC 1), .c (iC 0), .c (iC 0), .c (iC 0), .c (iC 24), .c (iC 1), .c (.sl 3 []), .c (.sl 10 []), .c (.sl 10 []), .c (.sl 1 [])] rfl (by (repeat' (first | exact LWk.nil | apply LWk.cons | exact CWk.refl _ | exact CWk.nil _)))) ?_
  · first | exact r1 _ | exact trivial | simpa using r1 _
  refine RunsF.cutE 1 [] (by simp [*, allTyped, fillC, placeOf]; rfl) trivial (le_trans (le_frz 12 rfl) (le_frz 23 rfl)) ?_
  refine RunsF.cutE 1 [] (by simp [*, allTyped, fillC, placeOf]; rfl) trivial (le_agg 24 [.c (.sl 5 [[sC ⟨#[120]⟩, iC 1, iC 0, iC 3, iC 0], [sC ⟨#[121]⟩, iC 0, iC 0, iC 3, iC 0]]), .c (.sl 6 []), .c (.sl 10 [[iC 0, iC 0, iC 1, iC 0, iC 11, iC 0, .sl 3 [[iC 24, iC 0, .sl 3 []], [iC 0, iC 2, .sl 3 []]], .sl 10 [], .sl 10 [], .sl 1 []], [iC 2, iC 0, iC 0, iC 0, iC 0, iC 0, .sl 3 [], .sl 10 [], .sl 10 [], .sl 1 []], [iC 1, iC 0, iC 0, iC 0, iC 24, iC 1, .sl 3 [], .sl 10 [], .sl 10 [], .sl 1 []]])] rfl (by (repeat' (first | exact LWk.nil | apply LWk.cons | exact CWk.refl _ | exact CWk.nil _)))) ?_
  refine RunsF.doneE [] (by simp [*, allTyped, fillC, placeOf]; rfl) trivial ?_
  refine HT_seq <| (HT_runsF ?_)
  refine RunsF.cutE 2 [] (by simp [*, allTyped, fillC, placeOf]; rfl) trivial (le_agg 27 [.c (.sl 1 []), .c (bC false)] rfl (by (repeat' (first | exact LWk.nil | apply LWk.cons | exact CWk.refl _ | exact CWk.nil _)))) ?_
  refine RunsF.doneE [⟨false, .tup [li 0, li 2, .agg [.c (.sl 1 [[iC 0]]), .c (iC 0)], .agg [.c (.sl 1 [[iC 1]]), .c (iC 0)], li 0], none⟩] (by simp [*, allTyped, fillC, placeOf]; first | exact ⟨rfl, Iff.rfl⟩ | exact ⟨rfl, trivial⟩ | rfl) ?_ ?_
  · first | exact hp _ | exact trivial | simpa using hp _
  refine HT_seq <| (HT_runsF ?_)
  refine RunsF.cutE 2 [] (by simp [*, allTyped, fillC, placeOf]; rfl) trivial (le_agg 36 [.c (.sl 1 []), .c (bC false)] rfl (by (repeat' (first | exact LWk.nil | apply LWk.cons | exact CWk.refl _ | exact CWk.nil _)))) ?_
  refine RunsF.doneE [⟨false, .tup [.one (.c (.sl 1 [[iC 0], [iC 2]])), li 0], none⟩] (by simp [*, allTyped, fillC, placeOf]; first | exact ⟨rfl, Iff.rfl⟩ | exact ⟨rfl, trivial⟩ | rfl) ?_ ?_
  · first | exact hl _ | exact trivial | simpa using hl _
  refine HT_seq <| (HT_runc [⟨true, .v (lb true), none⟩] (by simp [*]; first | exact ⟨rfl, Iff.rfl⟩ | exact ⟨rfl, trivial⟩ | rfl) ?_ ?_)
  · first | exact he _ | exact trivial | simpa [*] using he _
  exact HT_retA fun h => ⟨.inr rfl, h⟩
end Go.Proofs.YteekbhkjfaegiaaGreat

namespace Go.Proofs.YteekbhkjfaegiaaGreat
open Go Go.Hl

theorem pair_law (f : Fl) (v : Vw) (d : Nat) : Con Tryz.prog 3 true [aF f, aW v] (.v (lb true)) none d := by
  have ck := known_con
  have csm := small_con f
  obtain ⟨SM, hSM⟩ : ∃ x, smB f = x := ⟨_, rfl⟩
  have hin : SM = true → f.vars.length ≤ 1000000 ∧ f.hats.length ≤ 1000000 ∧ nodesS f.body + nodesH f.hats ≤ 1000000 ∧ bndL f.body = true := fun h => smB_in (hSM.trans h)
  rw [hSM] at csm
  obtain ⟨A, hA⟩ : ∃ x, askC f v = x := ⟨_, rfl⟩
  obtain ⟨pr, hpr⟩ : ∃ x, pairV f v = x := ⟨_, rfl⟩
  obtain ⟨o, ho⟩ : ∃ x, obsN f v = x := ⟨_, rfl⟩
  have hlt : A = 0 → ∀ k, pr = some k → k < nSec f := by
    intro _ k hk
    rw [← hpr] at hk
    unfold pairV fstN at hk
    have := List.mem_of_find?_eq_some hk
    simpa using this
  obtain ⟨x, y, b, e, hcase⟩ : ∃ (x y : Obs) (b : Nat) (e : Int), (e ≠ 0 ∧ x = o0 ∧ y = o0 ∧ b = 0 ∧ (A ≠ 0 → e = A) ∧ (A = 0 → pr = none ∧ e = 11)) ∨ (e = 0 ∧ A = 0 ∧ pr = some b ∧ x = o 0 ∧ y = o b) := by
    by_cases hA0 : A = 0
    · cases pr with
      | none => exact ⟨o0, o0, 0, 11, .inl ⟨by decide, rfl, rfl, rfl, fun h => absurd hA0 h, fun _ => ⟨rfl, rfl⟩⟩⟩
      | some k => exact ⟨o 0, o k, k, 0, .inr ⟨rfl, hA0, rfl, rfl, rfl⟩⟩
    · exact ⟨o0, o0, 0, A, .inl ⟨hA0, rfl, rfl, rfl, fun _ => rfl, fun h => absurd h hA0⟩⟩
  have hgd := fun (h : SM = true) (h0 : A = 0) => (ask_gd (v := v) (hin h).1 (hin h).2.1 (hin h).2.2.1 (hin h).2.2.2 (hA.trans h0)).1
  have cpr := fun (h : SM = true) (h0 : A = 0) => pairR_con f v (hgd h h0)
  have cse := fun (h : SM = true) (h0 : A = 0) (k : Nat) (hk : k < nSec f) => seen_con f v (k : Int) (hgd h h0) (by omega) (by have := (nSec_pos (hgd h h0).vc).2.1; omega)
  have hns := fun (h : SM = true) (h0 : A = 0) => (nSec_pos (hgd h h0).vc).1
  have csa := fun (h : SM = true) (k : Nat) => same_con (obsN f v k) (obsN f v k) (obs_outs (hin h).2.2.2) (obs_outs (hin h).2.2.2)
  have hob : ∀ k : Nat, obsF f v (k : Int) = obsN f v k := fun k => rfl
  have cas := fun (h : SM = true) (hp : v.pub.length ≤ 1000000) => asked_con f v (hin h).1 (hin h).2.1 (hin h).2.2.1 (hin h).2.2.2 hp
  have cpp := fun (h : SM = true) (hp : v.pub.length ≤ 1000000) => pairP_con f v (hin h).1 (hin h).2.1 (hin h).2.2.1 (hin h).2.2.2 hp x y (b : Int) e (fun hn => by
    rcases hcase with ⟨h1, h2, h3, h4, h5, h6⟩ | ⟨h1, h2, h3⟩
    · exact ⟨h2, h3, by omega, (h5 (hA ▸ hn)).trans hA.symm⟩
    · exact absurd (hA.trans h2) hn) (fun h0 => by
    rcases hcase with ⟨h1, h2, h3, h4, h5, h6⟩ | ⟨h1, h2, h3, h4, h5⟩
    · obtain ⟨g1, g2⟩ := h6 (hA.symm.trans h0)
      rw [hpr, g1]
      exact ⟨h2, h3, by omega, g2⟩
    · rw [hpr, h3, ho]
      exact ⟨h4, h5, rfl, h1⟩)
  rw [hpr] at cpr
  rw [hA] at cas
  simp only [hob, ho, decide_true] at cse csa
  obtain ⟨n, hn⟩ : ∃ x, nSec f = x := ⟨_, rfl⟩
  simp only [hn] at cse hlt hns
  clear hSM hA hpr ho hgd hin hob hn
  obtain ⟨vars, hats, body⟩ := f
  obtain ⟨pub, tm⟩ := v
  obtain ⟨xo, xt⟩ := x
  obtain ⟨yo, yt⟩ := y
  simp only at cas cpp
  refine con_of_HT Tryz.func3 rfl (by kernel_rfl) (Nat.le_of_ble_eq_true rfl) ?_
  simp only [Tryz.f3]
  simp only [aF, Fl.enc, aW, aO, List.map_cons, List.map_nil] at csm cpr cse csa cas cpp ⊢
  refine HT_seq <| HT_runA ?_
  refine HT_seq <| HT_seq <| (HT_runc [⟨true, .v (lb true), none⟩] (by simp [*]; first | exact ⟨rfl, Iff.rfl⟩ | exact ⟨rfl, trivial⟩ | rfl) ?_ ?_)
  · first | exact ck _ | exact trivial | simpa [*] using ck _
  refine (HT_cond rfl (fun h2 => ?_) (fun h2 => HT_skip ?_))
  · exact Bool.noConfusion h2
  · try simp only [BN] at h2
    refine HT_seq <| HT_seq <| (HT_runc [⟨true, .v (lb SM), none⟩] (by simp [*]; first | exact ⟨rfl, Iff.rfl⟩ | exact ⟨rfl, trivial⟩ | rfl) ?_ ?_)
    · first | exact csm _ | exact trivial | simpa [*] using csm _
    refine (HT_cond rfl (fun h6 => ?_) (fun h6 => HT_skip ?_))
    · try simp only [BN] at h6
      refine HT_seq <| HT_runA ?_
      exact HT_retA fun h => ⟨.inr rfl, h⟩
    · try simp only [BN] at h6
      have h6' : SM = true ∧ pub.length ≤ 10 := by
        cases SM with
        | false => simp at h6
        | true =>
          have h7 : (pub.length : Int) ≤ 10 := by simpa using h6
          exact ⟨rfl, by omega⟩
      obtain ⟨hS, hpl⟩ := h6'
      have cas := cas hS (by omega)
      have cpp := cpp hS (by omega)
      have cpr := cpr hS
      have cse := cse hS
      have csa := csa hS
      have hns := hns hS
      clear csm h6 ck
      refine HT_seq <| (HT_runc [⟨false, .tup [li 0, li (b : Int), .agg [.c (.sl 1 (encIs xo)), .c (iC xt)], .agg [.c (.sl 1 (encIs yo)), .c (iC yt)], li e], none⟩] (by simp [*]; first | exact ⟨rfl, Iff.rfl⟩ | exact ⟨rfl, trivial⟩ | rfl) ?_ ?_)
      · first | exact cpp _ | exact trivial | simpa [*] using cpp _
      refine HT_seq <| (HT_runc [⟨true, .v (li A), none⟩] (by simp [*]; first | exact ⟨rfl, Iff.rfl⟩ | exact ⟨rfl, trivial⟩ | rfl) ?_ ?_)
      · first | exact cas _ | exact trivial | simpa [*] using cas _
      refine HT_seq <| HT_runA ?_
      refine (HT_cutU [2, 3, 5, 6, 7, 8, 9] (fun (z : Unit) => [(10, .v (li e)), (11, .v (li 0)), (12, .v (li (b : Int)))]) (fun (z : Unit) => [(2, .box [.c (.sl 5 (encVs vars)), .c (.sl 6 (encHs hats)), .c (.sl 10 (encSs body))]), (3, .box [.c (.sl 1 (encIs pub)), .c (bC tm)]), (7, .box [.c (.sl 1 (encIs xo)), .c (iC xt)]), (8, .box [.c (.sl 1 (encIs yo)), .c (iC yt)])]) (fun (z : Unit) => True) ?_ ?_)
      ·
        refine HT_seq <| HT_runA ?_
        refine (HT_cond rfl (fun h14 => ?_) (fun h14 => HT_skip ?_))
        · try simp only [BN] at h14
          have hA0 : A = 0 := by simpa using h14
          have cpr := cpr hA0
          clear h14
          refine HT_seq <| (HT_runc [⟨true, .tup [li 0, li ((pr.getD 0 : Nat) : Int), lb pr.isSome], none⟩] (by simp [*]; first | exact ⟨rfl, Iff.rfl⟩ | exact ⟨rfl, trivial⟩ | rfl) ?_ ?_)
          · first | exact cpr _ | exact trivial | simpa [*] using cpr _
          refine HT_seq <| HT_runA ?_
          refine (HT_cond rfl (fun h17 => ?_) (fun h17 => HT_skip ?_))
          · try simp only [BN] at h17
            have hcs : e = 11 ∧ b = 0 ∧ pr = none := by
              rcases hcase with ⟨h1, h2, h3, h4, h5, h6⟩ | ⟨h1, h2, h3, h4, h5⟩
              · obtain ⟨g1, g2⟩ := h6 hA0
                exact ⟨g2, h4, g1⟩
              · rw [h3] at h17; simp at h17
            obtain ⟨rfl, rfl, rfl⟩ := hcs
            clear hcase h17 cpr cse csa
            refine HT_runA ?_
            exact ⟨(), trivial, le_mk (fun n => n) [] rfl (by simp [upS, keepS, *]) (by simp [*, upS]) (by simp [upS])⟩
          · try simp only [BN] at h17
            have hcs : e = 0 ∧ pr = some b ∧ A = 0 := by
              rcases hcase with ⟨h1, h2, h3, h4, h5, h6⟩ | ⟨h1, h2, h3, h4, h5⟩
              · obtain ⟨g1, g2⟩ := h6 hA0
                rw [g1] at h17; simp at h17
              · exact ⟨h1, h3, h2⟩
            obtain ⟨rfl, rfl, rfl⟩ := hcs
            clear hcase h17 cpr cse csa
            exact ⟨(), trivial, le_mk (fun n => n) [] rfl (by simp [upS, keepS, *]) (by simp [*, upS]) (by simp [upS])⟩
        · try simp only [BN] at h14
          have hA0 : ¬ A = 0 := by simpa using h14
          have hcs : e = A ∧ b = 0 := by
            rcases hcase with ⟨h1, h2, h3, h4, h5, h6⟩ | ⟨h1, h2, h3, h4, h5⟩
            · exact ⟨h5 hA0, h4⟩
            · exact absurd h2 hA0
          obtain ⟨rfl, rfl⟩ := hcs
          clear hcase h14 cpr cse csa
          exact ⟨(), trivial, le_mk (fun n => n) [] rfl (by simp [upS, keepS, *]) (by simp [*, upS]) (by simp [upS])⟩
      rintro ⟨⟩ hz
      simp only [upS, keepS, insS]
      try simp only [keepS, KN, Nat.reduceBEq, if_true, if_false, ins, Nat.reduceLT]
      refine HT_seq <| HT_seq <| HT_runA ?_
      refine (HT_cond rfl (fun h23 => ?_) (fun h23 => HT_skip ?_))
      · try simp only [BN] at h23
        have hcs : (⟨xo, xt⟩ : Obs) = o0 ∧ (⟨yo, yt⟩ : Obs) = o0 ∧ b = 0 := by
          rcases hcase with ⟨h1, h2, h3, h4, h5, h6⟩ | ⟨h1, h2, h3, h4, h5⟩
          · exact ⟨h2, h3, h4⟩
          · exact absurd h1 h23
        obtain ⟨g1, g2, rfl⟩ := hcs
        cases g1
        cases g2
        clear hcase cpr cse csa cpp cas
        refine HT_seq <| HT_runA ?_
        exact HT_retA fun h => ⟨.inr rfl, h⟩
      · try simp only [BN] at h23
        have hcs : e = 0 ∧ A = 0 ∧ pr = some b ∧ (⟨xo, xt⟩ : Obs) = o 0 ∧ (⟨yo, yt⟩ : Obs) = o b := by
          rcases hcase with ⟨h1, h2, h3, h4, h5, h6⟩ | h
          · exact absurd (by simpa using h23) h1
          · exact h
        obtain ⟨rfl, hA0, hpb, g1, g2⟩ := hcs
        have hns := hns hA0
        have s0 := cse hA0 0 (by omega)
        have sb := cse hA0 b (hlt hA0 b hpb)
        have m0 := csa 0
        have mb := csa b
        rw [← g1] at s0 m0
        rw [← g2] at sb mb
        simp only [Int.ofNat_zero] at s0
        clear hcase cpr cse csa cpp cas h23 g1 g2 hlt
        refine HT_seq <| (HT_drunc [⟨false, .v (.agg [.c (.sl 1 (encIs xo)), .c (iC xt)]), none⟩, ⟨true, .v (lb true), none⟩, ⟨false, .v (.agg [.c (.sl 1 (encIs yo)), .c (iC yt)]), none⟩, ⟨true, .v (lb true), none⟩] (by kernel_rfl) (by kernel_rfl) (by rfl) (by simp [*]; first | exact ⟨rfl, Iff.rfl⟩ | exact ⟨rfl, trivial⟩ | rfl) ?_ ?_)
        · first | exact ⟨s0 _, m0 _, sb _, mb _⟩ | exact trivial | (repeat' first | exact trivial | exact s0 _ | exact m0 _ | exact sb _ | exact mb _ | apply And.intro)
        exact HT_retA fun h => ⟨.inr rfl, h⟩
end Go.Proofs.YteekbhkjfaegiaaGreat

namespace Go.Proofs.YteekbhkjfaegiaaGreat
open Go Go.Hl Go.RowKit Go.ChangeShapes Go.Proofs.YteekbhkjfaegiaaGreat

/-! ## the argument, read as0 a tree -/
theorem tiled : Tiled Tryz.prog := tiled_mk (by kernel_rfl)
theorem own : ownKnob Tryz.prog.godebug = none := by kernel_rfl
theorem laidOut : laidOutB Tryz.prog = true := by kernel_rfl
section
variable {P : Program} {k : Nat} {t : TypeId} {ds : List CD}
theorem shape_slK {α : Type} {enc : α → List CD} {e : TypeId} {c : Nat} (hu : P.underlying t = some (.slice e)) (hc : P.cellsOf e = c) (he : ∀ k', k' < k → ∀ r, Shape P k' e r → ∃ x, r = enc x) (h : Shape P k t ds) : ∃ xs : List α, ds = [.sl c (xs.map enc)] := by
  cases k with
  | zero => exact h.elim
  | succ k =>
    unfold Shape at h
    rw [hu] at h
    obtain ⟨rows, h1, _, h3⟩ := h
    obtain ⟨xs, hxs⟩ := rows_enc (enc := enc) fun r hr => he k (Nat.lt_succ_self k) r (h3 r hr).2
    subst hxs
    exact ⟨xs, by rw [h1, hc]⟩
theorem shape_structK {fs : Array Field} {l : List (Nat × Nat × TypeId)} {c : Nat} (hu : P.underlying t = some (.struct fs)) (hl : segsF P fs = l) (hc : P.cellsOf t = c) (h : Shape P k t ds) : ds.length = c ∧ ∃ k', k' < k ∧ ∀ x ∈ l, Shape P k' x.2.2 ((ds.drop x.1).take x.2.1) := by
  cases k with
  | zero => exact h.elim
  | succ k =>
    unfold Shape at h
    rw [hu] at h
    have h' : ds.length = P.cellsOf t ∧ ∀ x ∈ segsF P fs, Shape P k x.2.2 ((ds.drop x.1).take x.2.1) := h
    exact ⟨hc ▸ h'.1, k, Nat.lt_succ_self k, fun x hx => h'.2 x (hl ▸ hx)⟩
end
theorem dec_i {k : Nat} {t : TypeId} {ds : List CD} (hu : Tryz.prog.underlying t = some (.int .i64)) (h : Shape Tryz.prog k t ds) : ∃ n : Int, ds = [iC n] := by
  obtain ⟨n, h1, _⟩ := shape_int hu h
  exact ⟨n, h1⟩
theorem dec_s {k : Nat} {ds : List CD} (h : Shape Tryz.prog k 9 ds) : ∃ s : ByteArray, ds = [sC s] := by
  obtain ⟨s, h1, _⟩ := shape_str Tryz.underlying9 h
  exact ⟨s, h1⟩
theorem dec_I {k : Nat} {ds : List CD} (h : Shape Tryz.prog k 27 ds) : ∃ l : List Int, ds = [.sl 1 (encIs l)] :=
  shape_slK (enc := fun x => [iC x]) Tryz.underlying27 (by kernel_rfl : Tryz.prog.cellsOf 3 = 1) (fun _ _ _ hr => dec_i Tryz.underlying3 hr) h
theorem dec_T : ∀ (k : Nat) (ds : List CD), Shape Tryz.prog k 59 ds → ∃ t : Tm, ds = t.enc := by
  intro k
  induction k using Nat.strongRecOn with
  | ind k ih =>
    intro ds h
    obtain ⟨hl, k1, hk1, hx⟩ := shape_structK (l := [(0, 1, 56), (1, 1, 3), (2, 1, 57)]) Tryz.underlying59 (by kernel_rfl) (by kernel_rfl : Tryz.prog.cellsOf 59 = 3) h
    match ds, hl with
    | [a, b, c], _ =>
      obtain ⟨n1, h1⟩ := dec_i Tryz.underlying56 (hx (0, 1, 56) (by simp))
      obtain ⟨n2, h2⟩ := dec_i Tryz.underlying3 (hx (1, 1, 3) (by simp))
      obtain ⟨ks, h3⟩ := shape_slK (enc := Tm.enc) Tryz.underlying57 (by kernel_rfl : Tryz.prog.cellsOf 59 = 3) (fun k' hk' r hr => ih k' (by omega) r hr) (hx (2, 1, 57) (by simp))
      simp only [List.drop, List.take, List.cons.injEq, and_true] at h1 h2 h3
      subst h1 h2 h3
      exact ⟨.mk n1 n2 ks, by simp only [Tm.enc, encTs_map]⟩
theorem dec_S : ∀ (k : Nat) (ds : List CD), Shape Tryz.prog k 65 ds → ∃ s : St, ds = s.enc := by
  intro k
  induction k using Nat.strongRecOn with
  | ind k ih =>
    intro ds h
    obtain ⟨hl, k1, hk1, hx⟩ := shape_structK (l := [(0, 1, 63), (1, 1, 3), (2, 1, 3), (3, 1, 3), (4, 3, 59), (7, 1, 24), (8, 1, 24), (9, 1, 27)]) Tryz.underlying65 (by kernel_rfl) (by kernel_rfl : Tryz.prog.cellsOf 65 = 10) h
    match ds, hl with
    | [a0, a1, a2, a3, a4, a5, a6, a7, a8, a9], _ =>
      obtain ⟨n0, h0⟩ := dec_i Tryz.underlying63 (hx (0, 1, 63) (by simp))
      obtain ⟨n1, h1⟩ := dec_i Tryz.underlying3 (hx (1, 1, 3) (by simp))
      obtain ⟨n2, h2⟩ := dec_i Tryz.underlying3 (hx (2, 1, 3) (by simp))
      obtain ⟨n3, h3⟩ := dec_i Tryz.underlying3 (hx (3, 1, 3) (by simp))
      obtain ⟨t, h4⟩ := dec_T _ _ (hx (4, 3, 59) (by simp))
      obtain ⟨la, h7⟩ := shape_slK (enc := St.enc) Tryz.underlying24 (by kernel_rfl : Tryz.prog.cellsOf 65 = 10) (fun k' hk' r hr => ih k' (by omega) r hr) (hx (7, 1, 24) (by simp))
      obtain ⟨lb', h8⟩ := shape_slK (enc := St.enc) Tryz.underlying24 (by kernel_rfl : Tryz.prog.cellsOf 65 = 10) (fun k' hk' r hr => ih k' (by omega) r hr) (hx (8, 1, 24) (by simp))
      obtain ⟨lc, h9⟩ := dec_I (hx (9, 1, 27) (by simp))
      simp only [List.drop, List.take, List.cons.injEq, and_true] at h0 h1 h2 h3 h4 h7 h8 h9
      subst h0 h1 h2 h3 h7 h8 h9
      refine ⟨.mk n0 n1 n2 n3 t la lb' lc, ?_⟩
      simp only [St.enc, encSs_map, ← h4, List.cons_append, List.nil_append]
theorem dec_V {k : Nat} {ds : List CD} (h : Shape Tryz.prog k 62 ds) : ∃ v : Vr, ds = v.enc := by
  obtain ⟨hl, k1, _, hx⟩ := shape_structK (l := [(0, 1, 9), (1, 1, 48), (2, 1, 3), (3, 1, 3), (4, 1, 3)]) Tryz.underlying62 (by kernel_rfl) (by kernel_rfl : Tryz.prog.cellsOf 62 = 5) h
  match ds, hl with
  | [a0, a1, a2, a3, a4], _ =>
    obtain ⟨n0, h0⟩ := dec_s (hx (0, 1, 9) (by simp))
    obtain ⟨n1, h1⟩ := dec_i Tryz.underlying48 (hx (1, 1, 48) (by simp))
    obtain ⟨n2, h2⟩ := dec_i Tryz.underlying3 (hx (2, 1, 3) (by simp))
    obtain ⟨n3, h3⟩ := dec_i Tryz.underlying3 (hx (3, 1, 3) (by simp))
    obtain ⟨n4, h4⟩ := dec_i Tryz.underlying3 (hx (4, 1, 3) (by simp))
    simp only [List.drop, List.take, List.cons.injEq, and_true] at h0 h1 h2 h3 h4
    subst h0 h1 h2 h3 h4
    exact ⟨⟨n0, n1, n2, n3, n4⟩, rfl⟩
theorem dec_H {k : Nat} {ds : List CD} (h : Shape Tryz.prog k 90 ds) : ∃ v : Ht, ds = v.enc := by
  obtain ⟨hl, k1, _, hx⟩ := shape_structK (l := [(0, 1, 9), (1, 1, 3), (2, 1, 3), (3, 3, 59)]) Tryz.underlying90 (by kernel_rfl) (by kernel_rfl : Tryz.prog.cellsOf 90 = 6) h
  match ds, hl with
  | [a0, a1, a2, a3, a4, a5], _ =>
    obtain ⟨n0, h0⟩ := dec_s (hx (0, 1, 9) (by simp))
    obtain ⟨n1, h1⟩ := dec_i Tryz.underlying3 (hx (1, 1, 3) (by simp))
    obtain ⟨n2, h2⟩ := dec_i Tryz.underlying3 (hx (2, 1, 3) (by simp))
    obtain ⟨t, h3⟩ := dec_T _ _ (hx (3, 3, 59) (by simp))
    simp only [List.drop, List.take, List.cons.injEq, and_true] at h0 h1 h2 h3
    subst h0 h1 h2
    exact ⟨⟨n0, n1, n2, t⟩, by simp only [Ht.enc, ← h3, List.cons_append, List.nil_append]⟩
theorem dec_F {k : Nat} {ds : List CD} (h : Shape Tryz.prog k 26 ds) : ∃ f : Fl, ds = f.enc := by
  obtain ⟨hl, k1, _, hx⟩ := shape_structK (l := [(0, 1, 22), (1, 1, 23), (2, 1, 24)]) Tryz.underlying26 (by kernel_rfl) (by kernel_rfl : Tryz.prog.cellsOf 26 = 3) h
  match ds, hl with
  | [a0, a1, a2], _ =>
    obtain ⟨lv, h0⟩ := shape_slK (enc := Vr.enc) Tryz.underlying22 (by kernel_rfl : Tryz.prog.cellsOf 62 = 5) (fun _ _ _ hr => dec_V hr) (hx (0, 1, 22) (by simp))
    obtain ⟨lh, h1⟩ := shape_slK (enc := Ht.enc) Tryz.underlying23 (by kernel_rfl : Tryz.prog.cellsOf 90 = 6) (fun _ _ _ hr => dec_H hr) (hx (1, 1, 23) (by simp))
    obtain ⟨ls, h2⟩ := shape_slK (enc := St.enc) Tryz.underlying24 (by kernel_rfl : Tryz.prog.cellsOf 65 = 10) (fun k' _ r hr => dec_S k' r hr) (hx (2, 1, 24) (by simp))
    simp only [List.drop, List.take, List.cons.injEq, and_true] at h0 h1 h2
    subst h0 h1 h2
    exact ⟨⟨lv, lh, ls⟩, by simp only [Fl.enc, encVs, encHs, encSs_map]⟩
theorem agg26 : aggT Tryz.prog 26 = true := by unfold aggT; rw [Tryz.underlying26]
theorem agg29 : aggT Tryz.prog 29 = true := by unfold aggT; rw [Tryz.underlying29]
theorem agg43 : aggT Tryz.prog 43 = true := by unfold aggT; rw [Tryz.underlying43]
theorem dec_W {k : Nat} {ds : List CD} (h : Shape Tryz.prog k 29 ds) : ∃ v : Vw, ds = [.sl 1 (encIs v.pub), bC v.timed] := by
  obtain ⟨hl, k1, _, hx⟩ := shape_structK (l := [(0, 1, 27), (1, 1, 4)]) Tryz.underlying29 (by kernel_rfl) (by kernel_rfl : Tryz.prog.cellsOf 29 = 2) h
  match ds, hl with
  | [a0, a1], _ =>
    obtain ⟨l, h0⟩ := dec_I (hx (0, 1, 27) (by simp))
    obtain ⟨b, h1⟩ := shape_bool Tryz.underlying4 (hx (1, 1, 4) (by simp))
    simp only [List.drop, List.take, List.cons.injEq, and_true] at h0 h1
    subst h0 h1
    exact ⟨⟨l, b⟩, rfl⟩
theorem dec_P {k : Nat} {ds : List CD} (h : Shape Tryz.prog k 43 ds) : ∃ a b : Int, ds = [iC a, iC b] := by
  obtain ⟨hl, k1, hx⟩ := shape_array (l := [(0, 1, 3), (1, 1, 3)]) Tryz.underlying43 (by kernel_rfl) (by kernel_rfl : Tryz.prog.cellsOf 43 = 2) h
  match ds, hl with
  | [a0, a1], _ =>
    obtain ⟨n0, h0⟩ := dec_i Tryz.underlying3 (hx (0, 1, 3) (by simp))
    obtain ⟨n1, h1⟩ := dec_i Tryz.underlying3 (hx (1, 1, 3) (by simp))
    simp only [List.drop, List.take, List.cons.injEq, and_true] at h0 h1
    subst h0 h1
    exact ⟨n0, n1, rfl⟩
end Go.Proofs.YteekbhkjfaegiaaGreat
