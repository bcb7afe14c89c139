/- Part 18: contracts of functions of the program and of the reference, and plain facts about what they compute; used by the proof of the claimed statement. Conditions: as each theorem states. -/
import Derived.Test.YteekbhkjfaegiaaGreatT17
set_option linter.unusedSimpArgs false
set_option linter.unusedVariables false
set_option linter.unnecessarySimpa false
set_option maxRecDepth 100000
set_option maxHeartbeats 2000000
namespace Go.Proofs.YteekbhkjfaegiaaGreat
open Go Go.Hl

/-! ## the example -/
def eVs : List Vr := [⟨⟨#[120]⟩, 1, 0, 3, 0⟩, ⟨⟨#[121]⟩, 0, 0, 3, 0⟩]
def e0 : St := .mk 0 0 1 0 (.mk 11 0 [.mk 24 0 [], .mk 0 2 []]) [] [] []
def e1 : St := .mk 2 0 0 0 (.mk 0 0 []) [] [] []
def e2 : St := .mk 1 0 0 0 (.mk 24 1 []) [] [] []
def K1 : Fl := ⟨eVs, [], [e0, e1, e2]⟩
def V0 : Vw := ⟨[], false⟩
theorem c012 : codeC ⟨eVs, [], [e0, e1, e2]⟩ = 0 := by
  simp only [codeC, sizesB, e0, e1, e2, sdL, tdeep, ssC]
  kernel_rfl
theorem c01 : codeC ⟨eVs, [], [e0, e1]⟩ = 0 := by
  simp only [codeC, sizesB, e0, e1, e2, sdL, tdeep, ssC]
  kernel_rfl
theorem c02 : codeC ⟨eVs, [], [e0, e2]⟩ = 0 := by
  simp only [codeC, sizesB, e0, e1, e2, sdL, tdeep, ssC]
  kernel_rfl
theorem c0 : codeC ⟨eVs, [], [e0]⟩ = 0 := by
  simp only [codeC, sizesB, e0, e1, e2, sdL, tdeep, ssC]
  kernel_rfl
theorem c2 : codeC ⟨eVs, [], [e2]⟩ = 0 := by
  simp only [codeC, sizesB, e0, e1, e2, sdL, tdeep, ssC]
  kernel_rfl
theorem ob_of {f : Fl} {r : Int} {o : List Int} (h0 : codeC f = 0) (h1 : ∃ t : List Int × Int, (if (stL ⟨uL (ofK f.vars 1) r, V0.pub, []⟩ f.vars 0 0 0 [] true).2 = 0 then (stepsF f.vars (hvals (stL ⟨uL (ofK f.vars 1) r, V0.pub, []⟩ f.vars 0 0 0 [] true).1 f.hats) f.body ⟨(stL ⟨uL (ofK f.vars 1) r, V0.pub, []⟩ f.vars 0 0 0 [] true).1, [], 0⟩, (0 : Int))
    else (st0, (stL ⟨uL (ofK f.vars 1) r, V0.pub, []⟩ f.vars 0 0 0 [] true).2)) = (⟨t.1, o, t.2⟩, 0)) : obsF f V0 r = ⟨o, 0⟩ := by
  obtain ⟨t, h1⟩ := h1
  have hp : playF f ⟨uL (ofK f.vars 1) r, V0.pub, []⟩ = (⟨t.1, o, t.2⟩, 0) := by
    unfold playF
    rw [if_pos h0]
    exact h1
  unfold obsF rawO runF
  rw [hp]
  rfl
theorem apB_of {f : Fl} {v : Vw} {a b : Int} {bd : List St} {x y : Obs} (h1 : obsF ⟨f.vars, f.hats, bd⟩ v a = x) (h2 : obsF ⟨f.vars, f.hats, bd⟩ v b = y) : apB f v a b bd = !decide (x = y) := by
  unfold apB
  rw [h1, h2]
theorem o012_0 : obsF ⟨eVs, [], [e0, e1, e2]⟩ V0 0 = ⟨[0], 0⟩ := ob_of c012 ⟨([0, 0], 0), by simp only [e0, e1, e2, stepsF]; kernel_rfl⟩
theorem o012_1 : obsF ⟨eVs, [], [e0, e1, e2]⟩ V0 1 = ⟨[0], 0⟩ := ob_of c012 ⟨([1, 0], 0), by simp only [e0, e1, e2, stepsF]; kernel_rfl⟩
theorem o012_2 : obsF ⟨eVs, [], [e0, e1, e2]⟩ V0 2 = ⟨[1], 0⟩ := ob_of c012 ⟨([2, 1], 0), by simp only [e0, e1, e2, stepsF]; kernel_rfl⟩
theorem o01_0 : obsF ⟨eVs, [], [e0, e1]⟩ V0 0 = ⟨[], 0⟩ := ob_of c01 ⟨([0, 0], 0), by simp only [e0, e1, e2, stepsF]; kernel_rfl⟩
theorem o01_2 : obsF ⟨eVs, [], [e0, e1]⟩ V0 2 = ⟨[], 0⟩ := ob_of c01 ⟨([2, 1], 0), by simp only [e0, e1, e2, stepsF]; kernel_rfl⟩
theorem o02_0 : obsF ⟨eVs, [], [e0, e2]⟩ V0 0 = ⟨[0], 0⟩ := ob_of c02 ⟨([0, 0], 0), by simp only [e0, e1, e2, stepsF]; kernel_rfl⟩
theorem o02_2 : obsF ⟨eVs, [], [e0, e2]⟩ V0 2 = ⟨[1], 0⟩ := ob_of c02 ⟨([2, 1], 0), by simp only [e0, e1, e2, stepsF]; kernel_rfl⟩
theorem o0_0 : obsF ⟨eVs, [], [e0]⟩ V0 0 = ⟨[], 0⟩ := ob_of c0 ⟨([0, 0], 0), by simp only [e0, e1, e2, stepsF]; kernel_rfl⟩
theorem o0_2 : obsF ⟨eVs, [], [e0]⟩ V0 2 = ⟨[], 0⟩ := ob_of c0 ⟨([2, 1], 0), by simp only [e0, e1, e2, stepsF]; kernel_rfl⟩
theorem o2_0 : obsF ⟨eVs, [], [e2]⟩ V0 0 = ⟨[0], 0⟩ := ob_of c2 ⟨([0, 0], 0), by simp only [e0, e1, e2, stepsF]; kernel_rfl⟩
theorem o2_2 : obsF ⟨eVs, [], [e2]⟩ V0 2 = ⟨[0], 0⟩ := ob_of c2 ⟨([2, 0], 0), by simp only [e0, e1, e2, stepsF]; kernel_rfl⟩
theorem a012 : apB K1 V0 0 2 [e0, e1, e2] = true := by rw [apB_of (f := K1) o012_0 o012_2]; rfl
theorem a01 : apB K1 V0 0 2 [e0, e1] = false := by rw [apB_of (f := K1) o01_0 o01_2]; rfl
theorem a02 : apB K1 V0 0 2 [e0, e2] = true := by rw [apB_of (f := K1) o02_0 o02_2]; rfl
theorem a0' : apB K1 V0 0 2 [e0] = false := by rw [apB_of (f := K1) o0_0 o0_2]; rfl
theorem a2' : apB K1 V0 0 2 [e2] = false := by rw [apB_of (f := K1) o2_0 o2_2]; rfl
theorem kask : askC K1 V0 = 0 := by
  unfold askC
  rw [show codeC K1 = 0 from c012]
  kernel_rfl
theorem kspc : spc K1.vars 1 = 4 := by kernel_rfl
theorem kpair : pairV K1 V0 = some 2 := by
  unfold pairV
  have hn : nSec K1 = 4 := by unfold nSec; rw [kspc]; rfl
  rw [hn]
  have h0 : obsN K1 V0 0 = ⟨[0], 0⟩ := o012_0
  have h1 : obsN K1 V0 1 = ⟨[0], 0⟩ := o012_1
  have h2 : obsN K1 V0 2 = ⟨[1], 0⟩ := o012_2
  refine fst_some (by decide) (by rw [h0, h2]; decide) fun j hj => ?_
  have : j = 0 ∨ j = 1 := by omega
  rcases this with rfl | rfl
  · rfl
  · rw [h0, h1]
theorem klst : lstC K1 V0 0 2 = 0 := by
  unfold lstC
  rw [kask, kspc, show apB K1 V0 0 2 K1.body = true from a012]
  rfl
theorem kred : (redF K1 V0 0 2).2 = [0, 2] := by
  unfold redF
  have hs : szL K1.body = 3 := by kernel_rfl
  rw [hs, show K1.body = [e0, e1, e2] from rfl]
  have w1 : woL [e0, e1, e2] ((2 : Nat) : Int) = [e0, e1] := by kernel_rfl
  have w2 : woL [e0, e1, e2] ((1 : Nat) : Int) = [e0, e2] := by kernel_rfl
  have w3 : woL [e0, e2] ((0 : Nat) : Int) = [e2] := by kernel_rfl
  have w4 : woL [e0, e2] ((1 : Nat) : Int) = [e0] := by kernel_rfl
  have z1 : szO (fndL [e0, e1, e2] ((1 : Nat) : Int)) = 1 := by kernel_rfl
  have p1 : psF (apB K1 V0 0 2) 3 [e0, e1, e2] (idxs 3) false = ([e0, e2], [0, 2], true) := by
    unfold psF
    rw [w1, a01, if_neg (by decide)]
    unfold psF
    rw [w2, a02, if_pos rfl, z1]
    unfold psF
    rw [w3, a2', if_neg (by decide)]
    unfold psF
    rfl
  have p2 : psF (apB K1 V0 0 2) 2 [e0, e2] [0, 2] false = ([e0, e2], [0, 2], false) := by
    unfold psF
    rw [w4, a0', if_neg (by decide)]
    unfold psF
    rw [w3, a2', if_neg (by decide)]
    unfold psF
    rfl
  unfold rdF
  rw [show (idxs 3).length = 3 from rfl, p1]
  simp only [if_true]
  unfold rdF
  rw [show ([0, 2] : List Int).length = 2 from rfl, p2]
  rfl
end Go.Proofs.YteekbhkjfaegiaaGreat

namespace Go.Proofs.YteekbhkjfaegiaaGreat
open Go Go.Hl

theorem ref_con (n : Int) (d : Nat) : Con Tryz.prog 21 false [li n] (.v (aT (.mk 24 n []))) none d := by
  refine con_of_HT Tryz.func21 rfl (by kernel_rfl) (Nat.le_of_ble_eq_true rfl) ?_
  simp only [Tryz.f21]
  simp only [aT, Tm.enc, List.map_cons, List.map_nil, encTs]
  refine HT_seq <| HT_runA ?_
  refine HT_seq <| HT_runA ?_
  refine HT_le (le_box 2 [.c (iC 24), .c (iC n), .c (.sl 3 [])] rfl (by (repeat' (first | exact LWk.nil | apply LWk.cons | exact CWk.refl _ | exact CWk.nil _)))) ?_
  exact HT_ret ⟨.inr rfl, _, le_refl _, ⟨⟨_, by simp; rfl, by simp [resR]⟩, by simp, fun h => by cases h⟩⟩
theorem known_con (d : Nat) : Con Tryz.prog 6 true [] (.v (lb true)) none d := by
  have r0 := ref_con 0
  have r1 := ref_con 1
  have hp := pairP_con K1 V0 (by decide) (by decide) (by decide) (by kernel_rfl) ⟨[0], 0⟩ ⟨[1], 0⟩ 2 0 (fun h => absurd kask h) (fun _ => by
    rw [kpair]
    exact ⟨o012_0.symm, o012_2.symm, rfl, rfl⟩)
  have hl := leastP_con K1 V0 (by decide) (by decide) (by decide) (by kernel_rfl) 0 2 0 [0, 2] klst (by rw [if_pos rfl]; exact kred)
  have he := eqSl_con [0, 2] [0, 2] (by decide) (by decide)
  have hq1 : room 3 144 := room_of (by decide) (by decide)
  have hq3 : room 2 48 := room_of (by decide) (by decide)
  have hq5 : room 2 8 := room_of (by decide) (by decide)
  have hq6 : room 2 40 := room_of (by decide) (by decide)
  simp only [K1, V0, eVs, e0, e1, e2, aF, aW, Fl.enc, Vr.enc, encVs, encHs, encIs, encSs, encTs, St.enc, Tm.enc, aO, aT, List.map_cons, List.map_nil, List.cons_append, List.nil_append] at r0 r1 hp hl he
  refine con_of_HT Tryz.func6 rfl (by kernel_rfl) (Nat.le_of_ble_eq_true rfl) ?_
  simp only [Tryz.f6]
  refine HT_seq <| HT_runA ?_
  refine HT_seq <| HT_runA ?_
  refine HT_seq <| (HT_runsF ?_)
  refine RunsF.cutE 6 [⟨false, .v (.agg [.c (iC 24), .c (iC 0), .c (.sl 3 [])]), none⟩] (by simp [*, allTyped, fillC, placeOf]; first | exact ⟨rfl, Iff.rfl⟩ | exact ⟨rfl, trivial⟩ | rfl) ?_ (le_agg 15 [.c (iC 0), .c (iC 2), .c (.sl 3 [])] rfl (by (repeat' (first | exact LWk.nil | apply LWk.cons | exact CWk.refl _ | exact CWk.nil _)))) ?_
  · first | exact r0 _ | exact trivial | simpa using r0 _
  refine RunsF.cutE 1 [] (by simp [*, allTyped, fillC, placeOf]; rfl) trivial (le_frz 16 rfl) ?_
  refine RunsF.cutE 3 [] (by simp [*, allTyped, fillC, placeOf]; rfl) trivial (le_trans (le_agg 18 [.c (iC 0), .c (iC 0), .c (iC 1), .c (iC 0), .c (iC 11), .c (iC 0), .c (.sl 3 [[iC 24, iC 0, .sl 3 []], [iC 0, iC 2, .sl 3 []]]), .c (.sl 10 []), .c (.sl 10 []), .c (.sl 1 [])] rfl (by (repeat' (first | exact LWk.nil | apply LWk.cons | exact CWk.refl _ | exact CWk.nil _)))) (le_agg 19 [.c (iC 2), .c (iC 0), .c (iC 0), .c (iC 0), .c (iC 0), .c (iC 0), .c (.sl 3 []), .c (.sl 10 []), .c (.sl 10 []), .c (.sl 1 [])] rfl (by (repeat' (first | exact LWk.nil | apply LWk.cons | exact CWk.refl _ | exact CWk.nil _))))) ?_
  refine RunsF.cutE 3 [⟨false, .v (.agg [.c (iC 24), .c (iC 1), .c (.sl 3 [])]), none⟩] (by simp [*, allTyped, fillC, placeOf]; first | exact ⟨rfl, Iff.rfl⟩ | exact ⟨rfl, trivial⟩ | rfl) ?_ (le_agg 22 [.c (iC 1), .c (iC 0), .c (iC 0), .c (iC 0), .c (iC 24), .c (iC 1), .c (.sl 3 []), .c (.sl 10 []), .c (.sl 10 []), .c (.sl 1 [])] rfl (by (repeat' (first | exact LWk.nil | apply LWk.cons | exact CWk.refl _ | exact CWk.nil _)))) ?_
  · first | exact r1 _ | exact trivial | simpa using r1 _
  refine RunsF.cutE 1 [] (by simp [*, allTyped, fillC, placeOf]; rfl) trivial (le_trans (le_frz 12 rfl) (le_frz 23 rfl)) ?_
  refine RunsF.cutE 1 [] (by simp [*, allTyped, fillC, placeOf]; rfl) trivial (le_agg 24 [.c (.sl 5 [[sC ⟨#[120]⟩, iC 1, iC 0, iC 3, iC 0], [sC ⟨#[121]⟩, iC 0, iC 0, iC 3, iC 0]]), .c (.sl 6 []), .c (.sl 10 [[iC 0, iC 0, iC 1, iC 0, iC 11, iC 0, .sl 3 [[iC 24, iC 0, .sl 3 []], [iC 0, iC 2, .sl 3 []]], .sl 10 [], .sl 10 [], .sl 1 []], [iC 2, iC 0, iC 0, iC 0, iC 0, iC 0, .sl 3 [], .sl 10 [], .sl 10 [], .sl 1 []], [iC 1, iC 0, iC 0, iC 0, iC 24, iC 1, .sl 3 [], .sl 10 [], .sl 10 [], .sl 1 []]])] rfl (by (repeat' (first | exact LWk.nil | apply LWk.cons | exact CWk.refl _ | exact CWk.nil _)))) ?_
  refine RunsF.doneE [] (by simp [*, allTyped, fillC, placeOf]; rfl) trivial ?_
  refine HT_seq <| (HT_runsF ?_)
  refine RunsF.cutE 2 [] (by simp [*, allTyped, fillC, placeOf]; rfl) trivial (le_agg 27 [.c (.sl 1 []), .c (bC false)] rfl (by (repeat' (first | exact LWk.nil | apply LWk.cons | exact CWk.refl _ | exact CWk.nil _)))) ?_
  refine RunsF.doneE [⟨false, .tup [li 0, li 2, .agg [.c (.sl 1 [[iC 0]]), .c (iC 0)], .agg [.c (.sl 1 [[iC 1]]), .c (iC 0)], li 0], none⟩] (by simp [*, allTyped, fillC, placeOf]; first | exact ⟨rfl, Iff.rfl⟩ | exact ⟨rfl, trivial⟩ | rfl) ?_ ?_
  · first | exact hp _ | exact trivial | simpa using hp _
  refine HT_seq <| (HT_runsF ?_)
  refine RunsF.cutE 2 [] (by simp [*, allTyped, fillC, placeOf]; rfl) trivial (le_agg 36 [.c (.sl 1 []), .c (bC false)] rfl (by (repeat' (first | exact LWk.nil | apply LWk.cons | exact CWk.refl _ | exact CWk.nil _)))) ?_
  refine RunsF.doneE [⟨false, .tup [.one (.c (.sl 1 [[iC 0], [iC 2]])), li 0], none⟩] (by simp [*, allTyped, fillC, placeOf]; first | exact ⟨rfl, Iff.rfl⟩ | exact ⟨rfl, trivial⟩ | rfl) ?_ ?_
  · first | exact hl _ | exact trivial | simpa using hl _
  refine HT_seq <| (HT_runc [⟨true, .v (lb true), none⟩] (by simp [*]; first | exact ⟨rfl, Iff.rfl⟩ | exact ⟨rfl, trivial⟩ | rfl) ?_ ?_)
  · first | exact he _ | exact trivial | simpa [*] using he _
  exact HT_retA fun h => ⟨.inr rfl, h⟩
end Go.Proofs.YteekbhkjfaegiaaGreat

namespace Go.Proofs.YteekbhkjfaegiaaGreat
open Go Go.Hl

/-! ## a program cut to some of its steps -/
mutual
def prS (keep : Int → Bool) : St → Int → St
  | .mk d c v n t a b bs, o => .mk d c v n t (prL keep a (o + 1)) (prL keep b (o + 1 + szL a)) bs
def prL (keep : Int → Bool) : List St → Int → List St
  | [], _ => []
  | s :: l, o => (if keep o = true then [prS keep s o] else []) ++ prL keep l (o + szS s)
end
mutual
def idS (keep : Int → Bool) : St → Int → List Int
  | .mk _ _ _ _ _ a b _, o => o :: (idL keep a (o + 1) ++ idL keep b (o + 1 + szL a))
def idL (keep : Int → Bool) : List St → Int → List Int
  | [], _ => []
  | s :: l, o => (if keep o = true then idS keep s o else []) ++ idL keep l (o + szS s)
end
section
variable {keep k1 k2 : Int → Bool}
mutual
theorem idS_mem : ∀ (s : St) (o m : Int), m ∈ idS keep s o → o ≤ m ∧ m < o + szS s
  | .mk d c v n t a b bs, o, m, h => by
    simp only [idS, List.mem_cons, List.mem_append] at h
    simp only [szS]
    rcases h with h | h | h
    · omega
    · have := idL_mem a _ m h; omega
    · have := idL_mem b _ m h; omega
theorem idL_mem : ∀ (l : List St) (o m : Int), m ∈ idL keep l o → o ≤ m ∧ m < o + szL l
  | [], o, m, h => by simp [idL] at h
  | s :: l, o, m, h => by
    simp only [idL, List.mem_append] at h
    simp only [szL]
    rcases h with h | h
    · split at h
      · have := idS_mem s o m h; omega
      · cases h
    · have := idL_mem l _ m h; omega
end
mutual
theorem prS_congr : ∀ (s : St) (o : Int), (∀ m, o < m → m < o + szS s → k1 m = k2 m) → prS k1 s o = prS k2 s o ∧ idS k1 s o = idS k2 s o
  | .mk d c v n t a b bs, o, h => by
    simp only [szS] at h
    have ha := prL_congr a (o + 1) fun m h1 h2 => h m (by omega) (by omega)
    have hb := prL_congr b (o + 1 + szL a) fun m h1 h2 => h m (by omega) (by omega)
    simp only [prS, idS, ha.1, ha.2, hb.1, hb.2, and_self]
theorem prL_congr : ∀ (l : List St) (o : Int), (∀ m, o ≤ m → m < o + szL l → k1 m = k2 m) → prL k1 l o = prL k2 l o ∧ idL k1 l o = idL k2 l o
  | [], o, h => by simp [prL, idL]
  | s :: l, o, h => by
    simp only [szL] at h
    have hp := szS_pos s
    have hs := prS_congr s o fun m h1 h2 => h m (by omega) (by omega)
    have hl := prL_congr l (o + szS s) fun m h1 h2 => h m (by omega) (by omega)
    simp only [prL, idL, hs.1, hs.2, hl.1, hl.2, h o (by omega) (by omega), and_self]
end
mutual
theorem idS_len : ∀ (s : St) (o : Int), (idS keep s o).length = szS (prS keep s o)
  | .mk d c v n t a b bs, o => by
    simp only [idS, prS, szS, List.length_cons, List.length_append, idL_len a, idL_len b]
    omega
theorem idL_len : ∀ (l : List St) (o : Int), (idL keep l o).length = szL (prL keep l o)
  | [], o => by simp [idL, prL, szL]
  | s :: l, o => by
    simp only [idL, prL]
    by_cases h : keep o = true
    · rw [if_pos h, if_pos h]
      simp only [List.length_append, List.cons_append, List.nil_append, szL, idS_len s, idL_len l]
    · rw [if_neg h, if_neg h]
      simp only [List.nil_append, idL_len l]
end
mutual
theorem prS_all : ∀ (s : St) (o : Int), (∀ m, o < m → m < o + szS s → keep m = true) → prS keep s o = s
  | .mk d c v n t a b bs, o, h => by
    simp only [szS] at h
    simp only [prS]
    rw [prL_all a (o + 1) fun m h1 h2 => h m (by omega) (by omega), prL_all b (o + 1 + szL a) fun m h1 h2 => h m (by omega) (by omega)]
theorem prL_all : ∀ (l : List St) (o : Int), (∀ m, o ≤ m → m < o + szL l → keep m = true) → prL keep l o = l
  | [], o, h => by simp [prL]
  | s :: l, o, h => by
    simp only [szL] at h
    have hp := szS_pos s
    simp only [prL]
    rw [if_pos (h o (by omega) (by omega)), prS_all s o fun m h1 h2 => h m (by omega) (by omega), prL_all l (o + szS s) fun m h1 h2 => h m (by omega) (by omega)]
    rfl
end
mutual
theorem ixS : ∀ (s : St) (o : Int) (i : Nat), i < szS s → (∀ m, o ≤ m → m ≤ o + i → keep m = true) → (idS keep s o)[i]? = some (o + i)
  | .mk d c v n t a b bs, o, 0, hi, h => by simp [idS]
  | .mk d c v n t a b bs, o, i + 1, hi, h => by
    simp only [szS] at hi
    simp only [idS, List.getElem?_cons_succ]
    by_cases hia : i < szL a
    · have := ixL a (o + 1) i hia fun m h1 h2 => h m (by omega) (by omega)
      rw [List.getElem?_append_left (List.getElem?_eq_some_iff.1 this).1, this]
      congr 1; omega
    · have hall := prL_all (keep := keep) a (o + 1) fun m h1 h2 => h m (by omega) (by omega)
      have hlen : (idL keep a (o + 1)).length = szL a := by rw [idL_len, hall]
      have := ixL b (o + 1 + szL a) (i - szL a) (by omega) fun m h1 h2 => h m (by omega) (by omega)
      rw [List.getElem?_append_right (by omega), hlen, this]
      congr 1; omega
theorem ixL : ∀ (l : List St) (o : Int) (i : Nat), i < szL l → (∀ m, o ≤ m → m ≤ o + i → keep m = true) → (idL keep l o)[i]? = some (o + i)
  | [], o, i, hi, h => by simp only [szL] at hi; omega
  | s :: l, o, i, hi, h => by
    simp only [szL] at hi
    simp only [idL]
    rw [if_pos (h o (by omega) (by omega))]
    by_cases his : i < szS s
    · have := ixS s o i his h
      rw [List.getElem?_append_left (List.getElem?_eq_some_iff.1 this).1, this]
    · have hall := prS_all (keep := keep) s o fun m h1 h2 => h m (by omega) (by omega)
      have hlen : (idS keep s o).length = szS s := by rw [idS_len, hall]
      have := ixL l (o + szS s) (i - szS s) (by omega) fun m h1 h2 => h m (by omega) (by omega)
      rw [List.getElem?_append_right (by omega), hlen, this]
      congr 1; omega
end
def rmK (keep : Int → Bool) (m : Int) : Int → Bool := fun j => keep j && decide (j ≠ m)
theorem rmK_ne {m j : Int} (h : j ≠ m) : keep j = rmK keep m j := by simp [rmK, h]
theorem tk1 {α : Type} (A B : List α) (i z : Nat) (h : i + z ≤ A.length) : (A ++ B).take i ++ (A ++ B).drop (i + z) = (A.take i ++ A.drop (i + z)) ++ B := by
  rw [List.take_append_of_le_length (by omega), List.drop_append_of_le_length h, List.append_assoc]
theorem tk2 {α : Type} (A B : List α) (i z : Nat) (h : A.length ≤ i) : (A ++ B).take i ++ (A ++ B).drop (i + z) = A ++ (B.take (i - A.length) ++ B.drop (i - A.length + z)) := by
  rw [List.take_append, List.drop_append, List.take_of_length_le h, List.drop_of_length_le (by omega), List.nil_append, List.append_assoc, show i + z - A.length = i - A.length + z by omega]
theorem fndS_some (x : St) (i : Int) (h0 : 0 ≤ i) (h1 : i < szS x) : ∃ y, fndS x i = some y ∧ i + szS y ≤ szS x := by
  obtain ⟨y, e1, _, _, e4, _⟩ := fnd_some [x] i h0 (by simp only [szL]; omega)
  simp only [fndL] at e1
  simp only [szL] at e4
  refine ⟨y, ?_, by omega⟩
  split at e1
  · rename_i z hz; rw [hz]; exact e1
  · cases e1
theorem fndS_none (x : St) (i : Int) (h1 : (szS x : Int) ≤ i) : fndS x i = none := by
  have := fnd_ge [x] i (by simp only [szL]; omega)
  simp only [fndL] at this
  split at this
  · cases this
  · assumption
theorem fndS_zero (x : St) : fndS x 0 = some x := by
  obtain ⟨d, c, v, n, t, a, b, bs⟩ := x
  simp [fndS]
mutual
theorem wpS : ∀ (s : St) (o : Int) (i : Nat) (m : Int), (idS keep s o)[i + 1]? = some m → woS (prS keep s o) i = prS (rmK keep m) s o ∧
    idS (rmK keep m) s o = (idS keep s o).take (i + 1) ++ (idS keep s o).drop (i + 1 + szO (fndS (prS keep s o) ((i + 1 : Nat) : Int)))
  | .mk d c v n t a b bs, o, i, m, h => by
    simp only [idS, List.getElem?_cons_succ] at h
    have hla := idL_len (keep := keep) a (o + 1)
    simp only [prS, woS, idS, fndS]
    rw [if_neg (by omega), show ((i + 1 : Nat) : Int) - 1 = (i : Int) by omega]
    by_cases hia : i < (idL keep a (o + 1)).length
    · rw [List.getElem?_append_left hia] at h
      have hr := idL_mem a _ m (List.mem_of_getElem? h)
      obtain ⟨w1, w2⟩ := wpL a (o + 1) i m h
      obtain ⟨y, f1, _, _, f4, _⟩ := fnd_some (prL keep a (o + 1)) i (by omega) (by omega)
      have hb := prL_congr (k1 := keep) (k2 := rmK keep m) b (o + 1 + szL a) fun j h1 h2 => rmK_ne (by omega)
      rw [w1, w2, ← hb.1, ← hb.2, woL_id _ _ (by omega), f1]
      refine ⟨rfl, ?_⟩
      simp only [szO]
      rw [show i + 1 + szS y = (i + szS y) + 1 by omega, List.take_succ_cons, List.drop_succ_cons, List.cons_append, tk1 _ _ _ _ (by omega)]
    · rw [List.getElem?_append_right (by omega)] at h
      have hr := idL_mem b _ m (List.mem_of_getElem? h)
      obtain ⟨w1, w2⟩ := wpL b (o + 1 + szL a) (i - (idL keep a (o + 1)).length) m h
      have ha := prL_congr (k1 := keep) (k2 := rmK keep m) a (o + 1) fun j h1 h2 => rmK_ne (by omega)
      have hcast : ((i - (idL keep a (o + 1)).length : Nat) : Int) = (i : Int) - (szL (prL keep a (o + 1)) : Int) := by omega
      rw [hcast] at w1 w2
      rw [w1, w2, ← ha.1, ← ha.2, woL_id (prL keep a (o + 1)) (i : Int) (by omega), fnd_ge (prL keep a (o + 1)) (i : Int) (by omega)]
      refine ⟨rfl, ?_⟩
      simp only
      rw [show i + 1 + szO (fndL (prL keep b (o + 1 + szL a)) ((i : Int) - (szL (prL keep a (o + 1)) : Int))) = (i + szO (fndL (prL keep b (o + 1 + szL a)) ((i : Int) - (szL (prL keep a (o + 1)) : Int)))) + 1 by omega, List.take_succ_cons, List.drop_succ_cons, List.cons_append, tk2 _ _ _ _ (by omega)]
theorem wpL : ∀ (l : List St) (o : Int) (i : Nat) (m : Int), (idL keep l o)[i]? = some m → woL (prL keep l o) i = prL (rmK keep m) l o ∧
    idL (rmK keep m) l o = (idL keep l o).take i ++ (idL keep l o).drop (i + szO (fndL (prL keep l o) i))
  | [], o, i, m, h => by simp [idL] at h
  | s :: l, o, i, m, h => by
    by_cases hk : keep o = true
    · simp only [idL, if_pos hk] at h
      have hls := idS_len (keep := keep) s o
      have hp := szS_pos (prS keep s o)
      by_cases his : i < (idS keep s o).length
      · rw [List.getElem?_append_left his] at h
        have hr := idS_mem s _ m (List.mem_of_getElem? h)
        have hl := prL_congr (k1 := keep) (k2 := rmK keep m) l (o + szS s) fun j h1 h2 => rmK_ne (by omega)
        cases i with
        | zero =>
          have hm : m = o := by
            obtain ⟨d, c, v, n, t, a, b, bs⟩ := s
            simp only [idS, List.getElem?_cons_zero, Option.some.injEq] at h
            exact h.symm
          have hro : ¬ rmK keep m o = true := by simp [rmK, hm]
          simp only [prL, idL, if_pos hk, if_neg hro, ← hl.1, ← hl.2, List.cons_append, List.nil_append, woL, fndL]
          rw [if_pos (by rfl), woL_id _ _ (by omega), show (((0 : Nat) : Int)) = 0 from rfl, fndS_zero]
          refine ⟨rfl, ?_⟩
          simp only [szO, List.take_zero, List.nil_append, Nat.zero_add]
          rw [← hls, List.drop_left]
        | succ i =>
          obtain ⟨w1, w2⟩ := wpS s o i m h
          have hmo : m ≠ o := by
            intro e
            subst e
            obtain ⟨d, c, v, n, t, a, b, bs⟩ := s
            simp only [idS, List.getElem?_cons_succ] at h
            have hm := List.mem_of_getElem? h
            rcases List.mem_append.1 hm with h | h
            · have := idL_mem _ _ _ h; omega
            · have := idL_mem _ _ _ h; omega
          have hro : rmK keep m o = true := by rw [← rmK_ne hmo.symm]; exact hk
          obtain ⟨y, f1, f2⟩ := fndS_some (prS keep s o) ((i + 1 : Nat) : Int) (by omega) (by omega)
          simp only [prL, idL, if_pos hk, if_pos hro, ← hl.1, ← hl.2, List.cons_append, List.nil_append, woL, fndL]
          rw [if_neg (by omega), woL_id (prL keep l (o + szS s)) _ (by omega), f1, show ((i + 1 : Nat) : Int) - 1 = (i : Int) by omega, w1, w2, f1]
          refine ⟨rfl, ?_⟩
          simp only [szO]
          rw [tk1 _ _ _ _ (by omega)]
      · rw [List.getElem?_append_right (by omega)] at h
        have hr := idL_mem l _ m (List.mem_of_getElem? h)
        obtain ⟨w1, w2⟩ := wpL l (o + szS s) (i - (idS keep s o).length) m h
        have hs := prS_congr (k1 := keep) (k2 := rmK keep m) s o fun j h1 h2 => rmK_ne (by omega)
        have hps := szS_pos s
        have hro : rmK keep m o = true := by rw [← rmK_ne (by omega : o ≠ m)]; exact hk
        have hcast : ((i - (idS keep s o).length : Nat) : Int) = (i : Int) - (szS (prS keep s o) : Int) := by omega
        rw [hcast] at w1 w2
        simp only [prL, idL, if_pos hk, if_pos hro, ← hs.1, ← hs.2, List.cons_append, List.nil_append, woL, fndL]
        rw [if_neg (by omega), woS_id _ _ (by omega), fndS_none _ _ (by omega), w1, w2]
        refine ⟨rfl, ?_⟩
        simp only
        rw [tk2 _ _ _ _ (by omega)]
    · simp only [idL, if_neg hk, List.nil_append] at h
      have hr := idL_mem l _ m (List.mem_of_getElem? h)
      have hps := szS_pos s
      obtain ⟨w1, w2⟩ := wpL l (o + szS s) i m h
      have hro : ¬ rmK keep m o = true := by rw [← rmK_ne (by omega : o ≠ m)]; exact hk
      simp only [prL, idL, if_neg hk, if_neg hro, List.nil_append]
      exact ⟨w1, w2⟩
end
mutual
theorem ppS : ∀ (s : St) (o : Int), (∀ m, o < m → m < o + szS s → (k2 m = true ↔ m ∈ idS keep s o)) → prS k2 s o = prS keep s o
  | .mk d c v n t a b bs, o, h => by
    simp only [szS, idS, List.mem_cons, List.mem_append] at h
    simp only [prS]
    have ha : prL k2 a (o + 1) = prL keep a (o + 1) := ppL a (o + 1) fun m h1 h2 => by
      have hx : m ∉ idL keep b (o + 1 + szL a) := fun hm => by have := idL_mem _ _ _ hm; omega
      have hy : ¬ m = o := by omega
      rw [h m (by omega) (by omega)]
      simp [hx, hy]
    have hb : prL k2 b (o + 1 + szL a) = prL keep b (o + 1 + szL a) := ppL b (o + 1 + szL a) fun m h1 h2 => by
      have hx : m ∉ idL keep a (o + 1) := fun hm => by have := idL_mem _ _ _ hm; omega
      have hy : ¬ m = o := by omega
      rw [h m (by omega) (by omega)]
      simp [hx, hy]
    rw [ha, hb]
theorem ppL : ∀ (l : List St) (o : Int), (∀ m, o ≤ m → m < o + szL l → (k2 m = true ↔ m ∈ idL keep l o)) → prL k2 l o = prL keep l o
  | [], o, h => by simp [prL]
  | s :: l, o, h => by
    have hps := szS_pos s
    simp only [szL, idL, List.mem_append] at h
    simp only [prL]
    have hx : ∀ m, m < o + szS s → m ∉ idL keep l (o + szS s) := fun m hm hmm => by have := idL_mem _ _ _ hmm; omega
    have h2 : prL k2 l (o + szS s) = prL keep l (o + szS s) := ppL l (o + szS s) fun m h1 h2 => by
      rw [h m (by omega) (by omega)]
      by_cases hk : keep o = true
      · have hy : m ∉ idS keep s o := fun hm => by have := idS_mem _ _ _ hm; omega
        simp [hk, hy]
      · simp [hk]
    rw [h2]
    by_cases hk : keep o = true
    · have ho : k2 o = true := by
        rw [h o (by omega) (by omega), if_pos hk]
        left
        obtain ⟨d, c, v, n, t, a, b, bs⟩ := s
        simp [idS]
      have hs : prS k2 s o = prS keep s o := ppS s o fun m h1 h2 => by
        rw [h m (by omega) (by omega), if_pos hk]
        have := hx m (by omega)
        simp [this]
      rw [if_pos hk, if_pos ho, hs]
    · have ho : ¬ k2 o = true := by
        rw [h o (by omega) (by omega), if_neg hk]
        have := hx o (by omega)
        simp [this]
      rw [if_neg hk, if_neg ho]
end
end
end Go.Proofs.YteekbhkjfaegiaaGreat

namespace Go.Proofs.YteekbhkjfaegiaaGreat
open Go Go.Hl

/-! ## what the reduction leaves -/
def Inv (B0 bd : List St) (l : List Int) : Prop := ∃ keep : Int → Bool, bd = prL keep B0 0 ∧ l = idL keep B0 0
theorem inv_len {B0 bd : List St} {l : List Int} (h : Inv B0 bd l) : l.length = szL bd := by
  obtain ⟨k, rfl, rfl⟩ := h
  exact idL_len _ _
theorem inv_self (B0 : List St) : Inv B0 B0 (idxs (szL B0)) := by
  refine ⟨fun _ => true, (prL_all B0 0 fun _ _ _ => rfl).symm, ?_⟩
  apply List.ext_getElem?
  intro i
  by_cases hi : i < szL B0
  · rw [ixL B0 0 i hi fun _ _ _ => rfl]
    simp [idxs, hi]
  · rw [List.getElem?_eq_none (by rw [idxs_len]; omega), List.getElem?_eq_none (by rw [idL_len, prL_all B0 0 fun _ _ _ => rfl]; omega)]
theorem inv_step {B0 bd : List St} {l : List Int} (h : Inv B0 bd l) {i : Nat} (hi : i < l.length) : Inv B0 (woL bd i) (l.take i ++ l.drop (i + szO (fndL bd i))) := by
  obtain ⟨k, rfl, rfl⟩ := h
  obtain ⟨w1, w2⟩ := wpL B0 0 i _ (List.getElem?_eq_getElem hi)
  exact ⟨_, w1, w2.symm⟩
theorem inv_pr {B0 bd : List St} {l : List Int} (h : Inv B0 bd l) : prL (fun j => decide (j ∈ l)) B0 0 = bd := by
  obtain ⟨k, rfl, rfl⟩ := h
  exact ppL B0 0 fun m _ _ => by simp
theorem psF_true (ap : List St → Bool) : ∀ (n : Nat) (bd : List St) (l : List Int), (psF ap n bd l true).2.2 = true
  | 0, bd, l => rfl
  | n + 1, bd, l => by
    unfold psF
    split
    · exact psF_true ap n _ _
    · exact psF_true ap n _ _
theorem psF_inv (ap : List St → Bool) (B0 : List St) : ∀ (cnt : Nat) (bd : List St) (l : List Int) (r : Bool), Inv B0 bd l → cnt ≤ l.length → ap bd = true →
    Inv B0 (psF ap cnt bd l r).1 (psF ap cnt bd l r).2.1 ∧ ap (psF ap cnt bd l r).1 = true ∧ szL (psF ap cnt bd l r).1 ≤ szL bd ∧ ((psF ap cnt bd l r).2.2 = true → r = true ∨ szL (psF ap cnt bd l r).1 < szL bd) ∧
    ((psF ap cnt bd l r).2.2 = false → (psF ap cnt bd l r).1 = bd ∧ (psF ap cnt bd l r).2.1 = l ∧ ∀ i : Nat, i < cnt → ap (woL bd i) = false)
  | 0, bd, l, r, h, hc, ha => ⟨h, ha, Nat.le_refl _, fun hr => .inl hr, fun _ => ⟨rfl, rfl, fun i hi => absurd hi (Nat.not_lt_zero i)⟩⟩
  | i + 1, bd, l, r, h, hc, ha => by
    have hlen := inv_len h
    unfold psF
    by_cases hap : ap (woL bd i) = true
    · rw [if_pos hap]
      have hs := inv_step h (show i < l.length by omega)
      have hl2 := inv_len hs
      obtain ⟨s, e1, _, _, e4, e5⟩ := fnd_some bd i (by omega) (by omega)
      have hp := szS_pos s
      obtain ⟨g1, g2, g3, g4, g5⟩ := psF_inv ap B0 i _ _ true hs (by omega) hap
      refine ⟨g1, g2, by omega, fun _ => .inr (by omega), fun hf => ?_⟩
      rw [psF_true] at hf
      cases hf
    · rw [if_neg hap]
      obtain ⟨g1, g2, g3, g4, g5⟩ := psF_inv ap B0 i bd l r h (by omega) ha
      refine ⟨g1, g2, g3, g4, fun hf => ?_⟩
      obtain ⟨q1, q2, q3⟩ := g5 hf
      refine ⟨q1, q2, fun j hj => ?_⟩
      by_cases hji : j = i
      · subst hji
        simpa using hap
      · exact q3 j (by omega)
theorem rdF_inv (ap : List St → Bool) (B0 : List St) : ∀ (n : Nat) (bd : List St) (l : List Int), Inv B0 bd l → szL bd < n → ap bd = true →
    Inv B0 (rdF ap n bd l).1 (rdF ap n bd l).2 ∧ ap (rdF ap n bd l).1 = true ∧ ∀ i : Nat, i < szL (rdF ap n bd l).1 → ap (woL (rdF ap n bd l).1 i) = false
  | 0, bd, l, h, hn, ha => absurd hn (Nat.not_lt_zero _)
  | n + 1, bd, l, h, hn, ha => by
    have hlen := inv_len h
    obtain ⟨g1, g2, g3, g4, g5⟩ := psF_inv ap B0 l.length bd l false h (Nat.le_refl _) ha
    rw [rdF_succ]
    unfold finR
    by_cases hf : (psF ap l.length bd l false).2.2 = true
    · rw [if_pos hf]
      have := (g4 hf).resolve_left (by decide)
      exact rdF_inv ap B0 n _ _ g1 (by omega) g2
    · rw [if_neg hf]
      obtain ⟨q1, q2, q3⟩ := g5 (by simpa using hf)
      refine ⟨g1, g2, fun i hi => ?_⟩
      simp only at hi ⊢
      rw [q1] at hi ⊢
      exact q3 i (by omega)
theorem red_inv {f : Fl} {v : Vw} {a b : Int} (h : apB f v a b f.body = true) :
    Inv f.body (redF f v a b).1 (redF f v a b).2 ∧ apB f v a b (redF f v a b).1 = true ∧ ∀ i : Nat, i < szL (redF f v a b).1 → apB f v a b (woL (redF f v a b).1 i) = false :=
  rdF_inv (apB f v a b) f.body (szL f.body + 1) f.body _ (inv_self f.body) (by omega) h

/-! ## the law's own loop -/
def lwF (L : List Int) : Nat → List St → List St
  | 0, g => g
  | i + 1, g => lwF L i (if (i : Int) ∈ L then g else woL g i)
theorem lwF_aux (L : List Int) (B0 : List St) : ∀ i : Nat, i ≤ szL B0 → lwF L i (prL (fun j => decide (j < (i : Int)) || decide (j ∈ L)) B0 0) = prL (fun j => decide (j ∈ L)) B0 0
  | 0, _ => (prL_congr B0 0 fun m h1 h2 => by have : ¬ m < ((0 : Nat) : Int) := by omega
                                              simp only [this, decide_false, Bool.false_or]).1
  | i + 1, hi => by
    unfold lwF
    have hmi : ∀ m : Int, (m < ((i + 1 : Nat) : Int)) ↔ (m < (i : Int) ∨ m = (i : Int)) := fun m => by omega
    by_cases hm : (i : Int) ∈ L
    · rw [if_pos hm]
      have := (prL_congr (k1 := fun j => decide (j < ((i + 1 : Nat) : Int)) || decide (j ∈ L)) (k2 := fun j => decide (j < (i : Int)) || decide (j ∈ L)) B0 0 fun m h1 h2 => by
        by_cases e : m = (i : Int)
        · subst e; simp [hm]
        · have : (m < ((i + 1 : Nat) : Int)) ↔ m < (i : Int) := by omega
          simp only [this]).1
      rw [this]
      exact lwF_aux L B0 i (by omega)
    · rw [if_neg hm]
      have hix := ixL (keep := fun j => decide (j < ((i + 1 : Nat) : Int)) || decide (j ∈ L)) B0 0 i (by omega) fun m h1 h2 => by
        have h3 : m < ((i + 1 : Nat) : Int) := by omega
        simp only [Bool.or_eq_true]
        exact .inl (decide_eq_true h3)
      rw [Int.zero_add] at hix
      rw [(wpL B0 0 i _ hix).1]
      have := (prL_congr (k1 := rmK (fun j => decide (j < ((i + 1 : Nat) : Int)) || decide (j ∈ L)) (i : Int)) (k2 := fun j => decide (j < (i : Int)) || decide (j ∈ L)) B0 0 fun m h1 h2 => by
        by_cases e : m = (i : Int)
        · subst e; simp [rmK, hm]
        · have : (m < ((i + 1 : Nat) : Int)) ↔ m < (i : Int) := by omega
          simp only [rmK, this, ne_eq, e, not_false_eq_true, decide_true, Bool.and_true]).1
      rw [this]
      exact lwF_aux L B0 i (by omega)
theorem lwF_eq (L : List Int) (B0 : List St) : lwF L (szL B0) B0 = prL (fun j => decide (j ∈ L)) B0 0 := by
  have h := lwF_aux L B0 (szL B0) (Nat.le_refl _)
  rwa [prL_all B0 0 fun m h1 h2 => by have : m < (szL B0 : Int) := by omega
                                      simp [this]] at h

/-! ## is a number in a list? -/
def idxF : List Int → Int → Nat → Int
  | [], _, _ => -1
  | y :: l, x, k => if x = y then k else idxF l x (k + 1)
theorem idxF_mem : ∀ (l : List Int) (x : Int) (k : Nat), 0 ≤ idxF l x k ↔ x ∈ l
  | [], x, k => by simp [idxF]
  | y :: l, x, k => by
    simp only [idxF, List.mem_cons]
    by_cases h : x = y
    · simp [h]
    · rw [if_neg h, idxF_mem l x (k + 1)]
      simp [h]
theorem index_con (l : List Int) (x : Int) (hl : l.length ≤ 1000000000) (d : Nat) : Con Tryz.prog 42 true [lI l, li x] (.v (li (idxF l x 0))) none d := by
  obtain ⟨res, hres⟩ : ∃ r, idxF l x 0 = r := ⟨_, rfl⟩
  rw [hres]
  refine con_of_HT Tryz.func42 rfl (by kernel_rfl) (Nat.le_of_ble_eq_true rfl) ?_
  simp only [Tryz.f42]
  refine HT_seq <| HT_runA ?_
  refine HT_seq <| HT_seq <| HT_runA ?_
  refine HT_block <| (HT_loopU [0, 1, 7] (fun (z : Nat) => [(8, .v (li z))]) (fun (z : Nat) => []) (fun (z : Nat) => z ≤ l.length ∧ idxF (l.drop z) x z = res) (fun (z : Nat) => l.length - z) (0 : Nat) ⟨Nat.zero_le _, hres⟩ ?_ ?_)
  · exact le_mk (fun n => n) [] rfl (by simp [*, upS, keepS]) (by simp [*, upS]) (by simp [upS])
  rintro k ⟨hk, hJ⟩
  simp only [upS, keepS, insS]
  try simp only [keepS, KN, Nat.reduceBEq, if_true, if_false, ins, Nat.reduceLT]
  clear hres
  refine HT_seq <| HT_runA ?_
  refine HT_seq <| (HT_cond rfl (fun h4 => HT_skip ?_) (fun h4 => ?_))
  · try simp only [BN] at h4
    have hlt : k < l.length := by omega
    obtain ⟨b, he, hd⟩ := at_lt hlt
    have hw1 := wrap1 hlt (by omega)
    have hk1 : k + 1 ≤ l.length := hlt
    rw [hd] at hJ
    simp only [idxF] at hJ
    clear hlt h4 hd
    refine HT_seq <| HT_block <| HT_seq <| HT_runA ?_
    refine HT_seq <| HT_runA ?_
    refine (HT_cond rfl (fun h7 => ?_) (fun h7 => HT_skip ?_))
    · try simp only [BN] at h7
      rw [if_pos (by simpa using h7)] at hJ
      subst hJ
      refine HT_seq <| HT_runA ?_
      exact HT_retA fun h => ⟨.inr rfl, h⟩
    · try simp only [BN] at h7
      rw [if_neg (by simpa using h7)] at hJ
      refine HT_runA ?_
      exact ⟨k + 1, ⟨hk1, hJ⟩, by omega, le_mk (fun n => n) [] rfl (by simp [upS, keepS, *]) (by simp [*, upS]) (by simp [upS])⟩
  · try simp only [BN] at h4
    have hkl : k = l.length := by omega
    rw [hkl, List.drop_length] at hJ
    simp only [idxF] at hJ
    subst hJ
    refine (HT_exit ?_)
    refine HT_seq <| HT_runA ?_
    exact HT_retA fun h => ⟨.inr rfl, h⟩
theorem contains_con (l : List Int) (x : Int) (hl : l.length ≤ 1000000000) (d : Nat) : Con Tryz.prog 19 true [lI l, li x] (.v (lb (decide (x ∈ l)))) none d := by
  have ci := index_con l x hl
  have hm : decide (x ∈ l) = decide (0 ≤ idxF l x 0) := by simp only [idxF_mem]
  rw [hm]
  obtain ⟨res, hres⟩ : ∃ r, idxF l x 0 = r := ⟨_, rfl⟩
  rw [hres] at ci ⊢
  clear hres hm
  refine con_of_HT Tryz.func19 rfl (by kernel_rfl) (Nat.le_of_ble_eq_true rfl) ?_
  simp only [Tryz.f19]
  refine HT_seq <| HT_runA ?_
  refine HT_seq <| (HT_runc [⟨true, .v (li res), none⟩] (by simp [*]; first | exact ⟨rfl, Iff.rfl⟩ | exact ⟨rfl, trivial⟩ | rfl) ?_ ?_)
  · first | exact ci _ | exact trivial | simpa [*] using ci _
  exact HT_retA fun h => ⟨.inr rfl, h⟩
end Go.Proofs.YteekbhkjfaegiaaGreat

namespace Go.Proofs.YteekbhkjfaegiaaGreat
open Go Go.Hl

mutual
theorem idS_le {keep : Int → Bool} : ∀ (s : St) (o : Int), (idS keep s o).length ≤ szS s
  | .mk d c v n t a b bs, o => by
    have := idL_le (keep := keep) a (o + 1)
    have := idL_le (keep := keep) b (o + 1 + szL a)
    simp only [idS, szS, List.length_cons, List.length_append]
    omega
theorem idL_le {keep : Int → Bool} : ∀ (l : List St) (o : Int), (idL keep l o).length ≤ szL l
  | [], o => by simp [idL]
  | s :: l, o => by
    have := idS_le (keep := keep) s o
    have := idL_le (keep := keep) l (o + szS s)
    simp only [idL, szL, List.length_append]
    split
    · omega
    · simp only [List.length_nil]; omega
end
theorem needed_law (f : Fl) (v : Vw) (d : Nat) : Con Tryz.prog 5 true [aF f, aW v] (.v (lb true)) none d := by
  have ck := known_con
  have csm := small_con f
  obtain ⟨SM, hSM⟩ : ∃ x, smB f = x := ⟨_, rfl⟩
  have hin : SM = true → f.vars.length ≤ 1000000 ∧ f.hats.length ≤ 1000000 ∧ nodesS f.body + nodesH f.hats ≤ 1000000 ∧ bndL f.body = true := fun h => smB_in (hSM.trans h)
  rw [hSM] at csm
  obtain ⟨A, hA⟩ : ∃ x, askC f v = x := ⟨_, rfl⟩
  have cas := fun (h : SM = true) => asked_con f v (hin h).1 (hin h).2.1 (hin h).2.2.1 (hin h).2.2.2
  have hgd := fun (h : SM = true) (h0 : A = 0) => (ask_gd (v := v) (hin h).1 (hin h).2.1 (hin h).2.2.1 (hin h).2.2.2 (hA.trans h0)).1
  obtain ⟨pr, hpr⟩ : ∃ x, pairV f v = x := ⟨_, rfl⟩
  have hlt : SM = true → A = 0 → ∀ k, pr = some k → (0 : Int) < spc f.vars 1 ∧ (k : Int) < spc f.vars 1 ∧ apB f v 0 (k : Int) f.body = true := by
    intro h h0 k hk
    have hs := nSec_pos (hgd h h0).vc
    rw [← hpr] at hk
    unfold pairV fstN at hk
    have hm := List.mem_of_find?_eq_some hk
    have hp := List.find?_some hk
    have hkn : k < nSec f := by simpa using hm
    refine ⟨by omega, by omega, ?_⟩
    have hne : obsN f v k ≠ obsN f v 0 := by simpa using hp
    unfold apB
    have : ¬ obsF f v 0 = obsF f v (k : Int) := fun e => hne e.symm
    simp [this]
  obtain ⟨x, y, b, e, hcase⟩ : ∃ (x y : Obs) (b : Nat) (e : Int), A = 0 → (x = o0 ∧ y = o0 ∧ b = 0 ∧ pr = none ∧ e = 11) ∨ (e = 0 ∧ pr = some b ∧ x = obsN f v 0 ∧ y = obsN f v b) := by
    cases pr with
    | none => exact ⟨o0, o0, 0, 11, fun _ => .inl ⟨rfl, rfl, rfl, rfl, rfl⟩⟩
    | some k => exact ⟨obsN f v 0, obsN f v k, k, 0, fun _ => .inr ⟨rfl, rfl, rfl, rfl⟩⟩
  have cpp := fun (h : SM = true) (hA0 : A = 0) => pairP_con f v (hin h).1 (hin h).2.1 (hin h).2.2.1 (hin h).2.2.2 x y (b : Int) e (fun hn => absurd (hA.trans hA0) hn) (fun h0 => by
    rcases hcase hA0 with ⟨h1, h2, h3, h4, h5⟩ | ⟨h1, h2, h3, h4⟩
    · rw [hpr, h4]
      exact ⟨h1, h2, by omega, h5⟩
    · rw [hpr, h2]
      exact ⟨h3, h4, rfl, h1⟩)
  obtain ⟨RD, hRD⟩ : ∃ x, redF f v 0 (b : Int) = x := ⟨_, rfl⟩
  have clp := fun (h : SM = true) (hl : lstC f v 0 (b : Int) = 0) => leastP_con f v (hin h).1 (hin h).2.1 (hin h).2.2.1 (hin h).2.2.2 0 (b : Int) 0 RD.2 hl (by rw [if_pos rfl, hRD])
  have hl0 : SM = true → A = 0 → pr = some b → lstC f v 0 (b : Int) = 0 := by
    intro h h0 hb
    obtain ⟨g1, g2, g3⟩ := hlt h h0 b hb
    unfold lstC
    rw [if_neg (by rw [hA]; simpa using h0), if_neg (by omega), if_pos g3]
  have hri := fun (h : apB f v 0 (b : Int) f.body = true) => red_inv h
  rw [hRD] at hri
  have csp := fun (h : SM = true) (h0 : A = 0) => space13_con f.vars 1 (by decide) (varsC_good (hgd h h0).vc) (hgd h h0).hv (vc_spc (hgd h h0).vc 1 (by decide) (by decide))
  have cap := fun (h : SM = true) (h0 : A = 0) (ha : 0 < spc f.vars 1) (hb : (b : Int) < spc f.vars 1) (bd : List St) (h1 : nodesS bd + nodesH f.hats ≤ 1000000) (h2 : bndL bd = true) =>
    apart_con ⟨f.vars, f.hats, bd⟩ v 0 (b : Int) ((hgd h h0).body h1 h2) ⟨Int.le_refl 0, ha⟩ ⟨by omega, hb⟩
  have hapb : ∀ bd, (!decide (obsF ⟨f.vars, f.hats, bd⟩ v 0 = obsF ⟨f.vars, f.hats, bd⟩ v (b : Int))) = apB f v 0 (b : Int) bd := fun bd => rfl
  have hlw : Inv f.body RD.1 RD.2 → lwF RD.2 (szL f.body) f.body = RD.1 := fun h => (lwF_eq RD.2 f.body).trans (inv_pr h)
  obtain ⟨ap, hap⟩ : ∃ x, apB f v 0 (b : Int) = x := ⟨_, rfl⟩
  obtain ⟨N, hN⟩ : ∃ x, spc f.vars 1 = x := ⟨_, rfl⟩
  simp only [hap, hapb] at cap hri hlt
  simp only [hA, hN] at cas csp cap hlt
  have hnb := fun (h : SM = true) => (hin h).2.2
  clear hSM hA hpr hRD hgd hin hapb hN
  obtain ⟨vars, hats, body⟩ := f
  obtain ⟨pub, tm⟩ := v
  obtain ⟨xo, xt⟩ := x
  obtain ⟨yo, yt⟩ := y
  obtain ⟨G, L⟩ := RD
  simp only at hri hlw csp cap hnb
  refine con_of_HT Tryz.func5 rfl (by kernel_rfl) (Nat.le_of_ble_eq_true rfl) ?_
  simp only [Tryz.f5]
  simp only [aF, Fl.enc, aW, aO, List.map_cons, List.map_nil] at csm cas cpp clp cap ⊢
  refine HT_seq <| HT_runA ?_
  refine HT_seq <| HT_seq <| (HT_runc [⟨true, .v (lb true), none⟩] (by simp [*]; first | exact ⟨rfl, Iff.rfl⟩ | exact ⟨rfl, trivial⟩ | rfl) ?_ ?_)
  · first | exact ck _ | exact trivial | simpa [*] using ck _
  refine (HT_cond rfl (fun h2 => ?_) (fun h2 => HT_skip ?_))
  · exact Bool.noConfusion h2
  · try simp only [BN] at h2
    rcases SM with _ | _
    · refine HT_seq <| HT_seq <| (HT_runcS [some ⟨true, .v (lb false), none⟩, none] (by simp [*]; first | exact ⟨rfl, Iff.rfl⟩ | exact ⟨rfl, trivial⟩ | rfl) ?_ ?_)
      · first | exact trivial | exact csm _ | simpa using csm _
      refine (HT_cond rfl (fun h6 => ?_) (fun h6 => HT_skip ?_))
      · try simp only [BN] at h6
        refine HT_seq <| HT_runA ?_
        exact HT_retA fun h => ⟨.inr rfl, h⟩
      · exact absurd h6 (by simp)
    · have cas := cas rfl
      refine HT_seq <| HT_seq <| (HT_runc [⟨true, .v (lb true), none⟩, ⟨true, .v (li A), none⟩] (by simp [*]; first | exact ⟨rfl, Iff.rfl⟩ | exact ⟨rfl, trivial⟩ | rfl) ?_ ?_)
      · first | exact ⟨csm _, cas _⟩ | exact trivial | (repeat' first | exact trivial | exact csm _ | exact cas _ | apply And.intro)
      refine (HT_cond rfl (fun h6 => ?_) (fun h6 => HT_skip ?_))
      · try simp only [BN] at h6
        refine HT_seq <| HT_runA ?_
        exact HT_retA fun h => ⟨.inr rfl, h⟩
      · try simp only [BN] at h6
        have hA0 : A = 0 := by simpa using h6
        have hcase := hcase hA0
        have cpp := cpp rfl hA0
        have csp := csp rfl hA0
        have cap := cap rfl hA0
        have hlt := hlt rfl hA0
        have hl0 := hl0 rfl hA0
        have clp := fun h => clp rfl h
        obtain ⟨hnb1, hnb2⟩ := hnb rfl
        clear csm cas ck h6 hnb
        refine HT_seq <| (HT_runc [⟨false, .tup [li 0, li (b : Int), .agg [.c (.sl 1 (encIs xo)), .c (iC xt)], .agg [.c (.sl 1 (encIs yo)), .c (iC yt)], li e], none⟩] (by simp [*]; first | exact ⟨rfl, Iff.rfl⟩ | exact ⟨rfl, trivial⟩ | rfl) ?_ ?_)
        · first | exact cpp _ | exact trivial | simpa [*] using cpp _
        refine HT_seq <| HT_seq <| HT_runA ?_
        refine (HT_cond rfl (fun h11 => ?_) (fun h11 => HT_skip ?_))
        · try simp only [BN] at h11
          have he : e = 11 := by
            rcases hcase with ⟨h1, h2, h3, h4, h5⟩ | ⟨h1, _⟩
            · exact h5
            · exact absurd h1 h11
          subst he
          clear hcase cpp clp csp cap hri hlw
          refine HT_seq <| HT_runA ?_
          exact HT_retA fun h => ⟨.inr rfl, h⟩
        · try simp only [BN] at h11
          have hcs : e = 0 ∧ pr = some b := by
            rcases hcase with ⟨h1, h2, h3, h4, h5⟩ | ⟨h1, h2, _⟩
            · subst h5; simp at h11
            · exact ⟨h1, h2⟩
          obtain ⟨he0, hpb⟩ := hcs
          subst he0
          have clp := clp (hl0 hpb)
          obtain ⟨g1, g2, g3⟩ := hlt b hpb
          have cap := cap g1 g2
          have g3' : ap body = true := by rw [← hap]; exact g3
          obtain ⟨hi, hag, han⟩ := hri g3'
          have hlw := hlw hi
          have hil := inv_len hi
          have hszb := szL_le body
          clear hcase cpp hri h11 hlt hl0 hap g3 g3'
          refine HT_seq <| (HT_runc [⟨false, .tup [lI L, li 0], none⟩] (by simp [*]; first | exact ⟨rfl, Iff.rfl⟩ | exact ⟨rfl, trivial⟩ | rfl) ?_ ?_)
          · first | exact clp _ | exact trivial | simpa [*] using clp _
          refine HT_seq <| HT_seq <| HT_runA ?_
          refine (HT_cond rfl (fun h16 => ?_) (fun h16 => HT_skip ?_))
          · exact absurd h16 (by simp)
          · try simp only [BN] at h16
            refine HT_seq <| (HT_runc [⟨true, .tup [li N, li 0], none⟩] (by simp [*]; first | exact ⟨rfl, Iff.rfl⟩ | exact ⟨rfl, trivial⟩ | rfl) ?_ ?_)
            · first | exact csp _ | exact trivial | simpa [*] using csp _
            refine HT_seq <| HT_seq <| HT_runA ?_
            refine (HT_cond rfl (fun h21 => ?_) (fun h21 => HT_skip ?_))
            · exfalso
              first | omega | (simp at h21; omega)
            · try simp only [BN] at h21
              refine HT_seq <| HT_runA ?_
              have csz := sizeR_con body (by omega)
              have hwz : IntKind.i64.wrap ((szL body : Int) - 1) = (szL body : Int) - 1 := wrap_in (by omega) (by omega)
              clear clp csp h16 h21
              refine HT_seq <| HT_seq <| (HT_runc [⟨true, .v (li (szL body : Int)), none⟩] (by simp [*]; first | exact ⟨rfl, Iff.rfl⟩ | exact ⟨rfl, trivial⟩ | rfl) ?_ ?_)
              · first | exact csz _ | exact trivial | simpa [*] using csz _
              refine HT_block <| (HT_loopU [3, 5, 6, 10, 13] (fun (y : Int × List St) => [(14, .v (li y.1))]) (fun (y : Int × List St) => [(3, .box [.c (.sl 1 (encIs pub)), .c (bC tm)]), (13, .box [.c (.sl 5 (encVs vars)), .c (.sl 6 (encHs hats)), .c (.sl 10 (encSs y.2))])]) (fun (y : Int × List St) => -1 ≤ y.1 ∧ y.1 < szL body ∧ lwF L (y.1 + 1).toNat y.2 = G ∧ nodesS y.2 + nodesH hats ≤ 1000000 ∧ bndL y.2 = true) (fun (y : Int × List St) => (y.1 + 1).toNat) ((szL body : Int) - 1, body) ⟨by simp only; omega, by simp only; omega, by simp only; rw [show ((szL body : Int) - 1 + 1).toNat = szL body by omega]; exact hlw, hnb1, hnb2⟩ ?_ ?_)
              · exact le_mk (fun n => n) [] rfl (by simp [*, upS, keepS]) (by simp [*, upS]) (by simp [upS])
              rintro ⟨ix, g⟩ ⟨hi0, hi1, hJ, hg1, hg2⟩
              simp only [upS, keepS, insS]
              try simp only [keepS, KN, Nat.reduceBEq, if_true, if_false, ins, Nat.reduceLT]
              simp only at hi0 hi1 hJ hg1 hg2
              clear hlw csz hwz
              refine HT_seq <| HT_seq <| HT_runA ?_
              refine (HT_cond rfl (fun h28 => HT_skip ?_) (fun h28 => ?_))
              · try simp only [BN] at h28
                obtain ⟨i, rfl⟩ : ∃ i : Nat, ix = (i : Int) := ⟨ix.toNat, by omega⟩
                have hll : L.length ≤ 1000000000 := by
                  have h1 := inv_len hi
                  obtain ⟨kp, e1, e2⟩ := hi
                  have : szL G ≤ szL body := by
                    rw [← h1, e2]
                    exact idL_le _ _
                  omega
                have cct := contains_con L (i : Int) hll
                have cwo := withoutR_con g (by omega) (i : Int) (by omega) (by omega)
                rw [show ((i : Int) + 1).toNat = i + 1 by omega] at hJ
                simp only [lwF] at hJ
                have hw1 : IntKind.i64.wrap ((i : Int) - 1) = (i : Int) - 1 := wrap_in (by omega) (by omega)
                have hn5 := woL_nodes g i
                have hb5 := woL_bnd g i hg2
                obtain ⟨g2, hg2'⟩ : ∃ x, woL g i = x := ⟨_, rfl⟩
                rw [hg2'] at cwo hJ hn5 hb5
                obtain ⟨IN, hIN⟩ : ∃ x, decide ((i : Int) ∈ L) = x := ⟨_, rfl⟩
                rw [hIN] at cct
                clear hg2' hll h28 hi0
                refine HT_seq <| HT_block <| HT_seq <| (HT_runc [⟨true, .v (lb IN), none⟩] (by simp [*]; first | exact ⟨rfl, Iff.rfl⟩ | exact ⟨rfl, trivial⟩ | rfl) ?_ ?_)
                · first | exact cct _ | exact trivial | simpa [*] using cct _
                refine (HT_cond rfl (fun h30 => ?_) (fun h30 => HT_skip ?_))
                · try simp only [BN] at h30
                  have hz : IN = false := by simpa using h30
                  subst hz
                  rw [if_neg (by simpa using hIN)] at hJ
                  clear h30 cct
                  refine (HT_drunc [⟨false, .v (lS g2), none⟩] (by kernel_rfl) (by kernel_rfl) (by rfl) (by simp [*, allTyped, fillC, placeOf]; first | exact ⟨rfl, Iff.rfl⟩ | exact ⟨rfl, trivial⟩ | rfl) ?_ ?_)
                  · first | exact cwo _ | exact trivial | simpa [*, allTyped, fillC, placeOf] using cwo _
                  refine HT_runA ?_
                  exact ⟨((i : Int) - 1, g2), ⟨by simp only; omega, by simp only; omega, by simp only; rw [show ((i : Int) - 1 + 1).toNat = i by omega]; exact hJ, by simp only; omega, hb5⟩, by simp only; omega, le_mk (fun n => n) [] rfl (by simp [upS, keepS, *]) (by simp [*, upS]) (by simp [upS])⟩
                · try simp only [BN] at h30
                  have hz : IN = true := by simpa using h30
                  subst hz
                  rw [if_pos (by simpa using hIN)] at hJ
                  clear h30 cct cwo
                  refine HT_runA ?_
                  exact ⟨((i : Int) - 1, g), ⟨by simp only; omega, by simp only; omega, by simp only; rw [show ((i : Int) - 1 + 1).toNat = i by omega]; exact hJ, hg1, hg2⟩, by simp only; omega, le_mk (fun n => n) [] rfl (by simp [upS, keepS, *]) (by simp [*, upS]) (by simp [upS])⟩
              · try simp only [BN] at h28
                have hi' : ix = -1 := by omega
                subst hi'
                rw [show ((-1 : Int) + 1).toNat = 0 by rfl] at hJ
                simp only [lwF] at hJ
                subst hJ
                have csz := sizeR_con g (by omega)
                have cap0 := cap g hg1 hg2
                rw [hag] at cap0
                clear h28
                have hgl := szL_le g
                refine (HT_exit ?_)
                refine HT_seq <| HT_seq <| (HT_runc [⟨true, .v (li (szL g : Int)), none⟩, ⟨true, .v (lb true), none⟩] (by simp [*]; first | exact ⟨rfl, Iff.rfl⟩ | exact ⟨rfl, trivial⟩ | rfl) ?_ ?_)
                · first | exact ⟨csz _, cap0 _⟩ | exact trivial | (repeat' first | exact trivial | exact csz _ | exact cap0 _ | apply And.intro)
                refine (HT_cond rfl (fun h37 => ?_) (fun h37 => HT_skip ?_))
                · exact absurd h37 (by simp)
                · try simp only [BN] at h37
                  refine HT_seq <| HT_seq <| HT_runA ?_
                  refine HT_block <| (HT_loopU [3, 5, 6, 13, 110] (fun (y : Nat) => [(111, .v (li y))]) (fun (y : Nat) => [(3, .box [.c (.sl 1 (encIs pub)), .c (bC tm)]), (13, .box [.c (.sl 5 (encVs vars)), .c (.sl 6 (encHs hats)), .c (.sl 10 (encSs g))])]) (fun (y : Nat) => y ≤ L.length) (fun (y : Nat) => L.length - y) (0 : Nat) (Nat.zero_le _) ?_ ?_)
                  · exact le_mk (fun n => n) [] rfl (by simp [*, upS, keepS]) (by simp [*, upS]) (by simp [upS])
                  rintro k hk
                  simp only [upS, keepS, insS]
                  try simp only [keepS, KN, Nat.reduceBEq, if_true, if_false, ins, Nat.reduceLT]
                  clear csz cap0 h37
                  refine HT_seq <| HT_runA ?_
                  refine HT_seq <| (HT_cond rfl (fun h43 => HT_skip ?_) (fun h43 => ?_))
                  · try simp only [BN] at h43
                    have hlt : k < L.length := by omega
                    have hw1 := wrap1 hlt (by omega)
                    have hk1 : k + 1 ≤ L.length := hlt
                    have cwo := withoutR_con g (by omega) (k : Int) (by omega) (by omega)
                    have hn5 := woL_nodes g k
                    have hb5 := woL_bnd g k hg2
                    have hak := han k (by omega)
                    obtain ⟨g2, hg2'⟩ : ∃ x, woL g k = x := ⟨_, rfl⟩
                    rw [hg2'] at cwo hn5 hb5 hak
                    have cap1 := cap g2 (by omega) hb5
                    rw [hak] at cap1
                    clear hg2' hlt h43 hak
                    refine HT_seq <| HT_block <| HT_seq <| HT_runA ?_
                    refine HT_seq <| (HT_drunc [⟨false, .v (lS g2), none⟩] (by kernel_rfl) (by kernel_rfl) (by rfl) (by simp [*, allTyped, fillC, placeOf]; first | exact ⟨rfl, Iff.rfl⟩ | exact ⟨rfl, trivial⟩ | rfl) ?_ ?_)
                    · first | exact cwo _ | exact trivial | simpa [*, allTyped, fillC, placeOf] using cwo _
                    refine HT_seq <| (HT_runc [⟨true, .v (lb false), none⟩] (by simp [*]; first | exact ⟨rfl, Iff.rfl⟩ | exact ⟨rfl, trivial⟩ | rfl) ?_ ?_)
                    · first | exact cap1 _ | exact trivial | simpa [*] using cap1 _
                    refine (HT_cond rfl (fun h47 => ?_) (fun h47 => HT_skip ?_))
                    · exact Bool.noConfusion h47
                    · try simp only [BN] at h47
                      refine HT_runA ?_
                      exact ⟨k + 1, hk1, by omega, le_mk (fun n => n) [] rfl (by simp [upS, keepS, *]) (by simp [*, upS]) (by simp [upS])⟩
                  · try simp only [BN] at h43
                    refine (HT_exit ?_)
                    refine HT_seq <| HT_runA ?_
                    exact HT_retA fun h => ⟨.inr rfl, h⟩
end Go.Proofs.YteekbhkjfaegiaaGreat
