/- Part 1: contracts of functions of the program and of the reference, and plain facts about what they compute; used by the proof of the claimed statement. Conditions: as each theorem states. -/
import Derived.Test.YteekbhkjfaegiaaGreatT18
set_option linter.unusedSimpArgs false
set_option linter.unusedVariables false
set_option linter.unnecessarySimpa false
set_option maxRecDepth 100000
set_option maxHeartbeats 2000000
namespace Go.Proofs.YteekbhkjfaegiaaGreat
open Go Go.Hl

@[simp] theorem ar43 : arrOf Tryz.prog 43 = some (2, 3) := by kernel_rfl
theorem psF_len (ap : List St → Bool) : ∀ (i : Nat) (bd : List St) (l : List Int) (r : Bool), (psF ap i bd l r).2.1.length ≤ l.length
  | 0, bd, l, r => Nat.le_refl _
  | i + 1, bd, l, r => by
    unfold psF
    split
    · refine Nat.le_trans (psF_len ap i _ _ _) ?_
      simp only [List.length_append, List.length_take, List.length_drop]
      have : 1 ≤ szO (fndL bd i) := by
        cases fndL bd i with
        | none => exact Nat.le_refl _
        | some s => exact szS_pos s
      omega
    · exact psF_len ap i _ _ _
theorem rdF_len (ap : List St → Bool) : ∀ (n : Nat) (bd : List St) (l : List Int), (rdF ap n bd l).2.length ≤ l.length
  | 0, bd, l => Nat.le_refl _
  | n + 1, bd, l => by
    rw [rdF_succ]
    unfold finR
    have := psF_len ap l.length bd l false
    split
    · exact Nat.le_trans (rdF_len ap n _ _) this
    · exact this
theorem redF_len (f : Fl) (v : Vw) (a b : Int) : (redF f v a b).2.length ≤ szL f.body := by
  unfold redF
  have := rdF_len (apB f v a b) (szL f.body + 1) f.body (idxs (szL f.body))
  rwa [idxs_len] at this
theorem least_law (f : Fl) (v : Vw) (a b : Int) (d : Nat) : Con Tryz.prog 4 true [aF f, aW v, .agg [.c (iC a), .c (iC b)]] (.v (lb true)) none d := by
  have ck := known_con
  have csm := small_con f
  obtain ⟨SM, hSM⟩ : ∃ x, smB f = x := ⟨_, rfl⟩
  have hin : SM = true → f.vars.length ≤ 1000000 ∧ f.hats.length ≤ 1000000 ∧ nodesS f.body + nodesH f.hats ≤ 1000000 ∧ bndL f.body = true := fun h => smB_in (hSM.trans h)
  rw [hSM] at csm
  obtain ⟨A, hA⟩ : ∃ x, askC f v = x := ⟨_, rfl⟩
  have hgd := fun (h : SM = true) (h0 : A = 0) => (ask_gd (v := v) (hin h).1 (hin h).2.1 (hin h).2.2.1 (hin h).2.2.2 (hA.trans h0)).1
  have csp := fun (h : SM = true) (h0 : A = 0) => space13_con f.vars 1 (by decide) (varsC_good (hgd h h0).vc) (hgd h h0).hv (vc_spc (hgd h h0).vc 1 (by decide) (by decide))
  obtain ⟨N, hN⟩ : ∃ x, spc f.vars 1 = x := ⟨_, rfl⟩
  have cap := fun (h : SM = true) (h0 : A = 0) (ha : 0 ≤ a ∧ a < N) (hb : 0 ≤ b ∧ b < N) => apart_con f v a b (hgd h h0) (hN ▸ ha) (hN ▸ hb)
  have crd := fun (h : SM = true) (h0 : A = 0) (ha : 0 ≤ a ∧ a < N) (hb : 0 ≤ b ∧ b < N) => reduced_con f v a b (hgd h h0) (hN ▸ ha) (hN ▸ hb)
  have hapb : (!decide (obsF f v a = obsF f v b)) = apB f v a b f.body := rfl
  obtain ⟨E, hE⟩ : ∃ x, apB f v a b f.body = x := ⟨_, rfl⟩
  obtain ⟨R, hR⟩ : ∃ x, (redF f v a b).2 = x := ⟨_, rfl⟩
  obtain ⟨e, he⟩ : ∃ x, lstC f v a b = x := ⟨_, rfl⟩
  obtain ⟨out, hout⟩ : ∃ out : List Int, if e = 0 then (redF f v a b).2 = out else out = [] := by
    by_cases h : e = 0
    · exact ⟨_, by rw [if_pos h]⟩
    · exact ⟨[], by rw [if_neg h]⟩
  have cas := fun (h : SM = true) (hp : v.pub.length ≤ 1000000) => asked_con f v (hin h).1 (hin h).2.1 (hin h).2.2.1 (hin h).2.2.2 hp
  have cpp := fun (h : SM = true) (hp : v.pub.length ≤ 1000000) => leastP_con f v (hin h).1 (hin h).2.1 (hin h).2.2.1 (hin h).2.2.2 hp a b e out he hout
  have hlr : SM = true → A = 0 → R.length ≤ 1000000 := by
    intro h h0
    rw [← hR]
    have := (hin h).2.2.1
    have h2 := szL_le f.body
    exact Nat.le_trans (redF_len f v a b) (by omega)
  have ceq := fun (h : SM = true) (h0 : A = 0) => eqSl_con R R (by have := hlr h h0; omega) (by have := hlr h h0; omega)
  unfold lstC at he
  rw [hapb] at cap
  simp only [hA, hN, hE, hR, decide_true] at cas csp cap crd he hout ceq
  clear hSM hA hN hE hR hapb hgd hin hlr
  obtain ⟨vars, hats, body⟩ := f
  obtain ⟨pub, tm⟩ := v
  simp only at cas cpp csp
  refine con_of_HT Tryz.func4 rfl (by kernel_rfl) (Nat.le_of_ble_eq_true rfl) ?_
  simp only [Tryz.f4]
  simp only [aF, Fl.enc, aW, List.map_cons, List.map_nil] at csm csp cap crd cas cpp ⊢
  refine HT_seq <| HT_runA ?_
  refine HT_seq <| HT_seq <| (HT_runc [⟨true, .v (lb true), none⟩] (by simp [*]; first | exact ⟨rfl, Iff.rfl⟩ | exact ⟨rfl, trivial⟩ | rfl) ?_ ?_)
  · first | exact ck _ | exact trivial | simpa [*] using ck _
  refine (HT_cond rfl (fun h2 => ?_) (fun h2 => HT_skip ?_))
  · exact Bool.noConfusion h2
  · try simp only [BN] at h2
    refine HT_seq <| HT_seq <| (HT_runc [⟨true, .v (lb SM), none⟩] (by simp [*]; first | exact ⟨rfl, Iff.rfl⟩ | exact ⟨rfl, trivial⟩ | rfl) ?_ ?_)
    · first | exact csm _ | exact trivial | simpa [*] using csm _
    refine (HT_cond rfl (fun h6 => ?_) (fun h6 => HT_skip ?_))
    · try simp only [BN] at h6
      refine HT_seq <| HT_runA ?_
      exact HT_retA fun h => ⟨.inr rfl, h⟩
    · try simp only [BN] at h6
      have h6' : SM = true ∧ pub.length ≤ 10 := by
        cases SM with
        | false => simp at h6
        | true =>
          have h7 : (pub.length : Int) ≤ 10 := by simpa using h6
          exact ⟨rfl, by omega⟩
      obtain ⟨hS, hpl⟩ := h6'
      have cas := cas hS (by omega)
      have cpp := cpp hS (by omega)
      have csp := csp hS
      have cap := cap hS
      have crd := crd hS
      have ceq := ceq hS
      clear csm h6 ck
      refine HT_seq <| (HT_drun (by kernel_rfl) (by kernel_rfl) (by rfl) (by simp [*]; rfl) ?_)
      refine HT_seq <| (HT_runc [⟨false, .tup [.one (.c (.sl 1 (encIs out))), li e], none⟩] (by simp [*]; first | exact ⟨rfl, Iff.rfl⟩ | exact ⟨rfl, trivial⟩ | rfl) ?_ ?_)
      · first | exact cpp _ | exact trivial | simpa [*] using cpp _
      refine HT_seq <| (HT_runc [⟨true, .v (li A), none⟩] (by simp [*]; first | exact ⟨rfl, Iff.rfl⟩ | exact ⟨rfl, trivial⟩ | rfl) ?_ ?_)
      · first | exact cas _ | exact trivial | simpa [*] using cas _
      refine (HT_cutU [3, 4, 7, 8, 9, 10] (fun (z : Unit) => [(11, .v (li e))]) (fun (z : Unit) => [(3, .box [.c (.sl 5 (encVs vars)), .c (.sl 6 (encHs hats)), .c (.sl 10 (encSs body))]), (4, .box [.c (.sl 1 (encIs pub)), .c (bC tm)])]) (fun (z : Unit) => True) ?_ ?_)
      ·
        refine HT_seq <| HT_runA ?_
        refine (HT_cond rfl (fun h14 => ?_) (fun h14 => HT_skip ?_))
        · try simp only [BN] at h14
          have hA0 : A = 0 := by simpa using h14
          have csp := csp hA0
          have cap := cap hA0
          clear h14
          refine HT_seq <| (HT_runc [⟨true, .tup [li N, li 0], none⟩] (by simp [*]; first | exact ⟨rfl, Iff.rfl⟩ | exact ⟨rfl, trivial⟩ | rfl) ?_ ?_)
          · first | exact csp _ | exact trivial | simpa [*] using csp _
          refine HT_block <| HT_seq <| HT_runA ?_
          refine (HT_cond rfl (fun h17 => ?_) (fun h17 => ?_))
          · try simp only [BN] at h17
            have h17' : a < 0 ∨ N ≤ a ∨ b < 0 ∨ N ≤ b := by
              first | omega | (simp at h17; omega)
            have hcs : e = 3 := by
              rw [if_neg (by simpa using hA0), if_pos h17'] at he
              exact he.symm
            subst hcs
            clear he h17 cap crd hout
            refine HT_runA ?_
            exact ⟨(), trivial, le_mk (fun n => n) [] rfl (by simp [upS, keepS, *]) (by simp [*, upS]) (by simp [upS])⟩
          · try simp only [BN] at h17
            have h17' : ¬ (a < 0 ∨ N ≤ a ∨ b < 0 ∨ N ≤ b) := by
              first | omega | (simp at h17; omega)
            rw [if_neg (by simpa using hA0), if_neg h17'] at he
            have cap := cap (by omega) (by omega)
            clear h17
            refine HT_seq <| (HT_runc [⟨true, .v (lb E), none⟩] (by simp [*]; first | exact ⟨rfl, Iff.rfl⟩ | exact ⟨rfl, trivial⟩ | rfl) ?_ ?_)
            · first | exact cap _ | exact trivial | simpa [*] using cap _
            refine (HT_cond rfl (fun h21 => ?_) (fun h21 => HT_skip ?_))
            · try simp only [BN] at h21
              have hz : E = false := by simpa using h21
              subst hz
              rw [if_neg (by decide)] at he
              subst he
              clear cap crd hout h21
              refine HT_runA ?_
              exact ⟨(), trivial, le_mk (fun n => n) [] rfl (by simp [upS, keepS, *]) (by simp [*, upS]) (by simp [upS])⟩
            · try simp only [BN] at h21
              have hz : E = true := by simpa using h21
              subst hz
              rw [if_pos rfl] at he
              subst he hA0
              clear cap crd hout h21
              exact ⟨(), trivial, le_mk (fun n => n) [] rfl (by simp [upS, keepS, *]) (by simp [*, upS]) (by simp [upS])⟩
        · try simp only [BN] at h14
          have hA0 : ¬ A = 0 := by simpa using h14
          rw [if_pos hA0] at he
          subst he
          clear h14 csp cap crd hout
          exact ⟨(), trivial, le_mk (fun n => n) [] rfl (by simp [upS, keepS, *]) (by simp [*, upS]) (by simp [upS])⟩
      rintro ⟨⟩ hz
      simp only [upS, keepS, insS]
      try simp only [keepS, KN, Nat.reduceBEq, if_true, if_false, ins, Nat.reduceLT]
      refine HT_seq <| HT_seq <| HT_runA ?_
      refine (HT_cond rfl (fun h27 => ?_) (fun h27 => HT_skip ?_))
      · try simp only [BN] at h27
        have hne : ¬ e = 0 := by simpa using h27
        rw [if_neg hne] at hout
        subst hout
        clear he csp cap crd cpp cas
        refine HT_seq <| HT_runA ?_
        exact HT_retA fun h => ⟨.inr rfl, h⟩
      · try simp only [BN] at h27
        have he0 : e = 0 := by simpa using h27
        subst he0
        rw [if_pos rfl] at hout
        subst hout
        have hA0 : A = 0 := by
          rcases Int.decEq A 0 with h | h
          · rw [if_pos h] at he
            exact he
          · exact h
        have ceq := ceq hA0
        rw [if_neg (by simpa using hA0)] at he
        have hrg : ¬ (a < 0 ∨ N ≤ a ∨ b < 0 ∨ N ≤ b) := by
          intro h
          rw [if_pos h] at he
          cases he
        have crd := crd hA0 (by omega) (by omega)
        clear he csp cap cpp cas h27
        refine HT_seq <| (HT_runc [⟨false, .v (.one (.c (.sl 1 (encIs R)))), none⟩, ⟨true, .v (lb true), none⟩] (by simp [*]; first | exact ⟨rfl, Iff.rfl⟩ | exact ⟨rfl, trivial⟩ | rfl) ?_ ?_)
        · first | exact ⟨crd _, ceq _⟩ | exact trivial | (repeat' first | exact trivial | exact crd _ | exact ceq _ | apply And.intro)
        exact HT_retA fun h => ⟨.inr rfl, h⟩
end Go.Proofs.YteekbhkjfaegiaaGreat
