/- Part 15: contracts of functions of the program and of the reference, and plain facts about what they compute; used by the proof of the claimed statement. Conditions: as each theorem states. -/
import Derived.Test.YteekbhkjfaegiaaGreatT14
import Derived.Test.YteekbhkjfaegiaaGreatT12
set_option linter.unusedSimpArgs false
set_option linter.unusedVariables false
set_option linter.unnecessarySimpa false
set_option maxRecDepth 100000
set_option maxHeartbeats 2000000
namespace Go.Proofs.YteekbhkjfaegiaaGreat
open Go Go.Hl

theorem con_argR {P : Program} {f : FuncId} {fresh : Bool} {r : RV} {ob : Option Ob} {d n : Nat} {args : List TV} {t t' : TV} (h : Con P f fresh (args.set n t') r ob d) (hx : args[n]? = some t)
    (hw : ∀ (F : Nat → Prop) (γ : Nat → Value) (w : World) v, TVRel F γ w t v → TVRel F γ w t' v) : Con P f fresh args r ob d := by
  refine ⟨h.1, fun F w vs hF hsz hargs => h.2 F w vs hF (by simpa using hsz) fun j t2 u ht hu => ?_⟩
  rw [List.getElem?_set] at ht
  split at ht
  · rename_i e
    subst e
    split at ht
    · cases ht
      exact hw _ _ _ _ (hargs n _ u hx hu)
    · cases ht
  · exact hargs j t2 u ht hu
instance : DecidableEq Obs := fun a b => decidable_of_iff (a.outs = b.outs ∧ a.time = b.time) (by cases a; cases b; simp)
theorem con_fn {P : Program} {f g : FuncId} {fresh : Bool} {r : RV} {ob : Option Ob} {d n : Nat} {args : List TV} (h : Con P f fresh (args.set n (.one (.c (.fn g [])))) r ob d) (hx : args[n]? = some (.one (.fn g []))) : Con P f fresh args r ob d :=
  con_argR h hx fun F γ w v hv => by
    obtain ⟨vs, rfl, hl, _⟩ := hv
    have : vs = [] := List.eq_nil_of_length_eq_zero (by simpa using hl)
    subst this
    exact CRel.fn g [] [] rfl (by simp)
/-! ## what is asked of a program and a view -/
structure Gd (f : Fl) : Prop where
  hv : f.vars.length ≤ 1000000
  hh : f.hats.length ≤ 1000000
  hn : nodesS f.body + nodesH f.hats ≤ 1000000
  hb : bndL f.body = true
  vc : varsC f.vars = 0
  nr : ofK f.vars 3 = []
theorem vc_spc {vars : List Vr} (h : varsC vars = 0) : ∀ k, 1 ≤ k → k ≤ 3 → spc vars k ≤ 4096 := by
  intro k h1 h2
  unfold varsC at h
  split at h
  · split at h
    · cases h
    · rename_i hb
      simp only [List.any_cons, List.any_nil, Bool.or_false, Bool.or_eq_true, badK, decide_eq_true_eq, not_or] at hb
      have : k = 1 ∨ k = 2 ∨ k = 3 := by omega
      rcases this with rfl | rfl | rfl <;> omega
  · rename_i h0; exact absurd h h0
def rawO (f : Fl) (v : Vw) (r : Int) : Obs := (runF f ⟨uL (ofK f.vars 1) r, v.pub, []⟩).1
def obsF (f : Fl) (v : Vw) (r : Int) : Obs := seenO (rawO f v r) v.timed
theorem run_outs {f : Fl} {i : Inp} (hb : bndL f.body = true) : (runF f i).1.outs.length ≤ 1000000000 := by
  unfold runF playF
  split
  · rename_i h0
    split
    · rename_i hc
      split
      · have h1 := (code_wf hb (by assumption)).2.1
        have h2 := (steps_len f.vars (hvals (stL i f.vars 0 0 0 [] true).1 f.hats) f.body ⟨(stL i f.vars 0 0 0 [] true).1, [], 0⟩).2
        simp only [List.length_nil] at h2 ⊢
        omega
      · simp [st0]
    · simp [st0]
  · simp
theorem obs_outs {f : Fl} {v : Vw} {r : Int} (hb : bndL f.body = true) : (obsF f v r).outs.length ≤ 1000000000 := by
  have := run_outs (f := f) (i := ⟨uL (ofK f.vars 1) r, v.pub, []⟩) hb
  unfold obsF seenO rawO
  split <;> exact this
theorem observe_con (f : Fl) (v : Vw) (r : Int) (hg : Gd f) (h0 : 0 ≤ r) (h1 : r < spc f.vars 1) (d : Nat) : Con Tryz.prog 26 false [aF f, aW v, li r] (.v (aO (obsF f v r))) none d := by
  have hgv := varsC_good hg.vc
  have ci := inpD_con f.vars hgv hg.hv (vc_spc hg.vc) r 0 0 ⟨h0, h1⟩ ⟨Int.le_refl 0, by have := spc_pos hgv 2; omega⟩ ⟨Int.le_refl 0, by have := spc_pos hgv 3; omega⟩
  rw [hg.nr] at ci
  simp only [uL] at ci
  have cr := runP_con f ⟨uL (ofK f.vars 1) r, v.pub, []⟩ hg.hv hg.hh hg.hn hg.hb
  have cs := seenP_con (rawO f v r) v.timed (run_outs hg.hb)
  have hdef : seenO (rawO f v r) v.timed = obsF f v r := rfl
  rw [hdef] at cs
  have hraw : (runF f ⟨uL (ofK f.vars 1) r, v.pub, []⟩).1 = rawO f v r := rfl
  rw [hraw] at cr
  obtain ⟨A, hA⟩ : ∃ x, uL (ofK f.vars 1) r = x := ⟨_, rfl⟩
  obtain ⟨B, hB⟩ : ∃ x, uL (ofK f.vars 2) 0 = x := ⟨_, rfl⟩
  rw [hA] at ci cr
  rw [hB] at ci
  obtain ⟨e, he⟩ : ∃ x, (runF f ⟨A, v.pub, []⟩).2 = x := ⟨_, rfl⟩
  rw [he] at cr
  obtain ⟨⟨ro, rt⟩, hR⟩ : ∃ x, rawO f v r = x := ⟨_, rfl⟩
  obtain ⟨⟨bo, bt⟩, hO⟩ : ∃ x, obsF f v r = x := ⟨_, rfl⟩
  rw [hR] at cr cs
  rw [hO] at cs ⊢
  obtain ⟨vars, hats, body⟩ := f
  obtain ⟨pub, tm⟩ := v
  simp only at ci cr cs
  simp only [aF, Fl.enc, aI, aO, List.map_cons, List.map_nil, show encIs [] = [] from rfl] at ci cr cs
  clear hA hB he hR hO hdef hraw hg hgv h1
  refine con_of_HT Tryz.func26 rfl (by kernel_rfl) (Nat.le_of_ble_eq_true rfl) ?_
  simp only [Tryz.f26]
  simp only [aF, Fl.enc, aW, aO, List.map_cons, List.map_nil]
  refine HT_seq <| HT_runA ?_
  refine HT_seq <| (HT_runc [⟨false, .tup [.agg [.c (.sl 1 (encIs A)), .c (.sl 1 (encIs B)), .c (.sl 1 [])], li 0], none⟩] (by simp [*]; first | exact ⟨rfl, Iff.rfl⟩ | exact ⟨rfl, trivial⟩ | rfl) ?_ ?_)
  · first | exact ci _ | exact trivial | simpa [*] using ci _
  refine HT_seq <| HT_runA ?_
  refine HT_seq <| (HT_runc [⟨false, .tup [.agg [.c (.sl 1 (encIs ro)), .c (iC rt)], li e], none⟩] (by simp [*]; first | exact ⟨rfl, Iff.rfl⟩ | exact ⟨rfl, trivial⟩ | rfl) ?_ ?_)
  · first | exact cr _ | exact trivial | simpa [*] using cr _
  refine HT_seq <| (HT_runc [⟨false, .v (.agg [.c (.sl 1 (encIs bo)), .c (iC bt)]), none⟩] (by simp [*]; first | exact ⟨rfl, Iff.rfl⟩ | exact ⟨rfl, trivial⟩ | rfl) ?_ ?_)
  · first | exact cs _ | exact trivial | simpa [*] using cs _
  exact HT_ret ⟨.inr rfl, _, le_refl _, ⟨⟨_, by simp; rfl, by simp [resR]⟩, by simp, fun h => by cases h⟩⟩
theorem secrets_con (f : Fl) (hl : f.vars.length ≤ 1000000) (hc : varsC f.vars = 0) (d : Nat) : Con Tryz.prog 27 true [aF f] (.v (li (spc f.vars 1))) none d := by
  have cs := spaceD_con f.vars 1 (by decide) (varsC_good hc) hl (vc_spc hc 1 (by decide) (by decide))
  obtain ⟨vars, hats, body⟩ := f
  simp only at cs ⊢
  obtain ⟨n, hn⟩ : ∃ x, spc vars 1 = x := ⟨_, rfl⟩
  rw [hn] at cs ⊢
  clear hn hc
  refine con_of_HT Tryz.func27 rfl (by kernel_rfl) (Nat.le_of_ble_eq_true rfl) ?_
  simp only [Tryz.f27]
  simp only [aF, Fl.enc, List.map_cons, List.map_nil]
  refine HT_seq <| HT_runA ?_
  refine HT_seq <| (HT_runc [⟨true, .tup [li n, li 0], none⟩] (by simp [*]; first | exact ⟨rfl, Iff.rfl⟩ | exact ⟨rfl, trivial⟩ | rfl) ?_ ?_)
  · first | exact cs _ | exact trivial | simpa [*] using cs _
  refine HT_seq <| HT_runA ?_
  exact HT_retA fun h => ⟨.inr rfl, h⟩
def argC (c : Int) : Int := if c = 2 then 1 else c
def askC (f : Fl) (v : Vw) : Int := if codeC f ≠ 0 then codeC f else if (ofK f.vars 3).length ≠ 0 then 14 else argC (rkF f.vars 2 v.pub).2
theorem rnd_con (w : Vr) (d : Nat) : Con Tryz.prog 54 true [aV w] (.v (lb (decide (w.kind = 3)))) none d := by
  refine con_of_HT Tryz.func54 rfl (by kernel_rfl) (Nat.le_of_ble_eq_true rfl) ?_
  simp only [Tryz.f54]
  refine HT_seq <| HT_runA ?_
  refine HT_seq <| HT_runA ?_
  exact HT_retA fun h => ⟨.inr rfl, h⟩
theorem any_ofK (vars : List Vr) : (vars.any fun w => decide (w.kind = 3)) = decide ((ofK vars 3).length ≠ 0) := by
  unfold ofK
  induction vars with
  | nil => rfl
  | cons v l ih =>
    simp only [List.any_cons, ih]
    by_cases h : v.kind = 3
    · rw [List.filter_cons_of_pos (by simpa using h)]
      simp [h]
    · rw [List.filter_cons_of_neg (by simpa using h)]
      simp [h]
theorem checkE_con (f : Fl) (v : Vw) (hv : f.vars.length ≤ 1000000) (hh : f.hats.length ≤ 1000000) (hn : nodesS f.body + nodesH f.hats ≤ 1000000) (hb : bndL f.body = true) (d : Nat) :
    Con Tryz.prog 25 true [aF f, aW v] (.v (li (askC f v))) none d := by
  have cc := checkP_con f hv hh (by omega) hb
  have ca := conV_con f.vars 54 [] (fun w => decide (w.kind = 3)) (by omega) (fun w _ d => rnd_con w d)
  rw [any_ofK] at ca
  have ca := fun d => con_fn (n := 1) (args := [lV f.vars, .one (.fn 54 [])]) (ca d) rfl
  have ck := fun h : codeC f = 0 => rankD_con f.vars 2 v.pub (by decide) (varsC_good (code_split h).2.1) hv (vc_spc (code_split h).2.1 2 (by decide) (by decide))
  obtain ⟨res, hres⟩ : ∃ r, askC f v = r := ⟨_, rfl⟩
  rw [hres]
  unfold askC at hres
  obtain ⟨C, hC⟩ : ∃ r, codeC f = r := ⟨_, rfl⟩
  rw [hC] at cc ck hres
  obtain ⟨vars, hats, body⟩ := f
  obtain ⟨pub, tm⟩ := v
  simp only at ca ck hres
  obtain ⟨⟨r1, r2⟩, hr⟩ : ∃ r, rkF vars 2 pub = r := ⟨_, rfl⟩
  obtain ⟨m, hm⟩ : ∃ r, (ofK vars 3).length = r := ⟨_, rfl⟩
  rw [hr] at ck hres
  rw [hm] at ca hres
  unfold argC at hres
  simp only at ck hres
  clear hC hr hm hv hh hn hb
  refine con_of_HT Tryz.func25 rfl (by kernel_rfl) (Nat.le_of_ble_eq_true rfl) ?_
  simp only [Tryz.f25]
  simp only [aF, Fl.enc, aW, List.map_cons, List.map_nil] at cc ⊢
  refine HT_seq <| HT_runA ?_
  refine HT_seq <| HT_seq <| (HT_runc [⟨true, .v (li C), none⟩] (by simp [*]; first | exact ⟨rfl, Iff.rfl⟩ | exact ⟨rfl, trivial⟩ | rfl) ?_ ?_)
  · first | exact cc _ | exact trivial | simpa [*] using cc _
  refine HT_seq <| HT_runA ?_
  refine (HT_cond rfl (fun h3 => ?_) (fun h3 => HT_skip ?_))
  · try simp only [BN] at h3
    rw [if_pos h3] at hres
    subst hres
    refine HT_seq <| HT_runA ?_
    exact HT_retA fun h => ⟨.inr rfl, h⟩
  · try simp only [BN] at h3
    have hc0 : C = 0 := by simpa using h3
    rw [if_neg (by simpa using h3)] at hres
    have ck := ck hc0
    clear cc h3
    refine HT_seq <| HT_seq <| (HT_runc [⟨true, .v (lb (decide (m ≠ 0))), none⟩] (by simp [*]; first | exact ⟨rfl, Iff.rfl⟩ | exact ⟨rfl, trivial⟩ | rfl) ?_ ?_)
    · first | exact ca _ | exact trivial | simpa [*] using ca _
    refine (HT_cond rfl (fun h7 => ?_) (fun h7 => HT_skip ?_))
    · try simp only [BN] at h7
      rw [if_pos (by simpa using h7)] at hres
      subst hres
      refine HT_seq <| HT_runA ?_
      exact HT_retA fun h => ⟨.inr rfl, h⟩
    · try simp only [BN] at h7
      rw [if_neg (by simpa using h7)] at hres
      clear ca h7
      refine HT_seq <| (HT_runc [⟨true, .tup [li r1, li r2], none⟩] (by simp [*]; first | exact ⟨rfl, Iff.rfl⟩ | exact ⟨rfl, trivial⟩ | rfl) ?_ ?_)
      · first | exact ck _ | exact trivial | simpa [*] using ck _
      refine HT_seq <| HT_seq <| HT_runA ?_
      refine (HT_cond rfl (fun h12 => ?_) (fun h12 => HT_skip ?_))
      · try simp only [BN] at h12
        rw [if_pos (by simpa using h12)] at hres
        subst hres
        refine HT_runA ?_
        refine HT_seq <| HT_runA ?_
        exact HT_retA fun h => ⟨.inr rfl, h⟩
      · try simp only [BN] at h12
        rw [if_neg (by simpa using h12)] at hres
        subst hres
        refine HT_seq <| HT_runA ?_
        exact HT_retA fun h => ⟨.inr rfl, h⟩
theorem asked_con (f : Fl) (v : Vw) (hv : f.vars.length ≤ 1000000) (hh : f.hats.length ≤ 1000000) (hn : nodesS f.body + nodesH f.hats ≤ 1000000) (hb : bndL f.body = true) (d : Nat) :
    Con Tryz.prog 9 true [aF f, aW v] (.v (li (askC f v))) none d := by
  have cc := checkR_con f hv hh (by omega) hb
  have co := of13_con f.vars 3 hv
  have ck := fun h : codeC f = 0 => rankR_con f.vars 2 v.pub (by decide) (varsC_good (code_split h).2.1) hv (vc_spc (code_split h).2.1 2 (by decide) (by decide))
  have hol := ofK_len f.vars 3
  obtain ⟨res, hres⟩ : ∃ r, askC f v = r := ⟨_, rfl⟩
  rw [hres]
  unfold askC at hres
  obtain ⟨C, hC⟩ : ∃ r, codeC f = r := ⟨_, rfl⟩
  rw [hC] at cc ck hres
  obtain ⟨vars, hats, body⟩ := f
  obtain ⟨pub, tm⟩ := v
  simp only at co ck hres hol hv
  obtain ⟨⟨r1, r2⟩, hr⟩ : ∃ r, rkF vars 2 pub = r := ⟨_, rfl⟩
  obtain ⟨S, hS⟩ : ∃ r, ofK vars 3 = r := ⟨_, rfl⟩
  rw [hr] at ck hres
  rw [hS] at co hres hol
  unfold argC at hres
  simp only at ck hres
  clear hC hr hS hh hn hb
  refine con_of_HT Tryz.func9 rfl (by kernel_rfl) (Nat.le_of_ble_eq_true rfl) ?_
  simp only [Tryz.f9]
  simp only [aF, Fl.enc, aW, List.map_cons, List.map_nil] at cc ⊢
  refine HT_seq <| HT_runA ?_
  refine HT_seq <| HT_seq <| (HT_runc [⟨true, .v (li C), none⟩] (by simp [*]; first | exact ⟨rfl, Iff.rfl⟩ | exact ⟨rfl, trivial⟩ | rfl) ?_ ?_)
  · first | exact cc _ | exact trivial | simpa [*] using cc _
  refine HT_seq <| HT_runA ?_
  refine (HT_cond rfl (fun h3 => ?_) (fun h3 => HT_skip ?_))
  · try simp only [BN] at h3
    rw [if_pos h3] at hres
    subst hres
    refine HT_seq <| HT_runA ?_
    exact HT_retA fun h => ⟨.inr rfl, h⟩
  · try simp only [BN] at h3
    have hc0 : C = 0 := by simpa using h3
    rw [if_neg (by simpa using h3)] at hres
    have ck := ck hc0
    clear cc h3
    refine HT_seq <| HT_seq <| (HT_runc [⟨false, .v (lV S), none⟩] (by simp [*]; first | exact ⟨rfl, Iff.rfl⟩ | exact ⟨rfl, trivial⟩ | rfl) ?_ ?_)
    · first | exact co _ | exact trivial | simpa [*] using co _
    refine (HT_cond rfl (fun h7 => ?_) (fun h7 => HT_skip ?_))
    · try simp only [BN] at h7
      rw [if_pos (by omega)] at hres
      subst hres
      refine HT_seq <| HT_runA ?_
      exact HT_retA fun h => ⟨.inr rfl, h⟩
    · try simp only [BN] at h7
      rw [if_neg (by omega)] at hres
      clear co h7
      refine HT_seq <| (HT_runc [⟨true, .tup [li r1, li r2], none⟩] (by simp [*]; first | exact ⟨rfl, Iff.rfl⟩ | exact ⟨rfl, trivial⟩ | rfl) ?_ ?_)
      · first | exact ck _ | exact trivial | simpa [*] using ck _
      refine HT_seq <| HT_seq <| HT_runA ?_
      refine (HT_cond rfl (fun h12 => ?_) (fun h12 => HT_skip ?_))
      · try simp only [BN] at h12
        rw [if_pos (by simpa using h12)] at hres
        subst hres
        refine HT_seq <| HT_runA ?_
        exact HT_retA fun h => ⟨.inr rfl, h⟩
      · try simp only [BN] at h12
        rw [if_neg (by simpa using h12)] at hres
        subst hres
        refine HT_seq <| HT_runA ?_
        exact HT_retA fun h => ⟨.inr rfl, h⟩
theorem same_con (a b : Obs) (ha : a.outs.length ≤ 1000000000) (hb : b.outs.length ≤ 1000000000) (d : Nat) : Con Tryz.prog 11 true [aO a, aO b] (.v (lb (decide (a = b)))) none d := by
  obtain ⟨ao, at_⟩ := a
  obtain ⟨bo, bt⟩ := b
  simp only at ha hb
  have cq := eqIg_con ao bo ha hb
  obtain ⟨E, hE⟩ : ∃ x, decide (ao = bo) = x := ⟨_, rfl⟩
  have hz : decide ((⟨ao, at_⟩ : Obs) = ⟨bo, bt⟩) = (decide (at_ = bt) && E) := by
    rw [← hE]
    by_cases h1 : at_ = bt <;> by_cases h2 : ao = bo <;> simp [h1, h2]
  rw [hz]
  rw [hE] at cq
  clear hE hz ha hb
  refine con_of_HT Tryz.func11 rfl (by kernel_rfl) (Nat.le_of_ble_eq_true rfl) ?_
  simp only [Tryz.f11]
  simp only [aO]
  refine HT_seq <| HT_runA ?_
  by_cases ht : at_ = bt
  · refine HT_seq <| (HT_runc [⟨true, .v (lb E), none⟩] (by simp [*]; first | exact ⟨rfl, Iff.rfl⟩ | exact ⟨rfl, trivial⟩ | rfl) ?_ ?_)
    · first | exact cq _ | exact trivial | simpa [*] using cq _
    exact HT_retA fun h => ⟨.inr rfl, h⟩
  · refine HT_seq <| (HT_runcS [none] (by simp [*]; first | exact ⟨rfl, trivial⟩ | exact ⟨rfl, Iff.rfl⟩ | rfl) ?_ ?_)
    · trivial
    exact HT_retA fun h => ⟨.inr rfl, h⟩
theorem seen_con (f : Fl) (v : Vw) (r : Int) (hg : Gd f) (h0 : 0 ≤ r) (h1 : r < spc f.vars 1) (d : Nat) : Con Tryz.prog 12 false [aF f, aW v, li r] (.v (aO (obsF f v r))) none d := by
  have hgv := varsC_good hg.vc
  have ci := unrank13_con f.vars 1 (by decide) hgv hg.hv (vc_spc hg.vc 1 (by decide) (by decide)) r h0 h1
  have cr := runG_con f ⟨uL (ofK f.vars 1) r, v.pub, []⟩ hg.hv hg.hh hg.hn hg.hb
  have cs := seenR_con (rawO f v r) v.timed
  have hdef : seenO (rawO f v r) v.timed = obsF f v r := rfl
  rw [hdef] at cs
  have hraw : (runF f ⟨uL (ofK f.vars 1) r, v.pub, []⟩).1 = rawO f v r := rfl
  rw [hraw] at cr
  obtain ⟨A, hA⟩ : ∃ x, uL (ofK f.vars 1) r = x := ⟨_, rfl⟩
  rw [hA] at ci cr
  obtain ⟨e, he⟩ : ∃ x, (runF f ⟨A, v.pub, []⟩).2 = x := ⟨_, rfl⟩
  rw [he] at cr
  obtain ⟨⟨ro, rt⟩, hR⟩ : ∃ x, rawO f v r = x := ⟨_, rfl⟩
  obtain ⟨⟨bo, bt⟩, hO⟩ : ∃ x, obsF f v r = x := ⟨_, rfl⟩
  rw [hR] at cr cs
  rw [hO] at cs ⊢
  obtain ⟨vars, hats, body⟩ := f
  obtain ⟨pub, tm⟩ := v
  simp only at ci cr cs
  simp only [aF, Fl.enc, aI, aO, List.map_cons, List.map_nil, show encIs [] = [] from rfl] at ci cr cs
  have cr' := fun d => con_arg (n := 1) (args := [.agg [.c (.sl 5 (encVs vars)), .c (.sl 6 (encHs hats)), .c (.sl 10 (encSs body))], .agg [.c (.sl 1 (encIs A)), .c (.sl 1 (encIs pub)), .c (.lit nilS)]]) (cr d) rfl (by (repeat' (first | exact LWk.nil | apply LWk.cons | exact CWk.refl _ | exact CWk.nil _)))
  clear hA he hR hO hdef hraw hg hgv h1 cr
  refine con_of_HT Tryz.func12 rfl (by kernel_rfl) (Nat.le_of_ble_eq_true rfl) ?_
  simp only [Tryz.f12]
  simp only [aF, Fl.enc, aW, aO, List.map_cons, List.map_nil]
  refine HT_seq <| HT_runA ?_
  refine HT_seq <| (HT_runc [⟨false, .tup [lI A, li 0], none⟩] (by simp [*]; first | exact ⟨rfl, Iff.rfl⟩ | exact ⟨rfl, trivial⟩ | rfl) ?_ ?_)
  · first | exact ci _ | exact trivial | simpa [*] using ci _
  refine HT_seq <| (HT_runc [⟨false, .tup [.agg [.c (.sl 1 (encIs ro)), .c (iC rt)], li e], none⟩] (by simp [*]; first | exact ⟨rfl, Iff.rfl⟩ | exact ⟨rfl, trivial⟩ | rfl) ?_ ?_)
  · first | exact cr' _ | exact trivial | simpa [*] using cr' _
  refine HT_seq <| (HT_runc [⟨false, .v (.agg [.c (.sl 1 (encIs bo)), .c (iC bt)]), none⟩] (by simp [*]; first | exact ⟨rfl, Iff.rfl⟩ | exact ⟨rfl, trivial⟩ | rfl) ?_ ?_)
  · first | exact cs _ | exact trivial | simpa [*] using cs _
  exact HT_ret ⟨.inr rfl, _, le_refl _, ⟨⟨_, by simp; rfl, by simp [resR]⟩, by simp, fun h => by cases h⟩⟩
theorem apart_con (f : Fl) (v : Vw) (a b : Int) (hg : Gd f) (ha : 0 ≤ a ∧ a < spc f.vars 1) (hb : 0 ≤ b ∧ b < spc f.vars 1) (d : Nat) : Con Tryz.prog 15 true [aF f, aW v, li a, li b] (.v (lb (!decide (obsF f v a = obsF f v b)))) none d := by
  have c1 := seen_con f v a hg ha.1 ha.2
  have c2 := seen_con f v b hg hb.1 hb.2
  have cs := same_con (obsF f v a) (obsF f v b) (obs_outs hg.hb) (obs_outs hg.hb)
  obtain ⟨A, hA⟩ : ∃ x, obsF f v a = x := ⟨_, rfl⟩
  obtain ⟨B, hB⟩ : ∃ x, obsF f v b = x := ⟨_, rfl⟩
  rw [hA] at c1 cs ⊢
  rw [hB] at c2 cs ⊢
  obtain ⟨S, hS⟩ : ∃ x, decide (A = B) = x := ⟨_, rfl⟩
  rw [hS] at cs ⊢
  obtain ⟨ao, at_⟩ := A
  obtain ⟨bo, bt⟩ := B
  obtain ⟨vars, hats, body⟩ := f
  obtain ⟨pub, tm⟩ := v
  clear hA hB hS hg ha hb
  refine con_of_HT Tryz.func15 rfl (by kernel_rfl) (Nat.le_of_ble_eq_true rfl) ?_
  simp only [Tryz.f15]
  simp only [aF, Fl.enc, aW, aO, List.map_cons, List.map_nil] at c1 c2 cs ⊢
  refine HT_seq <| HT_runA ?_
  refine HT_seq <| (HT_druncH [] [⟨false, .v (.agg [.c (.sl 1 (encIs ao)), .c (iC at_)]), none⟩, ⟨false, .v (.agg [.c (.sl 1 (encIs bo)), .c (iC bt)]), none⟩, ⟨true, .v (lb S), none⟩] (by kernel_rfl) (by kernel_rfl) (by rfl) (by simp [evcH, hokB, hintOf, *]; first | exact ⟨rfl, Iff.rfl⟩ | exact ⟨rfl, trivial⟩ | rfl) ?_ ?_)
  · first | exact ⟨c1 _, c2 _, cs _⟩ | exact trivial | (repeat' first | exact trivial | exact c1 _ | exact c2 _ | exact cs _ | apply And.intro)
  exact HT_retA fun h => ⟨.inr rfl, h⟩
end Go.Proofs.YteekbhkjfaegiaaGreat

namespace Go.Proofs.YteekbhkjfaegiaaGreat
open Go Go.Hl

/-! ## the first pair -/
def fstN (o : Nat → Obs) (n : Nat) : Option Nat := (List.range n).find? fun s => decide (o s ≠ o 0)
theorem fst_none {o : Nat → Obs} {n : Nat} (h : ∀ j, j < n → o j = o 0) : fstN o n = none := by
  unfold fstN
  rw [List.find?_eq_none]
  intro x hx
  simp [h x (by simpa using hx)]
theorem fst_some {o : Nat → Obs} {n k : Nat} (hk : k < n) (hne : o k ≠ o 0) (h : ∀ j, j < k → o j = o 0) : fstN o n = some k := by
  unfold fstN
  rw [List.find?_range_eq_some]
  refine ⟨by simpa using hne, by simpa using hk, fun j hj => by simp [h j hj]⟩
abbrev o0 : Obs := ⟨[], 0⟩
def obsN (f : Fl) (v : Vw) (k : Nat) : Obs := obsF f v (k : Int)
def nSec (f : Fl) : Nat := (spc f.vars 1).toNat
def pairV (f : Fl) (v : Vw) : Option Nat := fstN (obsN f v) (nSec f)
theorem ask_gd {f : Fl} {v : Vw} (hv : f.vars.length ≤ 1000000) (hh : f.hats.length ≤ 1000000) (hn : nodesS f.body + nodesH f.hats ≤ 1000000) (hb : bndL f.body = true) (h : askC f v = 0) : Gd f ∧ codeC f = 0 := by
  unfold askC at h
  split at h
  · rename_i h1
    exact absurd h h1
  · rename_i h1
    have hc : codeC f = 0 := by simpa using h1
    split at h
    · cases h
    · rename_i h2
      exact ⟨⟨hv, hh, hn, hb, (code_split hc).2.1, List.eq_nil_of_length_eq_zero (by simpa using h2)⟩, hc⟩
theorem nSec_pos {f : Fl} (h : varsC f.vars = 0) : 1 ≤ nSec f ∧ ((nSec f : Nat) : Int) = spc f.vars 1 ∧ nSec f ≤ 4096 := by
  have h1 := spc_pos (varsC_good h) 1
  have h2 := vc_spc h 1 (by decide) (by decide)
  unfold nSec
  omega
theorem pairR_con (f : Fl) (v : Vw) (hg : Gd f) (d : Nat) :
    Con Tryz.prog 10 true [aF f, aW v] (.tup [li 0, li (((pairV f v).getD 0 : Nat) : Int), lb (pairV f v).isSome]) none d := by
  obtain ⟨n1, n2, n3⟩ := nSec_pos hg.vc
  have cs := space13_con f.vars 1 (by decide) (varsC_good hg.vc) hg.hv (vc_spc hg.vc 1 (by decide) (by decide))
  have ca := fun (a b : Nat) (ha : a < nSec f) (hb : b < nSec f) => apart_con f v (a : Int) (b : Int) hg ⟨by omega, by omega⟩ ⟨by omega, by omega⟩
  rw [← n2] at cs
  obtain ⟨res, hres⟩ : ∃ r, pairV f v = r := ⟨_, rfl⟩
  rw [hres]
  unfold pairV at hres
  have hob : ∀ k : Nat, obsF f v (k : Int) = obsN f v k := fun k => rfl
  obtain ⟨o, ho⟩ : ∃ o, obsN f v = o := ⟨_, rfl⟩
  obtain ⟨n, hn⟩ : ∃ o, nSec f = o := ⟨_, rfl⟩
  simp only [hob, ho, hn] at ca
  rw [ho, hn] at hres
  rw [hn] at cs n1 n3
  obtain ⟨vars, hats, body⟩ := f
  obtain ⟨pub, tm⟩ := v
  clear hob ho hn hg n2
  refine con_of_HT Tryz.func10 rfl (by kernel_rfl) (Nat.le_of_ble_eq_true rfl) ?_
  simp only [Tryz.f10]
  simp only [aF, Fl.enc, aW, List.map_cons, List.map_nil] at ca ⊢
  refine HT_seq <| HT_runA ?_
  refine HT_seq <| (HT_runc [⟨true, .tup [li (n : Int), li 0], none⟩] (by simp [*]; first | exact ⟨rfl, Iff.rfl⟩ | exact ⟨rfl, trivial⟩ | rfl) ?_ ?_)
  · first | exact cs _ | exact trivial | simpa [*] using cs _
  refine HT_seq <| HT_seq <| HT_runA ?_
  refine HT_block <| (HT_loopU [2, 3, 7] (fun (a : Nat) => [(9, .v (li a))]) (fun (a : Nat) => [(2, .box [.c (.sl 5 (encVs vars)), .c (.sl 6 (encHs hats)), .c (.sl 10 (encSs body))]), (3, .box [.c (.sl 1 (encIs pub)), .c (bC tm)])]) (fun (a : Nat) => a ≤ n ∧ (0 < a → ∀ j, j < n → o j = o 0)) (fun (a : Nat) => n - a) (0 : Nat) ⟨Nat.zero_le _, fun h => absurd h (Nat.lt_irrefl 0)⟩ ?_ ?_)
  · exact le_mk (fun n => n) [] rfl (by simp [*, upS, keepS]) (by simp [*, upS]) (by simp [upS])
  rintro a ⟨hka, hall⟩
  simp only [upS, keepS, insS]
  try simp only [keepS, KN, Nat.reduceBEq, if_true, if_false, ins, Nat.reduceLT]
  clear cs
  refine HT_seq <| HT_seq <| HT_runA ?_
  refine (HT_cond rfl (fun h5 => HT_skip ?_) (fun h5 => ?_))
  · try simp only [BN] at h5
    have hlt : a < n := by omega
    have hw1 : IntKind.i64.wrap ((a : Int) + 1) = (a : Int) + 1 := wrap_in (by omega) (by omega)
    clear h5
    refine HT_seq <| HT_block <| HT_seq <| HT_runA ?_
    refine HT_block <| (HT_loopU [2, 3, 7, 9] (fun (b : Nat) => [(10, .v (li b))]) (fun (b : Nat) => [(2, .box [.c (.sl 5 (encVs vars)), .c (.sl 6 (encHs hats)), .c (.sl 10 (encSs body))]), (3, .box [.c (.sl 1 (encIs pub)), .c (bC tm)])]) (fun (b : Nat) => a + 1 ≤ b ∧ b ≤ n ∧ (a = 0 → ∀ j, j < b → o j = o 0)) (fun (b : Nat) => n - b) (a + 1) ⟨Nat.le_refl _, hlt, fun h j hj => by rw [show j = 0 by omega]⟩ ?_ ?_)
    · exact le_mk (fun n => n) [] rfl (by simp [*, upS, keepS]) (by simp [*, upS]) (by simp [upS])
    rintro b ⟨hab, hbn, h0⟩
    simp only [upS, keepS, insS]
    try simp only [keepS, KN, Nat.reduceBEq, if_true, if_false, ins, Nat.reduceLT]
    refine HT_seq <| HT_seq <| HT_runA ?_
    refine (HT_cond rfl (fun h9 => HT_skip ?_) (fun h9 => ?_))
    · try simp only [BN] at h9
      have hbl : b < n := by omega
      have hw2 : IntKind.i64.wrap ((b : Int) + 1) = (b : Int) + 1 := wrap_in (by omega) (by omega)
      have ca := ca a b hlt hbl
      obtain ⟨E, hE⟩ : ∃ E, decide (o a = o b) = E := ⟨_, rfl⟩
      rw [hE] at ca
      clear h9
      refine HT_seq <| HT_block <| HT_seq <| (HT_runc [⟨true, .v (lb (!E)), none⟩] (by simp [*]; first | exact ⟨rfl, Iff.rfl⟩ | exact ⟨rfl, trivial⟩ | rfl) ?_ ?_)
      · first | exact ca _ | exact trivial | simpa [*] using ca _
      refine (HT_cond rfl (fun h11 => ?_) (fun h11 => HT_skip ?_))
      · try simp only [BN] at h11
        have hne : o a ≠ o b := by
          have : E = false := by simpa using h11
          rw [this] at hE
          simpa using hE
        have ha0 : a = 0 := by
          rcases Nat.eq_zero_or_pos a with h | h
          · exact h
          · exact absurd ((hall h a hlt).trans (hall h b hbl).symm) hne
        subst ha0
        rw [fst_some hbl (fun h => hne h.symm) (h0 rfl)] at hres
        subst hres
        refine HT_seq <| HT_runA ?_
        exact HT_retA fun h => ⟨.inr rfl, h⟩
      · try simp only [BN] at h11
        have heq : o a = o b := by
          have : E = true := by simpa using h11
          rw [this] at hE
          simpa using hE
        refine HT_runA ?_
        exact ⟨b + 1, ⟨by omega, hbl, fun h j hj => by
          rcases Nat.lt_or_eq_of_le (Nat.le_of_lt_succ hj) with h1 | h1
          · exact h0 h j h1
          · rw [h1, ← heq, h]⟩, by omega, le_mk (fun n => n) [] rfl (by simp [upS, keepS, *]) (by simp [*, upS]) (by simp [upS])⟩
    · try simp only [BN] at h9
      have hbe : b = n := by omega
      have hall' : ∀ j, j < n → o j = o 0 := by
        rcases Nat.eq_zero_or_pos a with h | h
        · rw [← hbe]; exact h0 h
        · exact hall h
      refine (HT_exit ?_)
      refine HT_runA ?_
      exact ⟨a + 1, ⟨hlt, fun _ => hall'⟩, by omega, le_mk (fun n => n) [] rfl (by simp [upS, keepS, *]) (by simp [*, upS]) (by simp [upS])⟩
  · try simp only [BN] at h5
    have hae : a = n := by omega
    rw [fst_none (hall (by omega))] at hres
    subst hres
    refine (HT_exit ?_)
    refine HT_seq <| HT_runA ?_
    exact HT_retA fun h => ⟨.inr rfl, h⟩
theorem pairP_con (f : Fl) (v : Vw) (hv : f.vars.length ≤ 1000000) (hh : f.hats.length ≤ 1000000) (hn : nodesS f.body + nodesH f.hats ≤ 1000000) (hb : bndL f.body = true) (x y : Obs) (b e : Int)
    (hx : askC f v ≠ 0 → x = o0 ∧ y = o0 ∧ b = 0 ∧ e = askC f v) (h0 : askC f v = 0 → match pairV f v with | some k => x = obsN f v 0 ∧ y = obsN f v k ∧ b = k ∧ e = 0 | none => x = o0 ∧ y = o0 ∧ b = 0 ∧ e = 11) (d : Nat) :
    Con Tryz.prog 8 false [aF f, aW v] (.tup [li 0, li b, aO x, aO y, li e]) none d := by
  have cc := checkE_con f v hv hh hn hb
  have hgd := fun h => (ask_gd (v := v) hv hh hn hb h).1
  have cob := fun (h : askC f v = 0) (k : Nat) (hk : k < nSec f) => observe_con f v (k : Int) (hgd h) (by omega) (by have := (nSec_pos (hgd h).vc).2.1; omega)
  have csec := fun (h : askC f v = 0) => secrets_con f hv (hgd h).vc
  have hsec := fun (h : askC f v = 0) => nSec_pos (hgd h).vc
  have hol := fun k : Nat => obs_outs (f := f) (v := v) (r := (k : Int)) hb
  have hob : ∀ k : Nat, obsF f v (k : Int) = obsN f v k := fun k => rfl
  unfold pairV at h0
  obtain ⟨o, ho⟩ : ∃ o, obsN f v = o := ⟨_, rfl⟩
  obtain ⟨n, hne⟩ : ∃ o, nSec f = o := ⟨_, rfl⟩
  obtain ⟨A, hA⟩ : ∃ o, askC f v = o := ⟨_, rfl⟩
  simp only [hob, ho, hne, hA] at cob hol csec hsec h0 hx
  rw [hA] at cc
  clear hob ho hne hA hgd
  obtain ⟨vars, hats, body⟩ := f
  obtain ⟨pub, tm⟩ := v
  obtain ⟨xo, xt⟩ := x
  obtain ⟨yo, yt⟩ := y
  refine con_of_HT Tryz.func8 rfl (by kernel_rfl) (Nat.le_of_ble_eq_true rfl) ?_
  simp only [Tryz.f8]
  simp only [aF, Fl.enc, aW, aO, List.map_cons, List.map_nil] at cc cob csec hsec ⊢
  refine HT_seq <| HT_runA ?_
  refine HT_seq <| HT_seq <| (HT_runc [⟨true, .v (li A), none⟩] (by simp [*]; first | exact ⟨rfl, Iff.rfl⟩ | exact ⟨rfl, trivial⟩ | rfl) ?_ ?_)
  · first | exact cc _ | exact trivial | simpa [*] using cc _
  refine HT_seq <| HT_runA ?_
  refine (HT_cond rfl (fun h3 => ?_) (fun h3 => HT_skip ?_))
  · try simp only [BN] at h3
    obtain ⟨e1, e2, e3, e4⟩ := hx h3
    simp only [o0, Obs.mk.injEq] at e1 e2
    obtain ⟨rfl, rfl⟩ := e1
    obtain ⟨rfl, rfl⟩ := e2
    subst e3 e4
    clear hx h0 cob csec hsec hol
    refine HT_seq <| HT_runA ?_
    refine HT_le (le_trans (le_box 6 [.c (.sl 1 []), .c (iC 0)] rfl (by (repeat' (first | exact LWk.nil | apply LWk.cons | exact CWk.refl _ | exact CWk.nil _)))) (le_box 7 [.c (.sl 1 []), .c (iC 0)] rfl (by (repeat' (first | exact LWk.nil | apply LWk.cons | exact CWk.refl _ | exact CWk.nil _))))) ?_
    exact HT_ret ⟨.inr rfl, _, le_refl _, ⟨⟨_, by simp; rfl, by simp [resR]⟩, by simp, fun h => by cases h⟩⟩
  · try simp only [BN] at h3
    have hA : A = 0 := by simpa using h3
    have cob := cob hA
    have csec := csec hA
    obtain ⟨n1, n2, n3⟩ := hsec hA
    have h0 := h0 hA
    rw [← n2] at csec
    have c0 := cob 0 (by omega)
    obtain ⟨⟨zo, zt⟩, hz⟩ : ∃ z, o 0 = z := ⟨_, rfl⟩
    rw [hz] at c0
    have hzl := hol 0
    rw [hz] at hzl
    simp only [Int.ofNat_zero] at c0 hzl
    clear hx cc h3 hA hsec n2
    refine HT_seq <| (HT_runc [⟨false, .v (.agg [.c (.sl 1 (encIs zo)), .c (iC zt)]), none⟩] (by simp [*]; first | exact ⟨rfl, Iff.rfl⟩ | exact ⟨rfl, trivial⟩ | rfl) ?_ ?_)
    · first | exact c0 _ | exact trivial | simpa [*] using c0 _
    refine HT_seq <| HT_seq <| HT_runA ?_
    refine HT_block <| (HT_loopU [2, 3, 6, 7, 10] (fun (k : Nat) => [(11, .v (li k))]) (fun (k : Nat) => [(2, .box [.c (.sl 5 (encVs vars)), .c (.sl 6 (encHs hats)), .c (.sl 10 (encSs body))]), (3, .box [.c (.sl 1 (encIs pub)), .c (bC tm)]), (6, .box [.c (.lit nilS), .c (iC 0)]), (7, .box [.c (.lit nilS), .c (iC 0)]), (10, .box [.c (.sl 1 (encIs zo)), .c (iC zt)])]) (fun (k : Nat) => k ≤ n ∧ ∀ j, j < k → o j = o 0) (fun (k : Nat) => n - k) (1 : Nat) ⟨n1, fun j hj => by rw [show j = 0 by omega]⟩ ?_ ?_)
    · exact le_mk (fun n => n) [] rfl (by simp [*, upS, keepS]) (by simp [*, upS]) (by simp [upS])
    rintro k ⟨hk, hall⟩
    simp only [upS, keepS, insS]
    try simp only [keepS, KN, Nat.reduceBEq, if_true, if_false, ins, Nat.reduceLT]
    clear c0
    refine HT_seq <| HT_seq <| (HT_runc [⟨true, .v (li (n : Int)), none⟩] (by simp [*]; first | exact ⟨rfl, Iff.rfl⟩ | exact ⟨rfl, trivial⟩ | rfl) ?_ ?_)
    · first | exact csec _ | exact trivial | simpa [*] using csec _
    refine (HT_cond rfl (fun h10 => HT_skip ?_) (fun h10 => ?_))
    · try simp only [BN] at h10
      have hlt : k < n := by omega
      have hw1 : IntKind.i64.wrap ((k : Int) + 1) = (k : Int) + 1 := wrap_in (by omega) (by omega)
      have ck := cob k hlt
      have hkl := hol k
      obtain ⟨⟨wo, wt⟩, hw⟩ : ∃ z, o k = z := ⟨_, rfl⟩
      rw [hw] at ck hkl
      have ccmp := cmpO_con ⟨zo, zt⟩ ⟨wo, wt⟩ hzl hkl
      have hce := cmpO_eq ⟨zo, zt⟩ ⟨wo, wt⟩
      obtain ⟨c, hc⟩ : ∃ c, cmpO ⟨zo, zt⟩ ⟨wo, wt⟩ = c := ⟨_, rfl⟩
      rw [hc] at ccmp hce
      simp only [aO] at ccmp
      clear h10 cob csec hc
      refine HT_seq <| HT_block <| HT_seq <| (HT_runc [⟨false, .v (.agg [.c (.sl 1 (encIs wo)), .c (iC wt)]), none⟩] (by simp [*]; first | exact ⟨rfl, Iff.rfl⟩ | exact ⟨rfl, trivial⟩ | rfl) ?_ ?_)
      · first | exact ck _ | exact trivial | simpa [*] using ck _
      refine HT_seq <| (HT_runc [⟨true, .v (li c), none⟩] (by simp [*]; first | exact ⟨rfl, Iff.rfl⟩ | exact ⟨rfl, trivial⟩ | rfl) ?_ ?_)
      · first | exact ccmp _ | exact trivial | simpa [*] using ccmp _
      refine (HT_cond rfl (fun h13 => ?_) (fun h13 => HT_skip ?_))
      · try simp only [BN] at h13
        have hne : o k ≠ o 0 := by
          rw [hw, hz]
          intro h
          cases h
          simp at h13
        rw [fst_some hlt hne hall] at h0
        simp only at h0
        obtain ⟨e1, e2, e3, e4⟩ := h0
        rw [hz] at e1
        rw [hw] at e2
        cases e1
        cases e2
        subst e3 e4
        clear ck ccmp hol hall hne hw hz hce
        refine HT_seq <| (HT_drunH [(10, 10), (12, 12), (6, 6), (7, 7)] (by kernel_rfl) (by kernel_rfl) (by rfl) (by simp [evsH, hokB, hintOf, *]; rfl) ?_)
        exact HT_ret ⟨.inr rfl, _, le_refl _, ⟨⟨_, by simp; rfl, by simp [resR]⟩, by simp, fun h => by cases h⟩⟩
      · try simp only [BN] at h13
        have heq : o k = o 0 := by
          rw [hw, hz]
          rw [h13.1, h13.2]
        refine HT_runA ?_
        exact ⟨k + 1, ⟨hlt, fun j hj => by
          rcases Nat.lt_or_eq_of_le (Nat.le_of_lt_succ hj) with h1 | h1
          · exact hall j h1
          · rw [h1]; exact heq⟩, by omega, le_mk (fun n => n) [] rfl (by simp [upS, keepS, *]) (by simp [*, upS]) (by simp [upS])⟩
    · try simp only [BN] at h10
      have hke : k = n := by omega
      subst hke
      rw [fst_none hall] at h0
      simp only at h0
      obtain ⟨e1, e2, e3, e4⟩ := h0
      simp only [o0, Obs.mk.injEq] at e1 e2
      obtain ⟨rfl, rfl⟩ := e1
      obtain ⟨rfl, rfl⟩ := e2
      subst e3 e4
      refine (HT_exit ?_)
      refine HT_seq <| HT_runA ?_
      refine HT_le (le_trans (le_box 6 [.c (.sl 1 []), .c (iC 0)] rfl (by (repeat' (first | exact LWk.nil | apply LWk.cons | exact CWk.refl _ | exact CWk.nil _)))) (le_box 7 [.c (.sl 1 []), .c (iC 0)] rfl (by (repeat' (first | exact LWk.nil | apply LWk.cons | exact CWk.refl _ | exact CWk.nil _))))) ?_
      exact HT_ret ⟨.inr rfl, _, le_refl _, ⟨⟨_, by simp; rfl, by simp [resR]⟩, by simp, fun h => by cases h⟩⟩
end Go.Proofs.YteekbhkjfaegiaaGreat

namespace Go.Proofs.YteekbhkjfaegiaaGreat
open Go Go.Hl

/-! ## how many steps -/
mutual
def szS : St → Nat
  | .mk _ _ _ _ _ a b _ => 1 + szL a + szL b
def szL : List St → Nat
  | [] => 0
  | s :: l => szS s + szL l
end
mutual
theorem szS_le : ∀ s : St, szS s ≤ s.nodes
  | .mk _ _ _ _ t a b _ => by have := szL_le a; have := szL_le b; simp only [szS, St.nodes]; omega
theorem szL_le : ∀ l : List St, szL l ≤ nodesS l
  | [] => by simp [szL]
  | s :: l => by have := szS_le s; have := szL_le l; simp only [szL, nodesS]; omega
end
theorem szS_pos (s : St) : 1 ≤ szS s := by cases s; simp only [szS]; omega
theorem szL_len : ∀ l : List St, l.length ≤ szL l
  | [] => by simp
  | s :: l => by have := szL_len l; have := szS_pos s; simp only [szL, List.length_cons]; omega
theorem szL_app : ∀ l m : List St, szL (l ++ m) = szL l + szL m
  | [], m => by simp [szL]
  | s :: l, m => by simp only [List.cons_append, szL, szL_app l m]; omega
theorem sizeP_con (l : List St) : nodesS l ≤ 1000000000 → ∀ d : Nat, Con Tryz.prog 62 true [lS l] (.v (li (szL l))) none d := by
  revert l
  apply St.lists
  intro l ih hn d
  have hlen := len_nodesS l
  have hsl := szL_le l
  obtain ⟨res, hres⟩ : ∃ r, szL l = r := ⟨_, rfl⟩
  rw [hres] at hsl ⊢
  refine con_of_HT Tryz.func62 rfl (by kernel_rfl) (Nat.le_of_ble_eq_true rfl) ?_
  simp only [Tryz.f62]
  refine HT_seq <| HT_runA ?_
  refine HT_seq <| HT_runA ?_
  refine HT_seq <| HT_seq <| HT_runA ?_
  refine HT_block <| (HT_loopU [8, 9] (fun (x : Nat × Nat) => [(3, .v (li ((x.2 : Nat) : Int))), (10, .v (li x.1))]) (fun (x : Nat × Nat) => []) (fun (x : Nat × Nat) => x.1 ≤ l.length ∧ x.2 + szL (l.drop x.1) = res + (l.drop x.1).length) (fun (x : Nat × Nat) => l.length - x.1) (0, l.length) ⟨Nat.zero_le _, by simp only [List.drop_zero, hres]; omega⟩ ?_ ?_)
  · exact le_mk (fun n => n) [] rfl (by simp [*, upS, keepS]) (by simp [*, upS]) (by simp [upS])
  rintro ⟨k, m⟩ ⟨hk, hJ⟩
  simp only [upS, keepS, insS]
  try simp only [keepS, KN, Nat.reduceBEq, if_true, if_false, ins, Nat.reduceLT]
  simp only at hk hJ
  refine HT_seq <| HT_runA ?_
  refine HT_seq <| (HT_cond rfl (fun h5 => HT_skip ?_) (fun h5 => ?_))
  · try simp only [BN] at h5
    have hlt : k < l.length := by omega
    obtain ⟨s, he, hd⟩ := at_lt hlt
    have hmem : s ∈ l := List.mem_of_getElem? he
    have hnm := nodesS_mem hmem
    have iha := fun h => (ih s hmem).1 h
    have ihb := fun h => (ih s hmem).2 h
    have hw1 := wrap1 hlt (by omega)
    have hk1 : k + 1 ≤ l.length := hlt
    rw [hd] at hJ
    have hrl := szL_len (l.drop (k + 1))
    obtain ⟨sd, sc, sv, sn, ⟨so, stn, sks⟩, sa, sb, sbs⟩ := s
    simp only [St.then_, St.else_, St.term] at iha ihb hnm
    simp only [szL, szS, List.length_cons] at hJ
    have ca := iha (by omega)
    have cb := ihb (by omega)
    have hla := szL_le sa
    have hlb := szL_le sb
    have he' := get_encS he
    simp only [St.enc, Tm.enc, List.cons_append, List.nil_append] at he'
    generalize szL sa = na at *
    generalize szL sb = nb at *
    have hw2 : IntKind.i64.wrap ((na : Int) + (nb : Int)) = (na : Int) + (nb : Int) := wrap_in (by omega) (by omega)
    have hw3 : IntKind.i64.wrap ((m : Int) + ((na : Int) + (nb : Int))) = (m : Int) + ((na : Int) + (nb : Int)) := wrap_in (by omega) (by omega)
    clear hlt h5 ih hmem iha ihb
    refine HT_seq <| HT_block <| HT_seq <| HT_runA ?_
    refine (HT_drunc [⟨true, .v (li (na : Int)), none⟩, ⟨true, .v (li (nb : Int)), none⟩] (by kernel_rfl) (by kernel_rfl) (by rfl) (by simp [*]; first | exact ⟨rfl, Iff.rfl⟩ | exact ⟨rfl, trivial⟩ | rfl) ?_ ?_)
    · first | exact ⟨ca _, cb _⟩ | exact trivial | (repeat' first | exact trivial | exact ca _ | exact cb _ | apply And.intro)
    refine HT_runA ?_
    exact ⟨(k + 1, m + (na + nb)), ⟨hk1, by simp only; omega⟩, by simp only; omega, le_mk (fun n => n) [] rfl (by simp [upS, keepS, *]) (by simp [*, upS]) (by simp [upS])⟩
  · try simp only [BN] at h5
    have hkl : k = l.length := by omega
    rw [hkl, List.drop_length] at hJ
    simp only [szL, List.length_nil] at hJ
    have hm : m = res := by omega
    refine (HT_exit ?_)
    refine HT_seq <| HT_runA ?_
    exact HT_retA fun h => ⟨.inr rfl, h⟩
theorem sizeF_con (f : Fl) (hn : nodesS f.body ≤ 1000000000) (d : Nat) : Con Tryz.prog 36 true [aF f] (.v (li (szL f.body))) none d := by
  have cs := sizeP_con f.body hn
  obtain ⟨vars, hats, body⟩ := f
  simp only at cs ⊢
  obtain ⟨n, hn⟩ : ∃ x, szL body = x := ⟨_, rfl⟩
  rw [hn] at cs ⊢
  clear hn
  refine con_of_HT Tryz.func36 rfl (by kernel_rfl) (Nat.le_of_ble_eq_true rfl) ?_
  simp only [Tryz.f36]
  simp only [aF, Fl.enc, List.map_cons, List.map_nil]
  refine HT_seq <| HT_runA ?_
  refine HT_seq <| (HT_runc [⟨true, .v (li (n : Int)), none⟩] (by simp [*]; first | exact ⟨rfl, Iff.rfl⟩ | exact ⟨rfl, trivial⟩ | rfl) ?_ ?_)
  · first | exact cs _ | exact trivial | simpa [*] using cs _
  exact HT_retA fun h => ⟨.inr rfl, h⟩
theorem inside_con (s : St) (hn : s.nodes ≤ 1000000000) (d : Nat) : Con Tryz.prog 40 true [aS s] (.v (li (szS s))) none d := by
  have cs := sizeF_con ⟨[], [], [s]⟩ (by simpa [nodesS] using hn)
  have hz : szL [s] = szS s := by simp [szL]
  simp only [hz] at cs
  obtain ⟨n, hn⟩ : ∃ x, szS s = x := ⟨_, rfl⟩
  rw [hn] at cs ⊢
  obtain ⟨sd, sc, sv, sn, ⟨so, stn, sks⟩, sa, sb, sbs⟩ := s
  simp only [aF, Fl.enc, encSs, St.enc, Tm.enc, List.map_cons, List.map_nil, List.cons_append, List.nil_append, encV_nil, encH_nil] at cs
  have cs' := fun d => con_arg (n := 0) (args := [.agg [.c (.lit nilS), .c (.lit nilS), .c (.sl 10 [[iC sd, iC sc, iC sv, iC sn, iC so, iC stn, .sl 3 (encTs sks), .sl 10 (encSs sa), .sl 10 (encSs sb), .sl 1 (encIs sbs)]])]]) (cs d) rfl (by (repeat' (first | exact LWk.nil | apply LWk.cons | exact CWk.refl _ | exact CWk.nil _)))
  clear hn hz cs
  refine con_of_HT Tryz.func40 rfl (by kernel_rfl) (Nat.le_of_ble_eq_true rfl) ?_
  simp only [Tryz.f40]
  simp only [aS, St.enc, Tm.enc, List.map_cons, List.map_nil, List.cons_append, List.nil_append]
  refine HT_seq <| HT_runA ?_
  refine HT_seq <| (HT_runc [⟨true, .v (li (n : Int)), none⟩] (by simp [*, allTyped, fillC, placeOf]; first | exact ⟨rfl, Iff.rfl⟩ | exact ⟨rfl, trivial⟩ | rfl) ?_ ?_)
  · first | exact cs' _ | exact trivial | simpa [*, allTyped, fillC, placeOf] using cs' _
  exact HT_retA fun h => ⟨.inr rfl, h⟩
theorem sizeR_con (l : List St) : nodesS l ≤ 1000000000 → ∀ d : Nat, Con Tryz.prog 18 true [lS l] (.v (li (szL l))) none d := by
  revert l
  apply St.lists
  intro l ih hn d
  have hlen := len_nodesS l
  have hsl := szL_le l
  obtain ⟨res, hres⟩ : ∃ r, szL l = r := ⟨_, rfl⟩
  rw [hres] at hsl ⊢
  refine con_of_HT Tryz.func18 rfl (by kernel_rfl) (Nat.le_of_ble_eq_true rfl) ?_
  simp only [Tryz.f18]
  refine HT_seq <| HT_runA ?_
  refine HT_seq <| HT_runA ?_
  refine HT_seq <| HT_seq <| HT_runA ?_
  refine HT_block <| (HT_loopU [0] (fun (x : Nat × Nat) => [(3, .v (li ((x.2 : Nat) : Int))), (4, .v (li x.1))]) (fun (x : Nat × Nat) => []) (fun (x : Nat × Nat) => x.1 ≤ l.length ∧ x.2 + szL (l.drop x.1) = res) (fun (x : Nat × Nat) => l.length - x.1) (0, 0) ⟨Nat.zero_le _, by simp [hres]⟩ ?_ ?_)
  · exact le_mk (fun n => n) [] rfl (by simp [*, upS, keepS]) (by simp [*, upS]) (by simp [upS])
  rintro ⟨k, m⟩ ⟨hk, hJ⟩
  simp only [upS, keepS, insS]
  try simp only [keepS, KN, Nat.reduceBEq, if_true, if_false, ins, Nat.reduceLT]
  simp only at hk hJ
  refine HT_seq <| HT_seq <| HT_runA ?_
  refine (HT_cond rfl (fun h5 => HT_skip ?_) (fun h5 => ?_))
  · try simp only [BN] at h5
    have hlt : k < l.length := by omega
    obtain ⟨s, he, hd⟩ := at_lt hlt
    have hmem : s ∈ l := List.mem_of_getElem? he
    have hnm := nodesS_mem hmem
    have iha := fun h => (ih s hmem).1 h
    have ihb := fun h => (ih s hmem).2 h
    have hw1 := wrap1 hlt (by omega)
    have hk1 : k + 1 ≤ l.length := hlt
    rw [hd] at hJ
    obtain ⟨sd, sc, sv, sn, ⟨so, stn, sks⟩, sa, sb, sbs⟩ := s
    simp only [St.then_, St.else_, St.term] at iha ihb hnm
    simp only [szL, szS] at hJ
    have ca := iha (by omega)
    have cb := ihb (by omega)
    have he' := get_encS he
    simp only [St.enc, Tm.enc, List.cons_append, List.nil_append] at he'
    generalize szL sa = na at *
    generalize szL sb = nb at *
    have hw2 : IntKind.i64.wrap ((m : Int) + 1) = (m : Int) + 1 := wrap_in (by omega) (by omega)
    have hw3 : IntKind.i64.wrap ((m : Int) + 1 + (na : Int)) = (m : Int) + 1 + (na : Int) := wrap_in (by omega) (by omega)
    have hw4 : IntKind.i64.wrap ((m : Int) + 1 + (na : Int) + (nb : Int)) = (m : Int) + 1 + (na : Int) + (nb : Int) := wrap_in (by omega) (by omega)
    clear hlt h5 ih hmem iha ihb
    refine HT_seq <| HT_block <| (HT_drunc [⟨true, .v (li (na : Int)), none⟩, ⟨true, .v (li (nb : Int)), none⟩] (by kernel_rfl) (by kernel_rfl) (by rfl) (by simp [*]; first | exact ⟨rfl, Iff.rfl⟩ | exact ⟨rfl, trivial⟩ | rfl) ?_ ?_)
    · first | exact ⟨ca _, cb _⟩ | exact trivial | (repeat' first | exact trivial | exact ca _ | exact cb _ | apply And.intro)
    refine HT_runA ?_
    exact ⟨(k + 1, m + 1 + na + nb), ⟨hk1, by simp only; omega⟩, by simp only; omega, le_mk (fun n => n) [] rfl (by simp [upS, keepS, *]) (by simp [*, upS]) (by simp [upS])⟩
  · try simp only [BN] at h5
    have hkl : k = l.length := by omega
    rw [hkl, List.drop_length] at hJ
    simp only [szL] at hJ
    have hm : m = res := by omega
    refine (HT_exit ?_)
    refine HT_seq <| HT_runA ?_
    exact HT_retA fun h => ⟨.inr rfl, h⟩
end Go.Proofs.YteekbhkjfaegiaaGreat

namespace Go.Proofs.YteekbhkjfaegiaaGreat
open Go Go.Hl

/-! ## flat's copies -/
theorem copyT_con (t : Tm) : t.nodes ≤ 1000000 → ∀ d : Nat, Con Tryz.prog 67 false [aT t] (.v (aT t)) none d := by
  revert t
  refine Tm.ind ?_
  intro o n ks ih hn d
  simp only [Tm.nodes] at hn
  have hlen := len_nodesT ks
  refine con_of_HT Tryz.func67 rfl (by kernel_rfl) (Nat.le_of_ble_eq_true rfl) ?_
  simp only [Tryz.f67]
  simp only [aT, Tm.enc, List.map_cons, List.map_nil]
  refine HT_seq <| HT_runA ?_
  refine HT_seq <| HT_runA ?_
  refine HT_seq <| HT_seq <| HT_runA ?_
  refine HT_block <| (HT_loopU [2, 3, 12, 13] (fun (x : Nat) => [(14, .v (li x))]) (fun (x : Nat) => [(2, .box [.c (iC 0), .c (iC 0), .c (.lit nilS)]), (3, .box [.c (iC o), .c (iC n), .own 900001]), (900001, .row 59 3 (encTs (ks.take x)))]) (fun (x : Nat) => x ≤ ks.length) (fun (x : Nat) => ks.length - x) (0 : Nat) (Nat.zero_le _) ?_ ?_)
  · exact le_mk (fun n => n) [900001] rfl (by simp [*, upS, keepS]) (by simp [*, upS]) (by simp [upS])
  rintro k hk
  simp only [upS, keepS, insS]
  try simp only [keepS, KN, Nat.reduceBEq, if_true, if_false, ins, Nat.reduceLT]
  refine HT_seq <| HT_runA ?_
  refine HT_seq <| (HT_cond rfl (fun h5 => HT_skip ?_) (fun h5 => ?_))
  · try simp only [BN] at h5
    have hlt : k < ks.length := by omega
    obtain ⟨t, he, hd⟩ := at_lt hlt
    have hw1 := wrap1 hlt (by omega)
    have hk1 : k + 1 ≤ ks.length := hlt
    have hmem : t ∈ ks := List.mem_of_getElem? he
    have hnm := nodesT_mem' hmem
    have ct := ih t hmem (by omega)
    have htl : (ks.take k).length = k := by rw [List.length_take]; omega
    have hroom : room (k + 1) 40 := room_of (by omega) (by omega)
    have hsn : encTs (ks.take (k + 1)) = encTs (ks.take k) ++ [t.enc] := by
      rw [encTs_map, encTs_map, List.take_add_one, he, Option.toList_some, List.map_append]
      rfl
    have he' := get_encT he
    obtain ⟨so, stn, sks⟩ := t
    simp only [Tm.enc] at he' hsn
    simp only [aT, Tm.enc, List.map_cons, List.map_nil] at ct
    clear hlt h5 ih hmem hnm he hd
    refine HT_seq <| HT_block <| HT_seq <| HT_runA ?_
    refine (HT_druncH [(18, 3), (24, 3)] [⟨false, .v (.agg [.c (iC so), .c (iC stn), .c (.sl 3 (encTs sks))]), none⟩] (by kernel_rfl) (by kernel_rfl) (by rfl) (by simp [evcH, hokB, hintOf, *]; first | exact ⟨rfl, Iff.rfl⟩ | exact ⟨rfl, trivial⟩ | rfl) ?_ ?_)
    · first | exact ct _ | exact trivial | simpa [*] using ct _
    refine HT_runA ?_
    exact ⟨k + 1, hk1, by omega, le_mk (fun n => if n = 900001 then 23 else n) [] rfl (by simp [upS, keepS, *]) (by simp [*, upS]) (by simp [upS])⟩
  · try simp only [BN] at h5
    have hkl : k = ks.length := by omega
    subst hkl
    simp only [List.take_length]
    refine (HT_exit ?_)
    refine HT_le (le_frz 900001 rfl) ?_
    refine HT_seq <| HT_runA ?_
    exact HT_ret ⟨.inr rfl, _, le_refl _, ⟨⟨_, by simp; rfl, by simp [resR]⟩, by simp, fun h => by cases h⟩⟩
end Go.Proofs.YteekbhkjfaegiaaGreat

namespace Go.Proofs.YteekbhkjfaegiaaGreat
open Go Go.Hl

theorem copyS_of (s : St) (hn : s.nodes ≤ 1000000) (hb : bndS s = true) (ca : ∀ d : Nat, Con Tryz.prog 97 false [lS s.then_] (.v (lS s.then_)) none d) (cb : ∀ d : Nat, Con Tryz.prog 97 false [lS s.else_] (.v (lS s.else_)) none d) (d : Nat) :
    Con Tryz.prog 64 false [aS s] (.v (aS s)) none d := by
  have ct := copyT_con s.term
  have cc := cloneI_con s.bounds
  obtain ⟨sd, sc, sv, sn, ⟨so, stn, sks⟩, sa, sb, sbs⟩ := s
  simp only [St.then_, St.else_, St.term, St.bounds] at ca cb ct cc
  simp only [bndS, Bool.and_eq_true, decide_eq_true_eq] at hb
  have cc := cc hb.1
  simp only [St.nodes] at hn
  have ct := ct (by omega)
  simp only [aT, Tm.enc, List.map_cons, List.map_nil] at ct
  clear hn hb
  refine con_of_HT Tryz.func64 rfl (by kernel_rfl) (Nat.le_of_ble_eq_true rfl) ?_
  simp only [Tryz.f64]
  simp only [aS, St.enc, Tm.enc, List.map_cons, List.map_nil, List.cons_append, List.nil_append]
  refine HT_seq <| HT_runA ?_
  refine HT_seq <| (HT_drunc [⟨false, .v (.agg [.c (iC so), .c (iC stn), .c (.sl 3 (encTs sks))]), none⟩, ⟨false, .v (lS sa), none⟩, ⟨false, .v (lS sb), none⟩, ⟨false, .v (lI sbs), none⟩] (by kernel_rfl) (by kernel_rfl) (by rfl) (by simp [*, allTyped, fillC, placeOf]; first | exact ⟨rfl, Iff.rfl⟩ | exact ⟨rfl, trivial⟩ | rfl) ?_ ?_)
  · first | exact ⟨ct _, ca _, cb _, cc _⟩ | exact trivial | (repeat' first | exact trivial | exact ct _ | exact ca _ | exact cb _ | exact cc _ | apply And.intro)
  exact HT_ret ⟨.inr rfl, _, le_refl _, ⟨⟨_, by simp; rfl, by simp [resR]⟩, by simp, fun h => by cases h⟩⟩
theorem copySs_con (l : List St) : nodesS l ≤ 1000000 → bndL l = true → ∀ d : Nat, Con Tryz.prog 97 false [lS l] (.v (lS l)) none d := by
  revert l
  apply St.lists
  intro l ih hn hbn d
  have hlen := len_nodesS l
  refine con_of_HT Tryz.func97 rfl (by kernel_rfl) (Nat.le_of_ble_eq_true rfl) ?_
  simp only [Tryz.f97]
  refine HT_seq <| HT_runA ?_
  refine HT_seq <| HT_runA ?_
  refine HT_seq <| HT_seq <| HT_runA ?_
  refine HT_block <| (HT_loopU [6, 7] (fun (x : Nat) => [(3, .v (.one (.own 1003))), (8, .v (li x))]) (fun (x : Nat) => [(1003, .row 65 10 (encSs (l.take x)))]) (fun (x : Nat) => x ≤ l.length) (fun (x : Nat) => l.length - x) (0 : Nat) (Nat.zero_le _) ?_ ?_)
  · exact le_mk (fun n => n) [1003] rfl (by simp [*, upS, keepS]) (by simp [*, upS]) (by simp [upS])
  rintro k hk
  simp only [upS, keepS, insS]
  try simp only [keepS, KN, Nat.reduceBEq, if_true, if_false, ins, Nat.reduceLT]
  refine HT_seq <| HT_runA ?_
  refine HT_seq <| (HT_cond rfl (fun h5 => HT_skip ?_) (fun h5 => ?_))
  · try simp only [BN] at h5
    have hlt : k < l.length := by omega
    obtain ⟨s, he, hd⟩ := at_lt hlt
    have hw1 := wrap1 hlt (by omega)
    have hk1 : k + 1 ≤ l.length := hlt
    have hmem : s ∈ l := List.mem_of_getElem? he
    have hnm := nodesS_mem hmem
    have hbm := bndL_mem hbn hmem
    have hsz : s.nodes ≤ 1000000 := by
      obtain ⟨sd, sc, sv, sn, t, sa, sb, sbs⟩ := s
      simp only [St.then_, St.else_, St.term, St.nodes] at *
      omega
    have hbab : bndL s.then_ = true ∧ bndL s.else_ = true := by
      obtain ⟨sd, sc, sv, sn, t, sa, sb, sbs⟩ := s
      simp only [bndS, Bool.and_eq_true, decide_eq_true_eq] at hbm
      exact hbm.2
    have cs := copyS_of s hsz hbm ((ih s hmem).1 (by omega) hbab.1) ((ih s hmem).2 (by omega) hbab.2)
    have htl : (l.take k).length = k := by rw [List.length_take]; omega
    have hroom : room (k + 1) 144 := room_of (by omega) (by omega)
    have hsn : encSs (l.take (k + 1)) = encSs (l.take k) ++ [s.enc] := by
      rw [encSs_map, encSs_map, List.take_add_one, he, Option.toList_some, List.map_append]
      rfl
    have he' := get_encS he
    obtain ⟨sd, sc, sv, sn, ⟨so, stn, sks⟩, sa, sb, sbs⟩ := s
    simp only [St.enc, Tm.enc, List.cons_append, List.nil_append] at he' hsn
    simp only [aS, St.enc, Tm.enc, List.map_cons, List.map_nil, List.cons_append, List.nil_append] at cs
    clear hlt h5 ih hmem hnm he hd hbm hsz hbab
    refine HT_seq <| HT_block <| HT_seq <| HT_runA ?_
    refine (HT_runc [⟨false, .v (aS (.mk sd sc sv sn (.mk so stn sks) sa sb sbs)), none⟩] (by simp [*]; first | exact ⟨rfl, Iff.rfl⟩ | exact ⟨rfl, trivial⟩ | rfl) ?_ ?_)
    · first | exact cs _ | exact trivial | simpa [*] using cs _
    refine HT_runA ?_
    exact ⟨k + 1, hk1, by omega, le_mk (fun n => if n = 1003 then 16 else n) [] rfl (by simp [upS, keepS, *]) (by simp [*, upS]) (by simp [upS])⟩
  · try simp only [BN] at h5
    have hkl : k = l.length := by omega
    subst hkl
    simp only [List.take_length]
    refine (HT_exit ?_)
    refine HT_seq <| HT_runA ?_
    exact HT_ret ⟨.inr rfl, _, le_frz 1003 rfl, ⟨⟨_, by simp; rfl, by simp [resR]⟩, by simp, fun h => by cases h⟩⟩
theorem copyS_con (s : St) (hn : s.nodes ≤ 1000000) (hb : bndS s = true) (d : Nat) : Con Tryz.prog 64 false [aS s] (.v (aS s)) none d := by
  have hx : nodesS s.then_ ≤ 1000000 ∧ nodesS s.else_ ≤ 1000000 ∧ bndL s.then_ = true ∧ bndL s.else_ = true := by
    obtain ⟨sd, sc, sv, sn, t, sa, sb, sbs⟩ := s
    simp only [St.then_, St.else_, St.nodes, bndS, Bool.and_eq_true, decide_eq_true_eq] at *
    exact ⟨by omega, by omega, hb.2⟩
  exact copyS_of s hn hb (copySs_con _ hx.1 hx.2.2.1) (copySs_con _ hx.2.1 hx.2.2.2) d

/-! ## without one step -/
mutual
def woS : St → Int → St
  | .mk d c v n t a b bs, i => .mk d c v n t (woL a i) (woL b (i - szL a)) bs
def woL : List St → Int → List St
  | [], _ => []
  | s :: l, i => (if i = 0 then [] else [woS s (i - 1)]) ++ woL l (i - szS s)
end
mutual
theorem woS_id : ∀ (s : St) (i : Int), i < 0 ∨ (szS s : Int) - 1 ≤ i → woS s i = s
  | .mk d c v n t a b bs, i, h => by
    simp only [szS] at h
    simp only [woS]
    rw [woL_id a i (by omega), woL_id b _ (by omega)]
theorem woL_id : ∀ (l : List St) (i : Int), i < 0 ∨ (szL l : Int) ≤ i → woL l i = l
  | [], i, h => rfl
  | s :: l, i, h => by
    have hp := szS_pos s
    simp only [szL] at h
    simp only [woL]
    rw [if_neg (by omega), woS_id s _ (by omega), woL_id l _ (by omega)]
    rfl
end
mutual
theorem woS_nodes : ∀ (s : St) (i : Int), (woS s i).nodes ≤ s.nodes
  | .mk d c v n t a b bs, i => by
    have := woL_nodes a i
    have := woL_nodes b (i - szL a)
    simp only [woS, St.nodes]
    omega
theorem woL_nodes : ∀ (l : List St) (i : Int), nodesS (woL l i) ≤ nodesS l
  | [], i => Nat.le_refl _
  | s :: l, i => by
    have := woS_nodes s (i - 1)
    have := woL_nodes l (i - szS s)
    simp only [woL]
    split
    · simp only [List.nil_append, nodesS]; omega
    · simp only [List.cons_append, List.nil_append, nodesS]; omega
end
mutual
theorem woS_bnd : ∀ (s : St) (i : Int), bndS s = true → bndS (woS s i) = true
  | .mk d c v n t a b bs, i, h => by
    simp only [bndS, Bool.and_eq_true] at h
    simp only [woS, bndS, Bool.and_eq_true]
    exact ⟨h.1, woL_bnd a _ h.2.1, woL_bnd b _ h.2.2⟩
theorem woL_bnd : ∀ (l : List St) (i : Int), bndL l = true → bndL (woL l i) = true
  | [], i, h => rfl
  | s :: l, i, h => by
    simp only [bndL, Bool.and_eq_true] at h
    simp only [woL]
    split
    · exact woL_bnd l _ h.2
    · simp only [List.cons_append, List.nil_append, bndL, Bool.and_eq_true]
      exact ⟨woS_bnd s _ h.1, woL_bnd l _ h.2⟩
end
mutual
def fndS : St → Int → Option St
  | .mk d c v n t a b bs, i => if i = 0 then some (.mk d c v n t a b bs) else
    match fndL a (i - 1) with
    | some x => some x
    | none => fndL b (i - 1 - szL a)
def fndL : List St → Int → Option St
  | [], _ => none
  | s :: l, i => match fndS s i with
    | some x => some x
    | none => fndL l (i - szS s)
end
theorem fndL_nil (i : Int) : fndL [] i = none := by simp only [fndL]
theorem fndL_cons (d c v n : Int) (t : Tm) (a b : List St) (bs : List Int) (l : List St) (i : Int) : fndL (.mk d c v n t a b bs :: l) i =
    if i = 0 then some (.mk d c v n t a b bs) else
    match fndL a (i - 1) with
    | some x => some x
    | none => match fndL b (i - 1 - szL a) with
      | some x => some x
      | none => fndL l (i - 1 - szL a - szL b) := by
  have h : i - ((1 + szL a + szL b : Nat) : Int) = i - 1 - szL a - szL b := by omega
  simp only [fndL, fndS, szS]
  rw [h]
  by_cases h0 : i = 0
  · simp only [h0, if_true]
  · simp only [h0, if_false]
    cases fndL a (i - 1) with
    | some x => rfl
    | none => rfl
end Go.Proofs.YteekbhkjfaegiaaGreat
