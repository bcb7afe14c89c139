/- Part 12: contracts of functions of the program and of the reference, and plain facts about what they compute; used by the proof of the claimed statement. Conditions: as each theorem states. -/
import Derived.Test.YtfjidddhehckoaaT11
import Derived.Test.YtfjidddhehckoaaT6
import Derived.Test.YtfjidddhehckoaaT8
import Derived.Test.YtfjidddhehckoaaT7
import Derived.Laws.CopyOwn
import Derived.Laws.OwnMore
import Derived.Deep.LoopGhost
import Derived.Deep.DeepCutAuto
import Derived.Deep.DeepFit
import Derived.Deep.RegionLaw
import Derived.Shelf.Bits.Mul64
import Derived.Test.YtfjidddhehckoaaT10
set_option linter.unusedSimpArgs false
set_option linter.unusedVariables false
set_option linter.unnecessarySimpa false
set_option maxRecDepth 100000
set_option maxHeartbeats 2000000
namespace Go.Proofs.Ytfjidddhehckoaa
open Go Go.Hl

/-! ## the typer's run -/
theorem labC_in {n : Nat} : ∀ (l : List Lb) (seen : List ByteArray), labC n seen l = 0 → ∀ x ∈ l, okI n x.level
  | [], _, _, x, hx => by cases hx
  | y :: l, seen, h, x, hx => by
    simp only [labC] at h
    split at h
    · cases h
    · split at h
      · cases h
      · split at h
        · cases h
        · rename_i hl
          rcases List.mem_cons.1 hx with rfl | hx
          · exact ⟨by omega, by omega⟩
          · exact labC_in l _ h x hx
theorem polC_lab {p : Po} (h : polC p = 0) : labC p.n [] p.inputs = 0 ∧ labC p.n [] p.hatches = 0 := by
  unfold polC at h
  split at h
  · rename_i h1; exact absurd h h1
  · split at h
    · cases h
    · split at h
      · rename_i h1; exact absurd h h1
      · rename_i h1
        split at h
        · rename_i h2; exact absurd h h2
        · rename_i h2
          exact ⟨Decidable.not_not.1 h1, Decidable.not_not.1 h2⟩
theorem best_ok {n : Nat} {v : Vr} : ∀ (l : List Lb) (r : Int × Int), (∀ x ∈ l, okI n x.level) → okI n r.1 → okI n (bestF v l r).1
  | [], r, _, h => h
  | x :: l, r, hl, h => by
    simp only [bestF]
    refine best_ok l _ (fun y hy => hl y (List.mem_cons_of_mem _ hy)) ?_
    split
    · exact hl x (List.mem_cons_self ..)
    · exact h
theorem bot_ok {p : Po} (h : polC p = 0) : okI p.n p.bot := by
  obtain ⟨hM, h1, h2⟩ := pol_new h
  have := (hM.flp.top h1 p.n (Nat.le_refl _)).1
  exact ⟨by unfold Po.bot; omega, by unfold Po.bot; omega⟩
theorem top_ok {p : Po} (h : polC p = 0) : okI p.n p.top := by
  obtain ⟨hM, h1, h2⟩ := pol_new h
  have := (hM.top h1 p.n (Nat.le_refl _)).1
  exact ⟨by unfold Po.top; omega, by unfold Po.top; omega⟩
theorem lev_ok {p : Po} (h : polC p = 0) (v : Vr) : okI p.n (levV p v) := by
  unfold levV
  refine best_ok _ _ (fun x hx => labC_in _ _ (polC_lab h).1 x hx) ?_
  split
  · exact top_ok h
  · exact bot_ok h
theorem pin_out {f : Fl} {p : Po} (h : (pinF f p).2 = 0) : polC p = 0 ∧ codeC f = 0 ∧ (pinF f p).1 = f.vars.map (levV p) := by
  unfold pinF at h ⊢
  split at h
  · cases h
  · rename_i h1
    rw [if_neg h1]
    split at h
    · rename_i h2
      rw [if_pos h2]
      exact ⟨by omega, by omega, rfl⟩
    · cases h
theorem pht_out {f : Fl} {p : Po} (h : (phtF f p).2 = 0) : (phtF f p).1.length = f.hats.length := by
  unfold phtF at h ⊢
  split at h
  · cases h
  · rename_i h1
    rw [if_neg h1]
    split at h
    · cases h
    · rename_i l hl
      have := htF_len _ _ _ _ hl
      simpa using this
theorem ssC_last {vars : List Vr} {nh : Nat} : ∀ (l : List St) (top : Bool), ssC vars nh l top = 0 → ∀ s ∈ l, s.do_ = 6 → s.bounds ≠ []
  | [], _, _, s, hs, _ => by cases hs
  | .mk d c v n t a b bs :: l, top, h, s, hs, h6 => by
    obtain ⟨hsh, _, _, _, _, hl⟩ := ssC_split h
    rcases List.mem_cons.1 hs with rfl | hs
    · simp only [St.do_] at h6
      subst h6
      unfold shB at hsh
      simp only [show ¬ (6 : Int) = 0 by decide, show ¬ (6 : Int) = 1 by decide, show ¬ (6 : Int) = 2 by decide, show ¬ (6 : Int) = 3 by decide, show ¬ (6 : Int) = 4 by decide, show ¬ (6 : Int) = 5 by decide, if_true, if_false, Bool.and_eq_true] at hsh
      have hr := hsh.2
      unfold riseB at hr
      simp only [Bool.and_eq_true, decide_eq_true_eq] at hr
      intro e
      simp only [St.bounds] at e
      rw [e] at hr
      simp at hr
    · exact ssC_last l top hl s hs h6
/-- does a last Settle bound all times? -/
def setlB (f : Fl) : Bool := match f.body[f.body.length - 1]? with
  | some s => decide (s.do_ = 6) && decide ((bdL CP f.body ⟨0, 0, 0⟩).t ≤ (s.bounds[0]?).getD 0)
  | none => false
def tyE (f : Fl) (p : Po) : List Int × Tp := ((tyR f p).1, if setlB f = true then { (tyR f p).2 with time := p.bot } else (tyR f p).2)
def tO8 (L : CD) (hv : List Int) (W : Int) (t : Tp) : List (Nat × Ob) := [(900001, .row 3 1 (encIs t.faults)), (900002, .row 38 1 (encLL t.states)), (900003, .row 3 1 (encIs t.counts)), (800000, tB L hv W t)]
def runRt (f : Fl) (p : Po) : RV := if askC f p = 0 then .tup [.one (.at_ 800000 0), lI (tyE f p).1, li 0] else .tup [.one (.c (.lit (.pointer none))), lI [], li (askC f p)]
def runOt (f : Fl) (p : Po) : List (Nat × Ob) := if askC f p = 0 then tO8 (Lt.latO p.levels p.order) (phtF f p).1 p.observer (tyE f p).2 else []
theorem runT_con (f : Fl) (p : Po) (hs : smP p) (hrep : repC f.hats.length) (hv : f.vars.length ≤ 1000000) (hh : f.hats.length ≤ 1000000) (hn : nodesS f.body + nodesH f.hats ≤ 900000) (hb : bndL f.body = true) :
    ConS Try.prog 14 [] [aF f, aPo p] (runRt f p) (runOt f p) := by
  have cin := polIn_con f p hs hv hh (by omega) hb
  have cht := polHt_con f p hs hrep hv hh (by omega) hb
  have cnew := newP_con p.levels p.order hs.1
  have hpo := fun h => pin_out (f := f) (p := p) h
  have hho := fun h => pht_out (f := f) (p := p) h
  have hwf : codeC f = 0 → wfL f.vars f.hats.length f.body = true := fun h => (code_wf hb h).1
  have hlast : codeC f = 0 → ∀ s ∈ f.body, s.do_ = 6 → s.bounds ≠ [] := fun h => ssC_last _ _ (code_split h).2.2.2.1
  have crel := rel_con f.vars (phtF f p).1 f.body (by omega)
  have cbot := botP_con p
  have cst := fun h => stepsT_con p h (phtF f p).1 p.observer f.vars (fuF f p) hv (by unfold fuF; omega) f.body (by omega)
  have cbd := fun h => boundsP_con f hv hh (by omega) hb h
  have hsz := szL_le f.body
  have hbok := fun h => bot_ok (p := p) h
  have hlok : polC p = 0 → okV p.n (f.vars.map (levV p)) := fun h x hx => by
    obtain ⟨v, _, rfl⟩ := List.mem_map.1 hx
    exact lev_ok h v
  have hnr : polC p = 0 → Lt.newR p.levels p.order = .one (.c (Lt.latO p.levels p.order)) ∧ Lt.newC p.levels p.order = 0 := fun h => by
    unfold Lt.newR
    rw [if_pos (polC_new h)]
    exact ⟨rfl, polC_new h⟩
  unfold runRt runOt tyE
  unfold tyR
  obtain ⟨SB, hSB⟩ : ∃ x, setlB f = x := ⟨_, rfl⟩
  rw [hSB]
  unfold setlB at hSB
  have htm : envF f p = ⟨p.n, p.M, (phtF f p).1, p.observer⟩ := rfl
  rw [htm]
  obtain ⟨A, hA⟩ : ∃ x, askC f p = x := ⟨_, rfl⟩
  rw [hA]
  unfold askC at hA
  obtain ⟨⟨P1, P2⟩, hP⟩ : ∃ x, pinF f p = x := ⟨_, rfl⟩
  obtain ⟨⟨H1, H2⟩, hH⟩ : ∃ x, phtF f p = x := ⟨_, rfl⟩
  rw [hP] at cin hpo
  rw [hH] at cht hho
  simp only [hP, hH] at cst crel hpo hho cin cht hA ⊢
  obtain ⟨FU, hFU⟩ : ∃ x, fuF f p = x := ⟨_, rfl⟩
  simp only [hFU] at cst ⊢
  obtain ⟨BD, hBD⟩ : ∃ x, (bdL CP f.body ⟨0, 0, 0⟩) = x := ⟨_, rfl⟩
  simp only [hBD] at cbd hSB
  obtain ⟨cs, hL⟩ := lat_ptr p
  obtain ⟨BOT, hBOT⟩ : ∃ x, p.bot = x := ⟨_, rfl⟩
  simp only [hL, hBOT] at hnr cbot cst hbok ⊢
  obtain ⟨NR, hNR⟩ : ∃ x, Lt.newR p.levels p.order = .one (.c x) := by
    unfold Lt.newR
    split
    · exact ⟨_, rfl⟩
    · exact ⟨_, rfl⟩
  obtain ⟨NC, hNC⟩ : ∃ x, Lt.newC p.levels p.order = x := ⟨_, rfl⟩
  rw [hNR, hNC] at cnew hnr
  unfold t0F
  rw [hBOT]
  clear hs hrep hP hH hFU hBD hL hBOT hNR hNC htm
  refine con_s_of_HT Try.func14 rfl (by kernel_rfl) (Nat.le_of_ble_eq_true rfl) (pin_mk rfl) ?_
  simp only [Try.f14]
  simp only [aF, Fl.enc, aPo, Po.enc, List.map_cons, List.map_nil] at cin cht cbd ⊢
  refine HT_seq <| HT_runA ?_
  refine HT_seq <| (HT_runc [⟨false, .tup [lI P1, li P2], none⟩] (by simp [*]; first | exact ⟨rfl, Iff.rfl⟩ | exact ⟨rfl, trivial⟩ | rfl) ?_ ?_)
  · first | exact cin _ | exact trivial | simpa [*] using cin _
  refine HT_seq <| HT_seq <| HT_runA ?_
  refine (HT_cond rfl (fun h3 => ?_) (fun h3 => HT_skip ?_))
  · try simp only [BN] at h3
    have h2 : P2 ≠ 0 := by simpa using h3
    rw [if_pos h2] at hA
    subst hA
    rw [if_neg h2, if_neg h2]
    refine HT_seq <| HT_runA ?_
    exact HT_ret ⟨.inr rfl, HT_endL (le_one 5 1 rfl) (by simp; rfl) (by simp [resR]) (by simp)⟩
  · try simp only [BN] at h3
    have h2 : P2 = 0 := by simpa using h3
    subst h2
    rw [if_neg (by simp)] at hA
    obtain ⟨hpc, hcc, hP1⟩ := hpo rfl
    have hwf := hwf hcc
    have hlast := hlast hcc
    have cbot := cbot hpc
    have cbd := cbd hcc
    have hbok := hbok hpc
    have hlok := hlok hpc
    rw [← hP1] at hlok
    have hP1l : P1.length = f.vars.length := by rw [hP1, List.length_map]
    obtain ⟨e1, e2⟩ := hnr hpc
    simp only [TV.one.injEq, CV.c.injEq] at e1
    subst e1 e2
    have cst := cst hpc
    clear hpo cin hnr hP1
    refine HT_seq <| (HT_runc [⟨false, .tup [lI H1, li H2], none⟩] (by simp [*]; first | exact ⟨rfl, Iff.rfl⟩ | exact ⟨rfl, trivial⟩ | rfl) ?_ ?_)
    · first | exact cht _ | exact trivial | simpa [*] using cht _
    refine HT_seq <| HT_seq <| HT_runA ?_
    refine (HT_cond rfl (fun h8 => ?_) (fun h8 => HT_skip ?_))
    · try simp only [BN] at h8
      have h2 : H2 ≠ 0 := by simpa using h8
      rw [if_pos h2] at hA
      subst hA
      rw [if_neg h2, if_neg h2]
      refine HT_seq <| HT_runA ?_
      exact HT_ret ⟨.inr rfl, HT_endL (le_one 5 1 rfl) (by simp; rfl) (by simp [resR]) (by simp)⟩
    · try simp only [BN] at h8
      have h2 : H2 = 0 := by simpa using h8
      subst h2
      rw [if_neg (by simp)] at hA
      have hl1 := hho rfl
      rw [← hl1] at hwf
      have crel := crel hwf
      have cst := cst hwf BOT P1 ⟨BOT, [], 0, false, [], []⟩ hbok hlok hP1l ⟨by simp only; omega, by simp only [List.length_nil]; omega, by simp only [List.length_nil]; omega, by simp only [List.length_nil]; omega⟩
      obtain ⟨RL, hRL⟩ : ∃ x, relL H1 f.body = x := ⟨_, rfl⟩
      rw [hRL] at crel hA
      clear hho cht hRL
      refine HT_seq <| HT_seq <| (HT_runc [⟨true, .v (lb RL), none⟩] (by simp [*]; first | exact ⟨rfl, Iff.rfl⟩ | exact ⟨rfl, trivial⟩ | rfl) ?_ ?_)
      · first | exact crel _ | exact trivial | simpa [*] using crel _
      refine (HT_cond rfl (fun h12 => ?_) (fun h12 => HT_skip ?_))
      · try simp only [BN] at h12
        have hr : RL = false := by simpa using h12
        rw [if_neg (by rw [hr]; decide)] at hA
        subst hA
        rw [if_neg (by decide), if_neg (by decide)]
        refine HT_seq <| HT_runA ?_
        exact HT_ret ⟨.inr rfl, HT_endL (le_one 5 1 rfl) (by simp; rfl) (by simp [resR]) (by simp)⟩
      · try simp only [BN] at h12
        have hr : RL = true := by simpa using h12
        rw [if_pos hr] at hA
        subst hA
        rw [if_pos rfl, if_pos rfl]
        obtain ⟨⟨X, T⟩, hT⟩ : ∃ x, tyL ⟨p.n, p.M, H1, p.observer⟩ FU f.body BOT P1 ⟨BOT, [], 0, false, [], []⟩ = x := ⟨_, rfl⟩
        rw [hT] at cst
        simp only [hT]
        obtain ⟨z1, z2, z3, z4, z5, z6⟩ := T
        simp only [tO, tB, tO8, show encIs [] = [] from rfl, show encLL [] = [] from rfl, Int.natCast_zero] at cst ⊢
        clear crel hT hwf hlok hbok hr
        refine HT_seq <| (HT_runc [⟨false, .tup [.one (.c (.ptr cs)), li 0], none⟩] (by simp [*]; first | exact ⟨rfl, Iff.rfl⟩ | exact ⟨rfl, trivial⟩ | rfl) ?_ ?_)
        · first | exact cnew _ | exact trivial | simpa [*] using cnew _
        refine HT_seq <| HT_seq <| HT_runA ?_
        refine (HT_cond rfl (fun h17 => ?_) (fun h17 => HT_skip ?_))
        · exact absurd h17 (by simp)
        · try simp only [BN] at h17
          refine HT_seq <| (HT_druncH [(54, 3)] [⟨true, .v (li BOT), none⟩] (by kernel_rfl) (by kernel_rfl) (by rfl) (by simp [evcH, hokB, hintOf, *, allTyped, fillC, placeOf]; first | exact ⟨rfl, Iff.rfl⟩ | exact ⟨rfl, trivial⟩ | rfl) ?_ ?_)
          · first | exact cbot _ | exact trivial | simpa [*, allTyped, fillC, placeOf] using cbot _
          refine HT_le (show le _ ⟨107, [(2, .v (.one (.at_ 2 0))), (7, .v (lI P1)), (10, .v (.one (.c (.ptr cs)))), (11, .v (.one (.at_ 59 0)))], [(2, .box [.c (.sl 5 (encVs f.vars)), .c (.sl 6 (encHs f.hats)), .c (.sl 10 (encSs f.body))]), (59, .box [.c (.ptr cs), .c (.sl 1 (encIs H1)), .c (iC p.observer), .c (iC BOT), .own 900001, .c (iC 0), .c (bC false), .own 900002, .own 900003]), (900001, .row 3 1 []), (900002, .row 38 1 []), (900003, .row 3 1 [])]⟩ from le_mk (fun n => n) [900001, 900002, 900003] rfl (by simp) (by simp) (by simp)) ?_
          refine HT_seq <| (HT_drawT [(61, 2)] 6 [⟨true, .v (li BOT), none⟩] [] (fun n => if n = 1000000 then 59 else n) (fun n => if n = 1000000 then 59 else n + 10) (by kernel_rfl) (by kernel_rfl) (by kernel_rfl) (by rfl) (by simp [*, evcH, hokB, hintOf]; first | exact ⟨rfl, Iff.rfl⟩ | exact ⟨rfl, trivial⟩ | rfl) ?_ (by rfl) (by simp; rfl) (handS_mk (by simp) (by simp) (by simp) (by simp) (by simp)) cst (by rfl) (by rfl) (by simp [evcH, hokB, hintOf]; rfl) trivial ?_)
          · first | exact cbot _ | exact trivial | simpa using cbot _
          clear cst
          rcases Nat.eq_zero_or_pos f.body.length with hz | hz
          · have hnn : f.body[f.body.length - 1]? = none := by rw [List.getElem?_eq_none_iff]; omega
            rw [hnn] at hSB
            simp only at hSB
            subst hSB
            simp only [Bool.false_eq_true, if_false]
            refine HT_seq <| HT_seq <| HT_runA ?_
            refine HT_seq <| HT_runA ?_
            refine (HT_cond rfl (fun h24 => ?_) (fun h24 => HT_skip ?_))
            · exact absurd h24 (by simp)
            · try simp only [BN] at h24
              refine HT_seq <| HT_runA ?_
              exact HT_ret ⟨.inr rfl, HT_endL (s2 := ⟨107, [(4, .v (.one (.at_ 800000 0))), (5, .v (lI X)), (6, .v (li 0))], [(900001, .row 3 1 (encIs z2)), (900002, .row 38 1 (encLL z5)), (900003, .row 3 1 (encIs z6)), (800000, .box [.c (.ptr cs), .c (.sl 1 (encIs H1)), .c (iC p.observer), .c (iC z1), .own 900001, .c (iC (z3 : Nat)), .c (bC z4), .own 900002, .own 900003])]⟩) (le_mk (fun n => if n = 800000 then 59 else n + 10) [] rfl (by simp) (by simp) (by simp)) (by simp; rfl) (by simp [resR]) (by simp)⟩
          · obtain ⟨q, hq⟩ : ∃ q, f.body[f.body.length - 1]? = some q := ⟨f.body[f.body.length - 1]'(by omega), List.getElem?_eq_getElem (by omega)⟩
            rw [hq] at hSB
            have hlq := hlast q (List.mem_of_getElem? hq)
            have hw : IntKind.i64.wrap ((f.body.length : Int) - 1) = ((f.body.length - 1 : Nat) : Int) := by rw [wrap_in (by have := len_nodesS f.body; omega) (by have := len_nodesS f.body; omega)]; omega
            have he' := get_encS hq
            obtain ⟨qd, qc, qv, qn, ⟨qo, qtn, qks⟩, qa, qb, qbs⟩ := q
            simp only [St.enc, Tm.enc, List.cons_append, List.nil_append] at he'
            have hlq : qd = 6 → qbs ≠ [] := hlq
            have hSB : (decide (qd = 6) && decide (BD.t ≤ (qbs[0]?).getD 0)) = SB := hSB
            obtain ⟨LE, hLE⟩ : ∃ x, f.body.length - 1 = x := ⟨_, rfl⟩
            rw [hLE] at hw he'
            have hzi : (0 : Int) < f.body.length := by omega
            clear hq hLE hz
            refine HT_seq <| HT_seq <| HT_runA ?_
            refine HT_seq <| HT_runA ?_
            refine (HT_cond rfl (fun h24 => ?_) (fun h24 => HT_skip ?_))
            · try simp only [BN] at h24
              have hq6 : qd = 6 := (by simpa using h24 : 0 < f.body.length ∧ qd = 6).2
              subst hq6
              obtain ⟨y, hy⟩ : ∃ y, qbs[0]? = some y := by
                cases qbs with
                | nil => exact absurd rfl (hlq rfl)
                | cons y l => exact ⟨y, rfl⟩
              rw [hy] at hSB
              obtain ⟨B1, B2, B3⟩ := BD
              simp only at cbd
              have hSB : SB = decide (B3 ≤ y) := by rw [← hSB]; simp
              refine HT_seq <| (HT_runc [⟨true, .tup [li B1, li B2, li B3, li 0], none⟩] (by simp [*]; first | exact ⟨rfl, Iff.rfl⟩ | exact ⟨rfl, trivial⟩ | rfl) ?_ ?_)
              · first | exact cbd _ | exact trivial | simpa [*] using cbd _
              refine HT_seq <| HT_runA ?_
              refine (HT_cond rfl (fun h27 => ?_) (fun h27 => HT_skip ?_))
              · try simp only [BN] at h27
                have hle : B3 ≤ y := by simpa using h27
                rw [decide_eq_true hle] at hSB
                subst hSB
                simp only [if_true]
                refine (HT_runc [⟨true, .v (li BOT), none⟩] (by simp [*]; first | exact ⟨rfl, Iff.rfl⟩ | exact ⟨rfl, trivial⟩ | rfl) ?_ ?_)
                · first | exact cbot _ | exact trivial | simpa [*] using cbot _
                refine HT_seq <| HT_runA ?_
                exact HT_ret ⟨.inr rfl, HT_endL (s2 := ⟨107, [(4, .v (.one (.at_ 800000 0))), (5, .v (lI X)), (6, .v (li 0))], [(900001, .row 3 1 (encIs z2)), (900002, .row 38 1 (encLL z5)), (900003, .row 3 1 (encIs z6)), (800000, .box [.c (.ptr cs), .c (.sl 1 (encIs H1)), .c (iC p.observer), .c (iC BOT), .own 900001, .c (iC (z3 : Nat)), .c (bC z4), .own 900002, .own 900003])]⟩) (le_mk (fun n => if n = 800000 then 59 else n + 10) [] rfl (by simp) (by simp) (by simp)) (by simp; rfl) (by simp [resR]) (by simp)⟩
              · try simp only [BN] at h27
                have hle : ¬ B3 ≤ y := by simpa using h27
                rw [decide_eq_false hle] at hSB
                subst hSB
                simp only [Bool.false_eq_true, if_false]
                refine HT_seq <| HT_runA ?_
                exact HT_ret ⟨.inr rfl, HT_endL (s2 := ⟨107, [(4, .v (.one (.at_ 800000 0))), (5, .v (lI X)), (6, .v (li 0))], [(900001, .row 3 1 (encIs z2)), (900002, .row 38 1 (encLL z5)), (900003, .row 3 1 (encIs z6)), (800000, .box [.c (.ptr cs), .c (.sl 1 (encIs H1)), .c (iC p.observer), .c (iC z1), .own 900001, .c (iC (z3 : Nat)), .c (bC z4), .own 900002, .own 900003])]⟩) (le_mk (fun n => if n = 800000 then 59 else n + 10) [] rfl (by simp) (by simp) (by simp)) (by simp; rfl) (by simp [resR]) (by simp)⟩
            · try simp only [BN] at h24
              have hq6 : ¬ qd = 6 := (by simpa using h24 : f.body = [] ∨ ¬ qd = 6).resolve_left (fun h => by rw [h] at hzi; simp at hzi)
              simp only [decide_eq_false hq6, Bool.false_and] at hSB
              subst hSB
              simp only [Bool.false_eq_true, if_false]
              refine HT_seq <| HT_runA ?_
              exact HT_ret ⟨.inr rfl, HT_endL (s2 := ⟨107, [(4, .v (.one (.at_ 800000 0))), (5, .v (lI X)), (6, .v (li 0))], [(900001, .row 3 1 (encIs z2)), (900002, .row 38 1 (encLL z5)), (900003, .row 3 1 (encIs z6)), (800000, .box [.c (.ptr cs), .c (.sl 1 (encIs H1)), .c (iC p.observer), .c (iC z1), .own 900001, .c (iC (z3 : Nat)), .c (bC z4), .own 900002, .own 900003])]⟩) (le_mk (fun n => if n = 800000 then 59 else n + 10) [] rfl (by simp) (by simp) (by simp)) (by simp; rfl) (by simp [resR]) (by simp)⟩
end Go.Proofs.Ytfjidddhehckoaa


namespace Go.Proofs.Ytfjidddhehckoaa
open Go Go.Hl

/-! ## Check -/
def accB (f : Fl) (p : Po) : Bool := decide ((tyE f p).2.faults.length = 0) && (!p.timed || p.B (tyE f p).2.time p.observer)
abbrev aTg (a : Bool) (fa : List Int) (t : Int) (e : List Int) : TV := .agg [.c (bC a), .c (.sl 1 (encIs fa)), .c (iC t), .c (.sl 1 (encIs e))]
def chkR (f : Fl) (p : Po) : RV := if askC f p = 0 then .tup [aTg (accB f p) (tyE f p).2.faults (tyE f p).2.time (tyE f p).1, li 0] else .tup [aTg false [] 0 [], li (askC f p)]
theorem checkT_con (f : Fl) (p : Po) (hs : smP p) (hrep : repC f.hats.length) (hv : f.vars.length ≤ 1000000) (hh : f.hats.length ≤ 1000000) (hn : nodesS f.body + nodesH f.hats ≤ 900000) (hb : bndL f.body = true) (hlen : askC f p = 0 → (tyE f p).1.length ≤ 1000000) (d : Nat) :
    Con Try.prog 8 false [aF f, aPo p] (chkR f p) none d := by
  have crun := runT_con f p hs hrep hv hh hn hb
  have cbe := belL_con p (tyE f p).2.time p.observer
  have ccl := fun h => cloneI_con (tyE f p).1 (by have := hlen h; omega)
  unfold chkR accB
  unfold runRt runOt at crun
  obtain ⟨A, hA⟩ : ∃ x, askC f p = x := ⟨_, rfl⟩
  obtain ⟨⟨X, T⟩, hT⟩ : ∃ x, tyE f p = x := ⟨_, rfl⟩
  obtain ⟨cs, hL⟩ := lat_ptr p
  obtain ⟨HV, hH⟩ : ∃ x, (phtF f p).1 = x := ⟨_, rfl⟩
  rw [hA] at crun
  simp only [hT, hL, hH, hA] at crun cbe ccl ⊢
  obtain ⟨z1, z2, z3, z4, z5, z6⟩ := T
  simp only at cbe ⊢
  obtain ⟨BE, hBE⟩ : ∃ x, p.B z1 p.observer = x := ⟨_, rfl⟩
  rw [hBE] at cbe ⊢
  clear hA hT hL hH hBE hs hrep hv hh hn hb hlen
  refine con_of_HT Try.func8 rfl (by kernel_rfl) (Nat.le_of_ble_eq_true rfl) ?_
  simp only [Try.f8]
  simp only [tO8, tB] at crun
  simp only [aF, Fl.enc, aPo, Po.enc, List.map_cons, List.map_nil] at crun ⊢
  refine HT_seq <| HT_runA ?_
  rcases Classical.em (A = 0) with hA | hA
  · subst hA
    rw [if_pos rfl, if_pos rfl] at crun
    rw [if_pos rfl]
    have ccl := ccl rfl
    refine HT_seq <| (HT_runsS ?_)
    refine RunsS.cutE 2 [] (by simp [*]; rfl) trivial (le_refl _) ?_
    refine RunsS.call (fun n => n) (fun n => n) (by simp; rfl) (handS_mk (by simp) (by simp) (by simp) (by simp) (by simp)) crun (by rfl) ?_
    refine RunsS.doneE [] (by simp; rfl) trivial ?_
    clear crun
    refine HT_seq <| HT_seq <| HT_runA ?_
    refine (HT_cond rfl (fun h3 => ?_) (fun h3 => HT_skip ?_))
    · exact absurd h3 (by simp)
    · try simp only [BN] at h3
      refine HT_seq <| (HT_druncH [(23, 800000), (27, 800000), (9, 9)] [⟨false, .v (lI X), none⟩] (by kernel_rfl) (by kernel_rfl) (by rfl) (by simp [evcH, hokB, hintOf, *, allTyped, fillC, placeOf]; first | exact ⟨rfl, Iff.rfl⟩ | exact ⟨rfl, trivial⟩ | rfl) ?_ ?_)
      · first | exact ccl _ | exact trivial | simpa [*, allTyped, fillC, placeOf] using ccl _
      refine HT_seq <| (HT_druncH [(34, 800000), (39, 3), (45, 800000), (49, 800000), (51, 3), (56, 9)] [⟨true, .v (lb BE), none⟩] (by kernel_rfl) (by kernel_rfl) (by rfl) (by simp [evcH, hokB, hintOf, *]; first | exact ⟨rfl, Iff.rfl⟩ | exact ⟨rfl, trivial⟩ | rfl) ?_ ?_)
      · first | exact cbe _ | exact trivial | simpa [*] using cbe _
      refine HT_seq <| HT_runA ?_
      exact HT_ret ⟨.inr rfl, _, le_frz 900001 rfl, ⟨⟨_, by simp; rfl, by simp [resR]⟩, by simp, fun h => by cases h⟩⟩
  · rw [if_neg hA, if_neg hA] at crun
    rw [if_neg hA]
    refine HT_seq <| (HT_runsS ?_)
    refine RunsS.cutE 2 [] (by simp [*]; rfl) trivial (le_refl _) ?_
    refine RunsS.call (fun n => n) (fun n => n) (by simp; rfl) (handS_mk (by simp) (by simp) (by simp) (by simp) (by simp)) crun (by rfl) ?_
    refine RunsS.doneE [] (by simp; rfl) trivial ?_
    clear crun
    refine HT_seq <| HT_seq <| HT_runA ?_
    refine (HT_cond rfl (fun h3 => ?_) (fun h3 => HT_skip ?_))
    · try simp only [BN] at h3
      refine HT_seq <| (HT_run (by simp [*, allTyped, fillC, placeOf]; rfl) ?_)
      refine HT_le (le_box 4 [.c (bC false), .c (.sl 1 []), .c (iC 0), .c (.sl 1 [])] rfl (by (repeat' (first | exact LWk.nil | apply LWk.cons | exact CWk.refl _ | exact CWk.nil _)))) ?_
      exact HT_ret ⟨.inr rfl, _, le_refl _, ⟨⟨_, by simp; rfl, by simp [resR]⟩, by simp, fun h => by cases h⟩⟩
    · exact absurd h3 (by simpa using hA)
end Go.Proofs.Ytfjidddhehckoaa


namespace Go.Proofs.Ytfjidddhehckoaa
open Go Go.Hl

/-! ## the reference's check of a policy -/
theorem hasN_iff (l : List ByteArray) (s : ByteArray) : Lt.hasN l s = true ↔ s ∈ l := by
  simp only [Lt.hasN, List.any_eq_true, decide_eq_true_eq]
  constructor
  · rintro ⟨x, hx, rfl⟩
    exact hx
  · intro h
    exact ⟨s, h, rfl⟩
def smQ (p : Po) : Prop := p.order.length ≤ 60 ∧ p.inputs.length ≤ 1000000 ∧ p.hatches.length ≤ 1000000 ∧ p.levels.length ≤ 14
end Go.Proofs.Ytfjidddhehckoaa


namespace Go.Proofs.Ytfjidddhehckoaa
open Go Go.Hl

/-! ## the reference's levels of variables -/
/-- what is small enough for the walks -/
structure smF (f : Fl) : Prop where
  hv : f.vars.length ≤ 1000000
  hh : f.hats.length ≤ 1000000
  hn : nodesS f.body + nodesH f.hats ≤ 900000
  hb : bndL f.body = true
end Go.Proofs.Ytfjidddhehckoaa


namespace Go.Proofs.Ytfjidddhehckoaa.Lt
open Go Go.Hl
end Go.Proofs.Ytfjidddhehckoaa.Lt
namespace Go.Proofs.Ytfjidddhehckoaa
open Go Go.Hl
end Go.Proofs.Ytfjidddhehckoaa


namespace Go.Proofs.Ytfjidddhehckoaa
open Go Go.Hl

/-! ## the reference's levels of hatches -/
end Go.Proofs.Ytfjidddhehckoaa


namespace Go.Proofs.Ytfjidddhehckoaa
open Go Go.Hl

/-! ## what the typer notes, step by step -/
abbrev Ent := St × List Int × Int
def fltB (e : En) (x : Ent) : Bool := decide (x.1.do_ = 1) && !e.B (tlT e.J x.2.1 x.1.term x.2.2) e.W
def fltF (e : En) : Nat → List Ent → List Int
  | _, [] => []
  | k, x :: l => (if fltB e x = true then [(k : Int)] else []) ++ fltF e (k + 1) l
theorem fltF_app (e : En) : ∀ (l m : List Ent) (k : Nat), fltF e k (l ++ m) = fltF e k l ++ fltF e (k + l.length) m
  | [], m, k => by simp [fltF]
  | x :: l, m, k => by
    simp only [List.cons_append, fltF, fltF_app e l m (k + 1), List.length_cons, List.append_assoc]
    rw [show k + 1 + l.length = k + (l.length + 1) by omega]
structure Lg (e : En) (t : Tp) (st : List Int) (ms : List Int) (E : List Ent) (r : List Int × Tp) : Prop where
  out : r.1 = st
  time : r.2.time = ms.foldl e.J t.time
  dry : r.2.dry = t.dry
  at_ : r.2.at_ = t.at_ + E.length
  states : r.2.states = if t.dry = true then t.states else t.states ++ E.map (·.2.1)
  counts : r.2.counts = if t.dry = true then t.counts else t.counts ++ E.map (·.2.2)
  faults : r.2.faults = if t.dry = true then t.faults else t.faults ++ fltF e t.at_ E
theorem Lg.nil (e : En) (t : Tp) (st : List Int) : Lg e t st [] [] (st, t) := by
  refine ⟨rfl, rfl, rfl, rfl, ?_, ?_, ?_⟩ <;> simp [fltF]
theorem Lg.seq {e : En} {t : Tp} {st1 m1 : List Int} {E1 : List Ent} {r1 : List Int × Tp} {st2 m2 : List Int} {E2 : List Ent} {r2 : List Int × Tp} (h : Lg e t st1 m1 E1 r1) (k : Lg e r1.2 st2 m2 E2 r2) : Lg e t st2 (m1 ++ m2) (E1 ++ E2) r2 := by
  obtain ⟨h1, h2, h3, h4, h5, h6, h7⟩ := h
  obtain ⟨k1, k2, k3, k4, k5, k6, k7⟩ := k
  refine ⟨k1, by rw [k2, h2, List.foldl_append], by rw [k3, h3], by rw [k4, h4, List.length_append]; omega, ?_, ?_, ?_⟩
  · rw [k5, h3, h5]; split <;> simp
  · rw [k6, h3, h6]; split <;> simp
  · rw [k7, h3, h7, h4, fltF_app]; split <;> simp
/-! ## the observer does not matter but for the faults -/
/-! ## steps in preorder -/
end Go.Proofs.Ytfjidddhehckoaa


namespace Go.Proofs.Ytfjidddhehckoaa
open Go Go.Hl

/-! ## levels -/
section
variable {e : En}
def En.L (e : En) (a b : Int) : Prop := e.M a.toNat b.toNat = true
/-! ## the levels of a term's variables -/
mutual
def menB : Tm → Nat → Bool
  | .mk o n ks, v => (decide (o = 24) && decide (n.toNat = v)) || menBs ks v
def menBs : List Tm → Nat → Bool
  | [], _ => false
  | t :: l, v => menB t v || menBs l v
end

/-! ## the form of steps -/
end
end Go.Proofs.Ytfjidddhehckoaa


namespace Go.Proofs.Ytfjidddhehckoaa
open Go Go.Hl

end Go.Proofs.Ytfjidddhehckoaa


namespace Go.Proofs.Ytfjidddhehckoaa
open Go Go.Hl

/-! ## the step with an index -/
end Go.Proofs.Ytfjidddhehckoaa


namespace Go.Proofs.Ytfjidddhehckoaa
open Go Go.RowKit

/-! ## slices.Repeat -/
def filV (n m : Nat) : List Value := List.replicate m (Value.int .i64 (-1)) ++ List.replicate (n - m) (Value.int .i64 0)
theorem filV_len {n m : Nat} (h : m ≤ n) : (filV n m).length = n := by simp [filV]; omega
theorem filV_splice {n m k : Nat} (h : m + k ≤ n) : splice (filV n m) m (List.replicate k (Value.int .i64 (-1))) = filV n (m + k) := by
  unfold splice filV
  rw [List.take_left' (by simp), List.drop_append, List.drop_of_length_le (by simp), List.nil_append]
  simp only [List.length_replicate, List.drop_replicate, ← List.append_assoc, ← List.replicate_append_replicate]
  congr 2
  omega
theorem filV_get {n m j : Nat} {v : Value} (h : (List.replicate m (Value.int .i64 (-1)))[j]? = some v) : (filV n m)[j]? = some v := by
  unfold filV
  rw [List.getElem?_append_left (List.getElem?_eq_some_iff.1 h).1, h]
theorem rep_walk (n : Nat) (hn : n ≤ 1000) (ad : Addr) (cap : Nat) (w : World) (hsrc : w.cell? ad = some (.int .i64 (-1))) (hb : ad.block < w.heap.size)
    (hMul : ∀ w, Calls Try.prog 61 #[.int .u64 1, .int .u64 n] w fun e w' => e = .returned (.tuple #[.int .u64 0, .int .u64 n]) ∧ w' = w) :
    Calls Try.prog 35 #[.slice (some ad) 1 cap, .int .i64 n] w fun e w' => e = .returned (.slice (some ⟨w.heap.size, 0, none⟩) n n) ∧ Below w.heap.size w w' ∧ w'.heap[w.heap.size]? = some (.cells (filV n n).toArray 3 (0, 0)) := by
  have hMul := hMul w
  have hu : Try.prog.underlying 38 = some (.slice 3) := by kernel_rfl
  have hsz : (Try.prog.info? 3).map (·.size) = some 1 := by kernel_rfl
  have b0 : Below w.heap.size w (w.alloc (.cells (Array.replicate n (Value.int IntKind.i64 0)) 3)) := (Below.refl _ w).alloc (Nat.le_refl _) _
  have hlt : ¬ ((n : Int) < 0) := by omega
  have hlt2 : ¬ ((9223372036854775807 : Int) < n) := by omega
  have hwn : IntKind.u64.wrap (n : Int) = n := by rw [IntKind.wrap_u64]; omega
  have hwi : IntKind.i64.wrap (n : Int) = n := by rw [IntKind.wrap_i64]; omega
  have hwa : (w.alloc (.cells (Array.replicate n (Value.int IntKind.i64 0)) 3)).heap[w.heap.size]? = some (.cells (filV n 0).toArray 3 (0, 0)) := by
    rw [heap_alloc_new]
    simp [filV]
  obtain ⟨k0, hk0, hk1⟩ : ∃ k0, k0 = Nat.min 1 n ∧ k0 ≤ n := ⟨_, rfl, Nat.min_le_right _ _⟩
  obtain ⟨W1, hcp, hb1, hW1⟩ : ∃ W1, (∀ ty, (Builtin.copy_ #[38, 38] ty #[.slice (some ⟨w.heap.size, 0, none⟩) n n, .slice (some ad) 1 cap]).run Try.prog (w.alloc (.cells (Array.replicate n (Value.int IntKind.i64 0)) 3)) = .ok (goInt k0) W1) ∧
      Below w.heap.size w W1 ∧ W1.heap[w.heap.size]? = some (.cells (filV n k0).toArray 3 (0, 0)) := by
    rcases Nat.eq_zero_or_pos n with h0 | h0
    · subst h0
      have : k0 = 0 := by omega
      subst this
      exact ⟨_, fun ty => run_copy_none _ _ _ ty _ _ _ _ _ _ _ hu hsz rfl, b0, hwa⟩
    · have : k0 = 1 := by rw [hk0]; simp [Nat.min_def]; omega
      subst this
      have hc : (w.alloc (.cells (Array.replicate n (Value.int IntKind.i64 0)) 3)).cell? ad = some (.int .i64 (-1)) := by
        rw [World.cell?_of_block (Below.heap_alloc _ _ _ hb), hsrc]
      refine ⟨_, fun ty => run_copy_row Try.prog _ _ _ ty _ w.heap.size 0 n n ad 1 cap _ _ [Value.int .i64 (-1)] hu hsz hwa hk0 (fun j v hj => ?_) (by simp [filV]; omega) (by simp [Value.oneCell']), below_setRow b0 (Nat.le_refl _) _, ?_⟩
      · cases j with
        | zero => simp at hj; subst hj; simpa [Addr.add] using hc
        | succ j => simp at hj
      · rw [setRow_heap _ _ _ _ _ _ hwa]
        have := filV_splice (n := n) (m := 0) (k := 1) (by omega)
        rw [Nat.zero_add] at this
        rw [← this]
        simp [splice]
  have hk2 : n = 0 ∨ 1 ≤ k0 := by rw [hk0]; show n = 0 ∨ 1 ≤ min 1 n; omega
  have HK : Aside (n = 0 ∨ 1 ≤ k0) := hk2
  clear hk0 hk2
  have hms : ∀ W, (Instr.makeSlice 38 (Value.int IntKind.i64 n) (Value.int IntKind.i64 n)).run Try.prog W = .ok (.slice (some ⟨W.heap.size, 0, none⟩) n n) (W.alloc (.cells (Array.replicate n (Value.int .i64 0)) 3)) := by
    intro W
    obtain ⟨i, z, hi, hz, h1, h2, h3⟩ : ∃ i z, Try.prog.info? 3 = some i ∧ i.zero = some z ∧ i.size = 1 ∧ i.bytes = 8 ∧ z.cells.toList = [.int .i64 0] := by
      have ht : Go.Hl.tyOf Try.prog 3 = some ⟨1, 8, false, [.int .i64 0], .other⟩ := by kernel_rfl
      unfold Go.Hl.tyOf at ht
      split at ht
      · rename_i i d hi hd
        split at ht
        · rename_i z hz
          simp only [Option.some.injEq, Go.Hl.TI.mk.injEq] at ht
          exact ⟨i, z, hi, hz, ht.1, ht.2.1, ht.2.2.2.1⟩
        · cases ht
      · cases ht
    have hr := run_makeSlice (P := Try.prog) (w := W) 38 3 i z hu hi hz .i64 .i64 (n : Int) (n : Int) (by omega) (Int.le_refl _) (by rw [h1]; simp; omega) (by rw [h2]; omega) (by omega)
    rw [hr, h1]
    have hzc : z.cells = #[.int .i64 0] := by
      apply Array.toList_inj.1
      rw [h3]
    rw [hzc]
    have := toList_madeCells_one (Value.int .i64 0) n
    have e : madeCells #[Value.int .i64 0] n = Array.replicate n (Value.int .i64 0) := by
      apply Array.toList_inj.1
      rw [this, Array.toList_replicate]
    simp only [Int.toNat_natCast, Nat.mul_one, e]
  go_enter Try.func35, Try.ntmps35
  go_wp2_with (go_at_fn 61)
  refine hMul.mono ?_
  rintro e w' ⟨rfl, hw⟩
  rw [hw]
  simp only []
  clear hMul hwa
  go_wp2
  clear hms hcp hMul
  go_loopg [8] (n - k0) (fun k s8 wx => ∃ m : Nat, m ≤ n ∧ (n = 0 ∨ 1 ≤ m) ∧ k = n - m ∧ s8 = .int .i64 m ∧ wx.heap[w.heap.size]? = some (.cells (filV n m).toArray 3 (0, 0)) ∧ Below w.heap.size w wx)
  case atStart => exact ⟨k0, hk1, HK.out, rfl, rfl, hW1, hb1⟩
  case round =>
    obtain ⟨m, hmn, hm1, hg, rfl, hW, hbx⟩ := hrel
    have HG : Aside (gk = n - m) := hg
    clear hg
    by_cases hlt3 : m < n
    · have hlt4 : (m : Int) < n := by omega
      obtain ⟨k, hk, hkn, hk0⟩ : ∃ k, k = Nat.min m (n - m) ∧ m + k ≤ n ∧ (1 ≤ m → 1 ≤ k) := ⟨_, rfl, by show m + min m (n - m) ≤ n; omega, by show 1 ≤ m → 1 ≤ min m (n - m); omega⟩
      have HKK : Aside (k = Nat.min m (n - m) ∧ m + k ≤ n ∧ (1 ≤ m → 1 ≤ k)) := ⟨hk, hkn, hk0⟩
      clear hk hkn hk0
      have hwk : IntKind.i64.wrap ((m : Int) + (k : Int)) = ((m + k : Nat) : Int) := by
        have := HKK.out.2.1
        rw [IntKind.wrap_i64]; omega
      have hWd : wr.drew.heap[w.heap.size]? = some (.cells (filV n m).toArray 3 (0, 0)) := hW
      have hbd : Below w.heap.size w wr.drew := hbx.drew
      have hnm : ¬ n = m := by omega
      have hcell : ∀ j v, (List.replicate k (Value.int .i64 (-1)))[j]? = some v → wr.drew.cell? ((⟨w.heap.size, 0, none⟩ : Addr).add j) = some v := by
        intro j v hj
        have hjk : j < k := by have := (List.getElem?_eq_some_iff.1 hj).1; simpa using this
        have hkm : k ≤ m := by rw [HKK.out.1]; exact Nat.min_le_left _ _
        have : (filV n m)[j]? = some v := filV_get (by
          rw [List.getElem?_replicate] at hj ⊢
          rw [if_pos (by omega)]
          rw [if_pos hjk] at hj
          exact hj)
        rw [Addr.add_lit, Nat.zero_add]
        simp [World.cell?, hWd, this]
      obtain ⟨W4, hcp2, hb4, hW4⟩ : ∃ W4, (∀ ty, (Builtin.copy_ #[38, 38] ty #[.slice (some ⟨w.heap.size, m, none⟩) (n - m) (n - m), .slice (some ⟨w.heap.size, 0, none⟩) m n]).run Try.prog wr.drew = .ok (goInt k) W4) ∧
          Below w.heap.size w W4 ∧ W4.heap[w.heap.size]? = some (.cells (filV n (m + k)).toArray 3 (0, 0)) := by
        have hr := fun ty => run_copy_row Try.prog wr.drew 38 38 ty 3 w.heap.size m (n - m) (n - m) ⟨w.heap.size, 0, none⟩ m n _ _ (List.replicate k (Value.int .i64 (-1))) hu hsz hWd (by simpa using HKK.out.1) hcell (by simpa [filV_len hmn] using HKK.out.2.1) (by simp [Value.oneCell'])
        rw [List.length_replicate] at hr
        refine ⟨_, hr, below_setRow hbd (Nat.le_refl _) _, ?_⟩
        rw [setRow_heap _ _ _ _ _ _ hWd, ← filV_splice HKK.out.2.1]
        simp [splice]
      have hm9 : (m : Int) ≤ n := by omega
      clear hWd hbd hcell hsrc hb b0 hu hsz hwn hwi hlt hlt2 hb1 hW1
      go_wp2
      go_region
      go_wp2
      go_roundg (n - (m + k))
      case measure =>
        have h1 := HG.out
        obtain ⟨h2, h3, h4⟩ := HKK.out
        omega
      case rel =>
        obtain ⟨h2, h3, h4⟩ := HKK.out
        exact ⟨m + k, h3, by omega, rfl, rfl, hW4, hb4⟩
    · have hlt4 : ¬ (m : Int) < n := by omega
      go_wp2
      go_ret
      obtain rfl : m = n := by omega
      exact ⟨rfl, hbx, hW⟩
end Go.Proofs.Ytfjidddhehckoaa


namespace Go.Proofs.Ytfjidddhehckoaa
open Go Go.Hl Go.Shelf

def mulR : Ren := ⟨fun f => if f = 212 then 61 else if f = 264 then 80 else if f = 263 then 79 else f, fun t => if t = 46 then 119 else if t = 53 then 139 else if t = 51 then 136 else if t = 146 then 137 else if t = 148 then 140 else t, fun g => g⟩
theorem mulL : Lays.n212 Try.prog mulR where
  mixed := by kernel_rfl
  f212 := by kernel_rfl
  f263 := by kernel_rfl
  f264 := by kernel_rfl
  t46 := by kernel_rfl
  a46 := fun w => rfl
  z46 := fun w => rfl
  v46 := fun w => rfl
  t51 := by kernel_rfl
  a51 := fun w => rfl
  z51 := fun w => rfl
  v51 := fun w => rfl
  t53 := by kernel_rfl
  a53 := fun w => rfl
  z53 := fun w => rfl
  v53 := fun w => rfl
  t146 := by kernel_rfl
  a146 := fun w => rfl
  z146 := fun w => rfl
  v146 := fun w => rfl
  t148 := by kernel_rfl
  a148 := fun w => rfl
  z148 := fun w => rfl
  v148 := fun w => rfl
theorem mul_calls (n : Nat) (hn : n ≤ 1000) (w : World) : Calls Try.prog 61 #[.int .u64 1, .int .u64 n] w fun e w' => e = .returned (.tuple #[.int .u64 0, .int .u64 n]) ∧ w' = w := by
  have h := Any.bits_Mul mulL 1 n (by omega) (by omega) w
  rw [show 1 * n / 18446744073709551616 = 0 by omega, show 1 * n % 18446744073709551616 = n by omega] at h
  exact h
theorem repC_holds {n : Nat} (hn : n ≤ 1000) : repC n := by
  intro d hd
  refine ⟨by kernel_rfl, fun F w vs hF hsz hargs => ?_⟩
  obtain ⟨l⟩ := vs
  match l, hsz with
  | [v0, v1], _ =>
    have a0 : CRel F w (.sl 1 (encIs [-1])) v0 := hargs 0 _ v0 rfl rfl
    have a1 : CRel F w (.lit (.int .i64 n)) v1 := hargs 1 _ v1 rfl rfl
    cases a1
    rcases a0.sl_inv with ⟨h, _⟩ | ⟨b, o, cap, cells, rfl, hb, hcap, hmax, hs, hc, h1, hr⟩
    · cases h
    have hcell : w.cell? ⟨b, o, none⟩ = some (.int .i64 (-1)) := by
      have h0 := hc 0 0 (iC (-1)) rfl
      have h2 := hr 0 0 (iC (-1)) rfl
      have e : cells 0 0 = .int .i64 (-1) := by
        generalize cells 0 0 = z at h2
        cases h2
        rfl
      rw [e] at h0
      simpa using h0
    refine (rep_walk n hn ⟨b, o, none⟩ cap w hcell (hF b hb) (mul_calls n hn)).mono ?_
    rintro e w' ⟨rfl, hbl, hh⟩
    have hfil : filV n n = List.replicate n (Value.int .i64 (-1)) := by simp [filV]
    rw [hfil] at hh
    have hsize : w.heap.size < w'.heap.size := (Array.getElem?_eq_some_iff.1 hh).1
    let γ' : Nat → Value := fun k => if k = d then .slice (some ⟨w.heap.size, 0, none⟩) n n else .nilFunc
    have hγ : γ' d = .slice (some ⟨w.heap.size, 0, none⟩) n n := by simp [γ']
    refine ⟨_, fun _ => False, γ', rfl, hbl, fun b hb => hb.elim, ⟨by rw [hγ]; rfl, rfl⟩, fun o ho => ?_⟩
    cases ho
    refine ⟨⟨by decide, ?_, List.replicate n (Value.int .i64 (-1)), ⟨by simp, .inr ⟨w.heap.size, n, (List.replicate n (Value.int .i64 (-1))).toArray, ?_, Nat.lt_irrefl _, hh, by simp, ?_, by simp, ?_⟩⟩, ?_, ?_⟩, fun b _ hb => hb⟩
    · intro r hr
      simp only [encIs, List.mem_map] at hr
      obtain ⟨x, _, rfl⟩ := hr
      rfl
    · rw [hγ]; simp
    · unfold maxLen; omega
    · simp
    · intro u hu
      rw [List.mem_replicate] at hu
      rw [hu.2]
      rfl
    · intro i j c hcx
      unfold getRC at hcx
      rw [get_encI] at hcx
      cases hz : (List.replicate n (-1 : Int))[i]? with
      | none => rw [hz] at hcx; cases hcx
      | some x =>
        rw [hz] at hcx
        have hin : i < n := by have := (List.getElem?_eq_some_iff.1 hz).1; simpa using this
        have hx : x = -1 := by rw [List.getElem?_replicate, if_pos hin] at hz; cases hz; rfl
        subst hx
        cases j with
        | zero => cases hcx; exact ⟨.int .i64 (-1), by simp [hin], CRel.lit _⟩
        | succ j => cases hcx
end Go.Proofs.Ytfjidddhehckoaa


namespace Go.Proofs.Ytfjidddhehckoaa
open Go Go.Hl

mutual
def tL : Tm → Int → Int
  | .mk _ _ ks, left => tLs ks (left - 1)
def tLs : List Tm → Int → Int
  | [], left => left
  | t :: l, left => if 0 ≤ left then tLs l (tL t left) else left
end
def lo1 (x : Int) : Int := if x < 0 then x else -1
mutual
theorem tL_in : ∀ (t : Tm) (left : Int), lo1 (left - 1) ≤ tL t left ∧ tL t left ≤ left - 1
  | .mk _ _ ks, left => by
    simp only [tL]
    exact tLs_in ks (left - 1)
theorem tLs_in : ∀ (l : List Tm) (left : Int), lo1 left ≤ tLs l left ∧ tLs l left ≤ left
  | [], left => by
    simp only [tLs, lo1]
    split <;> omega
  | t :: l, left => by
    simp only [tLs]
    split
    · have h1 := tL_in t left
      have h2 := tLs_in l (tL t left)
      unfold lo1 at *
      refine ⟨?_, by omega⟩
      split
      · omega
      · refine Int.le_trans ?_ h2.1
        split <;> (try split at h1) <;> omega
    · unfold lo1
      split <;> omega
end
theorem tLs_neg (l : List Tm) (left : Int) (h : left < 0) : tLs l left = left := by
  cases l with
  | nil => rfl
  | cons t l => simp only [tLs]; rw [if_neg (by omega)]
mutual
theorem tL_pos : ∀ (t : Tm) (left : Int), 0 ≤ tL t left → tL t left = left - t.nodes
  | .mk _ _ ks, left => by
    simp only [tL, Tm.nodes]
    intro h
    have := tLs_pos ks (left - 1) h
    omega
theorem tLs_pos : ∀ (l : List Tm) (left : Int), 0 ≤ tLs l left → tLs l left = left - nodesT l
  | [], left => by simp [tLs, nodesT]
  | t :: l, left => by
    simp only [tLs, nodesT]
    split
    · intro h
      have h1 := tLs_pos l (tL t left) h
      have h2 := tLs_in l (tL t left)
      have h3 := tL_pos t left (by omega)
      omega
    · intro h; omega
end
def sL : List St → Int → Int
  | [], left => left
  | .mk _ _ _ _ t a b bs :: l, left =>
    if 0 ≤ left then (if tL t (left - 1) < bs.length then -1 else sL l (sL b (sL a (tL t (left - 1) - bs.length)))) else left
theorem sL_neg (l : List St) (left : Int) (h : left < 0) : sL l left = left := by
  cases l with
  | nil => simp [sL]
  | cons s l => obtain ⟨d, c, v, n, t, a, b, bs⟩ := s; simp only [sL]; rw [if_neg (by omega)]
theorem sL_in : ∀ (l : List St) (left : Int), lo1 left ≤ sL l left ∧ sL l left ≤ left
  | [], left => by
    simp only [sL, lo1]
    split <;> omega
  | .mk _ _ _ _ t a b bs :: l, left => by
    simp only [sL]
    by_cases h0 : 0 ≤ left
    · rw [if_pos h0]
      have e : lo1 left = -1 := by unfold lo1; rw [if_neg (by omega)]
      rw [e]
      split
      · omega
      · have h1 := tL_in t (left - 1)
        have ha := sL_in a (tL t (left - 1) - bs.length)
        have hb := sL_in b (sL a (tL t (left - 1) - bs.length))
        have hl := sL_in l (sL b (sL a (tL t (left - 1) - bs.length)))
        refine ⟨?_, by omega⟩
        generalize sL l (sL b (sL a (tL t (left - 1) - bs.length))) = z at *
        generalize sL b (sL a (tL t (left - 1) - bs.length)) = y at *
        generalize sL a (tL t (left - 1) - bs.length) = x at *
        generalize tL t (left - 1) = w at *
        unfold lo1 at ha hb hl
        (repeat' split at ha) <;> (repeat' split at hb) <;> (repeat' split at hl) <;> omega
    · rw [if_neg h0]
      unfold lo1
      split <;> omega
theorem sL_pos : ∀ (l : List St) (left : Int), left ≤ 1000000 → 0 ≤ sL l left → sL l left ≤ left - nodesS l ∧ bndL l = true
  | [], left, _, _ => by simp [sL, nodesS, bndL]
  | .mk _ _ _ _ t a b bs :: l, left, hle, h => by
    simp only [sL] at h ⊢
    by_cases h0 : 0 ≤ left
    · rw [if_pos h0] at h ⊢
      split at h
      · omega
      · rename_i hbs
        rw [if_neg hbs]
        have i0 := tL_in t (left - 1)
        have ia := sL_in a (tL t (left - 1) - bs.length)
        have ib := sL_in b (sL a (tL t (left - 1) - bs.length))
        have il := sL_in l (sL b (sL a (tL t (left - 1) - bs.length)))
        have p3 := sL_pos l (sL b (sL a (tL t (left - 1) - bs.length))) (by omega) h
        have p2 := sL_pos b (sL a (tL t (left - 1) - bs.length)) (by omega) (by omega)
        have p1 := sL_pos a (tL t (left - 1) - bs.length) (by omega) (by omega)
        have p0 := tL_pos t (left - 1) (by omega)
        simp only [nodesS, St.nodes, bndL, bndS, p1.2, p2.2, p3.2, Bool.and_true, decide_eq_true_eq]
        omega
    · rw [if_neg h0] at h
      omega
def hL : List Ht → Int → Int
  | [], m => m
  | h :: l, m => hL l (tL h.term m)
theorem hL_le : ∀ (l : List Ht) (m : Int), hL l m ≤ m
  | [], m => by simp [hL]
  | h :: l, m => by
    have h1 := hL_le l (tL h.term m)
    have h2 := tL_in h.term m
    simp only [hL]
    omega
theorem hL_pos : ∀ (l : List Ht) (m : Int), 0 ≤ hL l m → hL l m = m - nodesH l
  | [], m, _ => by simp [hL, nodesH]
  | h :: l, m, h0 => by
    simp only [hL, nodesH] at h0 ⊢
    have h1 := hL_pos l _ h0
    have h2 := hL_le l (tL h.term m)
    have h3 := tL_pos h.term m (by omega)
    omega
def fewB (f : Fl) (vars nodes : Int) : Bool := if vars < f.vars.length ∨ vars < f.hats.length then false else decide (0 ≤ hL f.hats (sL f.body nodes))
theorem fewB_in {f : Fl} {vars nodes : Int} (hn : nodes ≤ 1000000) (h : fewB f vars nodes = true) : f.vars.length ≤ vars ∧ f.hats.length ≤ vars ∧ nodesS f.body + nodesH f.hats ≤ nodes ∧ bndL f.body = true := by
  unfold fewB at h
  split at h
  · cases h
  · rename_i h1
    simp only [decide_eq_true_eq] at h
    have e1 := hL_pos _ _ h
    have e2 := hL_le f.hats (sL f.body nodes)
    have e3 := sL_pos f.body nodes hn (by omega)
    exact ⟨by omega, by omega, by omega, e3.2⟩

theorem tleft_con (t : Tm) : ∀ left : Int, -1000000 ≤ left → left ≤ 1000000 → ∀ d : Nat, Con Try.prog 11 true [aT t, li left] (.v (li (tL t left))) none d := by
  induction t using Tm.ind with
  | h o n ks ih =>
  intro left h1 h2 d
  obtain ⟨res, hres⟩ : ∃ r, tL (.mk o n ks) left = r := ⟨_, rfl⟩
  rw [hres]
  simp only [tL] at hres
  have hw0 : IntKind.i64.wrap (left - 1) = left - 1 := wrap_in (by omega) (by omega)
  refine con_of_HT Try.func11 rfl (by kernel_rfl) (Nat.le_of_ble_eq_true rfl) ?_
  simp only [Try.f11]
  simp only [aT, Tm.enc]
  refine HT_seq <| HT_runA ?_
  refine HT_seq <| HT_runA ?_
  refine HT_seq <| HT_seq <| HT_runA ?_
  refine HT_block <| (HT_loopU [2] (fun (x : Nat × Int) => [(1, .v (li x.2)), (5, .v (li x.1))]) (fun (x : Nat × Int) => [(2, .box [.c (iC o), .c (iC n), .c (.sl 3 (encTs ks))])]) (fun (x : Nat × Int) => x.1 ≤ ks.length ∧ tLs (ks.drop x.1) x.2 = res ∧ -1000001 ≤ x.2 ∧ x.2 + x.1 ≤ 1000000) (fun (x : Nat × Int) => ks.length - x.1) (0, left - 1) ⟨Nat.zero_le _, by simpa using hres, by simp only; omega, by simp only; omega⟩ ?_ ?_)
  · exact le_mk (fun n => n) [] rfl (by simp [*, upS, keepS]) (by simp [*, upS]) (by simp [upS])
  rintro ⟨k, m⟩ ⟨hk, hJ, hm, hm2⟩
  simp only [upS, keepS, insS]
  try simp only [keepS, KN, Nat.reduceBEq, if_true, if_false, ins, Nat.reduceLT]
  simp only at hk hJ hm hm2
  refine HT_seq <| HT_seq <| HT_runA ?_
  refine (HT_cond rfl (fun h5 => HT_skip ?_) (fun h5 => ?_))
  · try simp only [BN] at h5
    have hlt : k < ks.length := by omega
    have hm0 : 0 ≤ m := by omega
    obtain ⟨⟨eo, en, ek⟩, he, hd⟩ := at_lt hlt
    have he' := get_encT he
    simp only [Tm.enc] at he'
    have hw1 : IntKind.i64.wrap ((k : Int) + 1) = (k : Int) + 1 := wrap_in (by omega) (by omega)
    rw [hd] at hJ
    simp only [tLs] at hJ
    rw [if_pos hm0] at hJ
    have hk1 : k + 1 ≤ ks.length := hlt
    have c := ih _ (List.mem_of_getElem? he) m (by omega) (by omega)
    have hti := tL_in (.mk eo en ek) m
    have hlo : -1 ≤ lo1 (m - 1) := by unfold lo1; split <;> omega
    obtain ⟨M, hM⟩ : ∃ x, tL (.mk eo en ek) m = x := ⟨_, rfl⟩
    rw [hM] at c hJ hti
    clear hlt h5 hM ih hd
    refine HT_seq <| HT_block <| (HT_runc [⟨true, .v (li M), none⟩] (by simp [*]; first | exact ⟨rfl, Iff.rfl⟩ | exact ⟨rfl, trivial⟩ | rfl) ?_ ?_)
    · first | exact c _ | exact trivial | simpa [*] using c _
    refine HT_runA ?_
    exact ⟨(k + 1, M), ⟨hk1, hJ, by simp only; omega, by simp only; omega⟩, by simp only; omega, le_mk (fun n => n) [] rfl (by simp [upS, keepS, *]) (by simp [*, upS]) (by simp [upS])⟩
  · try simp only [BN] at h5
    have hz : tLs (ks.drop k) m = m := by
      by_cases hm0 : m < 0
      · exact tLs_neg _ _ hm0
      · have hkl : k = ks.length := by omega
        rw [hkl, List.drop_length]
        rfl
    rw [hz] at hJ
    subst hJ
    refine (HT_exit ?_)
    refine HT_seq <| HT_runA ?_
    exact HT_retA fun h => ⟨.inr rfl, h⟩
theorem sleft_con (l : List St) : ∀ left : Int, -1000000 ≤ left → left ≤ 1000000 → ∀ d : Nat, Con Try.prog 10 true [lS l, li left] (.v (li (sL l left))) none d := by
  revert l
  apply St.lists
  intro l ih left h1 h2 d
  obtain ⟨res, hres⟩ : ∃ r, sL l left = r := ⟨_, rfl⟩
  rw [hres]
  refine con_of_HT Try.func10 rfl (by kernel_rfl) (Nat.le_of_ble_eq_true rfl) ?_
  simp only [Try.f10]
  refine HT_seq <| HT_runA ?_
  refine HT_seq <| HT_seq <| HT_runA ?_
  refine HT_block <| (HT_loopU [0] (fun (x : Nat × Int) => [(1, .v (li x.2)), (5, .v (li x.1))]) (fun (x : Nat × Int) => []) (fun (x : Nat × Int) => x.1 ≤ l.length ∧ sL (l.drop x.1) x.2 = res ∧ -1000001 ≤ x.2 ∧ x.2 + x.1 ≤ 1000000) (fun (x : Nat × Int) => l.length - x.1) (0, left) ⟨Nat.zero_le _, hres, by simp only; omega, by simp only; omega⟩ ?_ ?_)
  · exact le_mk (fun n => n) [] rfl (by simp [*, upS, keepS]) (by simp [*, upS]) (by simp [upS])
  rintro ⟨k, m⟩ ⟨hk, hJ, hm, hm2⟩
  simp only [upS, keepS, insS]
  try simp only [keepS, KN, Nat.reduceBEq, if_true, if_false, ins, Nat.reduceLT]
  simp only at hk hJ hm hm2
  clear hres
  refine HT_seq <| HT_seq <| HT_runA ?_
  refine (HT_cond rfl (fun h4 => HT_skip ?_) (fun h4 => ?_))
  · try simp only [BN] at h4
    have hlt : k < l.length := by omega
    have hm0 : 0 ≤ m := by omega
    obtain ⟨s, he, hd⟩ := at_lt hlt
    have hmem : s ∈ l := List.mem_of_getElem? he
    have iha := (ih s hmem).1
    have ihb := (ih s hmem).2
    have hw1 : IntKind.i64.wrap ((k : Int) + 1) = (k : Int) + 1 := wrap_in (by omega) (by omega)
    have hk1 : k + 1 ≤ l.length := hlt
    have he' := get_encS he
    obtain ⟨sd, sc, sv, sn, ⟨so, stn, sks⟩, sa, sb, sbs⟩ := s
    simp only [St.then_, St.else_] at iha ihb
    simp only [St.enc, Tm.enc, List.cons_append, List.nil_append] at he'
    rw [hd] at hJ
    simp only [sL] at hJ
    rw [if_pos hm0] at hJ
    have hw2 : IntKind.i64.wrap (m - 1) = m - 1 := wrap_in (by omega) (by omega)
    have c := tleft_con (.mk so stn sks) (m - 1) (by omega) (by omega)
    have hti := tL_in (.mk so stn sks) (m - 1)
    have hlo : -2 ≤ lo1 (m - 1 - 1) := by unfold lo1; split <;> omega
    obtain ⟨M, hM⟩ : ∃ x, tL (.mk so stn sks) (m - 1) = x := ⟨_, rfl⟩
    rw [hM] at c hJ hti
    simp only [aT, Tm.enc, List.map_cons, List.map_nil] at c
    clear hlt h4 hM ih hd hmem
    refine HT_seq <| HT_block <| HT_seq <| (HT_runc [⟨true, .v (li M), none⟩] (by simp [*]; first | exact ⟨rfl, Iff.rfl⟩ | exact ⟨rfl, trivial⟩ | rfl) ?_ ?_)
    · first | exact c _ | exact trivial | simpa [*] using c _
    refine HT_seq <| HT_seq <| HT_runA ?_
    refine (HT_cond rfl (fun h7 => ?_) (fun h7 => HT_skip ?_))
    · try simp only [BN] at h7
      rw [if_pos h7] at hJ
      subst hJ
      refine HT_seq <| HT_runA ?_
      exact HT_retA fun h => ⟨.inr rfl, h⟩
    · try simp only [BN] at h7
      rw [if_neg (by omega)] at hJ
      have hw3 : IntKind.i64.wrap (M - (sbs.length : Int)) = M - (sbs.length : Int) := wrap_in (by omega) (by omega)
      have c1 := iha (M - sbs.length) (by omega) (by omega)
      have s1 := sL_in sa (M - sbs.length)
      have hl1 : -1 ≤ lo1 (M - sbs.length) := by unfold lo1; split <;> omega
      obtain ⟨M1, hM1⟩ : ∃ x, sL sa (M - sbs.length) = x := ⟨_, rfl⟩
      rw [hM1] at c1 s1 hJ
      have c2 := ihb M1 (by omega) (by omega)
      have s2 := sL_in sb M1
      have hl2 : -1 ≤ lo1 M1 := by unfold lo1; split <;> omega
      obtain ⟨M2, hM2⟩ : ∃ x, sL sb M1 = x := ⟨_, rfl⟩
      rw [hM2] at c2 s2 hJ
      clear iha ihb hM1 hM2 h7 c
      refine (HT_drunc [⟨true, .v (li M1), none⟩, ⟨true, .v (li M2), none⟩] (by kernel_rfl) (by kernel_rfl) (by rfl) (by simp [*]; first | exact ⟨rfl, Iff.rfl⟩ | exact ⟨rfl, trivial⟩ | rfl) ?_ ?_)
      · first | exact ⟨c1 _, c2 _⟩ | exact trivial | (repeat' first | exact trivial | exact c1 _ | exact c2 _ | apply And.intro)
      refine HT_runA ?_
      exact ⟨(k + 1, M2), ⟨hk1, hJ, by simp only; omega, by simp only; omega⟩, by simp only; omega, le_mk (fun n => n) [] rfl (by simp [upS, keepS, *]) (by simp [*, upS]) (by simp [upS])⟩
  · try simp only [BN] at h4
    have hz : sL (l.drop k) m = m := by
      by_cases hm0 : m < 0
      · exact sL_neg _ _ hm0
      · have hkl : k = l.length := by omega
        rw [hkl, List.drop_length]
        simp [sL]
    rw [hz] at hJ
    subst hJ
    refine (HT_exit ?_)
    refine HT_seq <| HT_runA ?_
    exact HT_retA fun h => ⟨.inr rfl, h⟩
theorem few_con (f : Fl) (vars nodes : Int) (hv : 0 ≤ vars ∧ vars ≤ 1000) (hn : 0 ≤ nodes ∧ nodes ≤ 1000) (d : Nat) : Con Try.prog 5 true [aF f, li vars, li nodes] (.v (lb (fewB f vars nodes))) none d := by
  obtain ⟨vs, hats, body⟩ := f
  obtain ⟨res, hres⟩ : ∃ r, fewB ⟨vs, hats, body⟩ vars nodes = r := ⟨_, rfl⟩
  rw [hres]
  unfold fewB at hres
  simp only at hres
  have cs := sleft_con body nodes (by omega) (by omega)
  have hsi := sL_in body nodes
  have hlo : -2 ≤ lo1 nodes := by unfold lo1; split <;> omega
  obtain ⟨S, hS⟩ : ∃ x, sL body nodes = x := ⟨_, rfl⟩
  rw [hS] at hres cs hsi
  clear hS
  refine con_of_HT Try.func5 rfl (by kernel_rfl) (Nat.le_of_ble_eq_true rfl) ?_
  simp only [Try.f5]
  simp only [aF, Fl.enc, List.map_cons, List.map_nil]
  refine HT_seq <| HT_runA ?_
  refine HT_seq <| HT_seq <| HT_runA ?_
  refine (HT_cond rfl (fun h2 => ?_) (fun h2 => HT_skip ?_))
  · try simp only [BN] at h2
    rw [if_pos (by omega)] at hres
    subst hres
    refine HT_seq <| HT_runA ?_
    exact HT_retA fun h => ⟨.inr rfl, h⟩
  · try simp only [BN] at h2
    rw [if_neg (by omega)] at hres
    obtain ⟨E, hE⟩ : ∃ x, hL hats S = x := ⟨_, rfl⟩
    rw [hE] at hres
    refine HT_seq <| (HT_runc [⟨true, .v (li S), none⟩] (by simp [*]; first | exact ⟨rfl, Iff.rfl⟩ | exact ⟨rfl, trivial⟩ | rfl) ?_ ?_)
    · first | exact cs _ | exact trivial | simpa [*] using cs _
    refine HT_seq <| HT_seq <| HT_runA ?_
    refine HT_block <| (HT_loopU [27, 28] (fun (x : Nat × Int) => [(7, .v (li x.2)), (29, .v (li x.1))]) (fun (x : Nat × Int) => []) (fun (x : Nat × Int) => x.1 ≤ hats.length ∧ hL (hats.drop x.1) x.2 = E ∧ -2 - (x.1 : Int) ≤ x.2 ∧ x.2 ≤ 1000) (fun (x : Nat × Int) => hats.length - x.1) (0, S) ⟨Nat.zero_le _, hE, by simp only; omega, by simp only; omega⟩ ?_ ?_)
    · exact le_mk (fun n => n) [] rfl (by simp [*, upS, keepS]) (by simp [*, upS]) (by simp [upS])
    rintro ⟨k, m⟩ ⟨hk, hJ, hm, hm2⟩
    simp only [upS, keepS, insS]
    try simp only [keepS, KN, Nat.reduceBEq, if_true, if_false, ins, Nat.reduceLT]
    simp only at hk hJ hm hm2
    clear hE
    refine HT_seq <| HT_runA ?_
    refine HT_seq <| (HT_cond rfl (fun h9 => HT_skip ?_) (fun h9 => ?_))
    · try simp only [BN] at h9
      have hlt : k < hats.length := by omega
      obtain ⟨h, he, hd⟩ := at_lt hlt
      have hw1 : IntKind.i64.wrap ((k : Int) + 1) = (k : Int) + 1 := wrap_in (by omega) (by omega)
      have hk1 : k + 1 ≤ hats.length := hlt
      have c := tleft_con h.term m (by omega) (by omega)
      have hti := tL_in h.term m
      have hl1 : -3 - (k : Int) ≤ lo1 (m - 1) := by unfold lo1; split <;> omega
      rw [hd] at hJ
      simp only [hL] at hJ
      obtain ⟨nm, lo, hi, ⟨o, tn, ks⟩⟩ := h
      simp only at c hti hJ
      obtain ⟨M, hM⟩ : ∃ x, tL (.mk o tn ks) m = x := ⟨_, rfl⟩
      rw [hM] at c hJ hti
      simp only [aT, Tm.enc, List.map_cons, List.map_nil] at c
      clear hlt h9 hM hd
      refine HT_seq <| HT_block <| HT_seq <| HT_runA ?_
      refine (HT_runc [⟨true, .v (li M), none⟩] (by simp [*]; first | exact ⟨rfl, Iff.rfl⟩ | exact ⟨rfl, trivial⟩ | rfl) ?_ ?_)
      · first | exact c _ | exact trivial | simpa [*] using c _
      refine HT_runA ?_
      exact ⟨(k + 1, M), ⟨hk1, hJ, by simp only; omega, by simp only; omega⟩, by simp only; omega, le_mk (fun n => n) [] rfl (by simp [upS, keepS, *]) (by simp [*, upS]) (by simp [upS])⟩
    · try simp only [BN] at h9
      have hkl : k = hats.length := by omega
      rw [hkl, List.drop_length] at hJ
      simp only [hL] at hJ
      subst hJ
      subst hres
      refine (HT_exit ?_)
      refine HT_seq <| HT_runA ?_
      exact HT_retA fun h => ⟨.inr rfl, h⟩
end Go.Proofs.Ytfjidddhehckoaa


namespace Go.Proofs.Ytfjidddhehckoaa
open Go Go.Hl

/-! ## the example -/
def xVs : List Vr := [⟨⟨#[120]⟩, 1, 0, 1, 0⟩, ⟨⟨#[121]⟩, 0, 0, 1, 0⟩]
def xS : St := .mk 0 0 1 0 (.mk 0 1 []) [] [] []
def x0 : St := .mk 3 0 0 0 (.mk 24 0 []) [xS] [] []
def x1 : St := .mk 1 0 0 0 (.mk 24 1 []) [] [] []
def XF : Fl := ⟨xVs, [], [x0, x1]⟩
def XP (o : Int) : Po := ⟨[⟨#[108, 111, 119]⟩, ⟨#[104, 105, 103, 104]⟩], [(0, 1)], [], [], o, false⟩
theorem xcode : codeC XF = 0 := by
  simp only [XF, codeC, sizesB, x0, x1, xS, sdL, tdeep, ssC]
  kernel_rfl
theorem xpol0 : polC (XP 0) = 0 := by kernel_rfl
theorem xpol1 : polC (XP 1) = 0 := by kernel_rfl
theorem xpin0 : pinF XF (XP 0) = ([1, 0], 0) := by
  unfold pinF
  rw [xpol0, xcode]
  kernel_rfl
theorem xpin1 : pinF XF (XP 1) = ([1, 0], 0) := by
  unfold pinF
  rw [xpol1, xcode]
  kernel_rfl
theorem xpht0 : phtF XF (XP 0) = ([], 0) := by
  unfold phtF
  rw [xpol0, xcode]
  kernel_rfl
theorem xpht1 : phtF XF (XP 1) = ([], 0) := by
  unfold phtF
  rw [xpol1, xcode]
  kernel_rfl
theorem xask0 : askC XF (XP 0) = 0 := by
  unfold askC
  rw [xpin0, xpht0]
  simp only [XF, x0, x1, xS, relL, relS]
  kernel_rfl
theorem xask1 : askC XF (XP 1) = 0 := by
  unfold askC
  rw [xpin1, xpht1]
  simp only [XF, x0, x1, xS, relL, relS]
  kernel_rfl
theorem xset : setlB XF = false := by kernel_rfl
theorem xty0 : (tyR XF (XP 0)).1 = [1, 1] ∧ (tyR XF (XP 0)).2.faults = [2] := by
  unfold tyR envF
  rw [xpin0, xpht0]
  simp only [XF, x0, x1, xS, tyL, tyS]
  exact ⟨by kernel_rfl, by kernel_rfl⟩
theorem xty1 : (tyR XF (XP 1)).1 = [1, 1] ∧ (tyR XF (XP 1)).2.faults = [] := by
  unfold tyR envF
  rw [xpin1, xpht1]
  simp only [XF, x0, x1, xS, tyL, tyS]
  exact ⟨by kernel_rfl, by kernel_rfl⟩
theorem tyE_of {f : Fl} {p : Po} (h : setlB f = false) : tyE f p = tyR f p := by
  unfold tyE
  rw [h]
  rfl
theorem xchk0 : ∃ t, chkR XF (XP 0) = .tup [aTg false [2] t [1, 1], li 0] := by
  unfold chkR accB
  rw [if_pos xask0, tyE_of xset, xty0.1, xty0.2]
  exact ⟨_, rfl⟩
theorem xchk1 : ∃ t, chkR XF (XP 1) = .tup [aTg true [] t [1, 1], li 0] := by
  unfold chkR accB
  rw [if_pos xask1, tyE_of xset, xty1.1, xty1.2]
  exact ⟨_, rfl⟩
/-! ## small programs and policies -/
structure Sm (f : Fl) (p : Po) : Prop where
  sf : smF f
  sp : smQ p
  rep : repC f.hats.length
  nv : f.vars.length ≤ 10
  nn : nodesS f.body + nodesH f.hats ≤ 80
  nl : p.levels.length ≤ 8
end Go.Proofs.Ytfjidddhehckoaa

