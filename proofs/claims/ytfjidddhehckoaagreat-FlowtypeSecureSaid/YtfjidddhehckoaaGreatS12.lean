/- Part 12: contracts of functions of the program and of the reference, and plain facts about what they compute; used by the proof of the claimed statement. Conditions: as each theorem states. -/
import Derived.Test.YtfjidddhehckoaaGreatS11
import Derived.Test.YtfjidddhehckoaaGreatS8
import Derived.Test.YtfjidddhehckoaaGreatS9
import Derived.Test.YtfjidddhehckoaaGreatS6
set_option linter.unusedSimpArgs false
set_option linter.unusedVariables false
set_option linter.unnecessarySimpa false
set_option maxRecDepth 100000
set_option maxHeartbeats 2000000
namespace Go.Proofs.YtfjidddhehckoaaGreat
open Go Go.Hl
theorem labC_in {n : Nat} : ∀ (l : List Lb) (seen : List ByteArray), labC n seen l = 0 → ∀ x ∈ l, okI n x.level
 | [], _, _, x, hx => by cases hx
 | y :: l, seen, h, x, hx => by
   simp only [labC] at h;split at h
   · cases h
   split at h
   · cases h
   split at h
   · cases h
   rename_i hl;rcases List.mem_cons.1 hx with rfl | hx
   · exact ⟨by omega, by omega⟩
   exact labC_in l _ h x hx
theorem polC_lab {p : Po} (h : polC p = 0) : labC p.n [] p.inputs = 0 ∧ labC p.n [] p.hatches = 0 := by
 unfold polC at h;split at h
 · rename_i h1; exact absurd h h1
 split at h
 · cases h
 split at h
 · rename_i h1; exact absurd h h1
 rename_i h1;split at h
 · rename_i h2; exact absurd h h2
 rename_i h2;exact ⟨Decidable.not_not.1 h1, Decidable.not_not.1 h2⟩
theorem best_ok {n : Nat} {v : Vr} : ∀ (l : List Lb) (r : Int × Int), (∀ x ∈ l, okI n x.level) → okI n r.1 → okI n (bestF v l r).1
 | [], r, _, h => h
 | x :: l, r, hl, h => by
   simp only [bestF];refine best_ok l _ (fun y hy => hl y (List.mem_cons_of_mem _ hy)) ?_;split
   · exact hl x (List.mem_cons_self ..)
   exact h
theorem bot_ok {p : Po} (h : polC p = 0) : okI p.n p.bot := by
 obtain ⟨hM, h1, h2⟩ := pol_new h;have := (hM.flp.top h1 p.n (Nat.le_refl _)).1;exact ⟨by unfold Po.bot; omega, by unfold Po.bot; omega⟩
theorem top_ok {p : Po} (h : polC p = 0) : okI p.n p.top := by
 obtain ⟨hM, h1, h2⟩ := pol_new h;have := (hM.top h1 p.n (Nat.le_refl _)).1;exact ⟨by unfold Po.top; omega, by unfold Po.top; omega⟩
theorem lev_ok {p : Po} (h : polC p = 0) (v : Vr) : okI p.n (levV p v) := by
 unfold levV;refine best_ok _ _ (fun x hx => labC_in _ _ (polC_lab h).1 x hx) ?_;split
 · exact top_ok h
 exact bot_ok h
theorem pin_out {f : Fl} {p : Po} (h : (pinF f p).2 = 0) : polC p = 0 ∧ codeC f = 0 ∧ (pinF f p).1 = f.vars.map (levV p) := by
 unfold pinF at h ⊢;split at h
 · cases h
 rename_i h1;rw [if_neg h1];split at h
 · rename_i h2;rw [if_pos h2];exact ⟨by omega, by omega, rfl⟩
 cases h
theorem pht_out {f : Fl} {p : Po} (h : (phtF f p).2 = 0) : (phtF f p).1.length = f.hats.length := by
 unfold phtF at h ⊢;split at h
 · cases h
 rename_i h1;rw [if_neg h1];split at h
 · cases h
 rename_i l hl;have := htF_len _ _ _ _ hl;simpa using this
theorem ssC_last {vars : List Vr} {nh : Nat} : ∀ (l : List St) (top : Bool), ssC vars nh l top = 0 → ∀ s ∈ l, s.do_ = 6 → s.bounds ≠ []
 | [], _, _, s, hs, _ => by cases hs
 | .mk d c v n t a b bs :: l, top, h, s, hs, h6 => by
   obtain ⟨hsh, _, _, _, _, hl⟩ := ssC_split h;rcases List.mem_cons.1 hs with rfl | hs
   · simp only [St.do_] at h6;subst h6;unfold shB at hsh;simp only [show ¬ (6 : Int) = 0 by decide, show ¬ (6 : Int) = 1 by decide, show ¬ (6 : Int) = 2 by decide, show ¬ (6 : Int) = 3 by decide, show ¬ (6 : Int) = 4 by decide, show ¬ (6 : Int) = 5 by decide, if_true, if_false, Bool.and_eq_true] at hsh;have hr := hsh.2;unfold riseB at hr;simp only [Bool.and_eq_true, decide_eq_true_eq] at hr;intro e;simp only [St.bounds] at e;rw [e] at hr;simp at hr
   exact ssC_last l top hl s hs h6
def setlB (f : Fl) : Bool := match f.body[f.body.length - 1]? with
 | some s => decide (s.do_ = 6) && decide ((bdL CP f.body ⟨0, 0, 0⟩).t ≤ (s.bounds[0]?).getD 0)
 | none => false
def tyE (f : Fl) (p : Po) : List Int × Tp := ((tyR f p).1, if setlB f = true then { (tyR f p).2 with time := p.bot } else (tyR f p).2)
def tO8 (L : CD) (hv : List Int) (W : Int) (t : Tp) : List (Nat × Ob) := [(900001, .row 3 1 (encIs t.faults)), (900002, .row 32 1 (encLL t.states)), (900003, .row 3 1 (encIs t.counts)), (800000, tB L hv W t)]
def runRt (f : Fl) (p : Po) : RV := if askC f p = 0 then .tup [.one (.at_ 800000 0), lI (tyE f p).1, li 0] else .tup [.one (.c (.lit (.pointer none))), lI [], li (askC f p)]
def runOt (f : Fl) (p : Po) : List (Nat × Ob) := if askC f p = 0 then tO8 (Lt.latO p.levels p.order) (phtF f p).1 p.observer (tyE f p).2 else []
theorem runT_con (f : Fl) (p : Po) (hs : smP p) (hrep : repC f.hats.length) (hv : f.vars.length ≤ 1000000) (hh : f.hats.length ≤ 1000000) (hn : nodesS f.body + nodesH f.hats ≤ 900000) (hb : bndL f.body = true) :
  ConS Tryz.prog 35 [] [aF f, aPo p] (runRt f p) (runOt f p) := by
 have cin := polIn_con f p hs hv hh (by omega) hb;have cht := polHt_con f p hs hrep hv hh (by omega) hb;have cnew := newP_con p.levels p.order hs.1;have hpo := fun h => pin_out (f := f) (p := p) h;have hho := fun h => pht_out (f := f) (p := p) h;have hwf : codeC f = 0 → wfL f.vars f.hats.length f.body = true := fun h => (code_wf hb h).1;have hlast : codeC f = 0 → ∀ s ∈ f.body, s.do_ = 6 → s.bounds ≠ [] := fun h => ssC_last _ _ (code_split h).2.2.2.1;have crel := rel_con f.vars (phtF f p).1 f.body (by omega);have cbot := botP_con p;have cst := fun h => stepsT_con p h (phtF f p).1 p.observer f.vars (fuF f p) hv (by unfold fuF; omega) f.body (by omega);have cbd := fun h => boundsP_con f hv hh (by omega) hb h;have hsz := szL_le f.body;have hbok := fun h => bot_ok (p := p) h
 have hlok : polC p = 0 → okV p.n (f.vars.map (levV p)) := fun h x hx => by
  obtain ⟨v, _, rfl⟩ := List.mem_map.1 hx;exact lev_ok h v
 have hnr : polC p = 0 → Lt.newR p.levels p.order = .one (.c (Lt.latO p.levels p.order)) ∧ Lt.newC p.levels p.order = 0 := fun h => by
  unfold Lt.newR;rw [if_pos (polC_new h)];exact ⟨rfl, polC_new h⟩
 unfold runRt runOt tyE;unfold tyR;obtain ⟨SB, hSB⟩ : ∃ x, setlB f = x := ⟨_, rfl⟩;rw [hSB];unfold setlB at hSB;have htm : envF f p = ⟨p.n, p.M, (phtF f p).1, p.observer⟩ := rfl;rw [htm];obtain ⟨A, hA⟩ : ∃ x, askC f p = x := ⟨_, rfl⟩;rw [hA];unfold askC at hA;obtain ⟨⟨P1, P2⟩, hP⟩ : ∃ x, pinF f p = x := ⟨_, rfl⟩;obtain ⟨⟨H1, H2⟩, hH⟩ : ∃ x, phtF f p = x := ⟨_, rfl⟩;rw [hP] at cin hpo;rw [hH] at cht hho;simp only [hP, hH] at cst crel hpo hho cin cht hA ⊢;obtain ⟨FU, hFU⟩ : ∃ x, fuF f p = x := ⟨_, rfl⟩;simp only [hFU] at cst ⊢;obtain ⟨BD, hBD⟩ : ∃ x, (bdL CP f.body ⟨0, 0, 0⟩) = x := ⟨_, rfl⟩;simp only [hBD] at cbd hSB;obtain ⟨cs, hL⟩ := lat_ptr p;obtain ⟨BOT, hBOT⟩ : ∃ x, p.bot = x := ⟨_, rfl⟩;simp only [hL, hBOT] at hnr cbot cst hbok ⊢
 obtain ⟨NR, hNR⟩ : ∃ x, Lt.newR p.levels p.order = .one (.c x) := by
  unfold Lt.newR;split
  · exact ⟨_, rfl⟩
  exact ⟨_, rfl⟩
 obtain ⟨NC, hNC⟩ : ∃ x, Lt.newC p.levels p.order = x := ⟨_, rfl⟩;rw [hNR, hNC] at cnew hnr;unfold t0F;rw [hBOT];clear hs hrep hP hH hFU hBD hL hBOT hNR hNC htm;refine con_s_of_HT Tryz.func35 rfl (by kernel_rfl) (Nat.le_of_ble_eq_true rfl) (pin_mk rfl) ?_;simp only [Tryz.f35];simp only [aF, Fl.enc, aPo, Po.enc, List.map_cons, List.map_nil] at cin cht cbd ⊢;refine HT_sA ?_;refine HT_scA [⟨false, .tup [lI P1, li P2], none⟩] ?_ ?_
 · first | exact cin _ | exact trivial | simpa [*] using cin _
 refine HT_seq <| HT_seq <| HT_runA ?_;refine (HT_cs rfl (fun h3 => ?_) fun h3 => ?_)
 · (try simp only[BN]at h3);have h2 : P2 ≠ 0 := by simpa using h3
   rw [if_pos h2] at hA;subst hA;rw [if_neg h2, if_neg h2];refine HT_sA ?_;exact HT_ret ⟨.inr rfl, HT_endL (le_one 5 1 rfl) (by simp; rfl) (by simp [resR]) (by simp)⟩
 (try simp only[BN]at h3);have h2 : P2 = 0 := by simpa using h3
 subst h2;rw [if_neg (by simp)] at hA;obtain ⟨hpc, hcc, hP1⟩ := hpo rfl;have hwf := hwf hcc;have hlast := hlast hcc;have cbot := cbot hpc;have cbd := cbd hcc;have hbok := hbok hpc;have hlok := hlok hpc;rw [← hP1] at hlok;have hP1l : P1.length = f.vars.length := by rw [hP1, List.length_map]
 obtain ⟨e1, e2⟩ := hnr hpc;simp only [TV.one.injEq, CV.c.injEq] at e1;subst e1 e2;have cst := cst hpc;clear hpo cin hnr hP1;refine HT_scA [⟨false, .tup [lI H1, li H2], none⟩] ?_ ?_
 · first | exact cht _ | exact trivial | simpa [*] using cht _
 refine HT_seq <| HT_seq <| HT_runA ?_;refine (HT_cs rfl (fun h8 => ?_) fun h8 => ?_)
 · (try simp only[BN]at h8);have h2 : H2 ≠ 0 := by simpa using h8
   rw [if_pos h2] at hA;subst hA;rw [if_neg h2, if_neg h2];refine HT_sA ?_;exact HT_ret ⟨.inr rfl, HT_endL (le_one 5 1 rfl) (by simp; rfl) (by simp [resR]) (by simp)⟩
 (try simp only[BN]at h8);have h2 : H2 = 0 := by simpa using h8
 subst h2;rw [if_neg (by simp)] at hA;have hl1 := hho rfl;rw [← hl1] at hwf;have crel := crel hwf;have cst := cst hwf BOT P1 ⟨BOT, [], 0, false, [], []⟩ hbok hlok hP1l ⟨by simp only; omega, by simp only [List.length_nil]; omega, by simp only [List.length_nil]; omega, by simp only [List.length_nil]; omega⟩;obtain ⟨RL, hRL⟩ : ∃ x, relL H1 f.body = x := ⟨_, rfl⟩;rw [hRL] at crel hA;clear hho cht hRL;refine HT_seq <| HT_seq <| (HT_runcA [⟨true, .v (lb RL), none⟩] ?_ ?_)
 · first | exact crel _ | exact trivial | simpa [*] using crel _
 refine (HT_cs rfl (fun h12 => ?_) fun h12 => ?_)
 · (try simp only[BN]at h12);have hr : RL = false := by simpa using h12
   rw [if_neg (by rw [hr]; decide)] at hA;subst hA;rw [if_neg (by decide), if_neg (by decide)];refine HT_sA ?_;exact HT_ret ⟨.inr rfl, HT_endL (le_one 5 1 rfl) (by simp; rfl) (by simp [resR]) (by simp)⟩
 (try simp only[BN]at h12);have hr : RL = true := by simpa using h12
 rw [if_pos hr] at hA;subst hA;rw [if_pos rfl, if_pos rfl];obtain ⟨⟨X, T⟩, hT⟩ : ∃ x, tyL ⟨p.n, p.M, H1, p.observer⟩ FU f.body BOT P1 ⟨BOT, [], 0, false, [], []⟩ = x := ⟨_, rfl⟩;rw [hT] at cst;simp only [hT];obtain ⟨z1, z2, z3, z4, z5, z6⟩ := T;simp only [tO, tB, tO8, show encIs [] = [] from rfl, show encLL [] = [] from rfl, Int.natCast_zero] at cst ⊢;clear crel hT hwf hlok hbok hr;refine HT_scA [⟨false, .tup [.one (.c (.ptr cs)), li 0], none⟩] ?_ ?_
 · first | exact cnew _ | exact trivial | simpa [*] using cnew _
 refine HT_seq <| HT_seq <| HT_runA ?_;refine (HT_cs rfl (fun h17 => ?_) fun h17 => ?_)
 · exact absurd h17 (by simp)
 (try simp only[BN]at h17);refine HT_seq <| (HT_druncH [(54, 3)] [⟨true, .v (li BOT), none⟩] (by kernel_rfl) (by kernel_rfl) (by rfl) (by simp [evcH, hokB, hintOf, *, allTyped, fillC, placeOf]; first | exact ⟨rfl, Iff.rfl⟩ | exact ⟨rfl, trivial⟩ | rfl) ?_ ?_)
 · first | exact cbot _ | exact trivial | simpa [*, allTyped, fillC, placeOf] using cbot _
 refine HT_le (show le _ ⟨107, [(2, .v (.one (.at_ 2 0))), (7, .v (lI P1)), (10, .v (.one (.c (.ptr cs)))), (11, .v (.one (.at_ 59 0)))], [(2, .box [.c (.sl 5 (encVs f.vars)), .c (.sl 6 (encHs f.hats)), .c (.sl 10 (encSs f.body))]), (59, .box [.c (.ptr cs), .c (.sl 1 (encIs H1)), .c (iC p.observer), .c (iC BOT), .own 900001, .c (iC 0), .c (bC false), .own 900002, .own 900003]), (900001, .row 3 1 []), (900002, .row 32 1 []), (900003, .row 3 1 [])]⟩ from le_mk (fun n => n) [900001, 900002, 900003] rfl (by simp) (by simp) (by simp)) ?_;refine HT_seq <| (HT_drawT [(61, 2)] 6 [⟨true, .v (li BOT), none⟩] [] (fun n => if n = 1000000 then 59 else n) (fun n => if n = 1000000 then 59 else n + 10) (by kernel_rfl) (by kernel_rfl) (by kernel_rfl) (by rfl) (by simp [*, evcH, hokB, hintOf]; first | exact ⟨rfl, Iff.rfl⟩ | exact ⟨rfl, trivial⟩ | rfl) ?_ (by rfl) (by simp; rfl) (handS_mk (by simp) (by simp) (by simp) (by simp) (by simp)) cst (by rfl) (by rfl) (by simp [evcH, hokB, hintOf]; rfl) trivial ?_)
 · first | exact cbot _ | exact trivial | simpa using cbot _
 clear cst;rcases Nat.eq_zero_or_pos f.body.length with hz | hz
 · have hnn : f.body[f.body.length - 1]? = none := by rw [List.getElem?_eq_none_iff]; omega
   rw [hnn] at hSB;simp only at hSB;subst hSB;simp only [Bool.false_eq_true, if_false];refine HT_seq <| HT_seq <| HT_runA ?_;refine HT_sA ?_;refine (HT_cs rfl (fun h24 => ?_) fun h24 => ?_)
   · exact absurd h24 (by simp)
   (try simp only[BN]at h24);refine HT_sA ?_;exact HT_ret ⟨.inr rfl, HT_endL (s2 := ⟨107, [(4, .v (.one (.at_ 800000 0))), (5, .v (lI X)), (6, .v (li 0))], [(900001, .row 3 1 (encIs z2)), (900002, .row 32 1 (encLL z5)), (900003, .row 3 1 (encIs z6)), (800000, .box [.c (.ptr cs), .c (.sl 1 (encIs H1)), .c (iC p.observer), .c (iC z1), .own 900001, .c (iC (z3 : Nat)), .c (bC z4), .own 900002, .own 900003])]⟩) (le_mk (fun n => if n = 800000 then 59 else n + 10) [] rfl (by simp) (by simp) (by simp)) (by simp; rfl) (by simp [resR]) (by simp)⟩
 obtain ⟨q, hq⟩ : ∃ q, f.body[f.body.length - 1]? = some q := ⟨f.body[f.body.length - 1]'(by omega), List.getElem?_eq_getElem (by omega)⟩;rw [hq] at hSB;have hlq := hlast q (List.mem_of_getElem? hq);have hw : IntKind.i64.wrap ((f.body.length : Int) - 1) = ((f.body.length - 1 : Nat) : Int) := by rw [wrap_in (by have := len_nodesS f.body; omega) (by have := len_nodesS f.body; omega)]; omega
 have he' := get_encS hq;obtain ⟨qd, qc, qv, qn, ⟨qo, qtn, qks⟩, qa, qb, qbs⟩ := q;simp only [St.enc, Tm.enc, List.cons_append, List.nil_append] at he';have hlq : qd = 6 → qbs ≠ [] := hlq;have hSB : (decide (qd = 6) && decide (BD.t ≤ (qbs[0]?).getD 0)) = SB := hSB;obtain ⟨LE, hLE⟩ : ∃ x, f.body.length - 1 = x := ⟨_, rfl⟩;rw [hLE] at hw he';have hzi : (0 : Int) < f.body.length := by omega
 clear hq hLE hz;refine HT_seq <| HT_seq <| HT_runA ?_;refine HT_sA ?_;refine (HT_cs rfl (fun h24 => ?_) fun h24 => ?_)
 · (try simp only[BN]at h24);have hq6 : qd = 6 := (by simpa using h24 : 0 < f.body.length ∧ qd = 6).2;subst hq6
   obtain ⟨y, hy⟩ : ∃ y, qbs[0]? = some y := by
    cases qbs with
    | nil => exact absurd rfl (hlq rfl)
    | cons y l => exact ⟨y, rfl⟩
   rw [hy] at hSB;obtain ⟨B1, B2, B3⟩ := BD;simp only at cbd;have hSB : SB = decide (B3 ≤ y) := by rw [← hSB]; simp
   refine HT_scA [⟨true, .tup [li B1, li B2, li B3, li 0], none⟩] ?_ ?_
   · first | exact cbd _ | exact trivial | simpa [*] using cbd _
   refine HT_sA ?_;refine (HT_cs rfl (fun h27 => ?_) fun h27 => ?_)
   · (try simp only[BN]at h27);have hle : B3 ≤ y := by simpa using h27
     rw [decide_eq_true hle] at hSB;subst hSB;simp only [if_true];refine (HT_runcA [⟨true, .v (li BOT), none⟩] ?_ ?_)
     · first | exact cbot _ | exact trivial | simpa [*] using cbot _
     refine HT_sA ?_;exact HT_ret ⟨.inr rfl, HT_endL (s2 := ⟨107, [(4, .v (.one (.at_ 800000 0))), (5, .v (lI X)), (6, .v (li 0))], [(900001, .row 3 1 (encIs z2)), (900002, .row 32 1 (encLL z5)), (900003, .row 3 1 (encIs z6)), (800000, .box [.c (.ptr cs), .c (.sl 1 (encIs H1)), .c (iC p.observer), .c (iC BOT), .own 900001, .c (iC (z3 : Nat)), .c (bC z4), .own 900002, .own 900003])]⟩) (le_mk (fun n => if n = 800000 then 59 else n + 10) [] rfl (by simp) (by simp) (by simp)) (by simp; rfl) (by simp [resR]) (by simp)⟩
   (try simp only[BN]at h27);have hle : ¬ B3 ≤ y := by simpa using h27
   rw [decide_eq_false hle] at hSB;subst hSB;simp only [Bool.false_eq_true, if_false];refine HT_sA ?_;exact HT_ret ⟨.inr rfl, HT_endL (s2 := ⟨107, [(4, .v (.one (.at_ 800000 0))), (5, .v (lI X)), (6, .v (li 0))], [(900001, .row 3 1 (encIs z2)), (900002, .row 32 1 (encLL z5)), (900003, .row 3 1 (encIs z6)), (800000, .box [.c (.ptr cs), .c (.sl 1 (encIs H1)), .c (iC p.observer), .c (iC z1), .own 900001, .c (iC (z3 : Nat)), .c (bC z4), .own 900002, .own 900003])]⟩) (le_mk (fun n => if n = 800000 then 59 else n + 10) [] rfl (by simp) (by simp) (by simp)) (by simp; rfl) (by simp [resR]) (by simp)⟩
 (try simp only[BN]at h24);have hq6 : ¬ qd = 6 := (by simpa using h24 : f.body = [] ∨ ¬ qd = 6).resolve_left (fun h => by rw [h] at hzi; simp at hzi);simp only [decide_eq_false hq6, Bool.false_and] at hSB;subst hSB;simp only [Bool.false_eq_true, if_false];refine HT_sA ?_;exact HT_ret ⟨.inr rfl, HT_endL (s2 := ⟨107, [(4, .v (.one (.at_ 800000 0))), (5, .v (lI X)), (6, .v (li 0))], [(900001, .row 3 1 (encIs z2)), (900002, .row 32 1 (encLL z5)), (900003, .row 3 1 (encIs z6)), (800000, .box [.c (.ptr cs), .c (.sl 1 (encIs H1)), .c (iC p.observer), .c (iC z1), .own 900001, .c (iC (z3 : Nat)), .c (bC z4), .own 900002, .own 900003])]⟩) (le_mk (fun n => if n = 800000 then 59 else n + 10) [] rfl (by simp) (by simp) (by simp)) (by simp; rfl) (by simp [resR]) (by simp)⟩
end Go.Proofs.YtfjidddhehckoaaGreat

namespace Go.Proofs.YtfjidddhehckoaaGreat
open Go Go.Hl
def accB (f : Fl) (p : Po) : Bool := decide ((tyE f p).2.faults.length = 0) && (!p.timed || p.B (tyE f p).2.time p.observer)
abbrev aTg (a : Bool) (fa : List Int) (t : Int) (e : List Int) : TV := .agg [.c (bC a), .c (.sl 1 (encIs fa)), .c (iC t), .c (.sl 1 (encIs e))]
def chkR (f : Fl) (p : Po) : RV := if askC f p = 0 then .tup [aTg (accB f p) (tyE f p).2.faults (tyE f p).2.time (tyE f p).1, li 0] else .tup [aTg false [] 0 [], li (askC f p)]
theorem checkT_con (f : Fl) (p : Po) (hs : smP p) (hrep : repC f.hats.length) (hv : f.vars.length ≤ 1000000) (hh : f.hats.length ≤ 1000000) (hn : nodesS f.body + nodesH f.hats ≤ 900000) (hb : bndL f.body = true) (hlen : askC f p = 0 → (tyE f p).1.length ≤ 1000000) (d : Nat) :
  Con Tryz.prog 12 false [aF f, aPo p] (chkR f p) none d := by
 have crun := runT_con f p hs hrep hv hh hn hb;have cbe := belL_con p (tyE f p).2.time p.observer;have ccl := fun h => cloneI_con (tyE f p).1 (by have := hlen h; omega);unfold chkR accB;unfold runRt runOt at crun;obtain ⟨A, hA⟩ : ∃ x, askC f p = x := ⟨_, rfl⟩;obtain ⟨⟨X, T⟩, hT⟩ : ∃ x, tyE f p = x := ⟨_, rfl⟩;obtain ⟨cs, hL⟩ := lat_ptr p;obtain ⟨HV, hH⟩ : ∃ x, (phtF f p).1 = x := ⟨_, rfl⟩;rw [hA] at crun;simp only [hT, hL, hH, hA] at crun cbe ccl ⊢;obtain ⟨z1, z2, z3, z4, z5, z6⟩ := T;simp only at cbe ⊢;obtain ⟨BE, hBE⟩ : ∃ x, p.B z1 p.observer = x := ⟨_, rfl⟩;rw [hBE] at cbe ⊢;clear hA hT hL hH hBE hs hrep hv hh hn hb hlen;refine con_of_HTA Tryz.func12 ?_;simp only [Tryz.f12];simp only [tO8, tB] at crun;simp only [aF, Fl.enc, aPo, Po.enc, List.map_cons, List.map_nil] at crun ⊢;refine HT_sA ?_;rcases Classical.em (A = 0) with hA | hA
 · subst hA;rw [if_pos rfl, if_pos rfl] at crun;rw [if_pos rfl];have ccl := ccl rfl;refine HT_seq <| (HT_runsS ?_);refine RunsS.cutE 2 [] (by simp [*]; rfl) trivial (le_refl _) ?_;refine RunsS.call (fun n => n) (fun n => n) (by simp; rfl) (handS_mk (by simp) (by simp) (by simp) (by simp) (by simp)) crun (by rfl) ?_;refine RunsS.doneE [] (by simp; rfl) trivial ?_;clear crun;refine HT_seq <| HT_seq <| HT_runA ?_;refine (HT_cs rfl (fun h3 => ?_) fun h3 => ?_)
   · exact absurd h3 (by simp)
   (try simp only[BN]at h3);refine HT_seq <| (HT_druncH [(23, 800000), (27, 800000), (9, 9)] [⟨false, .v (lI X), none⟩] (by kernel_rfl) (by kernel_rfl) (by rfl) (by simp [evcH, hokB, hintOf, *, allTyped, fillC, placeOf]; first | exact ⟨rfl, Iff.rfl⟩ | exact ⟨rfl, trivial⟩ | rfl) ?_ ?_)
   · first | exact ccl _ | exact trivial | simpa [*, allTyped, fillC, placeOf] using ccl _
   refine HT_seq <| (HT_druncH [(34, 800000), (39, 3), (45, 800000), (49, 800000), (51, 3), (56, 9)] [⟨true, .v (lb BE), none⟩] (by kernel_rfl) (by kernel_rfl) (by rfl) (by simp [evcH, hokB, hintOf, *]; first | exact ⟨rfl, Iff.rfl⟩ | exact ⟨rfl, trivial⟩ | rfl) ?_ ?_)
   · first | exact cbe _ | exact trivial | simpa [*] using cbe _
   refine HT_sA ?_;exact HT_ret ⟨.inr rfl, _, le_frz 900001 rfl, ⟨⟨_, by simp; rfl, by simp [resR]⟩, by simp, fun h => by cases h⟩⟩
 rw [if_neg hA, if_neg hA] at crun;rw [if_neg hA];refine HT_seq <| (HT_runsS ?_);refine RunsS.cutE 2 [] (by simp [*]; rfl) trivial (le_refl _) ?_;refine RunsS.call (fun n => n) (fun n => n) (by simp; rfl) (handS_mk (by simp) (by simp) (by simp) (by simp) (by simp)) crun (by rfl) ?_;refine RunsS.doneE [] (by simp; rfl) trivial ?_;clear crun;refine HT_seq <| HT_seq <| HT_runA ?_;refine (HT_cs rfl (fun h3 => ?_) fun h3 => ?_)
 · (try simp only[BN]at h3);refine HT_seq <| (HT_run (by simp [*, allTyped, fillC, placeOf]; rfl) ?_);refine HT_le (le_box 4 [.c (bC false), .c (.sl 1 []), .c (iC 0), .c (.sl 1 [])] rfl (by (repeat' (first | exact LWk.nil | apply LWk.cons | exact CWk.refl _ | exact CWk.nil _)))) ?_;exact HT_ret ⟨.inr rfl, _, le_refl _, ⟨⟨_, by simp; rfl, by simp [resR]⟩, by simp, fun h => by cases h⟩⟩
 exact absurd h3 (by simpa using hA)
end Go.Proofs.YtfjidddhehckoaaGreat

namespace Go.Proofs.YtfjidddhehckoaaGreat
open Go Go.Hl
theorem wordR_con (b : UInt8) (d : Nat) : Con Tryz.prog 187 true [.one (.c (.lit (.int .u8 b.toNat)))] (.v (lb (wordB b))) none d := by
 unfold wordB;refine con_of_HTA Tryz.func187 ?_;simp only [Tryz.f187];refine HT_sA ?_;refine HT_sA ?_;exact HT_rA
theorem nameR19_con (s : ByteArray) (d : Nat) : Con Tryz.prog 170 true [sv s] (.v (lb (nameB s))) none d := by
 rcases Nat.eq_zero_or_pos s.size with h0 | h0
 · have hz : nameB s = false := by unfold nameB; simp [h0]
   have he : s = ⟨#[]⟩ := by rw [size_pos]; exact h0
   rw [hz];subst he;clear hz h0;refine con_of_HTA Tryz.func170 ?_;simp only [Tryz.f170];refine HT_sA ?_;refine HT_seq <| HT_seq <| HT_runA ?_;refine (HT_cs rfl (fun h2 => ?_) fun h2 => ?_)
   · (try simp only[BN]at h2);refine HT_sA ?_;exact HT_rA
   exact absurd h2 (by simp)
 have hne : ¬ s = ⟨#[]⟩ := by rw [size_pos]; omega
 have hb0 : s[0]? = some (s[0]'h0) := getElem?_pos s 0 h0;refine con_of_HTA Tryz.func170 ?_;simp only [Tryz.f170];refine HT_sA ?_;refine HT_seq <| HT_seq <| HT_runA ?_;refine (HT_cs rfl (fun h2 => ?_) fun h2 => ?_)
 · try simp only[BN]at h2
   have hz : nameB s = false := by
    by_cases h40 : s.size ≤ 40
    · refine nameB_bad h0 ?_;unfold chOk;rw [hb0];simp only [Bool.or_eq_false_iff, Bool.and_eq_false_iff, decide_eq_false_iff_not];omega
    unfold nameB;simp [h40]
   refine HT_sA ?_;exact HT_rA
 (try simp only[BN]at h2);have h40 : s.size ≤ 40 := by omega
 have hb97 : 97 ≤ ((s[0]'h0).toNat : Int) ∧ ((s[0]'h0).toNat : Int) ≤ 122 := by omega
 refine HT_seq <| HT_seq <| HT_runA ?_;refine HT_block <| (HT_loopU [0] (fun (x : Nat) => [(3, .v (li x))]) (fun x => []) (fun x => x ≤ s.size ∧ ∀ j : Nat, j < x → chOk s j = true) (fun x => s.size - x) (0 : Nat) ⟨Nat.zero_le _, fun j hj => absurd hj (Nat.not_lt_zero j)⟩ ?_ ?_)
 · exact le_mkA (fun n => n) []
 rintro k ⟨hk, hall⟩;simp only [upS, keepS, insS]
 try simp only [keepS, KN, Nat.reduceBEq, if_true, if_false, ins, Nat.reduceLT]
 refine HT_seq <| HT_seq <| HT_runA ?_;refine (HT_cond rfl (fun h8 => HT_skip ?_) (fun h8 => ?_))
 · (try simp only[BN]at h8);have hlt : k < s.size := by omega
   obtain ⟨b, hb⟩ := get_bytes hlt;have hw := wrap1 hlt (by omega);have hk1 : k + 1 ≤ s.size := hlt;have cw := wordR_con b;clear hlt h8;refine HT_seq <| HT_block <| HT_seq <| (HT_runcA [⟨true, .v (lb (wordB b)), none⟩] ?_ ?_)
   · first | exact cw _ | exact trivial | simpa [*] using cw _
   refine (HT_cs rfl (fun h10 => ?_) fun h10 => ?_)
   · (try simp only[BN]at h10);have hwb : wordB b = false := by simpa using h10
     have hbad : chOk s k = false := by
      unfold chOk;rw [hb];unfold wordB at hwb;simp only [Bool.or_eq_false_iff, Bool.and_eq_false_iff, decide_eq_false_iff_not] at hwb ⊢;omega
     have hz := nameB_bad hk1 hbad;refine HT_sA ?_;exact HT_rA
   (try simp only[BN]at h10);have hwb : wordB b = true := by simpa using h10
   have hgood : chOk s k = true := by
    by_cases hk0 : k = 0
    · subst hk0;unfold chOk;rw [hb0];simp only [Bool.or_eq_true, Bool.and_eq_true, decide_eq_true_eq];omega
    unfold chOk;rw [hb];unfold wordB at hwb;simp only [Bool.or_eq_true, Bool.and_eq_true, decide_eq_true_eq] at hwb ⊢;omega
   refine HT_runA ?_;exact ⟨k + 1, ⟨by omega, fun j hj => (Nat.lt_succ_iff_lt_or_eq.1 hj).elim (hall j) (fun e => e ▸ hgood)⟩, by omega, le_mkA (fun n => n) []⟩
 (try simp only[BN]at h8);have hz := nameB_good h0 h40 (fun j hj => hall j (by omega));refine (HT_exit ?_);refine HT_sA ?_;exact HT_rA
theorem hasN_iff (l : List ByteArray) (s : ByteArray) : Lt.hasN l s = true ↔ s ∈ l := by
 simp only [Lt.hasN, List.any_eq_true, decide_eq_true_eq];constructor
 · rintro ⟨x, hx, rfl⟩;exact hx
 intro h;exact ⟨s, h, rfl⟩
theorem labR_con (n : Nat) (l : List Lb) (hl : l.length ≤ 1000000) (d : Nat) : Con Tryz.prog 142 true [lLb l, li n] (.v (li (labC n [] l))) none d := by
 obtain ⟨res, hres⟩ : ∃ r, labC n [] l = r := ⟨_, rfl⟩;rw [hres];refine con_of_HTA Tryz.func142 ?_;simp only [Tryz.f142];refine HT_sA ?_;refine HT_seq <| HT_seq <| HT_runA ?_;refine HT_block <| (HT_loopU [0, 1] (fun (x : Nat) => [(5, .v (li x))]) (fun x => []) (fun x => x ≤ l.length ∧ labC n ((l.take x).map Lb.name) (l.drop x) = res) (fun x => l.length - x) (0 : Nat) ⟨Nat.zero_le _, hres⟩ ?_ ?_)
 · exact le_mkA (fun n => n) []
 rintro k ⟨hk, hJ⟩;simp only [upS, keepS, insS]
 try simp only [keepS, KN, Nat.reduceBEq, if_true, if_false, ins, Nat.reduceLT]
 clear hres;refine HT_seq <| HT_seq <| HT_runA ?_;refine (HT_cond rfl (fun h4 => HT_skip ?_) (fun h4 => ?_))
 · (try simp only[BN]at h4);have hlt : k < l.length := by omega
   obtain ⟨x, he, hd⟩ := at_lt hlt;have hw1 := wrap1 hlt (by omega);have hk1 : k + 1 ≤ l.length := hlt;have htk : (l.take (k + 1)).map Lb.name = (l.take k).map Lb.name ++ [x.name] := by rw [List.take_add_one, he]; simp
   rw [hd] at hJ;simp only [labC] at hJ;have he' := get_encL he;obtain ⟨nm, lv⟩ := x;have cn := nameR19_con nm;simp only [Lb.enc] at he' hJ cn htk;clear h4 hd hlt;refine HT_seq <| HT_block <| HT_seq <| HT_seq <| (HT_runcA [⟨true, .v (lb (nameB nm)), none⟩] ?_ ?_)
   · first | exact cn _ | exact trivial | simpa [*] using cn _
   refine (HT_cs rfl (fun h6 => ?_) fun h6 => ?_)
   · (try simp only[BN]at h6);have hnb : nameB nm = false := by simpa using h6
     rw [if_pos hnb] at hJ;subst hJ;refine HT_sA ?_;exact HT_rA
   (try simp only[BN]at h6);have hnb : nameB nm = true := by simpa using h6
   rw [if_neg (by rw [hnb]; decide)] at hJ;refine HT_seq <| HT_seq <| HT_runA ?_;refine HT_block <| (HT_loopU [0, 1, 5] (fun (y : Nat) => [(6, .v (li y))]) (fun y => []) (fun y => y ≤ k ∧ ∀ (j : Nat) (z : Lb), j < y → l[j]? = some z → z.name ≠ nm) (fun y => k - y) (0 : Nat) ⟨Nat.zero_le _, fun j z hj => absurd hj (Nat.not_lt_zero _)⟩ ?_ ?_)
   · exact le_mkA (fun n => n) []
   rintro q ⟨hq, hall⟩;simp only [upS, keepS, insS]
   try simp only [keepS, KN, Nat.reduceBEq, if_true, if_false, ins, Nat.reduceLT]
   refine HT_seq <| HT_seq <| HT_runA ?_;refine (HT_cond rfl (fun h12 => HT_skip ?_) (fun h12 => ?_))
   · (try simp only[BN]at h12);have hqk : q < k := by omega
     obtain ⟨z, hz, hzd⟩ := at_lt (show q < l.length by omega);have hwq := wrap1 (show q < l.length by omega) (by omega);have hz' := get_encL hz;obtain ⟨zn, zl⟩ := z;simp only [Lb.enc] at hz';clear hzd h12;refine HT_seq <| HT_block <| HT_seq <| (HT_drun (by kernel_rfl) (by kernel_rfl) (by rfl) (by simp [*]; rfl) ?_);refine (HT_cs rfl (fun h14 => ?_) fun h14 => ?_)
     · (try simp only[BN]at h14);have hzn : zn = nm := by simpa using h14
       rw [if_pos ((hasN_iff _ _).2 (List.mem_map.2 ⟨⟨zn, zl⟩, List.mem_of_getElem? (by rw [List.getElem?_take_of_lt hqk]; exact hz), hzn⟩))] at hJ;subst hJ;refine HT_sA ?_;exact HT_rA
     (try simp only[BN]at h14);have hzn : ¬ zn = nm := by simpa using h14
     have hall2 : ∀ (j : Nat) (z : Lb), j < q + 1 → l[j]? = some z → z.name ≠ nm := by
      intro j z hj hz2;rcases Nat.lt_succ_iff_lt_or_eq.1 hj with h | rfl
      · exact hall j z h hz2
      rw [hz] at hz2; cases hz2; exact hzn
     refine HT_runA ?_;exact ⟨q + 1, ⟨by omega, hall2⟩, by omega, le_mkA (fun n => n) []⟩
   (try simp only[BN]at h12);have hqk : q = k := by omega
   subst hqk
   have hno : Lt.hasN ((l.take q).map Lb.name) nm = false := by
    rw [Bool.eq_false_iff];intro h;obtain ⟨z, hz, hzn⟩ := List.mem_map.1 ((hasN_iff _ _).1 h);obtain ⟨j, hj⟩ := List.mem_iff_getElem?.1 hz
    have hjq : j < q := by
     have := (List.getElem?_eq_some_iff.1 hj).1;rw [List.length_take] at this;omega
    rw [List.getElem?_take_of_lt hjq] at hj;exact hall j z hjq hj hzn
   rw [if_neg (by rw [hno]; decide)] at hJ;refine (HT_exit ?_);refine HT_sA ?_;refine (HT_cs rfl (fun h20 => ?_) fun h20 => ?_)
   · (try simp only[BN]at h20);rw [if_pos (by simpa using h20)] at hJ;subst hJ;refine HT_sA ?_;exact HT_rA
   (try simp only[BN]at h20);rw [if_neg (by simpa using h20)] at hJ;refine HT_runA ?_;exact ⟨q + 1, ⟨hk1, by rw [htk]; exact hJ⟩, by omega, le_mkA (fun n => n) []⟩
 (try simp only[BN]at h4);have hkl : k = l.length := by omega
 rw [hkl, List.drop_length] at hJ;simp only [labC] at hJ;subst hJ;refine (HT_exit ?_);refine HT_sA ?_;exact HT_rA
theorem refnewP_con (names : List ByteArray) (order : List (Int × Int)) (hn : names.length ≤ 14) (hlen : order.length ≤ 60) (d : Nat) :
  Con Tryz.prog 43 false [nsP names, orP order] (.tup [Lt.refT names order, li (Lt.newC names order)]) none d := Lt.refnew_con names hn order hlen d
def smQ (p : Po) : Prop := p.order.length ≤ 60 ∧ p.inputs.length ≤ 1000000 ∧ p.hatches.length ≤ 1000000 ∧ p.levels.length ≤ 14
theorem smQ_smP {p : Po} (h : smQ p) : smP p := ⟨Nat.le_trans h.1 (by omega), h.2.1, h.2.2.1, Nat.le_trans h.2.2.2 (by omega)⟩
theorem refT_agg (names : List ByteArray) (order : List (Int × Int)) : (Lt.newC names order = 0 ∧ ∃ a b, Lt.refT names order = .agg [.c (.sl 1 a), .c (.sl 1 b)]) ∨ (Lt.newC names order ≠ 0 ∧ Lt.refT names order = .agg [.c (.lit nilS), .c (.lit nilS)]) := by
 unfold Lt.refT;by_cases h : Lt.newC names order = 0
 · exact .inl ⟨h, _, _, by rw [if_pos h]; rfl⟩
 exact .inr ⟨h, by rw [if_neg h]; rfl⟩
theorem polR_con (p : Po) (hs : smQ p) (d : Nat) : Con Tryz.prog 96 true [aPo p] (.v (li (polC p))) none d := by
 obtain ⟨hs1, hs2, hs3, hs4⟩ := hs;have cn := refnewP_con p.levels p.order hs4 hs1;have c1 := labR_con p.levels.length p.inputs hs2;have c2 := labR_con p.levels.length p.hatches hs3;obtain ⟨res, hres⟩ : ∃ r, polC p = r := ⟨_, rfl⟩;rw [hres];unfold polC at hres;have hN := refT_agg p.levels p.order;obtain ⟨NT, hNT⟩ : ∃ x, Lt.refT p.levels p.order = x := ⟨_, rfl⟩;obtain ⟨C, hC⟩ : ∃ x, Lt.newC p.levels p.order = x := ⟨_, rfl⟩;obtain ⟨A, hA⟩ : ∃ x, labC p.levels.length [] p.inputs = x := ⟨_, rfl⟩;obtain ⟨B, hB⟩ : ∃ x, labC p.levels.length [] p.hatches = x := ⟨_, rfl⟩;rw [hNT, hC] at cn hN;rw [hA] at c1;rw [hB] at c2;rw [hC, hA, hB] at hres;obtain ⟨ls, os, is, hs, ob, tm⟩ := p;simp only at hres cn c1 c2;have hln : (encNs ls).length = ls.length := by simp [encNs]
 clear hNT hC hA hB;refine con_of_HTA Tryz.func96 ?_;simp only [Tryz.f96];simp only [aPo, Po.enc, List.map_cons, List.map_nil];refine HT_sA ?_;rcases hN with ⟨hC0, N1, N2, hN⟩ | ⟨hC0, hN⟩
 · subst hN;subst hC0;rw [if_neg (by simp)] at hres;refine HT_scA [⟨false, .tup [.agg [.c (.sl 1 N1), .c (.sl 1 N2)], li 0], none⟩] ?_ ?_
   · first | exact cn _ | exact trivial | simpa [*] using cn _
   refine HT_seq <| HT_seq <| HT_runA ?_;refine (HT_cs rfl (fun h3 => ?_) fun h3 => ?_)
   · exact absurd h3 (by simp)
   (try simp only[BN]at h3);refine HT_seq <| HT_seq <| HT_runA ?_;refine (HT_cs rfl (fun h7 => ?_) fun h7 => ?_)
   · (try simp only[BN]at h7);rw [if_pos (by omega)] at hres;subst hres;refine HT_sA ?_;exact HT_rA
   (try simp only[BN]at h7);rw [if_neg (by omega)] at hres;refine HT_scA [⟨true, .v (li A), none⟩] ?_ ?_
   · first | exact c1 _ | exact trivial | simpa [*] using c1 _
   refine HT_seq <| HT_seq <| HT_runA ?_;refine (HT_cs rfl (fun h12 => ?_) fun h12 => ?_)
   · (try simp only[BN]at h12);rw [if_pos (by simpa using h12)] at hres;subst hres;refine HT_sA ?_;exact HT_rA
   (try simp only[BN]at h12);rw [if_neg (by simpa using h12)] at hres;refine HT_scA [⟨true, .v (li B), none⟩] ?_ ?_
   · first | exact c2 _ | exact trivial | simpa [*] using c2 _
   refine HT_seq <| HT_seq <| HT_runA ?_;refine (HT_cs rfl (fun h17 => ?_) fun h17 => ?_)
   · (try simp only[BN]at h17);rw [if_pos (by simpa using h17)] at hres;subst hres;refine HT_sA ?_;exact HT_rA
   (try simp only[BN]at h17);rw [if_neg (by simpa using h17)] at hres;refine HT_seq <| HT_seq <| HT_runA ?_;refine (HT_cs rfl (fun h21 => ?_) fun h21 => ?_)
   · (try simp only[BN]at h21);rw [if_pos (by simpa [hln] using h21)] at hres;subst hres;refine HT_sA ?_;exact HT_rA
   (try simp only[BN]at h21);rw [if_neg (by simpa [hln] using h21)] at hres;subst hres;refine HT_sA ?_;exact HT_rA
 subst hN;rw [if_pos hC0] at hres;subst hres;refine HT_scA [⟨false, .tup [.agg [.c (.lit nilS), .c (.lit nilS)], li C], none⟩] ?_ ?_
 · first | exact cn _ | exact trivial | simpa [*] using cn _
 refine HT_seq <| HT_seq <| HT_runA ?_;refine (HT_cs rfl (fun h3 => ?_) fun h3 => ?_)
 · (try simp only[BN]at h3);refine HT_sA ?_;exact HT_rA
 exact absurd h3 (by simpa using hC0)
end Go.Proofs.YtfjidddhehckoaaGreat

namespace Go.Proofs.YtfjidddhehckoaaGreat
open Go Go.Hl
def vldC (f : Fl) (p : Po) : Int := if codeC f ≠ 0 ∨ polC p ≠ 0 then 1 else 0
structure smF (f : Fl) : Prop where
 hv : f.vars.length ≤ 1000000
 hh : f.hats.length ≤ 1000000
 hn : nodesS f.body + nodesH f.hats ≤ 900000
 hb : bndL f.body = true
theorem valid_con (f : Fl) (p : Po) (hs : smQ p) (hf : smF f) (d : Nat) : Con Tryz.prog 60 true [aF f, aPo p] (.v (li (vldC f p))) none d := by
 have cf := checkR_con f hf.hv hf.hh (by have := hf.hn; omega) hf.hb;have cp := polR_con p hs;unfold vldC;obtain ⟨C, hC⟩ : ∃ x, polC p = x := ⟨_, rfl⟩;obtain ⟨D, hD⟩ : ∃ x, codeC f = x := ⟨_, rfl⟩;rw [hC] at cp ⊢;rw [hD] at cf ⊢;obtain ⟨vars, hats, body⟩ := f;obtain ⟨ls, os, is, hts, ob, tm⟩ := p;clear hC hD hs hf;refine con_of_HTA Tryz.func60 ?_;simp only [Tryz.f60];simp only [aF, Fl.enc, aPo, Po.enc, List.map_cons, List.map_nil] at cf cp ⊢;refine HT_sA ?_;by_cases hk : D = 0
 · subst hk;refine HT_seq <| HT_seq <| (HT_runcA [⟨true, .v (li 0), none⟩, ⟨true, .v (li C), none⟩] ?_ ?_)
   · first | exact ⟨cf _, cp _⟩ | exact trivial | (repeat' first | exact trivial | exact cf _ | exact cp _ | apply And.intro)
   refine (HT_cs rfl (fun h2 => ?_) fun h2 => ?_)
   · (try simp only[BN]at h2);refine HT_sA ?_;exact HT_rA
   (try simp only[BN]at h2);refine HT_sA ?_;exact HT_rA
 refine HT_seq <| HT_seq <| (HT_runcS [some ⟨true, .v (li D), none⟩, none] (by simp [*]; first | exact ⟨rfl, Iff.rfl⟩ | exact ⟨rfl, trivial⟩ | rfl) ?_ ?_)
 · first | exact trivial | exact cf _ | simpa using cf _
 refine (HT_cs rfl (fun h2 => ?_) fun h2 => ?_)
 · (try simp only[BN]at h2);refine HT_sA ?_;exact HT_rA
 (try simp only[BN]at h2);refine HT_sA ?_;exact HT_rA
theorem isIn_con (v : Vr) (d : Nat) : Con Tryz.prog 61 true [aV v] (.v (lb (decide (v.kind ≠ 0)))) none d := by
 obtain ⟨nm, k, lo, hi, it⟩ := v;refine con_of_HTA Tryz.func61 ?_;simp only [Tryz.f61];refine HT_sA ?_;refine HT_sA ?_;exact HT_rA
theorem cov_cases (label v : ByteArray) : (label = v ∧ covB label v = true) ∨ (label ≠ v ∧ v.size ≤ label.size ∧ covB label v = false) ∨
  (label ≠ v ∧ label.size < v.size ∧ ∃ b : UInt8, v[label.size]? = some b ∧ covB label v = (decide (v.extract 0 label.size = label) && decide ((b.toNat : Int) = 46))) := by
 by_cases he : label = v
 · subst he;exact .inl ⟨rfl, by simp [covB, hasP]⟩
 refine .inr ?_;rcases Nat.lt_or_ge label.size v.size with hlt | hge
 · obtain ⟨b, hb⟩ := get_bytes hlt;refine .inr ⟨he, hlt, b, hb, ?_⟩;unfold covB hasP;rw [hb, decide_eq_true (Nat.le_of_lt hlt), Bool.true_and, show decide (v.size = label.size) = false by simpa using (by omega : ¬ v.size = label.size), Bool.false_or];congr 1;refine decide_eq_decide.2 ⟨fun h => by cases h; rfl, fun h => ?_⟩
   have : b.toNat = (46 : UInt8).toNat := by
    show b.toNat = 46;omega
   rw [UInt8.toNat_inj.1 this]
 refine .inl ⟨he, hge, ?_⟩;unfold covB hasP;rcases Nat.lt_or_ge v.size label.size with h1 | h1
 · rw [show decide (label.size ≤ v.size) = false by simpa using h1]; rfl
 have h2 : v.extract 0 label.size = v := by rw [show label.size = v.size by omega]; exact ByteArray.extract_zero_size
 rw [h2, show decide (v = label) = false by simpa using fun h => he h.symm];simp
theorem covR_con (label v : ByteArray) (d : Nat) : Con Tryz.prog 62 true [sv label, sv v] (.v (lb (covB label v))) none d := by
 rcases cov_cases label v with ⟨h1, h2⟩ | ⟨h1, h2, h3⟩ | ⟨h1, h2, b, h3, h4⟩
 · rw [h2];subst h1;clear h2;refine con_of_HTA Tryz.func62 ?_;simp only [Tryz.f62];refine HT_sA ?_;refine HT_sA ?_;refine HT_sA ?_;exact HT_rA
 · rw [h3];have h2' : ¬ (label.size : Int) < v.size := by omega
   have hx : v[label.size]? = none := getElem?_neg v label.size (by omega);rcases Nat.lt_or_ge v.size label.size with h4 | h4
   · have hle : ¬ label.size ≤ v.size := by omega
     clear h2 h4;refine con_of_HTA Tryz.func62 ?_;simp only [Tryz.f62];refine HT_sA ?_;refine HT_sA ?_;refine HT_sA ?_;exact HT_rA
   clear h2;refine con_of_HTA Tryz.func62 ?_;simp only [Tryz.f62];refine HT_sA ?_;refine HT_sA ?_;refine HT_sA ?_;exact HT_rA
 rw [h4];clear h4;have h2' : (label.size : Int) < v.size := by omega
 have hle : label.size ≤ v.size := by omega
 clear h2;refine con_of_HTA Tryz.func62 ?_;simp only [Tryz.f62];refine HT_sA ?_;refine HT_sA ?_;refine HT_sA ?_;exact HT_rA
theorem lat_agg {p : Po} (h : polC p = 0) : Lt.refT p.levels p.order = Lt.latT p.levels p.M := by
 unfold Lt.refT;rw [if_pos (polC_new h)];rfl
theorem latR_con (p : Po) (h : polC p = 0) (hs : smQ p) (d : Nat) : Con Tryz.prog 16 false [aPo p] (.v (Lt.latT p.levels p.M)) none d := by
 have cn := refnewP_con p.levels p.order hs.2.2.2 hs.1;rw [lat_agg h] at cn;obtain ⟨C, hC⟩ : ∃ x, Lt.newC p.levels p.order = x := ⟨_, rfl⟩;rw [hC] at cn;unfold Lt.latT at cn ⊢;unfold Lt.nsC Lt.matB at cn ⊢;obtain ⟨A, hA⟩ : ∃ x, (p.levels.map fun s => [Lt.sC s]) = x := ⟨_, rfl⟩;obtain ⟨B, hB⟩ : ∃ x, ((List.range p.levels.length).map fun a => [CD.sl 1 (Lt.rowB p.levels.length p.M a)]) = x := ⟨_, rfl⟩;rw [hA, hB] at cn ⊢;obtain ⟨ls, os, is, hts, ob, tm⟩ := p;simp only at cn;clear hC hA hB hs h;refine con_of_HTA Tryz.func16 ?_;simp only [Tryz.f16];simp only [aPo, Po.enc, List.map_cons, List.map_nil];refine HT_sA ?_;refine HT_scA [⟨false, .tup [.agg [.c (.sl 1 A), .c (.sl 1 B)], li C], none⟩] ?_ ?_
 · first | exact cn _ | exact trivial | simpa [*] using cn _
 refine HT_sA ?_;exact HT_ret ⟨.inr rfl, _, le_refl _, ⟨⟨_, by simp; rfl, by simp [resR]⟩, by simp, fun h => by cases h⟩⟩
theorem vld_out {f : Fl} {p : Po} (h : vldC f p = 0) : codeC f = 0 ∧ polC p = 0 := by
 unfold vldC at h;split at h
 · cases h
 exact ⟨by omega, by omega⟩
end Go.Proofs.YtfjidddhehckoaaGreat

namespace Go.Proofs.YtfjidddhehckoaaGreat.Lt
open Go Go.Hl
theorem reftop_con (names : List ByteArray) (M : Nat → Nat → Bool) (hn : 0 < names.length ∧ names.length ≤ 12) (d : Nat) : Con Tryz.prog 19 true [latT names M] (.v (li (rbF (flp M) names.length : Nat))) none d := by
 have hrl := fun k hk => rbF_lt (M := flp M) hn.1 k hk;refine con_of_HTA Tryz.func19 ?_;simp only [Tryz.f19];refine HT_seq (HT_run (by simp [regsOf, latT, nsC]; rfl) ?_);refine HT_seq (HT_run (by simp; rfl) ?_);refine HT_seq (HT_seq (HT_run (by simp; rfl) ?_));refine HT_block (HT_loop (fun k => RB names M (rbF (flp M) k) k) (fun k => k ≤ names.length) (fun k => names.length - k) 0 (Nat.zero_le _) ?_ ?_)
 · exact le_mk (fun n => 1) [] rfl (by simp [RB, li, i64, rbF]) (by simp [RB, nsC]) (by simp [RB])
 rintro k hk;have t1 := hrl k hk;have hsuc := rbF_succ (flp M) k;generalize hteq : rbF (flp M) k = t at *;simp only [RB];refine HT_seq (HT_seq (HT_run (by simp [li, i64, nsC]; rfl) ?_));refine HT_cond rfl (fun h => HT_skip ?_) (fun h => HT_exit ?_)
 · have hlt : k < names.length := by simpa using h
   have hw : IntKind.i64.wrap ((k : Int) + 1) = (k : Int) + 1 := wrap_in (by omega) (by omega);refine HT_seq (HT_block (HT_seq (HT_run (by simp [matB, t1, rowB_get hlt, bC]; rfl) ?_)));refine HT_cond rfl (fun h => ?_) (fun h => HT_skip ?_)
   · have h' : flp M k t = true := h;refine HT_run (by simp; rfl) ?_;refine HT_run (by simp [hw]; rfl) ?_;refine ⟨k + 1, hlt, by omega, ?_⟩;rw [hsuc, if_pos h'];exact le_mk (fun n => n) [] rfl (by simp [RB, li, i64, hw]) (by simp [RB, nsC, matB]) (by simp [RB])
   have h' : flp M k t = false := h;refine HT_run (by simp [hw]; rfl) ?_;refine ⟨k + 1, hlt, by omega, ?_⟩;rw [hsuc, if_neg (by rw [h']; simp)];exact le_mk (fun n => n) [] rfl (by simp [RB, li, i64, hw]) (by simp [RB, nsC, matB]) (by simp [RB])
 have hkn : k = names.length := by simp at h; omega
 subst hkn;refine HT_seq (HT_run (by simp; rfl) ?_);exact HT_ret ⟨.inr rfl, _, le_refl _, ⟨_, rfl, by simp [resR, li, i64, hteq]⟩, by simp, fun _ => ⟨rfl, by simp⟩⟩
end Go.Proofs.YtfjidddhehckoaaGreat.Lt
namespace Go.Proofs.YtfjidddhehckoaaGreat
open Go Go.Hl
abbrev laT (p : Po) : TV := Lt.latT p.levels p.M
theorem rbot_con (p : Po) (h : polC p = 0) (d : Nat) : Con Tryz.prog 23 true [laT p] (.v (li p.bot)) none d := by
 obtain ⟨hM, h1, h2⟩ := pol_new h;have := Lt.refbot_con p.levels p.M ⟨h1, h2⟩ d;rw [show Lt.rbF p.M p.levels.length = Lt.topF p.n (Lt.flp p.M) p.n from hM.rbF h1] at this;exact this
theorem rtop_con (p : Po) (h : polC p = 0) (d : Nat) : Con Tryz.prog 19 true [laT p] (.v (li p.top)) none d := by
 obtain ⟨hM, h1, h2⟩ := pol_new h;have := Lt.reftop_con p.levels p.M ⟨h1, h2⟩ d;rw [show Lt.rbF (Lt.flp p.M) p.levels.length = Lt.topF p.n p.M p.n from hM.flp.rbF h1] at this;exact this
theorem okI_nat {n : Nat} {a : Int} (h : okI n a) : ∃ k : Nat, a = (k : Int) ∧ k < n := by
 obtain ⟨h1, h2⟩ := h;exact ⟨a.toNat, by omega, by omega⟩
theorem levR_con (p : Po) (v : Vr) (hp : polC p = 0) (hs : smQ p) (d : Nat) : Con Tryz.prog 63 true [aPo p, aV v] (.v (li (levV p v))) none d := by
 have cL := latR_con p hp hs;have cB := rbot_con p hp;have cT := rtop_con p hp;have ci := isIn_con v;have hil := hs.2.1;obtain ⟨R, hR⟩ : ∃ x, levV p v = x := ⟨_, rfl⟩;rw [hR];unfold levV at hR;obtain ⟨BOT, hBOT⟩ : ∃ x, p.bot = x := ⟨_, rfl⟩;obtain ⟨TOP, hTOP⟩ : ∃ x, p.top = x := ⟨_, rfl⟩;rw [hBOT] at cB hR;rw [hTOP] at cT hR;unfold laT Lt.latT at *;unfold Lt.nsC Lt.matB at cL cB cT;obtain ⟨A, hA⟩ : ∃ x, (p.levels.map fun s => [Lt.sC s]) = x := ⟨_, rfl⟩;obtain ⟨B, hB⟩ : ∃ x, ((List.range p.levels.length).map fun a => [CD.sl 1 (Lt.rowB p.levels.length p.M a)]) = x := ⟨_, rfl⟩;rw [hA, hB] at cL cB cT;obtain ⟨ls, os, is, hts, ob, tm⟩ := p;simp only at hR hil;obtain ⟨nm, kd, lo, hi, ini⟩ := v;simp only [Vr.kind] at ci hR;obtain ⟨KD, hKD⟩ : ∃ x, decide (kd ≠ 0) = x := ⟨_, rfl⟩;rw [hKD] at ci;have hK1 : KD = true → kd ≠ 0 := fun h => by rw [h] at hKD; simpa using hKD
 have hK2 : KD = false → ¬ kd ≠ 0 := fun h => by rw [h] at hKD; simpa using hKD
 clear hA hB hs hp hBOT hTOP hKD;refine con_of_HTA Tryz.func63 ?_;simp only [Tryz.f63];simp only [aPo, Po.enc, List.map_cons, List.map_nil] at cL ⊢;refine HT_sA ?_;refine HT_sA ?_;refine HT_seq <| HT_seq <| HT_runA ?_;refine HT_block <| (HT_loopU [2, 3] (fun (x : Nat × Int × Int × Int) => [(5, .v (li x.2.1)), (6, .v (li x.1))]) (fun x => [(2, .box [.c (.sl 1 (encNs ls)), .c (.sl 2 (encPr os)), .c (.sl 2 (encLs is)), .c (.sl 2 (encLs hts)), .c (iC ob), .c (bC tm)]), (3, .box [.c (sC nm), .c (iC kd), .c (iC lo), .c (iC hi), .c (iC ini)])]) (fun x => x.1 ≤ is.length ∧ (bestF ⟨nm, kd, lo, hi, ini⟩ (is.drop x.1) x.2.2).1 = R ∧ ((x.2.1 = -1 ∧ x.2.2 = (if kd = 1 then TOP else BOT, -1)) ∨ ∃ (j : Nat) (z : Lb), x.2.1 = j ∧ is[j]? = some z ∧ x.2.2 = (z.level, (z.name.size : Int)))) (fun x => is.length - x.1) (0, -1, (if kd = 1 then TOP else BOT, -1)) ⟨Nat.zero_le _, hR, .inl ⟨rfl, rfl⟩⟩ ?_ ?_)
 · exact le_mkA (fun n => n) []
 rintro ⟨k, b, cur⟩ ⟨hk, hJ, hc⟩;simp only [upS, keepS, insS]
 try simp only [keepS, KN, Nat.reduceBEq, if_true, if_false, ins, Nat.reduceLT]
 simp only at hk hJ hc;clear hR;refine HT_seq <| HT_seq <| HT_runA ?_;refine (HT_cond rfl (fun h5 => HT_skip ?_) (fun h5 => ?_))
 · (try simp only[BN]at h5);have hlt : k < is.length := by omega
   obtain ⟨x, he, hd⟩ := at_lt hlt;have hw1 := wrap1 hlt (by omega);have hk1 : k + 1 ≤ is.length := hlt;have he' := get_encL he;rw [hd] at hJ;simp only [bestF] at hJ;obtain ⟨xn, xl⟩ := x;have cc := covR_con xn nm;simp only [Lb.enc] at he' hJ cc;obtain ⟨Cv, hCV⟩ : ∃ x, covB xn nm = x := ⟨_, rfl⟩;rw [hCV] at cc hJ;clear h5 hd hlt hCV cL cB cT;rcases hc with ⟨hb1, hc1⟩ | ⟨j, z, hb1, hz, hc1⟩
   · subst hb1;subst hc1;refine HT_seq <| HT_block <| HT_seq <| (HT_drunc [⟨true, .v (lb KD), none⟩, ⟨true, .v (lb Cv), none⟩] (by kernel_rfl) (by kernel_rfl) (by rfl) (by simp [*]; first | exact ⟨rfl, Iff.rfl⟩ | exact ⟨rfl, trivial⟩ | rfl) ?_ ?_)
     · first | exact ⟨ci _, cc _⟩ | exact trivial | (repeat' first | exact trivial | exact ci _ | exact cc _ | apply And.intro)
     refine (HT_cs rfl (fun h7 => ?_) fun h7 => ?_)
     · (try simp only[BN]at h7);have h7' : KD = true ∧ Cv = true := by simpa using h7
       rw [if_pos ⟨hK1 h7'.1, h7'.2, by simp only; omega⟩] at hJ;refine HT_runA ?_;refine HT_runA ?_;exact ⟨(k + 1, (k : Int), (xl, (xn.size : Int))), ⟨hk1, hJ, .inr ⟨k, ⟨xn, xl⟩, rfl, he, rfl⟩⟩, by simp only; omega, le_mkA (fun n => n) []⟩
     try simp only[BN]at h7
     rw [if_neg (by
      rintro ⟨a1, a2, a3⟩;cases hk : KD with
      | false => exact hK2 hk a1
      | true => simp [hk, a2] at h7)] at hJ
     refine HT_runA ?_;exact ⟨(k + 1, -1, (if kd = 1 then TOP else BOT, -1)), ⟨hk1, hJ, .inl ⟨rfl, rfl⟩⟩, by simp only; omega, le_mkA (fun n => n) []⟩
   subst hb1;subst hc1;have hjn : ¬ ((j : Int) < 0) := by omega
   have hz' := get_encL hz;obtain ⟨zn, zl⟩ := z;simp only [Lb.enc] at hz' hJ;refine HT_seq <| HT_block <| HT_seq <| (HT_drunc [⟨true, .v (lb KD), none⟩, ⟨true, .v (lb Cv), none⟩] (by kernel_rfl) (by kernel_rfl) (by rfl) (by simp [*]; first | exact ⟨rfl, Iff.rfl⟩ | exact ⟨rfl, trivial⟩ | rfl) ?_ ?_)
   · first | exact ⟨ci _, cc _⟩ | exact trivial | (repeat' first | exact trivial | exact ci _ | exact cc _ | apply And.intro)
   refine (HT_cs rfl (fun h7 => ?_) fun h7 => ?_)
   · (try simp only[BN]at h7);have h7' : (KD = true ∧ Cv = true) ∧ zn.size < xn.size := by simpa using h7
     rw [if_pos ⟨hK1 h7'.1.1, h7'.1.2, by omega⟩] at hJ;refine HT_runA ?_;refine HT_runA ?_;exact ⟨(k + 1, (k : Int), (xl, (xn.size : Int))), ⟨hk1, hJ, .inr ⟨k, ⟨xn, xl⟩, rfl, he, rfl⟩⟩, by simp only; omega, le_mkA (fun n => n) []⟩
   try simp only[BN]at h7
   rw [if_neg (by
    rintro ⟨a1, a2, a3⟩;cases hk : KD with
    | false => exact hK2 hk a1
    | true => simp [hk, a2] at h7; omega)] at hJ
   refine HT_runA ?_;exact ⟨(k + 1, (j : Int), (zl, (zn.size : Int))), ⟨hk1, hJ, .inr ⟨j, ⟨zn, zl⟩, rfl, hz, rfl⟩⟩, by simp only; omega, le_mkA (fun n => n) []⟩
 (try simp only[BN]at h5);have hkl : k = is.length := by omega
 rw [hkl, List.drop_length] at hJ;simp only [bestF] at hJ;refine (HT_exit ?_);refine HT_seq <| HT_seq <| HT_runA ?_;refine (HT_cs rfl (fun h14 => ?_) fun h14 => ?_)
 · try simp only[BN]at h14
   obtain ⟨j, z, hb1, hz, hc1⟩ : ∃ (j : Nat) (z : Lb), b = j ∧ is[j]? = some z ∧ cur = (z.level, (z.name.size : Int)) := by
    rcases hc with ⟨h1, _⟩ | h1
    · omega
    exact h1
   subst hb1;subst hc1;have hz' := get_encL hz;obtain ⟨zn, zl⟩ := z;simp only [Lb.enc] at hz' hJ;subst hJ;refine HT_sA ?_;exact HT_rA
 try simp only[BN]at h14
 have hc1 : cur = (if kd = 1 then TOP else BOT, -1) := by
  rcases hc with ⟨_, h1⟩ | ⟨j, z, h1, _⟩
  · exact h1
  omega
 subst hc1;simp only at hJ;refine HT_seq <| HT_seq <| HT_runA ?_;refine (HT_cs rfl (fun h18 => ?_) fun h18 => ?_)
 · (try simp only[BN]at h18);rw [if_pos (by simpa using h18)] at hJ;subst hJ;refine HT_scA [⟨false, .v (.agg [.c (.sl 1 A), .c (.sl 1 B)]), none⟩, ⟨true, .v (li TOP), none⟩] ?_ ?_
   · first | exact ⟨cL _, cT _⟩ | exact trivial | (repeat' first | exact trivial | exact cL _ | exact cT _ | apply And.intro)
   exact HT_rA
 (try simp only[BN]at h18);rw [if_neg (by simpa using h18)] at hJ;subst hJ;refine HT_scA [⟨false, .v (.agg [.c (.sl 1 A), .c (.sl 1 B)]), none⟩, ⟨true, .v (li BOT), none⟩] ?_ ?_
 · first | exact ⟨cL _, cB _⟩ | exact trivial | (repeat' first | exact trivial | exact cL _ | exact cB _ | apply And.intro)
 exact HT_rA
theorem inR_con (f : Fl) (p : Po) (hs : smQ p) (hf : smF f) (d : Nat) :
  Con Tryz.prog 33 false [aF f, aPo p] (.tup [lI (pinF f p).1, li (pinF f p).2]) none d := by
 have cv := valid_con f p hs hf;have clev := fun v h => levR_con p v h hs;have hil := hs.2.1;have hvl := hf.hv;obtain ⟨res, hres⟩ : ∃ r, pinF f p = r := ⟨_, rfl⟩;rw [hres];unfold pinF at hres;have hvo := vld_out (f := f) (p := p)
 have hvi : (polC p ≠ 0 ∨ codeC f ≠ 0) ↔ vldC f p ≠ 0 := by
  unfold vldC;constructor
  · intro h;rw [if_pos h.symm];decide
  intro h;split at h
  · rename_i k; exact k.symm
  exact absurd rfl h
 simp only [hvi] at hres;obtain ⟨V, hV⟩ : ∃ x, vldC f p = x := ⟨_, rfl⟩;rw [hV] at cv hres hvo;obtain ⟨vars, hats, body⟩ := f;have hpe : p = p := rfl;obtain ⟨P, hP⟩ : ∃ q, p = q := ⟨_, rfl⟩;rw [hP] at clev hres hvo;obtain ⟨ls, os, is, hts, ob, tm⟩ := p;simp only at hvl hil;have hpi : P.inputs = is := by rw [← hP]
 rw [hpi] at hres;clear hs hf hV hvi hpe hpi;refine con_of_HTA Tryz.func33 ?_;simp only [Tryz.f33];simp only [aF, Fl.enc, aPo, Po.enc, List.map_cons, List.map_nil] at cv ⊢;rw [← hP] at clev;simp only [aPo, Po.enc, List.map_cons, List.map_nil] at clev;refine HT_sA ?_;refine HT_seq <| HT_seq <| (HT_runcA [⟨true, .v (li V), none⟩] ?_ ?_)
 · first | exact cv _ | exact trivial | simpa [*] using cv _
 refine (HT_cs rfl (fun h2 => ?_) fun h2 => ?_)
 · (try simp only[BN]at h2);rw [if_pos (by simpa using h2)] at hres;subst hres;refine HT_sA ?_;exact HT_ret ⟨.inr rfl, _, le_one 4 1 rfl, ⟨⟨_, by simp; rfl, by simp [resR]⟩, by simp, fun h => by cases h⟩⟩
 (try simp only[BN]at h2);have hv0 : V = 0 := by simpa using h2
 subst hv0;rw [if_neg (by simp)] at hres;obtain ⟨hcf, hcp⟩ := hvo rfl;refine HT_seq <| HT_seq <| HT_runA ?_;refine HT_block <| (HT_loopU [2, 3] (fun (x : Nat) => [(6, .v (li x))]) (fun x => [(2, .box [.c (.sl 5 (encVs vars)), .c (.sl 6 (encHs hats)), .c (.sl 10 (encSs body))]), (3, .box [.c (.sl 1 (encNs ls)), .c (.sl 2 (encPr os)), .c (.sl 2 (encLs is)), .c (.sl 2 (encLs hts)), .c (iC ob), .c (bC tm)])]) (fun x => x ≤ is.length ∧ ((is.take x).all (usB vars) = true)) (fun x => is.length - x) (0 : Nat) ⟨Nat.zero_le _, by simp⟩ ?_ ?_)
 · exact le_mkA (fun n => n) []
 rintro k ⟨hk, hall⟩;simp only [upS, keepS, insS]
 try simp only [keepS, KN, Nat.reduceBEq, if_true, if_false, ins, Nat.reduceLT]
 refine HT_seq <| HT_seq <| HT_runA ?_;refine (HT_cond rfl (fun h8 => HT_skip ?_) (fun h8 => ?_))
 · (try simp only[BN]at h8);have hlt : k < is.length := by omega
   obtain ⟨x, he, hd⟩ := at_lt hlt;have hw1 := wrap1 hlt (by omega);have hk1 : k + 1 ≤ is.length := hlt;have he' := get_encL he;have hsn : (is.take (k + 1)).all (usB vars) = (usB vars x) := by rw [List.take_add_one, he]; simp [hall]
   obtain ⟨xn, xl⟩ := x;simp only [Lb.enc] at he';clear h8 hd hlt;refine HT_seq <| HT_block <| HT_seq <| HT_runA ?_;refine HT_seq <| HT_seq <| HT_runA ?_;refine HT_block <| (HT_loopU [2, 3, 6] (fun (y : Nat) => [(7, .v (lb (usB (vars.take y) ⟨xn, xl⟩))), (8, .v (li y))]) (fun y => [(2, .box [.c (.sl 5 (encVs vars)), .c (.sl 6 (encHs hats)), .c (.sl 10 (encSs body))]), (3, .box [.c (.sl 1 (encNs ls)), .c (.sl 2 (encPr os)), .c (.sl 2 (encLs is)), .c (.sl 2 (encLs hts)), .c (iC ob), .c (bC tm)])]) (fun y => y ≤ vars.length) (fun y => vars.length - y) (0 : Nat) (Nat.zero_le _) ?_ ?_)
   · exact le_mk (fun n => n) [] rfl (by simp [*, upS, keepS, usB]) (by simp [*, upS]) (by simp [upS])
   rintro q hq;simp only [upS, keepS, insS]
   try simp only [keepS, KN, Nat.reduceBEq, if_true, if_false, ins, Nat.reduceLT]
   refine HT_seq <| HT_seq <| HT_runA ?_;refine (HT_cond rfl (fun h13 => HT_skip ?_) (fun h13 => ?_))
   · (try simp only[BN]at h13);have hqk : q < vars.length := by omega
     obtain ⟨w, hz, hzd⟩ := at_lt hqk;have hwq := wrap1 hqk (by omega);have hus := usB_snoc hz ⟨xn, xl⟩;have hq1 : q + 1 ≤ vars.length := hqk;obtain ⟨vn, vk, vlo, vhi, vin⟩ := w;have cc := covR_con xn vn;have ci := isIn_con ⟨vn, vk, vlo, vhi, vin⟩;simp only at cc ci hus;obtain ⟨KD, hKD⟩ : ∃ x, decide (vk ≠ 0) = x := ⟨_, rfl⟩;rw [hKD] at ci hus;obtain ⟨Cv, hCV⟩ : ∃ x, covB xn vn = x := ⟨_, rfl⟩;rw [hCV] at cc hus;obtain ⟨UB, hUB⟩ : ∃ x, usB (vars.take q) ⟨xn, xl⟩ = x := ⟨_, rfl⟩;rw [hUB] at hus ⊢;clear hzd h13 hqk hCV hUB hKD;refine HT_seq <| HT_block <| HT_seq <| (HT_drunc [⟨true, .v (lb KD), none⟩, ⟨true, .v (lb Cv), none⟩] (by kernel_rfl) (by kernel_rfl) (by rfl) (by simp [*]; first | exact ⟨rfl, Iff.rfl⟩ | exact ⟨rfl, trivial⟩ | rfl) ?_ ?_)
     · first | exact ⟨ci _, cc _⟩ | exact trivial | (repeat' first | exact trivial | exact ci _ | exact cc _ | apply And.intro)
     refine (HT_cs rfl (fun h15 => ?_) fun h15 => ?_)
     · (try simp only[BN]at h15);have hy : (KD && Cv) = true := by simpa using h15
       rw [hy, Bool.or_true] at hus;refine HT_runA ?_;refine HT_runA ?_;exact ⟨q + 1, hq1, by omega, le_mkA (fun n => n) []⟩
     try simp only[BN]at h15
     have hy : (KD && Cv) = false := by
      cases KD <;> cases Cv <;> simp at h15 ⊢
     rw [hy, Bool.or_false] at hus;refine HT_runA ?_;exact ⟨q + 1, hq1, by omega, le_mkA (fun n => n) []⟩
   (try simp only[BN]at h13);have hqk : q = vars.length := by omega
   subst hqk;rw [List.take_length];obtain ⟨UB, hUB⟩ : ∃ x, usB vars ⟨xn, xl⟩ = x := ⟨_, rfl⟩;rw [hUB] at hsn ⊢;refine (HT_exit ?_);refine HT_sA ?_;refine (HT_cs rfl (fun h22 => ?_) fun h22 => ?_)
   · (try simp only[BN]at h22);have hno : UB = false := by simpa using h22
     rw [if_neg (by intro h; rw [List.all_eq_true] at h; have := h _ (List.mem_of_getElem? he); rw [hUB, hno] at this; cases this)] at hres;subst hres;refine HT_sA ?_;exact HT_ret ⟨.inr rfl, _, le_one 4 1 rfl, ⟨⟨_, by simp; rfl, by simp [resR]⟩, by simp, fun h => by cases h⟩⟩
   (try simp only[BN]at h22);have hyes : UB = true := by simpa using h22
   rw [hyes] at hsn;refine HT_runA ?_;exact ⟨k + 1, ⟨hk1, hsn⟩, by omega, le_mkA (fun n => n) []⟩
 (try simp only[BN]at h8);have hkl : k = is.length := by omega
 rw [hkl, List.take_length] at hall;rw [if_pos hall] at hres;subst hres;clear hall hkl h8 hk;refine (HT_exit ?_);refine HT_sA ?_;refine HT_seq <| HT_seq <| HT_runA ?_;refine HT_block <| (HT_loopU [2, 3] (fun (x : Nat) => [(9, .v (.one (.own 900001))), (10, .v (li x))]) (fun x => [(2, .box [.c (.sl 5 (encVs vars)), .c (.sl 6 (encHs hats)), .c (.sl 10 (encSs body))]), (3, .box [.c (.sl 1 (encNs ls)), .c (.sl 2 (encPr os)), .c (.sl 2 (encLs is)), .c (.sl 2 (encLs hts)), .c (iC ob), .c (bC tm)]), (900001, .row 3 1 (encIs ((vars.map (levV P)).take x)))]) (fun x => x ≤ vars.length) (fun x => vars.length - x) (0 : Nat) (Nat.zero_le _) ?_ ?_)
 · exact le_mkA (fun n => if n = 900001 then 52 else n) []
 rintro q hq;simp only [upS, keepS, insS]
 try simp only [keepS, KN, Nat.reduceBEq, if_true, if_false, ins, Nat.reduceLT]
 refine HT_seq <| HT_seq <| HT_runA ?_;refine (HT_cond rfl (fun h31 => HT_skip ?_) (fun h31 => ?_))
 · (try simp only[BN]at h31);have hqk : q < vars.length := by omega
   obtain ⟨w, hz, hzd⟩ := at_lt hqk;have hwq := wrap1 hqk (by omega);have hq1 : q + 1 ≤ vars.length := hqk;have cl := clev w (by rw [hP]; exact hcp)
   have hsn : encIs ((vars.map (levV P)).take (q + 1)) = encIs ((vars.map (levV P)).take q) ++ [[iC (levV P w)]] := by
    rw [List.take_add_one, List.getElem?_map, hz];simp [encIs]
   obtain ⟨O, hO⟩ : ∃ x, (vars.map (levV P)).take q = x := ⟨_, rfl⟩;have hOl : O.length = q := by rw [← hO, List.length_take, List.length_map]; omega
   have hroom : room (q + 1) 8 := room_of (by omega) (by omega);rw [hO] at hsn ⊢;obtain ⟨LV0, hLV⟩ : ∃ x, levV P w = x := ⟨_, rfl⟩;rw [hP, hLV] at cl;rw [hLV] at hsn;obtain ⟨vn, vk, vlo, vhi, vin⟩ := w;clear hzd h31 hqk hLV;refine HT_seq <| HT_block <| (HT_drunc [⟨true, .v (li LV0), none⟩] (by kernel_rfl) (by kernel_rfl) (by rfl) (by simp [*]; first | exact ⟨rfl, Iff.rfl⟩ | exact ⟨rfl, trivial⟩ | rfl) ?_ ?_)
   · first | exact cl _ | exact trivial | simpa [*] using cl _
   refine HT_runA ?_;exact ⟨q + 1, hq1, by omega, le_mkA (fun n => if n = 900001 then 69 else n) []⟩
 (try simp only[BN]at h31);have hkl : q = vars.length := by omega
 subst hkl;rw [List.take_of_length_le (by simp)];refine (HT_exit ?_);refine HT_sA ?_;exact HT_ret ⟨.inr rfl, _, le_frz 900001 rfl, ⟨⟨_, by simp; rfl, by simp [resR]⟩, by simp, fun h => by cases h⟩⟩
end Go.Proofs.YtfjidddhehckoaaGreat
