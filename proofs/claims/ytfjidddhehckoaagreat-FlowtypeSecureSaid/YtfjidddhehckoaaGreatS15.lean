/- Part 15: contracts of functions of the program and of the reference, and plain facts about what they compute; used by the proof of the claimed statement. Conditions: as each theorem states. -/
import Derived.Test.YtfjidddhehckoaaGreatS14
import Derived.Test.YtfjidddhehckoaaGreatS13
import Derived.Test.YtfjidddhehckoaaGreatS6
import Derived.Test.YtfjidddhehckoaaGreatS10
import Derived.Test.YtfjidddhehckoaaGreatS9
import Derived.Test.YtfjidddhehckoaaGreatRows
set_option linter.unusedSimpArgs false
set_option linter.unusedVariables false
set_option linter.unnecessarySimpa false
set_option maxRecDepth 100000
set_option maxHeartbeats 2000000
namespace Go.Proofs.YtfjidddhehckoaaGreat
open Go Go.Hl
theorem noS_mem : ∀ l : List St, noS l = true → ∀ s ∈ l, ¬ s.do_ = 6
 | [], _, s, hs => by cases hs
 | .mk d c v n t a b bs :: l, h, s, hs => by
   simp only [noS, Bool.and_eq_true, decide_eq_true_eq] at h;rcases List.mem_cons.1 hs with rfl | hs
   · exact h.1
   exact noS_mem l h.2.2.2 s hs
theorem lgL_app (e : En) (fu : Nat) : ∀ (l m : List St) (pc : Int) (st : List Int), lgL e fu (l ++ m) pc st = lgL e fu l pc st ++ lgL e fu m pc (ouL e fu l pc st)
 | [], m, pc, st => by simp only [List.nil_append, lgL, ouL]
 | s :: l, m, pc, st => by simp only [List.cons_append, lgL, ouL, lgL_app e fu l m, List.append_assoc]
theorem tmL_app (e : En) (fu : Nat) : ∀ (l m : List St) (pc : Int) (st : List Int), tmL e fu (l ++ m) pc st = tmL e fu l pc st ++ tmL e fu m pc (ouL e fu l pc st)
 | [], m, pc, st => by simp only [List.nil_append, tmL, ouL]
 | s :: l, m, pc, st => by simp only [List.cons_append, tmL, ouL, tmL_app e fu l m, List.append_assoc]
theorem wfL_app {vars : List Vr} {nh : Nat} : ∀ l m : List St, wfL vars nh (l ++ m) = (wfL vars nh l && wfL vars nh m)
 | [], m => by simp [wfL]
 | s :: l, m => by simp only [List.cons_append, wfL, wfL_app l m, Bool.and_assoc]
theorem st_local (i : Inp) : ∀ (l : List Vr) (a b c : Nat) (vals : List Int) (fits : Bool), (stL i l a b c vals fits).2 = 0 →
  (∀ j : Nat, j < vals.length → (stL i l a b c vals fits).1[j]? = vals[j]?) ∧ ∀ (j : Nat) (v : Vr), l[j]? = some v → v.kind = 0 → (stL i l a b c vals fits).1[vals.length + j]? = some v.init
 | [], a, b, c, vals, fits, h => by
   simp only [stL] at h ⊢;split
   · rename_i h1;rw [if_pos h1] at h;split
     · exact ⟨fun j _ => rfl, fun j v hv => by simp at hv⟩
     rename_i h2; rw [if_neg h2] at h; cases h
   rename_i h1; rw [if_neg h1] at h; cases h
 | v :: l, a, b, c, vals, fits, h => by
   simp only [stL] at h ⊢;split
   · rename_i h1;rw [if_pos h1] at h;obtain ⟨g1, g2⟩ := st_local i l _ _ _ _ _ h;refine ⟨fun j hj => ?_, fun j w hw hk => ?_⟩
     · rw [g1 j (by simp; omega), List.getElem?_append_left hj]
     cases j with
     | zero =>
       simp only [List.getElem?_cons_zero, Option.some.injEq] at hw;subst hw;rw [g1 _ (by simp), List.getElem?_append_right (by omega)];simp [pick3, hk]
     | succ j =>
       simp only [List.getElem?_cons_succ] at hw;have := g2 j w hw hk;rw [List.length_append, List.length_singleton] at this;rw [← this];congr 1;omega
   rename_i h1; rw [if_neg h1] at h; cases h
theorem hlF_ok {n : Nat} {nm : ByteArray} : ∀ (l : List Lb) (x : Int), (∀ y ∈ l, okI n y.level) → (x = -1 ∨ okI n x) → (hlF nm l x = -1 ∨ okI n (hlF nm l x))
 | [], x, _, h => h
 | y :: l, x, hl, h => by
   show hlF nm l (if nm = y.name then y.level else x) = -1 ∨ okI n (hlF nm l (if nm = y.name then y.level else x));refine hlF_ok l _ (fun z hz => hl z (List.mem_cons_of_mem _ hz)) ?_;split
   · exact .inr (hl y (List.mem_cons_self ..))
   exact h
section
variable {f : Fl} {p : Po}
theorem hv_okH (h : Gd0 f p) : okH p.n (phtF f p).1 := by
 have e1 := htF_eq (hcs_nodup _ _ (code_split h.hc).2.2.1).2 p.hatches;unfold phtF;rw [if_neg (by rw [h.hp, h.hc]; simp), e1];split
 · rename_i he;split at he
   · cases he
   intro x hx; cases hx
 rename_i r he;split at he
 · cases he;intro x hx;obtain ⟨w, _, rfl⟩ := List.mem_map.1 hx;exact hlF_ok p.hatches (-1) (fun y hy => labC_in _ _ (polC_lab h.hp).2 y hy) (.inl rfl)
 cases he
theorem ask_rel (h : askC f p = 0) : relL (phtF f p).1 f.body = true := by
 unfold askC at h;split at h
 · rename_i h1; exact absurd h h1
 split at h
 · rename_i h1; exact absurd h h1
 split at h
 · assumption
 cases h
theorem ssC_rise {vars : List Vr} {nh : Nat} : ∀ (l : List St) (top : Bool), ssC vars nh l top = 0 → ∀ s ∈ l, s.do_ = 6 → riseB s.bounds = true
 | [], _, _, s, hs, _ => by cases hs
 | .mk d c v n t a b bs :: l, top, h, s, hs, h6 => by
   obtain ⟨hsh, _, _, _, _, hl⟩ := ssC_split h;rcases List.mem_cons.1 hs with rfl | hs
   · simp only [St.do_] at h6;subst h6;unfold shB at hsh;simp only [show ¬ (6 : Int) = 0 by decide, show ¬ (6 : Int) = 1 by decide, show ¬ (6 : Int) = 2 by decide, show ¬ (6 : Int) = 3 by decide, show ¬ (6 : Int) = 4 by decide, show ¬ (6 : Int) = 5 by decide, if_true, if_false, Bool.and_eq_true] at hsh;exact hsh.2
   exact ssC_rise l top hl s hs h6
theorem ris_le {bs : List Int} {b0 : Int} (h : riseB bs = true) (h0 : bs[0]? = some b0) : ∀ b ∈ bs, b0 ≤ b := by
 have hr : risB bs = true := by
  unfold riseB at h;rw [Bool.and_eq_true] at h;exact h.2
 have key : ∀ (k : Nat) (x : Int), bs[k]? = some x → b0 ≤ x := by
  intro k
  induction k with
  | zero => intro x hx; rw [h0] at hx; cases hx; exact Int.le_refl _
  | succ k ih =>
    intro x hx;have hk := (List.getElem?_eq_some_iff.1 hx).1;obtain ⟨y, hy⟩ : ∃ y, bs[k]? = some y := ⟨_, List.getElem?_eq_getElem (by omega)⟩;have := ih y hy;have hyx : risAt bs k = true := (List.all_eq_true.1 hr) k (List.mem_range.2 (by omega));unfold risAt at hyx;rw [hy, hx] at hyx;have := of_decide_eq_true hyx;omega
 intro b hb;obtain ⟨k, hk⟩ := List.mem_iff_getElem?.1 hb;exact key k b hk
theorem stl_first {bs : List Int} {b0 t : Int} (h : riseB bs = true) (h0 : bs[0]? = some b0) (ht : t ≤ b0) : stlL bs t t false = b0 := by
 rcases stl_false bs t t with ⟨h1, _⟩ | ⟨h1, h2, h3⟩
 · have := h1 b0 (List.mem_of_getElem? h0);omega
 have a1 := h3 b0 (List.mem_of_getElem? h0) ht;have a2 := ris_le h h0 _ h1;omega
theorem nof_of {e : En} : ∀ (E : List Ent) (k : Nat), fltF e k E = [] → ∀ x ∈ E, fltB e x = false
 | [], _, _, x, hx => by cases hx
 | y :: E, k, h, x, hx => by
   simp only [fltF] at h;have h1 := List.append_eq_nil_iff.1 h;rcases List.mem_cons.1 hx with rfl | hx
   · cases hb : fltB e x
     · rfl
     rw [if_pos hb] at h1; cases h1.1
   exact nof_of E (k + 1) h1.2 x hx
theorem secure_facts (h : askC f p = 0) (hb : bndL f.body = true) {i0 i1 : Inp} {a b : List Int} (ha : stL i0 f.vars 0 0 0 [] true = (a, 0)) (hb' : stL i1 f.vars 0 0 0 [] true = (b, 0))
  (hvis : ∀ (k : Nat) (v : Vr), f.vars[k]? = some v → v.kind ≠ 0 → p.M (levV p v).toNat p.observer.toNat = true → a[k]? = b[k]?)
  (hrel : ∀ k : Nat, k < f.hats.length → ¬ ((phtF f p).1[k]?).getD 0 < 0 → p.M ((((phtF f p).1[k]?).getD 0).toNat) p.observer.toNat = true → (hvals a f.hats)[k]? = (hvals b f.hats)[k]?) (hacc : accB f p = true) :
  (stepsF f.vars (hvals a f.hats) f.body ⟨a, [], 0⟩).outs = (stepsF f.vars (hvals b f.hats) f.body ⟨b, [], 0⟩).outs ∧
  (p.timed = true → (stepsF f.vars (hvals a f.hats) f.body ⟨a, [], 0⟩).time = (stepsF f.vars (hvals b f.hats) f.body ⟨b, [], 0⟩).time) := by
 have hg := ask_gd h;have hss := (code_split hg.hc).2.2.2.1;have hov := (code_split hg.hc).2.2.2.2;have hokl := ssC_ok _ _ hss;have hBT := BT_of hss hov;have hrl := ask_rel h;have hwf := (code_wf hb hg.hc).1;have hla := stL_len i0 f.vars 0 0 0 [] true (by rw [ha]);have hlb := stL_len i1 f.vars 0 0 0 [] true (by rw [hb']);rw [ha] at hla;rw [hb'] at hlb;simp only [List.length_nil, Nat.zero_add] at hla hlb;have lca := (st_local i0 f.vars 0 0 0 [] true (by rw [ha])).2;have lcb := (st_local i1 f.vars 0 0 0 [] true (by rw [hb'])).2;rw [ha] at lca;rw [hb'] at lcb;simp only [List.length_nil, Nat.zero_add] at lca lcb
 have hlow : Low (envF f p) f.vars.length (s0F f p) ⟨a, [], 0⟩ ⟨b, [], 0⟩ := by
  refine ⟨fun k x hx hl => ?_, rfl, hla, hlb⟩;unfold s0F at hx;rw [List.getElem?_map] at hx;cases hv : f.vars[k]? with
  | none => rw [hv] at hx; cases hx
  | some v =>
    rw [hv] at hx;cases hx;by_cases hk : v.kind = 0
    · show a[k]? = b[k]?;rw [lca k v hv hk, lcb k v hv hk]
    exact hvis k v hv hk hl
 have hhat : ∀ k : Nat, k < (envF f p).hv.length → ¬ ((envF f p).hv[k]?).getD 0 < 0 → (envF f p).L (((envF f p).hv[k]?).getD 0) (envF f p).W → ((hvals a f.hats)[k]?).getD 0 = ((hvals b f.hats)[k]?).getD 0 := fun k hk h1 h2 => by
  rw [hrel k (by rw [← hg.hhl]; exact hk) h1 h2]
 unfold accB at hacc;simp only [Bool.and_eq_true, decide_eq_true_eq, Bool.or_eq_true, Bool.not_eq_true'] at hacc;have hfa := List.length_eq_zero_iff.1 hacc.1;rw [tyE_out.2.1, (tyR_lg hg).2.2.1] at hfa;have hno := nof_of _ _ hfa;have hbot := bot_ok hg.hp;have hlb0 : (envF f p).L p.bot (envF f p).W := (hg.hM.flp.top hg.hn p.n (Nat.le_refl _)).2 p.observer.toNat (by obtain ⟨_, _⟩ := hg.ho; unfold Po.n at *; omega);have hs0 := s0_ok hg
 have hfuel : fuel (envF f p) (s0F f p).length (fuF f p) := by
  unfold fuel fuF;rw [hs0.2];show p.n * f.vars.length < p.n * f.vars.length + 1;omega
 have htime : p.timed = true → setlB f = false → ∀ x ∈ tmE f p, (envF f p).L x (envF f p).W := fun ht hs => by
  have h1 : p.B (tyE f p).2.time p.observer = true := by
   rcases hacc.2 with h2 | h2
   · rw [h2] at ht; cases ht
   exact h2
  have h3 := (B_iff (e := envF f p) (time_ok hg) hg.ho).1 h1;rw [tyE_out.2.2.2.2, hs, (tyR_lg hg).2.1] at h3;exact ((fold_iff (e := envF f p) hg.hn hg.hM hg.ho _ _ hbot (tmE_ok hg)).1 h3).2
 have hlen : (envF f p).hv.length = f.hats.length := hg.hhl
 have main := fun (l : List St) (hF : Fm (envF f p) f.vars (fuF f p) l) (hn : ∀ x ∈ lgL (envF f p) (fuF f p) l p.bot (s0F f p), fltB (envF f p) x = false) =>
  lo_steps (e := envF f p) hg.hn hg.hM hg.ho (hv_okH hg) hhat l p.bot (s0F f p) ⟨a, [], 0⟩ ⟨b, [], 0⟩ hbot hs0.1 hs0.2 hfuel hF hlb0 hn hlow
 have hFall : Fm (envF f p) f.vars (fuF f p) f.body := ⟨by rw [hlen]; exact hwf, hrl⟩;rcases ss_split f.body hss with hns | ⟨m, c, v, n, t, bs, hbody, hnm⟩
 · obtain ⟨h1, h2⟩ := main f.body hFall hno;refine ⟨h1.outs, fun ht => h2 ⟨rfl, Int.le_refl 0, by simp only; omega, hBT, hns, hokl, htime ht ?_⟩⟩;unfold setlB;split
   · rename_i s hs;rw [decide_eq_false (noS_mem _ hns s (List.mem_of_getElem? hs)), Bool.false_and]
   rfl
 have hno2 : ∀ x ∈ lgL (envF f p) (fuF f p) m p.bot (s0F f p), fltB (envF f p) x = false := fun x hx => hno x (by
  unfold lgE;rw [hbody, lgL_app]
  exact List.mem_append_left _ hx)
 have hFm : Fm (envF f p) f.vars (fuF f p) m := by
  have h1 := hFall.wf;have h2 := hFall.rel;rw [hbody, wfL_app, Bool.and_eq_true] at h1;rw [hbody, relL_app, Bool.and_eq_true] at h2;exact ⟨h1.1, h2.1⟩
 obtain ⟨h1, h2⟩ := main m hFm hno2
 have hokm : okL m = true ∧ 0 ≤ c := by
  rw [hbody, okL_app, Bool.and_eq_true] at hokl;refine ⟨hokl.1, ?_⟩;have := hokl.2;simp only [okL, okS, Bool.and_eq_true, Bool.or_eq_true, decide_eq_true_eq] at this;exact this.1.1.1
 have hBm : BT f.body = BT m + c := by
  rw [hbody, BT_app];simp only [BT, show ¬ (6 : Int) = 4 by decide, show ¬ (6 : Int) = 3 by decide, if_false, Int.add_zero]
 have hsm := SX_BT m hokm.1;have hlm := LX_BT m hokm.1
 have e1 : ∀ hz S, stepsF f.vars hz f.body S = ⟨(stepsF f.vars hz m S).vals, (stepsF f.vars hz m S).outs, stlL bs (tick (stepsF f.vars hz m S) c).time (tick (stepsF f.vars hz m S) c).time false⟩ := fun hz S => by
  rw [hbody, stepsF_app];simp only [stepsF, leafF, show ¬ (6 : Int) = 4 by decide, show ¬ (6 : Int) = 3 by decide, show ¬ (6 : Int) = 0 by decide, show ¬ (6 : Int) = 1 by decide, show ¬ (6 : Int) = 5 by decide, if_false, if_true];rfl
 rw [e1, e1];refine ⟨h1.outs, fun ht => ?_⟩;simp only;cases hs : setlB f
 · have h3 := h2 ⟨rfl, Int.le_refl 0, by simp only; omega, by omega, hnm, hokm.1, fun x hx => htime ht hs x (by
    unfold tmE;rw [hbody, tmL_app]
    exact List.mem_append_left _ hx)⟩
   rw [tick_eq h3]
 have hlast : f.body[f.body.length - 1]? = some (.mk 6 c v n t [] [] bs) := by rw [hbody]; simp
 unfold setlB at hs;rw [hlast] at hs;simp only [Bool.and_eq_true, decide_eq_true_eq] at hs;have hs2 : (bdL CP f.body ⟨0, 0, 0⟩).t ≤ (bs[0]?).getD 0 := hs.2
 have hrise : riseB bs = true := by
  have h5 := ssC_rise _ _ hss _ (List.mem_of_getElem? hlast) rfl;exact h5
 obtain ⟨b0, hb0⟩ : ∃ b0, bs[0]? = some b0 := by
  cases bs with
  | nil => cases hrise
  | cons x r => exact ⟨x, rfl⟩
 rw [hb0, Option.getD_some] at hs2;have hcr := (over_split hov).2.2;have hcut := BT_cut f.body ⟨0, 0, 0⟩ hokl (Int.le_refl 0);have hcp := bd_eqT hokl hcr
 have hBb : BT f.body ≤ b0 := by
  obtain ⟨_, h7⟩ := hcut;simp only [Int.zero_add, mn] at h7;have h8 := hs2
  (repeat' split at h7) <;> omega
 have g1 := fun hz (S : Sta) (hS : S.time = 0) => sp_time f.vars hz m hnm hokm.1 S (by omega) (by omega);have t1 := g1 (hvals a f.hats) ⟨a, [], 0⟩ rfl;have t2 := g1 (hvals b f.hats) ⟨b, [], 0⟩ rfl;simp only at t1 t2;have k1 := tick_time (s := stepsF f.vars (hvals a f.hats) m ⟨a, [], 0⟩) (c := c) (by omega) hokm.2 (by omega);have k2 := tick_time (s := stepsF f.vars (hvals b f.hats) m ⟨b, [], 0⟩) (c := c) (by omega) hokm.2 (by omega);rw [stl_first hrise hb0 (by omega), stl_first hrise hb0 (by omega)]
end
end Go.Proofs.YtfjidddhehckoaaGreat

namespace Go.Proofs.YtfjidddhehckoaaGreat
open Go Go.Hl
theorem known_con (d : Nat) : Con Tryz.prog 9 true [] (.v (lb true)) none d := by
 obtain ⟨t0, h0⟩ := xchk0;obtain ⟨t1, h1⟩ := xchk1;have c0 := checkT_con XF (XP 0) ⟨by decide, by decide, by decide, by decide⟩ (repC_holds (by decide)) (by decide) (by decide) (by decide) (by kernel_rfl) (fun _ => by rw [tyE_of xset, xty0.1]; decide);have c1 := checkT_con XF (XP 1) ⟨by decide, by decide, by decide, by decide⟩ (repC_holds (by decide)) (by decide) (by decide) (by decide) (by kernel_rfl) (fun _ => by rw [tyE_of xset, xty1.1]; decide);rw [h0] at c0;rw [h1] at c1;have he1 := eqSl_con [2] [2] (by decide) (by decide);have he2 := eqSl_con [1, 1] [1, 1] (by decide) (by decide);have hq1 : room 1 144 := room_of (by decide) (by decide);have hq2 : room 2 144 := room_of (by decide) (by decide);have hq3 : room 2 48 := room_of (by decide) (by decide);have hq4 : room 2 16 := room_of (by decide) (by decide);have hq5 : room 1 16 := room_of (by decide) (by decide);have hq6 : room 1 8 := room_of (by decide) (by decide);have hq7 : room 2 8 := room_of (by decide) (by decide);clear h0 h1;simp only [XF, XP, xVs, x0, x1, xS, aF, aPo, Po.enc, encNs, encPr, encLs, Fl.enc, Vr.enc, encVs, encHs, encIs, encSs, encTs, St.enc, Tm.enc, aT, aTg, List.map_cons, List.map_nil, List.cons_append, List.nil_append] at c0 c1 he1 he2;refine con_of_HTA Tryz.func9 ?_;simp only [Tryz.f9];refine HT_sA ?_;refine HT_seq <| (HT_runsF ?_);refine RunsF.cutE 6 [] (by simp [*, allTyped, fillC, placeOf]; rfl) trivial (le_agg 13 [.c (iC 0), .c (iC 0), .c (iC 1), .c (iC 0), .c (iC 0), .c (iC 1), .c (.sl 3 []), .c (.sl 10 []), .c (.sl 10 []), .c (.sl 1 [])] rfl (by (repeat' (first | exact LWk.nil | apply LWk.cons | exact CWk.refl _ | exact CWk.nil _)))) ?_;refine RunsF.cutE 1 [] (by simp [*, allTyped, fillC, placeOf]; rfl) trivial (le_frz 14 rfl) ?_;refine RunsF.cutE 3 [] (by simp [*, allTyped, fillC, placeOf]; rfl) trivial (le_trans (le_agg 15 [.c (iC 3), .c (iC 0), .c (iC 0), .c (iC 0), .c (iC 24), .c (iC 0), .c (.sl 3 []), .c (.sl 10 [[iC 0, iC 0, iC 1, iC 0, iC 0, iC 1, .sl 3 [], .sl 10 [], .sl 10 [], .sl 1 []]]), .c (.sl 10 []), .c (.sl 1 [])] rfl (by (repeat' (first | exact LWk.nil | apply LWk.cons | exact CWk.refl _ | exact CWk.nil _)))) (le_agg 17 [.c (iC 1), .c (iC 0), .c (iC 0), .c (iC 0), .c (iC 24), .c (iC 1), .c (.sl 3 []), .c (.sl 10 []), .c (.sl 10 []), .c (.sl 1 [])] rfl (by (repeat' (first | exact LWk.nil | apply LWk.cons | exact CWk.refl _ | exact CWk.nil _))))) ?_;refine RunsF.cutE 1 [] (by simp [*, allTyped, fillC, placeOf]; rfl) trivial (le_trans (le_frz 10 rfl) (le_frz 18 rfl)) ?_;refine RunsF.cutE 1 [] (by simp [*, allTyped, fillC, placeOf]; rfl) trivial (le_agg 19 [.c (.sl 5 [[sC ⟨#[120]⟩, iC 1, iC 0, iC 1, iC 0], [sC ⟨#[121]⟩, iC 0, iC 0, iC 1, iC 0]]), .c (.sl 6 []), .c (.sl 10 [[iC 3, iC 0, iC 0, iC 0, iC 24, iC 0, .sl 3 [], .sl 10 [[iC 0, iC 0, iC 1, iC 0, iC 0, iC 1, .sl 3 [], .sl 10 [], .sl 10 [], .sl 1 []]], .sl 10 [], .sl 1 []], [iC 1, iC 0, iC 0, iC 0, iC 24, iC 1, .sl 3 [], .sl 10 [], .sl 10 [], .sl 1 []]])] rfl (by (repeat' (first | exact LWk.nil | apply LWk.cons | exact CWk.refl _ | exact CWk.nil _)))) ?_;refine RunsF.doneE [] (by simp [*, allTyped, fillC, placeOf]; rfl) trivial ?_;refine HT_seq <| (HT_runsF ?_);refine RunsF.cutE 3 [] (by simp [*, allTyped, fillC, placeOf]; rfl) trivial (le_trans (le_frz 20 rfl) (le_frz 22 rfl)) ?_;refine RunsF.cutE 1 [] (by simp [*, allTyped, fillC, placeOf]; rfl) trivial (le_agg 23 [.c (.sl 1 [[sC ⟨#[108, 111, 119]⟩], [sC ⟨#[104, 105, 103, 104]⟩]]), .c (.sl 2 [[iC 0, iC 1]]), .c (.sl 2 []), .c (.sl 2 []), .c (iC 0), .c (bC false)] rfl (by (repeat' (first | exact LWk.nil | apply LWk.cons | exact CWk.refl _ | exact CWk.nil _)))) ?_;refine RunsF.doneE [] (by simp [*, allTyped, fillC, placeOf]; rfl) trivial ?_;refine HT_scA [⟨false, .tup [.agg [.c (bC false), .c (.sl 1 [[iC 2]]), .c (iC t0), .c (.sl 1 [[iC 1], [iC 1]])], li 0], none⟩] ?_ ?_
 · first | exact c0 _ | exact trivial | simpa [*] using c0 _
 refine HT_sA ?_;refine HT_sA ?_;refine HT_scA [⟨false, .tup [.agg [.c (bC true), .c (.sl 1 []), .c (iC t1), .c (.sl 1 [[iC 1], [iC 1]])], li 0], none⟩] ?_ ?_
 · first | exact c1 _ | exact trivial | simpa [*] using c1 _
 refine HT_scA [⟨true, .v (lb true), none⟩, ⟨true, .v (lb true), none⟩] ?_ ?_
 · first | exact ⟨he1 _, he2 _⟩ | exact trivial | (repeat' first | exact trivial | exact he1 _ | exact he2 _ | apply And.intro)
 exact HT_rA
end Go.Proofs.YtfjidddhehckoaaGreat

namespace Go.Hl
open Go
theorem HT_druncS {P : Program} {ops : Array Oper} {id : Nat} {s s' : HS} {p : Prop} {Q : Exit → HS → Prop} (cs : List (Option CR)) (hm : P.follows .mixedOrders = true) (hd : drawB ops = true) (hc : cleanB ops.toList s = true) (h : evcS P ops ops.toList s cs = some (s', p)) (hp : p) (hq : Q .normal s') : HT P (.region id ops true) s Q := HT_draw hm hd hc (wpR_evcS _ _ _ _ _ h hp hq)
end Go.Hl
namespace Go.Proofs.YtfjidddhehckoaaGreat
open Go Go.Hl
@[simp] theorem encBs_nil : encBs [] = [] := rfl
theorem le_con (p : Po) (hp : polC p = 0) (hs : smQ p) (a b : Int) (ha : okI p.n a) (hb : okI p.n b) (d : Nat) : Con Tryz.prog 78 true [aPo p, li a, li b] (.v (lb (p.M a.toNat b.toNat))) none d := by
 have cL := latR_con p hp hs;unfold Lt.latT at cL;unfold Lt.matB at cL;obtain ⟨x, rfl, hx⟩ := okI_nat ha;obtain ⟨y, rfl, hy⟩ := okI_nat hb;simp only [Int.toNat_natCast];obtain ⟨R, hR⟩ : ∃ r, ((List.range p.levels.length).map fun a => [CD.sl 1 (Lt.rowB p.levels.length p.M a)]) = r := ⟨_, rfl⟩
 have hrow : R[x]? = some [CD.sl 1 (Lt.rowB p.n p.M x)] := by
  rw [← hR, List.getElem?_map, List.getElem?_range (show x < p.levels.length from hx)];rfl
 rw [hR] at cL;obtain ⟨NS, hNS⟩ : ∃ r, Lt.nsC p.levels = r := ⟨_, rfl⟩;have hNS' : ∃ r, NS = .sl 1 r := ⟨_, hNS.symm⟩;rw [hNS] at cL;obtain ⟨NR, hNR⟩ := hNS';subst hNR;have hS := Lt.rowB_get (M := p.M) (a := x) hy;obtain ⟨S, hSS⟩ : ∃ r, Lt.rowB p.n p.M x = r := ⟨_, rfl⟩;rw [hSS] at hrow hS;obtain ⟨bb, hbb⟩ : ∃ r, p.M x y = r := ⟨_, rfl⟩;rw [hbb] at hS ⊢;clear hR hNS hSS hbb hp hs ha hb hx hy;obtain ⟨ls, os, is, hts, ob, tm⟩ := p;refine con_of_HTA Tryz.func78 ?_;simp only [Tryz.f78];simp only [aPo, Po.enc, List.map_cons, List.map_nil] at cL ⊢;refine HT_sA ?_;refine HT_scA [⟨false, .v (.agg [.c (.sl 1 NR), .c (.sl 1 R)]), none⟩] ?_ ?_
 · first | exact cL _ | exact trivial | simpa [*] using cL _
 exact HT_rA
def visL (f : Fl) (p : Po) : List Bool := f.vars.map fun v => decide (v.kind ≠ 0) && p.M (levV p v).toNat p.observer.toNat
def relH (p : Po) (l : Int) : Bool := decide (0 ≤ l) && p.M l.toNat p.observer.toNat
def rlsL (f : Fl) (p : Po) : List Bool := (phtF f p).1.map (relH p)
theorem ask_two {f : Fl} {p : Po} (h : askC f p = 0) : (pinF f p).2 = 0 ∧ (phtF f p).2 = 0 := by
 have h1 : (pinF f p).2 = 0 := by
  unfold askC at h;split at h
  · rename_i h1; exact absurd h h1
  rename_i h1; simpa using h1
 refine ⟨h1, ?_⟩;unfold askC at h;rw [if_neg (by rw [h1]; simp)] at h;split at h
 · rename_i h2; exact absurd h h2
 rename_i h2; simpa using h2
theorem vis_con (f : Fl) (p : Po) (h : askC f p = 0) (hs : smQ p) (hf : smF f) (d : Nat) : Con Tryz.prog 41 false [aF f, aPo p] (.tup [lBs (visL f p), li 0]) none d := by
 have ci := inR_con f p hs hf;have hg := ask_gd h;have hvl := hf.hv;rw [(ask_two h).1, hg.hin] at ci;have cle := fun v => le_con p hg.hp hs (levV p v) p.observer (lev_ok hg.hp v) hg.ho;have hget : ∀ (k : Nat) (v : Vr), f.vars[k]? = some v → (f.vars.map (levV p))[k]? = some (levV p v) := fun k v hk => by rw [List.getElem?_map, hk]; rfl
 have hvs : ∀ (k : Nat) (v : Vr), f.vars[k]? = some v → (visL f p).take (k + 1) = (visL f p).take k ++ [decide (v.kind ≠ 0) && p.M (levV p v).toNat p.observer.toNat] := fun k v hk => by
  unfold visL;rw [List.take_add_one, List.getElem?_map, hk];rfl
 have hvlen : (visL f p).length = f.vars.length := by simp [visL]
 have hll : (f.vars.map (levV p)).length = f.vars.length := by simp
 obtain ⟨LV, hLV⟩ : ∃ x, f.vars.map (levV p) = x := ⟨_, rfl⟩;obtain ⟨VS, hVS⟩ : ∃ x, visL f p = x := ⟨_, rfl⟩;rw [hLV] at ci hget hll;rw [hVS] at hvs hvlen ⊢;clear h hs hf hg hLV hVS;obtain ⟨vars, hats, body⟩ := f;obtain ⟨P, hP⟩ : ∃ q, p = q := ⟨_, rfl⟩;rw [hP] at hvs hget;obtain ⟨M, hM⟩ : ∃ x, p.M = x := ⟨_, rfl⟩;have hM' : P.M = M := by rw [← hP, hM]
 rw [hM'] at hvs;simp only [hM] at cle;have hob : P.observer = p.observer := by rw [hP]
 rw [hob] at hvs;have hlev : ∀ v, levV p v = levV P v := fun v => by rw [hP]
 simp only [hlev] at cle;clear hM hM' hob hlev hP;obtain ⟨ls, os, is, hts, ob, tm⟩ := p;simp only at hvl hget hvs cle hvlen hll;refine con_of_HTA Tryz.func41 ?_;simp only [Tryz.f41];simp only [aF, Fl.enc, aPo, Po.enc, List.map_cons, List.map_nil] at ci cle ⊢;refine HT_sA ?_;refine HT_scA [⟨false, .tup [lI LV, li 0], none⟩] ?_ ?_
 · first | exact ci _ | exact trivial | simpa [*] using ci _
 refine HT_seq <| HT_seq <| HT_runA ?_;refine (HT_cs rfl (fun h3 => ?_) fun h3 => ?_)
 · exact absurd h3 (by simp)
 (try simp only[BN]at h3);refine HT_sA ?_;refine HT_seq <| HT_seq <| HT_runA ?_;refine HT_block <| (HT_loopU [2, 3, 6] (fun (x : Nat) => [(8, .v (.one (.own 900001))), (9, .v (li x))]) (fun x => [(2, .box [.c (.sl 5 (encVs vars)), .c (.sl 6 (encHs hats)), .c (.sl 10 (encSs body))]), (3, .box [.c (.sl 1 (encNs ls)), .c (.sl 2 (encPr os)), .c (.sl 2 (encLs is)), .c (.sl 2 (encLs hts)), .c (iC ob), .c (bC tm)]), (900001, .row 4 1 (encBs (VS.take x)))]) (fun x => x ≤ vars.length) (fun x => vars.length - x) (0 : Nat) (Nat.zero_le _) ?_ ?_)
 · exact le_mkA (fun n => if n = 900001 then 19 else n) []
 rintro q hq;simp only [upS, keepS, insS]
 try simp only [keepS, KN, Nat.reduceBEq, if_true, if_false, ins, Nat.reduceLT]
 refine HT_seq <| HT_seq <| HT_runA ?_;refine (HT_cond rfl (fun h10 => HT_skip ?_) (fun h10 => ?_))
 · (try simp only[BN]at h10);have hqk : q < vars.length := by omega
   obtain ⟨w, hz, hzd⟩ := at_lt hqk;have hwq := wrap1 hqk (by omega);have hq1 : q + 1 ≤ vars.length := hqk;have hlv : LV[q]? = some (levV P w) := hget q w hz;have cl := cle w;have ck := isIn_con w
   have hsn : encBs (VS.take (q + 1)) = encBs (VS.take q) ++ [[bC (decide (w.kind ≠ 0) && M (levV P w).toNat ob.toNat)]] := by
    rw [hvs q w hz];simp [encBs]
   obtain ⟨O, hO⟩ : ∃ x, VS.take q = x := ⟨_, rfl⟩;have hOl : O.length = q := by rw [← hO, List.length_take]; omega
   have hroom : room (q + 1) 1 := room_of (by omega) (by omega);rw [hO] at hsn ⊢;obtain ⟨LV0, hLV0⟩ : ∃ x, levV P w = x := ⟨_, rfl⟩;rw [hLV0] at cl hsn hlv;obtain ⟨bb, hbb⟩ : ∃ x, M LV0.toNat ob.toNat = x := ⟨_, rfl⟩;rw [hbb] at cl hsn;obtain ⟨KD, hKD⟩ : ∃ x, decide (w.kind ≠ 0) = x := ⟨_, rfl⟩;rw [hKD] at ck hsn;obtain ⟨vn, vk, vlo, vhi, vin⟩ := w;clear hzd h10 hqk hLV0 hbb hKD hO hget hvs cle;rcases Bool.eq_false_or_eq_true KD with hkd | hkd
   · subst hkd;rw [Bool.true_and] at hsn;refine HT_seq <| HT_block <| (HT_drunc [⟨true, .v (lb true), none⟩, ⟨true, .v (lb bb), none⟩] (by kernel_rfl) (by kernel_rfl) (by rfl) (by simp [*]; first | exact ⟨rfl, Iff.rfl⟩ | exact ⟨rfl, trivial⟩ | rfl) ?_ ?_)
     · first | exact ⟨ck _, cl _⟩ | exact trivial | (repeat' first | exact trivial | exact ck _ | exact cl _ | apply And.intro)
     refine HT_runA ?_;exact ⟨q + 1, hq1, by omega, le_mkA (fun n => if n = 900001 then 44 else n) []⟩
   subst hkd;rw [Bool.false_and] at hsn;refine HT_seq <| HT_block <| (HT_druncS [some ⟨true, .v (lb false), none⟩, none] (by kernel_rfl) (by kernel_rfl) (by rfl) (by simp [*]; first | exact ⟨rfl, Iff.rfl⟩ | exact ⟨rfl, trivial⟩ | rfl) ?_ ?_)
   · first | exact ck _ | exact ⟨ck _, trivial⟩ | simpa using ck _
   refine HT_runA ?_;exact ⟨q + 1, hq1, by omega, le_mkA (fun n => if n = 900001 then 44 else n) []⟩
 (try simp only[BN]at h10);have hkl : q = vars.length := by omega
 subst hkl;rw [List.take_of_length_le (by omega)];refine (HT_exit ?_);refine HT_sA ?_;exact HT_ret ⟨.inr rfl, _, le_frz 900001 rfl, ⟨⟨_, by simp; rfl, by simp [resR]⟩, by simp, fun h => by cases h⟩⟩
theorem rls_con (f : Fl) (p : Po) (h : askC f p = 0) (hs : smQ p) (hf : smF f) (d : Nat) : Con Tryz.prog 42 false [aF f, aPo p] (.tup [lBs (rlsL f p), li 0]) none d := by
 have ci := haR_con f p hs hf;have hg := ask_gd h;have hvl := hf.hh;rw [(ask_two h).2] at ci;have cle := fun l (hl : okI p.n l) => le_con p hg.hp hs l p.observer hl hg.ho;have hok : ∀ (k : Nat) (l : Int), (phtF f p).1[k]? = some l → l = -1 ∨ okI p.n l := fun k l hk => hv_okH hg l (List.mem_of_getElem? hk)
 have hvs : ∀ (k : Nat) (l : Int), (phtF f p).1[k]? = some l → (rlsL f p).take (k + 1) = (rlsL f p).take k ++ [relH p l] := fun k l hk => by
  unfold rlsL;rw [List.take_add_one, List.getElem?_map, hk];rfl
 have hvlen : (rlsL f p).length = (phtF f p).1.length := by simp [rlsL]
 have hll : (phtF f p).1.length ≤ 1000000 := by rw [hg.hhl]; exact hvl
 obtain ⟨LV, hLV⟩ : ∃ x, (phtF f p).1 = x := ⟨_, rfl⟩;obtain ⟨VS, hVS⟩ : ∃ x, rlsL f p = x := ⟨_, rfl⟩;rw [hLV] at ci hok hll hvs hvlen;rw [hVS] at hvs hvlen ⊢;have hre : ∀ l, relH p l = (decide (0 ≤ l) && p.M l.toNat p.observer.toNat) := fun _ => rfl;simp only [hre] at hvs;clear h hs hf hg hLV hVS hre;obtain ⟨vars, hats, body⟩ := f;obtain ⟨M, hM⟩ : ∃ x, p.M = x := ⟨_, rfl⟩;obtain ⟨n, hn⟩ : ∃ x, p.n = x := ⟨_, rfl⟩;rw [hM] at hvs;simp only [hM, hn] at cle hok;clear hM hn;obtain ⟨ls, os, is, hts, ob, tm⟩ := p;simp only at hvl hvs cle hvlen hll;refine con_of_HTA Tryz.func42 ?_;simp only [Tryz.f42];simp only [aF, Fl.enc, aPo, Po.enc, List.map_cons, List.map_nil] at ci cle ⊢;refine HT_sA ?_;refine HT_scA [⟨false, .tup [lI LV, li 0], none⟩] ?_ ?_
 · first | exact ci _ | exact trivial | simpa [*] using ci _
 refine HT_seq <| HT_seq <| HT_runA ?_;refine (HT_cs rfl (fun h3 => ?_) fun h3 => ?_)
 · exact absurd h3 (by simp)
 (try simp only[BN]at h3);refine HT_sA ?_;refine HT_seq <| HT_seq <| HT_runA ?_;refine HT_block <| (HT_loopU [3, 6] (fun (x : Nat) => [(8, .v (.one (.own 900001))), (9, .v (li x))]) (fun x => [(2, .box [.c (.sl 5 (encVs vars)), .c (.sl 6 (encHs hats)), .c (.sl 10 (encSs body))]), (3, .box [.c (.sl 1 (encNs ls)), .c (.sl 2 (encPr os)), .c (.sl 2 (encLs is)), .c (.sl 2 (encLs hts)), .c (iC ob), .c (bC tm)]), (900001, .row 4 1 (encBs (VS.take x)))]) (fun x => x ≤ LV.length) (fun x => LV.length - x) (0 : Nat) (Nat.zero_le _) ?_ ?_)
 · exact le_mkA (fun n => if n = 900001 then 19 else n) []
 rintro q hq;simp only [upS, keepS, insS]
 try simp only [keepS, KN, Nat.reduceBEq, if_true, if_false, ins, Nat.reduceLT]
 refine HT_seq <| HT_seq <| HT_runA ?_;refine (HT_cond rfl (fun h10 => HT_skip ?_) (fun h10 => ?_))
 · (try simp only[BN]at h10);have hqk : q < LV.length := by omega
   obtain ⟨w, hz, hzd⟩ := at_lt hqk;have hwq := wrap1 hqk (by omega);have hq1 : q + 1 ≤ LV.length := hqk;have hok := hok q w hz;have cl := cle w
   have hsn : encBs (VS.take (q + 1)) = encBs (VS.take q) ++ [[bC (decide (0 ≤ w) && M w.toNat ob.toNat)]] := by
    rw [hvs q w hz];simp [encBs]
   obtain ⟨O, hO⟩ : ∃ x, VS.take q = x := ⟨_, rfl⟩;have hOl : O.length = q := by rw [← hO, List.length_take]; omega
   have hroom : room (q + 1) 1 := room_of (by omega) (by omega);rw [hO] at hsn ⊢;obtain ⟨bb, hbb⟩ : ∃ x, M w.toNat ob.toNat = x := ⟨_, rfl⟩;rw [hbb] at cl hsn;clear hzd h10 hqk hbb hO hvs cle;by_cases hw0 : 0 ≤ w
   · have cl := cl (hok.resolve_left (by omega));rw [decide_eq_true hw0, Bool.true_and] at hsn;refine HT_seq <| HT_block <| (HT_drunc [⟨true, .v (lb bb), none⟩] (by kernel_rfl) (by kernel_rfl) (by rfl) (by simp [*]; first | exact ⟨rfl, Iff.rfl⟩ | exact ⟨rfl, trivial⟩ | rfl) ?_ ?_)
     · first | exact cl _ | exact trivial | simpa [*] using cl _
     refine HT_runA ?_;exact ⟨q + 1, hq1, by omega, le_mkA (fun n => if n = 900001 then 43 else n) []⟩
   have hw1 : w < 0 := by omega
   rw [decide_eq_false hw0, Bool.false_and] at hsn;clear cl;refine HT_seq <| HT_block <| (HT_druncS [none] (by kernel_rfl) (by kernel_rfl) (by rfl) (by simp [*]; first | exact ⟨rfl, Iff.rfl⟩ | exact ⟨rfl, trivial⟩ | rfl) ?_ ?_)
   · trivial
   refine HT_runA ?_;exact ⟨q + 1, hq1, by omega, le_mkA (fun n => if n = 900001 then 43 else n) []⟩
 (try simp only[BN]at h10);have hkl : q = LV.length := by omega
 subst hkl;rw [List.take_of_length_le (by omega)];refine (HT_exit ?_);refine HT_sA ?_;exact HT_ret ⟨.inr rfl, _, le_frz 900001 rfl, ⟨⟨_, by simp; rfl, by simp [resR]⟩, by simp, fun h => by cases h⟩⟩
end Go.Proofs.YtfjidddhehckoaaGreat

namespace Go.Proofs.YtfjidddhehckoaaGreat
open Go Go.Hl
def difB : List Bool → List Int → List Int → Bool
 | v :: V, x :: a, y :: b => (v && decide (x ≠ y)) || difB V a b
 | _, _, _ => false
theorem dif_step {V : List Bool} {a b : List Int} {k : Nat} {v : Bool} {x y : Int} (hv : V[k]? = some v) (hx : a[k]? = some x) (hy : b[k]? = some y) :
  difB (V.drop k) (a.drop k) (b.drop k) = ((v && decide (x ≠ y)) || difB (V.drop (k + 1)) (a.drop (k + 1)) (b.drop (k + 1))) := by
 obtain ⟨h1, e1⟩ := List.getElem?_eq_some_iff.1 hv;obtain ⟨h2, e2⟩ := List.getElem?_eq_some_iff.1 hx;obtain ⟨h3, e3⟩ := List.getElem?_eq_some_iff.1 hy;rw [List.drop_eq_getElem_cons h1, List.drop_eq_getElem_cons h2, List.drop_eq_getElem_cons h3, e1, e2, e3];rfl
theorem dif_out : ∀ {V : List Bool} {a b : List Int}, difB V a b = false → a.length = V.length → b.length = V.length → ∀ k : Nat, V[k]? = some true → a[k]? = b[k]?
 | [], a, b, _, ha, hb, k, hk => by simp at hk
 | v :: V, [], b, _, ha, hb, k, hk => by simp at ha
 | v :: V, x :: a, [], _, ha, hb, k, hk => by simp at hb
 | v :: V, x :: a, y :: b, h, ha, hb, k, hk => by
   simp only [difB, Bool.or_eq_false_iff, Bool.and_eq_false_iff] at h;cases k with
   | zero =>
     simp only [List.getElem?_cons_zero, Option.some.injEq] at hk ⊢;subst hk;simpa using h.1
   | succ k =>
     simp only [List.getElem?_cons_succ] at hk ⊢;exact dif_out h.2 (by simpa using ha) (by simpa using hb) k hk
abbrev aI2 (i j : Inp) : TV := .agg [.c (.sl 1 (encIs i.s)), .c (.sl 1 (encIs i.p)), .c (.sl 1 (encIs i.r)), .c (.sl 1 (encIs j.s)), .c (.sl 1 (encIs j.p)), .c (.sl 1 (encIs j.r))]
def agrB (f : Fl) (p : Po) (a b : List Int) : Bool := !difB (visL f p) a b && !difB (rlsL f p) (hvals a f.hats) (hvals b f.hats)
theorem agree_con (f : Fl) (p : Po) (i j : Inp) (h : askC f p = 0) (hs : smQ p) (hf : smF f) (hi : (stL i f.vars 0 0 0 [] true).2 = 0) (hj : (stL j f.vars 0 0 0 [] true).2 = 0) (d : Nat) :
  Con Tryz.prog 14 true [aF f, aPo p, aI2 i j] (.v (lb (agrB f p (stL i f.vars 0 0 0 [] true).1 (stL j f.vars 0 0 0 [] true).1))) none d := by
 have hg := ask_gd h;have hvl := hf.hv;have hhl := hf.hh;have c1 := start_con f.vars i hvl;have c2 := start_con f.vars j hvl;have l1 := stL_len i f.vars 0 0 0 [] true hi;have l2 := stL_len j f.vars 0 0 0 [] true hj;rw [hi] at c1;rw [hj] at c2;simp only [List.length_nil, Nat.zero_add] at l1 l2;have cv := vis_con f p h hs hf;have cr := rls_con f p h hs hf;have lv : (visL f p).length = f.vars.length := by simp [visL]
 have lr : (rlsL f p).length = f.hats.length := by simp [rlsL, hg.hhl]
 obtain ⟨a, hA⟩ : ∃ x, (stL i f.vars 0 0 0 [] true).1 = x := ⟨_, rfl⟩;obtain ⟨b, hB⟩ : ∃ x, (stL j f.vars 0 0 0 [] true).1 = x := ⟨_, rfl⟩;rw [hA] at c1 l1 ⊢;rw [hB] at c2 l2 ⊢;have hwf := (code_wf hf.hb hg.hc).2.2;have h1 := hvals_con f a l1 hhl hwf;have h2 := hvals_con f b l2 hhl hwf;have m1 : (hvals a f.hats).length = f.hats.length := by simp [hvals]
 have m2 : (hvals b f.hats).length = f.hats.length := by simp [hvals]
 unfold agrB;obtain ⟨HA, hHA⟩ : ∃ x, hvals a f.hats = x := ⟨_, rfl⟩;obtain ⟨HB, hHB⟩ : ∃ x, hvals b f.hats = x := ⟨_, rfl⟩;rw [hHA] at h1 m1 ⊢;rw [hHB] at h2 m2 ⊢;obtain ⟨VS, hVS⟩ : ∃ x, visL f p = x := ⟨_, rfl⟩;obtain ⟨RL, hRL⟩ : ∃ x, rlsL f p = x := ⟨_, rfl⟩;rw [hVS] at cv lv ⊢;rw [hRL] at cr lr ⊢;obtain ⟨res, hres⟩ : ∃ x, (!difB VS a b && !difB RL HA HB) = x := ⟨_, rfl⟩;rw [hres];clear h hs hf hg hi hj hA hB hwf hHA hHB hVS hRL;obtain ⟨vars, hats, body⟩ := f;obtain ⟨is, ip, ir⟩ := i;obtain ⟨js, jp, jr⟩ := j;obtain ⟨ls, os, ils, hts, ob, tm⟩ := p;simp only at hvl hhl l1 l2 lv lr m1 m2;refine con_of_HTA Tryz.func14 ?_;simp only [Tryz.f14];simp only [aF, Fl.enc, aPo, Po.enc, aI, aI2, List.map_cons, List.map_nil] at c1 c2 cv cr h1 h2 ⊢;refine HT_sA ?_;refine HT_scA [⟨false, .tup [lI a, li 0], none⟩] ?_ ?_
 · first | exact c1 _ | exact trivial | simpa [*] using c1 _
 refine HT_scA [⟨false, .tup [lI b, li 0], none⟩] ?_ ?_
 · first | exact c2 _ | exact trivial | simpa [*] using c2 _
 refine HT_scA [⟨false, .tup [lBs VS, li 0], none⟩] ?_ ?_
 · first | exact cv _ | exact trivial | simpa [*] using cv _
 refine HT_seq <| HT_seq <| HT_runA ?_;refine HT_block <| (HT_loopU [3, 4, 7, 9, 11, 43] (fun (x : Nat) => [(44, .v (li x))]) (fun x => [(3, .box [.c (.sl 5 (encVs vars)), .c (.sl 6 (encHs hats)), .c (.sl 10 (encSs body))]), (4, .box [.c (.sl 1 (encNs ls)), .c (.sl 2 (encPr os)), .c (.sl 2 (encLs ils)), .c (.sl 2 (encLs hts)), .c (iC ob), .c (bC tm)])]) (fun x => x ≤ vars.length ∧ (!difB (VS.drop x) (a.drop x) (b.drop x) && !difB RL HA HB) = res) (fun x => vars.length - x) (0 : Nat) ⟨Nat.zero_le _, hres⟩ ?_ ?_)
 · exact le_mkA (fun n => n) []
 rintro k ⟨hk, hJ⟩;simp only [upS, keepS, insS]
 try simp only [keepS, KN, Nat.reduceBEq, if_true, if_false, ins, Nat.reduceLT]
 clear hres;refine HT_sA ?_;refine HT_seq <| (HT_cond rfl (fun h7 => HT_skip ?_) (fun h7 => ?_))
 · (try simp only[BN]at h7);have hlt : k < vars.length := by omega
   have hw1 := wrap1 hlt (by omega);have hk1 : k + 1 ≤ vars.length := hlt;obtain ⟨v, hv, _⟩ := at_lt (show k < VS.length by omega);obtain ⟨x, hx, _⟩ := at_lt (show k < a.length by omega);obtain ⟨y, hy, _⟩ := at_lt (show k < b.length by omega);have hv' := get_encBs hv;rw [dif_step hv hx hy] at hJ;obtain ⟨_, ev⟩ := List.getElem?_eq_some_iff.1 hv;obtain ⟨_, ex⟩ := List.getElem?_eq_some_iff.1 hx;obtain ⟨_, ey⟩ := List.getElem?_eq_some_iff.1 hy;clear h7;refine HT_seq <| HT_block <| HT_seq <| HT_runA ?_;rcases Bool.eq_false_or_eq_true v with hvv | hvv
   · subst hvv;refine HT_seq <| (HT_drun (by kernel_rfl) (by kernel_rfl) (by rfl) (by simp [*]; rfl) ?_);refine (HT_cs rfl (fun h10 => ?_) fun h10 => ?_)
     · (try simp only[BN]at h10);have hne : x ≠ y := by simpa using h10
       rw [decide_eq_true hne] at hJ;simp only [Bool.and_self, Bool.true_or, Bool.not_true, Bool.false_and] at hJ;subst hJ;refine HT_sA ?_;exact HT_rA
     (try simp only[BN]at h10);have hne : x = y := by simpa using h10
     rw [decide_eq_false (not_not_intro hne)] at hJ;simp only [Bool.and_false, Bool.false_or] at hJ;refine HT_runA ?_;exact ⟨k + 1, ⟨hk1, hJ⟩, by omega, le_mkA (fun n => n) []⟩
   subst hvv;refine HT_seq <| (HT_drun (by kernel_rfl) (by kernel_rfl) (by rfl) (by simp [*]; rfl) ?_);refine (HT_cs rfl (fun h10 => ?_) fun h10 => ?_)
   · exact absurd h10 (by simp)
   (try simp only[BN]at h10);simp only [Bool.false_and, Bool.false_or] at hJ;refine HT_runA ?_;exact ⟨k + 1, ⟨hk1, hJ⟩, by omega, le_mkA (fun n => n) []⟩
 (try simp only[BN]at h7);have hkl : k = vars.length := by omega
 rw [hkl, List.drop_of_length_le (by omega), List.drop_of_length_le (show a.length ≤ _ by omega), List.drop_of_length_le (show b.length ≤ _ by omega)] at hJ;simp only [difB, Bool.not_false, Bool.true_and] at hJ;clear hkl h7 hk;refine (HT_exit ?_);refine HT_scA [⟨false, .tup [lBs RL, li 0], none⟩] ?_ ?_
 · first | exact cr _ | exact trivial | simpa [*] using cr _
 refine HT_seq <| (HT_drunc [⟨false, .v (lI HA), none⟩, ⟨false, .v (lI HB), none⟩] (by kernel_rfl) (by kernel_rfl) (by rfl) (by simp [*]; first | exact ⟨rfl, Iff.rfl⟩ | exact ⟨rfl, trivial⟩ | rfl) ?_ ?_)
 · first | exact ⟨h1 _, h2 _⟩ | exact trivial | (repeat' first | exact trivial | exact h1 _ | exact h2 _ | apply And.intro)
 refine HT_seq <| HT_seq <| HT_runA ?_;refine HT_block <| (HT_loopU [14, 16, 17, 77] (fun (x : Nat) => [(78, .v (li x))]) (fun x => []) (fun x => x ≤ hats.length ∧ (!difB (RL.drop x) (HA.drop x) (HB.drop x)) = res) (fun x => hats.length - x) (0 : Nat) ⟨Nat.zero_le _, hJ⟩ ?_ ?_)
 · exact le_mkA (fun n => n) []
 rintro k2 ⟨hk2, hJ2⟩;simp only [upS, keepS, insS]
 try simp only [keepS, KN, Nat.reduceBEq, if_true, if_false, ins, Nat.reduceLT]
 clear hJ;refine HT_sA ?_;refine HT_seq <| (HT_cond rfl (fun h20 => HT_skip ?_) (fun h20 => ?_))
 · (try simp only[BN]at h20);have hlt : k2 < hats.length := by omega
   have hw1 := wrap1 hlt (by omega);have hk1 : k2 + 1 ≤ hats.length := hlt;obtain ⟨v, hv, _⟩ := at_lt (show k2 < RL.length by omega);obtain ⟨x, hx, _⟩ := at_lt (show k2 < HA.length by omega);obtain ⟨y, hy, _⟩ := at_lt (show k2 < HB.length by omega);have hv' := get_encBs hv;rw [dif_step hv hx hy] at hJ2;obtain ⟨_, ev⟩ := List.getElem?_eq_some_iff.1 hv;obtain ⟨_, ex⟩ := List.getElem?_eq_some_iff.1 hx;obtain ⟨_, ey⟩ := List.getElem?_eq_some_iff.1 hy;clear h20;refine HT_seq <| HT_block <| HT_seq <| HT_runA ?_;rcases Bool.eq_false_or_eq_true v with hvv | hvv
   · subst hvv;refine HT_seq <| (HT_drun (by kernel_rfl) (by kernel_rfl) (by rfl) (by simp [*]; rfl) ?_);refine (HT_cs rfl (fun h23 => ?_) fun h23 => ?_)
     · (try simp only[BN]at h23);have hne : x ≠ y := by simpa using h23
       rw [decide_eq_true hne] at hJ2;simp only [Bool.and_self, Bool.true_or, Bool.not_true] at hJ2;subst hJ2;refine HT_sA ?_;exact HT_rA
     (try simp only[BN]at h23);have hne : x = y := by simpa using h23
     rw [decide_eq_false (not_not_intro hne)] at hJ2;simp only [Bool.and_false, Bool.false_or] at hJ2;refine HT_runA ?_;exact ⟨k2 + 1, ⟨hk1, hJ2⟩, by omega, le_mkA (fun n => n) []⟩
   subst hvv;refine HT_seq <| (HT_drun (by kernel_rfl) (by kernel_rfl) (by rfl) (by simp [*]; rfl) ?_);refine (HT_cs rfl (fun h23 => ?_) fun h23 => ?_)
   · exact absurd h23 (by simp)
   (try simp only[BN]at h23);simp only [Bool.false_and, Bool.false_or] at hJ2;refine HT_runA ?_;exact ⟨k2 + 1, ⟨hk1, hJ2⟩, by omega, le_mkA (fun n => n) []⟩
 (try simp only[BN]at h20);have hkl : k2 = hats.length := by omega
 rw [hkl, List.drop_of_length_le (by omega), List.drop_of_length_le (show HA.length ≤ _ by omega), List.drop_of_length_le (show HB.length ≤ _ by omega)] at hJ2;simp only [difB, Bool.not_false] at hJ2;subst hJ2;refine (HT_exit ?_);refine HT_sA ?_;exact HT_rA
end Go.Proofs.YtfjidddhehckoaaGreat

namespace Go.Proofs.YtfjidddhehckoaaGreat
open Go Go.Hl
theorem play_eq {f : Fl} {i : Inp} (hc : codeC f = 0) : playF f i = if (stL i f.vars 0 0 0 [] true).2 = 0 then (stepsF f.vars (hvals (stL i f.vars 0 0 0 [] true).1 f.hats) f.body ⟨(stL i f.vars 0 0 0 [] true).1, [], 0⟩, 0) else (st0, (stL i f.vars 0 0 0 [] true).2) := by
 unfold playF;rw [if_pos hc]
theorem play_code {f : Fl} {i : Inp} (hc : codeC f = 0) : (playF f i).2 = (stL i f.vars 0 0 0 [] true).2 := by
 rw [play_eq hc];split
 · rename_i h; rw [h]
 rfl
theorem play_sta {f : Fl} {i : Inp} (hc : codeC f = 0) (h : (playF f i).2 = 0) : (stL i f.vars 0 0 0 [] true).2 = 0 ∧ (playF f i).1 = stepsF f.vars (hvals (stL i f.vars 0 0 0 [] true).1 f.hats) f.body ⟨(stL i f.vars 0 0 0 [] true).1, [], 0⟩ := by
 have h1 : (stL i f.vars 0 0 0 [] true).2 = 0 := by rw [← play_code hc, h]
 refine ⟨h1, ?_⟩;rw [play_eq hc, if_pos h1]
theorem secure_play {f : Fl} {p : Po} {i j : Inp} (h : askC f p = 0) (hb : bndL f.body = true) (hi : (playF f i).2 = 0) (hj : (playF f j).2 = 0)
  (hag : agrB f p (stL i f.vars 0 0 0 [] true).1 (stL j f.vars 0 0 0 [] true).1 = true) (hacc : accB f p = true) :
  (playF f i).1.outs = (playF f j).1.outs ∧ (p.timed = true → (playF f i).1.time = (playF f j).1.time) := by
 have hg := ask_gd h;obtain ⟨hi0, ei⟩ := play_sta hg.hc hi;obtain ⟨hj0, ej⟩ := play_sta hg.hc hj;rw [ei, ej];have l1 := stL_len i f.vars 0 0 0 [] true hi0;have l2 := stL_len j f.vars 0 0 0 [] true hj0;simp only [List.length_nil, Nat.zero_add] at l1 l2;obtain ⟨a, hA⟩ : ∃ x, (stL i f.vars 0 0 0 [] true).1 = x := ⟨_, rfl⟩;obtain ⟨b, hB⟩ : ∃ x, (stL j f.vars 0 0 0 [] true).1 = x := ⟨_, rfl⟩;rw [hA, hB] at hag ⊢;rw [hA] at l1;rw [hB] at l2;unfold agrB at hag;simp only [Bool.and_eq_true, Bool.not_eq_true'] at hag;refine secure_facts h hb (i0 := i) (i1 := j) (Prod.ext hA hi0) (Prod.ext hB hj0) (fun k v hv hk hM => ?_) (fun k hk h1 h2 => ?_) hacc
 · refine dif_out hag.1 (by simp [visL, l1]) (by simp [visL, l2]) k ?_;unfold visL;rw [List.getElem?_map, hv, Option.map_some, hM, decide_eq_true hk, Bool.true_and]
 refine dif_out hag.2 (by simp [rlsL, hg.hhl, hvals]) (by simp [rlsL, hg.hhl, hvals]) k ?_;have hlt : k < (phtF f p).1.length := by rw [hg.hhl]; exact hk
 unfold rlsL relH;rw [List.getElem?_map];rw [List.getElem?_eq_getElem hlt] at h1 h2 ⊢;simp only [Option.getD_some] at h1 h2;rw [Option.map_some, h2, decide_eq_true (by omega), Bool.true_and]
theorem secure_law (f : Fl) (p : Po) (i j : Inp) (d : Nat) : Con Tryz.prog 3 true [aF f, aPo p, aI2 i j] (.v (lb true)) none d := by
 have ck := known_con;have cf := fit_con f p;obtain ⟨FP, hFP⟩ : ∃ x, fitP f p = x := ⟨_, rfl⟩;have hsm : FP = true → Sm f p := fun h => fit_in (hFP.trans h);rw [hFP] at cf;have ca := fun h => asked_con f p (hsm h).sp (hsm h).sf;have cc1 := fun (h : FP = true) => chkS_con (hsm h);have hsec := fun (h : askC f p = 0) (hf : FP = true) => secure_play (i := i) (j := j) h (hsm hf).sf.hb;have hst := fun (h : askC f p = 0) => play_code (i := i) (ask_gd h).hc;have hst2 := fun (h : askC f p = 0) => play_code (i := j) (ask_gd h).hc;have hwf := fun (hf : FP = true) (h : codeC f = 0) => code_wf (hsm hf).sf.hb h;have cp1 := fun (hf : FP = true) => play_con f i (hsm hf).sf.hv (hsm hf).sf.hh (Nat.le_trans (hsm hf).sf.hn (by omega)) (hsm hf).sf.hb (hwf hf);have cp2 := fun (hf : FP = true) => play_con f j (hsm hf).sf.hv (hsm hf).sf.hh (Nat.le_trans (hsm hf).sf.hn (by omega)) (hsm hf).sf.hb (hwf hf);have cag := fun (h : askC f p = 0) (hf : FP = true) => agree_con f p i j h (hsm hf).sp (hsm hf).sf
 have hol : askC f p = 0 → FP = true → (playF f i).2 = 0 → (playF f i).1.outs.length ≤ 2000000 := fun h hf h0 => by
  have hc := (ask_gd h).hc;rw [(play_sta hc h0).2];have h1 := (steps_len f.vars (hvals (stL i f.vars 0 0 0 [] true).1 f.hats) f.body ⟨(stL i f.vars 0 0 0 [] true).1, [], 0⟩).2;have h2 := (hwf hf hc).2.1;simp only [List.length_nil, Nat.zero_add] at h1;omega
 obtain ⟨A, hA⟩ : ∃ x, askC f p = x := ⟨_, rfl⟩;rw [hA] at ca hsec hst hst2 cag hol;unfold chkR at cc1;obtain ⟨T1, hT1⟩ : ∃ x, tyE f p = x := ⟨_, rfl⟩;obtain ⟨B1, hB1⟩ : ∃ x, accB f p = x := ⟨_, rfl⟩;simp only [hT1, hB1, hA] at cc1;obtain ⟨F1, t1⟩ := T1;obtain ⟨time1, fa1, _, _, _, _⟩ := t1;simp only at cc1;obtain ⟨SA, hSA⟩ : ∃ x, (stL i f.vars 0 0 0 [] true).2 = x := ⟨_, rfl⟩;obtain ⟨SB, hSB⟩ : ∃ x, (stL j f.vars 0 0 0 [] true).2 = x := ⟨_, rfl⟩;obtain ⟨AG, hAG⟩ : ∃ x, agrB f p (stL i f.vars 0 0 0 [] true).1 (stL j f.vars 0 0 0 [] true).1 = x := ⟨_, rfl⟩;rw [hSA] at hst;rw [hSB] at hst2;simp only [hSA, hSB, hAG] at cag;simp only [hAG, hB1] at hsec;obtain ⟨PA, hPA⟩ : ∃ x, playF f i = x := ⟨_, rfl⟩;obtain ⟨PB, hPB⟩ : ∃ x, playF f j = x := ⟨_, rfl⟩;simp only [hPA] at cp1 hst hol hsec;simp only [hPB] at cp2 hst2 hsec;obtain ⟨⟨va, oa, ta⟩, CA⟩ := PA;obtain ⟨⟨vb, ob', tb⟩, CB⟩ := PB;simp only at cp1 hst hol hsec cp2 hst2;clear hA hFP hsm hwf hT1 hB1 hSA hSB hAG hPA hPB;obtain ⟨vars, hats, body⟩ := f;obtain ⟨ls, os, ils, hts, ob, tm⟩ := p;obtain ⟨is, ip, ir⟩ := i;obtain ⟨js, jp, jr⟩ := j;simp only at hsec;refine con_of_HTA Tryz.func3 ?_;simp only [Tryz.f3];simp only [aF, Fl.enc, aPo, Po.enc, aI, aI2, aSt, List.map_cons, List.map_nil] at cf ca cc1 cp1 cp2 cag ⊢;refine HT_sA ?_;refine HT_seq <| HT_seq <| (HT_runcA [⟨true, .v (lb true), none⟩] ?_ ?_)
 · first | exact ck _ | exact trivial | simpa [*] using ck _
 refine (HT_cs rfl (fun h2 => ?_) fun h2 => ?_)
 · exact absurd h2 (by simp)
 (try simp only[BN]at h2);rcases Bool.eq_false_or_eq_true FP with hfp | hfp
 · subst hfp;have ca := ca rfl;refine HT_seq <| HT_seq <| (HT_runcA [⟨true, .v (lb true), none⟩, ⟨true, .v (li A), none⟩] ?_ ?_)
   · first | exact ⟨cf _, ca _⟩ | exact trivial | (repeat' first | exact trivial | exact cf _ | exact ca _ | apply And.intro)
   refine (HT_cs rfl (fun h6 => ?_) fun h6 => ?_)
   · (try simp only[BN]at h6);refine HT_sA ?_;exact HT_rA
   (try simp only[BN]at h6);have ha0 : A = 0 := by simpa using h6
   subst ha0;have cc1 := cc1 rfl;have cp1 := cp1 rfl;have cp2 := cp2 rfl;have hst := hst rfl;have hst2 := hst2 rfl;subst hst hst2;have hsec := hsec rfl rfl;have cag := cag rfl rfl;have hol := hol rfl rfl;rw [if_pos rfl] at cc1;clear ca cf ck;refine HT_scA [⟨false, .tup [.agg [.c (bC B1), .c (.sl 1 (encIs fa1)), .c (iC time1), .c (.sl 1 (encIs F1))], li 0], none⟩] ?_ ?_
   · first | exact cc1 _ | exact trivial | simpa [*] using cc1 _
   refine HT_seq <| HT_seq <| HT_runA ?_;refine (HT_cs rfl (fun h11 => ?_) fun h11 => ?_)
   · exact absurd h11 (by simp)
   (try simp only[BN]at h11);refine HT_scA [⟨false, .tup [.agg [.c (.sl 1 (encIs va)), .c (.sl 1 (encIs oa)), .c (iC ta)], li CA], none⟩] ?_ ?_
   · first | exact cp1 _ | exact trivial | simpa [*] using cp1 _
   refine HT_scA [⟨false, .tup [.agg [.c (.sl 1 (encIs vb)), .c (.sl 1 (encIs ob')), .c (iC tb)], li CB], none⟩] ?_ ?_
   · first | exact cp2 _ | exact trivial | simpa [*] using cp2 _
   rcases Bool.eq_false_or_eq_true B1 with hb1 | hb1
   · by_cases hca : CA = 0
     · by_cases hcb : CB = 0
       · subst hb1;subst hca;subst hcb;have cag := cag rfl rfl;have hol := hol rfl;have hsec := fun h => hsec rfl rfl h rfl;clear cc1 cp1 cp2;refine HT_seq <| HT_seq <| (HT_runcA [⟨true, .v (lb AG), none⟩] ?_ ?_)
         · first | exact cag _ | exact trivial | simpa [*] using cag _
         refine (HT_cs rfl (fun h17 => ?_) fun h17 => ?_)
         · (try simp only[BN]at h17);refine HT_sA ?_;exact HT_rA
         (try simp only[BN]at h17);have hag : AG = true := by simpa using h17
         subst hag;obtain ⟨e1, e2⟩ := hsec rfl;subst e1;have he := eqSl_con oa oa (by omega) (by omega);rw [decide_eq_true rfl] at he;clear hsec cag;rcases Bool.eq_false_or_eq_true tm with htm | htm
         · subst htm;have e2 := e2 rfl;subst e2;refine HT_scA [⟨true, .v (lb true), none⟩] ?_ ?_
           · first | exact he _ | exact trivial | simpa [*] using he _
           exact HT_rA
         subst htm;refine HT_scA [⟨true, .v (lb true), none⟩] ?_ ?_
         · first | exact he _ | exact trivial | simpa [*] using he _
         exact HT_rA
       subst hb1;subst hca;clear cag;refine HT_seq <| HT_seq <| (HT_runcS [none] (by simp [*]; first | exact ⟨rfl, trivial⟩ | exact ⟨rfl, Iff.rfl⟩ | rfl) ?_ ?_)
       · trivial
       refine (HT_cs rfl (fun h17 => ?_) fun h17 => ?_)
       · (try simp only[BN]at h17);refine HT_sA ?_;exact HT_rA
       exact absurd h17 (by simp [hcb])
     subst hb1;clear cag;refine HT_seq <| HT_seq <| (HT_runcS [none] (by simp [*]; first | exact ⟨rfl, trivial⟩ | exact ⟨rfl, Iff.rfl⟩ | rfl) ?_ ?_)
     · trivial
     refine (HT_cs rfl (fun h17 => ?_) fun h17 => ?_)
     · (try simp only[BN]at h17);refine HT_sA ?_;exact HT_rA
     exact absurd h17 (by simp [hca])
   subst hb1;clear cag;refine HT_seq <| HT_seq <| (HT_runcS [none] (by simp [*]; first | exact ⟨rfl, trivial⟩ | exact ⟨rfl, Iff.rfl⟩ | rfl) ?_ ?_)
   · trivial
   refine (HT_cs rfl (fun h17 => ?_) fun h17 => ?_)
   · (try simp only[BN]at h17);refine HT_sA ?_;exact HT_rA
   exact absurd h17 (by simp)
 subst hfp;refine HT_seq <| HT_seq <| (HT_runcS [some ⟨true, .v (lb false), none⟩, none] (by simp [*]; first | exact ⟨rfl, Iff.rfl⟩ | exact ⟨rfl, trivial⟩ | rfl) ?_ ?_)
 · first | exact trivial | exact cf _ | simpa using cf _
 refine (HT_cs rfl (fun h6 => ?_) fun h6 => ?_)
 · (try simp only[BN]at h6);refine HT_sA ?_;exact HT_rA
 exact absurd h6 (by simp)
end Go.Proofs.YtfjidddhehckoaaGreat

namespace Go.Proofs.YtfjidddhehckoaaGreat
open Go Go.Hl Go.RowKit Go.ChangeShapes Go.Proofs.YtfjidddhehckoaaGreat
theorem tiled : Tiled Tryz.prog := tiled_mk (by kernel_rfl)
theorem own : ownKnob Tryz.prog.godebug = none := by kernel_rfl
theorem laidOut : laidOutB Tryz.prog = true := by kernel_rfl
section
variable {P : Program} {k : Nat} {t : TypeId} {ds : List CD}
theorem shape_slK {α : Type} {enc : α → List CD} {e : TypeId} {c : Nat} (hu : P.underlying t = some (.slice e)) (hc : P.cellsOf e = c) (he : ∀ k', k' < k → ∀ r, Shape P k' e r → ∃ x, r = enc x) (h : Shape P k t ds) : ∃ xs : List α, ds = [.sl c (xs.map enc)] := by
 cases k with
 | zero => exact h.elim
 | succ k =>
   unfold Shape at h;rw [hu] at h;obtain ⟨rows, h1, _, h3⟩ := h;obtain ⟨xs, hxs⟩ := rows_enc (enc := enc) fun r hr => he k (Nat.lt_succ_self k) r (h3 r hr).2;subst hxs;exact ⟨xs, by rw [h1, hc]⟩
theorem shape_structK {fs : Array Field} {l : List (Nat × Nat × TypeId)} {c : Nat} (hu : P.underlying t = some (.struct fs)) (hl : segsF P fs = l) (hc : P.cellsOf t = c) (h : Shape P k t ds) : ds.length = c ∧ ∃ k', k' < k ∧ ∀ x ∈ l, Shape P k' x.2.2 ((ds.drop x.1).take x.2.1) := by
 cases k with
 | zero => exact h.elim
 | succ k =>
   unfold Shape at h;rw [hu] at h;have h' : ds.length = P.cellsOf t ∧ ∀ x ∈ segsF P fs, Shape P k x.2.2 ((ds.drop x.1).take x.2.1) := h;exact ⟨hc ▸ h'.1, k, Nat.lt_succ_self k, fun x hx => h'.2 x (hl ▸ hx)⟩
end
theorem dec_i {k : Nat} {t : TypeId} {ds : List CD} (hu : Tryz.prog.underlying t = some (.int .i64)) (h : Shape Tryz.prog k t ds) : ∃ n : Int, ds = [iC n] := by
 obtain ⟨n, h1, _⟩ := shape_int hu h;exact ⟨n, h1⟩
theorem dec_s {k : Nat} {ds : List CD} (h : Shape Tryz.prog k 9 ds) : ∃ s : ByteArray, ds = [sC s] := by
 obtain ⟨s, h1, _⟩ := shape_str Tryz.underlying9 h;exact ⟨s, h1⟩
theorem dec_I {k : Nat} {ds : List CD} (h : Shape Tryz.prog k 32 ds) : ∃ l : List Int, ds = [.sl 1 (encIs l)] :=
 shape_slK (enc := fun x => [iC x]) Tryz.underlying32 (by kernel_rfl : Tryz.prog.cellsOf 3 = 1) (fun _ _ _ hr => dec_i Tryz.underlying3 hr) h
theorem dec_T : ∀ (k : Nat) (ds : List CD), Shape Tryz.prog k 63 ds → ∃ t : Tm, ds = t.enc := by
 intro k
 induction k using Nat.strongRecOn with
 | ind k ih =>
   intro ds h;obtain ⟨hl, k1, hk1, hx⟩ := shape_structK (l := [(0, 1, 60), (1, 1, 3), (2, 1, 61)]) Tryz.underlying63 (by kernel_rfl) (by kernel_rfl : Tryz.prog.cellsOf 63 = 3) h
   match ds, hl with
   | [a, b, c], _ =>
     obtain ⟨n1, h1⟩ := dec_i Tryz.underlying60 (hx (0, 1, 60) (by simp));obtain ⟨n2, h2⟩ := dec_i Tryz.underlying3 (hx (1, 1, 3) (by simp));obtain ⟨ks, h3⟩ := shape_slK (enc := Tm.enc) Tryz.underlying61 (by kernel_rfl : Tryz.prog.cellsOf 63 = 3) (fun k' hk' r hr => ih k' (by omega) r hr) (hx (2, 1, 61) (by simp));simp only [List.drop, List.take, List.cons.injEq, and_true] at h1 h2 h3;subst h1 h2 h3;exact ⟨.mk n1 n2 ks, by simp only [Tm.enc, encTs_map]⟩
theorem dec_S : ∀ (k : Nat) (ds : List CD), Shape Tryz.prog k 65 ds → ∃ s : St, ds = s.enc := by
 intro k
 induction k using Nat.strongRecOn with
 | ind k ih =>
   intro ds h;obtain ⟨hl, k1, hk1, hx⟩ := shape_structK (l := [(0, 1, 59), (1, 1, 3), (2, 1, 3), (3, 1, 3), (4, 3, 63), (7, 1, 24), (8, 1, 24), (9, 1, 32)]) Tryz.underlying65 (by kernel_rfl) (by kernel_rfl : Tryz.prog.cellsOf 65 = 10) h
   match ds, hl with
   | [a0, a1, a2, a3, a4, a5, a6, a7, a8, a9], _ =>
     obtain ⟨n0, h0⟩ := dec_i Tryz.underlying59 (hx (0, 1, 59) (by simp));obtain ⟨n1, h1⟩ := dec_i Tryz.underlying3 (hx (1, 1, 3) (by simp));obtain ⟨n2, h2⟩ := dec_i Tryz.underlying3 (hx (2, 1, 3) (by simp));obtain ⟨n3, h3⟩ := dec_i Tryz.underlying3 (hx (3, 1, 3) (by simp));obtain ⟨t, h4⟩ := dec_T _ _ (hx (4, 3, 63) (by simp));obtain ⟨la, h7⟩ := shape_slK (enc := St.enc) Tryz.underlying24 (by kernel_rfl : Tryz.prog.cellsOf 65 = 10) (fun k' hk' r hr => ih k' (by omega) r hr) (hx (7, 1, 24) (by simp));obtain ⟨lb', h8⟩ := shape_slK (enc := St.enc) Tryz.underlying24 (by kernel_rfl : Tryz.prog.cellsOf 65 = 10) (fun k' hk' r hr => ih k' (by omega) r hr) (hx (8, 1, 24) (by simp));obtain ⟨lc, h9⟩ := dec_I (hx (9, 1, 32) (by simp));simp only [List.drop, List.take, List.cons.injEq, and_true] at h0 h1 h2 h3 h4 h7 h8 h9;subst h0 h1 h2 h3 h7 h8 h9;refine ⟨.mk n0 n1 n2 n3 t la lb' lc, ?_⟩;simp only [St.enc, encSs_map, ← h4, List.cons_append, List.nil_append]
theorem dec_V {k : Nat} {ds : List CD} (h : Shape Tryz.prog k 88 ds) : ∃ v : Vr, ds = v.enc := by
 obtain ⟨hl, k1, _, hx⟩ := shape_structK (l := [(0, 1, 9), (1, 1, 86), (2, 1, 3), (3, 1, 3), (4, 1, 3)]) Tryz.underlying88 (by kernel_rfl) (by kernel_rfl : Tryz.prog.cellsOf 88 = 5) h
 match ds, hl with
 | [a0, a1, a2, a3, a4], _ =>
   obtain ⟨n0, h0⟩ := dec_s (hx (0, 1, 9) (by simp));obtain ⟨n1, h1⟩ := dec_i Tryz.underlying86 (hx (1, 1, 86) (by simp));obtain ⟨n2, h2⟩ := dec_i Tryz.underlying3 (hx (2, 1, 3) (by simp));obtain ⟨n3, h3⟩ := dec_i Tryz.underlying3 (hx (3, 1, 3) (by simp));obtain ⟨n4, h4⟩ := dec_i Tryz.underlying3 (hx (4, 1, 3) (by simp));simp only [List.drop, List.take, List.cons.injEq, and_true] at h0 h1 h2 h3 h4;subst h0 h1 h2 h3 h4;exact ⟨⟨n0, n1, n2, n3, n4⟩, rfl⟩
theorem dec_H {k : Nat} {ds : List CD} (h : Shape Tryz.prog k 111 ds) : ∃ v : Ht, ds = v.enc := by
 obtain ⟨hl, k1, _, hx⟩ := shape_structK (l := [(0, 1, 9), (1, 1, 3), (2, 1, 3), (3, 3, 63)]) Tryz.underlying111 (by kernel_rfl) (by kernel_rfl : Tryz.prog.cellsOf 111 = 6) h
 match ds, hl with
 | [a0, a1, a2, a3, a4, a5], _ =>
   obtain ⟨n0, h0⟩ := dec_s (hx (0, 1, 9) (by simp));obtain ⟨n1, h1⟩ := dec_i Tryz.underlying3 (hx (1, 1, 3) (by simp));obtain ⟨n2, h2⟩ := dec_i Tryz.underlying3 (hx (2, 1, 3) (by simp));obtain ⟨t, h3⟩ := dec_T _ _ (hx (3, 3, 63) (by simp));simp only [List.drop, List.take, List.cons.injEq, and_true] at h0 h1 h2 h3;subst h0 h1 h2;exact ⟨⟨n0, n1, n2, t⟩, by simp only [Ht.enc, ← h3, List.cons_append, List.nil_append]⟩
theorem dec_F {k : Nat} {ds : List CD} (h : Shape Tryz.prog k 26 ds) : ∃ f : Fl, ds = f.enc := by
 obtain ⟨hl, k1, _, hx⟩ := shape_structK (l := [(0, 1, 22), (1, 1, 23), (2, 1, 24)]) Tryz.underlying26 (by kernel_rfl) (by kernel_rfl : Tryz.prog.cellsOf 26 = 3) h
 match ds, hl with
 | [a0, a1, a2], _ =>
   obtain ⟨lv, h0⟩ := shape_slK (enc := Vr.enc) Tryz.underlying22 (by kernel_rfl : Tryz.prog.cellsOf 88 = 5) (fun _ _ _ hr => dec_V hr) (hx (0, 1, 22) (by simp));obtain ⟨lh, h1⟩ := shape_slK (enc := Ht.enc) Tryz.underlying23 (by kernel_rfl : Tryz.prog.cellsOf 111 = 6) (fun _ _ _ hr => dec_H hr) (hx (1, 1, 23) (by simp));obtain ⟨ls, h2⟩ := shape_slK (enc := St.enc) Tryz.underlying24 (by kernel_rfl : Tryz.prog.cellsOf 65 = 10) (fun k' _ r hr => dec_S k' r hr) (hx (2, 1, 24) (by simp));simp only [List.drop, List.take, List.cons.injEq, and_true] at h0 h1 h2;subst h0 h1 h2;exact ⟨⟨lv, lh, ls⟩, by simp only [Fl.enc, encVs, encHs, encSs_map]⟩
theorem aggF : aggT Tryz.prog 26 = true := by unfold aggT; rw [Tryz.underlying26]
theorem dec_b {k : Nat} {ds : List CD} (h : Shape Tryz.prog k 4 ds) : ∃ b : Bool, ds = [bC b] := by
 obtain ⟨b, h1⟩ := shape_bool Tryz.underlying4 h;exact ⟨b, h1⟩
theorem dec_A {k : Nat} {ds : List CD} (h : Shape Tryz.prog k 89 ds) : ∃ p : Int × Int, ds = [iC p.1, iC p.2] := by
 obtain ⟨hl, k, hx⟩ := shape_array (l := [(0, 1, 3), (1, 1, 3)]) Tryz.underlying89 (by kernel_rfl) (by kernel_rfl : Tryz.prog.cellsOf 89 = 2) h
 match ds, hl with
 | [a0, a1], _ =>
   obtain ⟨n0, h0⟩ := dec_i Tryz.underlying3 (hx (0, 1, 3) (by simp));obtain ⟨n1, h1⟩ := dec_i Tryz.underlying3 (hx (1, 1, 3) (by simp));simp only [List.drop, List.take, List.cons.injEq, and_true] at h0 h1;subst h0 h1;exact ⟨(n0, n1), rfl⟩
theorem dec_L {k : Nat} {ds : List CD} (h : Shape Tryz.prog k 124 ds) : ∃ x : Lb, ds = x.enc := by
 obtain ⟨hl, k1, _, hx⟩ := shape_structK (l := [(0, 1, 9), (1, 1, 3)]) Tryz.underlying124 (by kernel_rfl) (by kernel_rfl : Tryz.prog.cellsOf 124 = 2) h
 match ds, hl with
 | [a0, a1], _ =>
   obtain ⟨n0, h0⟩ := dec_s (hx (0, 1, 9) (by simp));obtain ⟨n1, h1⟩ := dec_i Tryz.underlying3 (hx (1, 1, 3) (by simp));simp only [List.drop, List.take, List.cons.injEq, and_true] at h0 h1;subst h0 h1;exact ⟨⟨n0, n1⟩, rfl⟩
theorem dec_P {k : Nat} {ds : List CD} (h : Shape Tryz.prog k 31 ds) : ∃ p : Po, ds = p.enc := by
 obtain ⟨hl, k1, _, hx⟩ := shape_structK (l := [(0, 1, 27), (1, 1, 28), (2, 1, 29), (3, 1, 29), (4, 1, 3), (5, 1, 4)]) Tryz.underlying31 (by kernel_rfl) (by kernel_rfl : Tryz.prog.cellsOf 31 = 6) h
 match ds, hl with
 | [a0, a1, a2, a3, a4, a5], _ =>
   obtain ⟨l0, h0⟩ := shape_slK (enc := fun s => [sC s]) Tryz.underlying27 (by kernel_rfl : Tryz.prog.cellsOf 9 = 1) (fun _ _ _ hr => dec_s hr) (hx (0, 1, 27) (by simp));obtain ⟨l1, h1⟩ := shape_slK (enc := fun p : Int × Int => [iC p.1, iC p.2]) Tryz.underlying28 (by kernel_rfl : Tryz.prog.cellsOf 89 = 2) (fun _ _ _ hr => dec_A hr) (hx (1, 1, 28) (by simp));obtain ⟨l2, h2⟩ := shape_slK (enc := Lb.enc) Tryz.underlying29 (by kernel_rfl : Tryz.prog.cellsOf 124 = 2) (fun _ _ _ hr => dec_L hr) (hx (2, 1, 29) (by simp));obtain ⟨l3, h3⟩ := shape_slK (enc := Lb.enc) Tryz.underlying29 (by kernel_rfl : Tryz.prog.cellsOf 124 = 2) (fun _ _ _ hr => dec_L hr) (hx (3, 1, 29) (by simp));obtain ⟨n4, h4⟩ := dec_i Tryz.underlying3 (hx (4, 1, 3) (by simp));obtain ⟨b5, h5⟩ := dec_b (hx (5, 1, 4) (by simp));simp only [List.drop, List.take, List.cons.injEq, and_true] at h0 h1 h2 h3 h4 h5;subst h0 h1 h2 h3 h4 h5;exact ⟨⟨l0, l1, l2, l3, n4, b5⟩, rfl⟩
theorem aggP : aggT Tryz.prog 31 = true := by unfold aggT; rw [Tryz.underlying31]
end Go.Proofs.YtfjidddhehckoaaGreat
