/- Part 17: contracts of functions of the program and of the reference, and plain facts about what they compute; used by the proof of the claimed statement. Conditions: as each theorem states. -/
import Derived.Test.YtfjidddhehckoaaGreatT14
import Derived.Test.YtfjidddhehckoaaGreatT10
import Derived.Laws.Entries
import Derived.Test.YtfjidddhehckoaaGreatT15
set_option linter.unusedSimpArgs false
set_option linter.unusedVariables false
set_option linter.unnecessarySimpa false
set_option maxRecDepth 100000
set_option maxHeartbeats 2000000
namespace Go.Proofs.YtfjidddhehckoaaGreat
open Go Go.Hl
def s6 (x : Int) : St := .mk 6 0 0 0 (.mk 0 0 []) [] [] [x]
def stF (f : Fl) (x : Int) : Fl := ⟨f.vars, f.hats, f.body ++ [s6 x]⟩
theorem tyL_app (e : En) (fu : Nat) : ∀ (l m : List St) (pc : Int) (st : List Int) (t : Tp), tyL e fu (l ++ m) pc st t = tyL e fu m pc (tyL e fu l pc st t).1 (tyL e fu l pc st t).2
 | [], m, pc, st, t => by simp only [List.nil_append, tyL]
 | s :: l, m, pc, st, t => by
   simp only [List.cons_append, tyL]
   exact tyL_app e fu l m pc _ _
theorem tyL_s6 (e : En) (fu : Nat) (x pc : Int) (st : List Int) (t : Tp) : tyL e fu [s6 x] pc st t = (st, recT t st pc) := by
 simp only [tyL, s6, tyS, show ¬ (6 : Int) = 4 by decide, show ¬ (6 : Int) = 0 by decide, show ¬ (6 : Int) = 5 by decide, show ¬ (6 : Int) = 1 by decide, show ¬ (6 : Int) = 3 by decide, if_false]
theorem bdL_app2 (C : B3) : ∀ (l m : List St) (p : B3), bdL C (l ++ m) p = bdL C m (bdL C l p)
 | [], m, p => rfl
 | s :: l, m, p => by
   simp only [List.cons_append, bdL]
   exact bdL_app2 C l m _
theorem bd_eqT {l : List St} (h : okL l = true) (hq : (bdL CR l ⟨0, 0, 0⟩).t ≤ 67108864) : (bdL CP l ⟨0, 0, 0⟩).t = (bdL CR l ⟨0, 0, 0⟩).t := by
 have := bdL_cut nnCR nnCP (by decide) l _ _ h (in3_0 nnCP) (in3_0 nnCR) rfl
 unfold cut3 at this
 simp only [B3.mk.injEq] at this
 obtain ⟨h1, h2, h3⟩ := this
 generalize bdL CP l ⟨0, 0, 0⟩ = p at *
 generalize bdL CR l ⟨0, 0, 0⟩ = q at *
 unfold CR at h1 h2 h3
 clear h1 h2
 unfold mn at *
 simp only at h3
 (repeat' split at h3) <;> omega
theorem bd_s6 (C : B3) (x : Int) (p : B3) : (bdL C [s6 x] p).t ≤ p.t := by
 simp only [bdL, s6, bdS, bd1, show ¬ (6 : Int) = 4 by decide, show ¬ (6 : Int) = 3 by decide, show ¬ (6 : Int) = 1 by decide, if_false, add3, mn]
 split <;> omega
theorem relL_app (hv : List Int) : ∀ l m : List St, relL hv (l ++ m) = (relL hv l && relL hv m)
 | [], m => by simp [relL]
 | s :: l, m => by simp only [List.cons_append, relL, relL_app hv l m, Bool.and_assoc]
theorem relL_s6 (hv : List Int) (x : Int) : relL hv [s6 x] = true := by
 simp only [relL, s6, relS, show decide ((6 : Int) = 5) = false by decide, Bool.false_and]
 rfl
theorem nodesS_app2 : ∀ l m : List St, nodesS (l ++ m) = nodesS l + nodesS m
 | [], m => by simp [nodesS]
 | s :: l, m => by simp only [List.cons_append, nodesS, nodesS_app2 l m]; omega
theorem bndL_app2 : ∀ l m : List St, bndL (l ++ m) = (bndL l && bndL m)
 | [], m => by simp [bndL]
 | s :: l, m => by simp only [List.cons_append, bndL, bndL_app2 l m, Bool.and_assoc]
section
variable {f : Fl} {p : Po}
theorem settled_facts {x : Int} (h : askC f p = 0) (hb : bndL f.body = true) (hg : codeC (stF f x) = 0) (hx : (bdL CR f.body ⟨0, 0, 0⟩).t ≤ x) (hl : ∀ s, f.body[f.body.length - 1]? = some s → ¬ s.do_ = 6) :
  askC (stF f x) p = 0 ∧ (tyE (stF f x) p).1 = (tyE f p).1 ∧ (tyE (stF f x) p).2.faults = (tyE f p).2.faults ∧ (tyE (stF f x) p).2.time = p.bot := by
 have hgd := ask_gd h
 have e1 : pinF (stF f x) p = pinF f p := by
  unfold pinF
  rw [hg, hgd.hc]
  rfl
 have e2 : phtF (stF f x) p = phtF f p := by
  unfold phtF
  rw [hg, hgd.hc]
  rfl
 have hask : askC (stF f x) p = 0 := by
  unfold askC at h ⊢
  rw [e1, e2]
  split at h
  · rename_i h1; exact absurd h h1
  rename_i h1
  rw [if_neg h1]
  split at h
  · rename_i h2; exact absurd h h2
  rename_i h2
  rw [if_neg h2]
  split at h
  · rename_i h3
    rw [if_pos]
    show relL _ (f.body ++ [s6 x]) = true
    rw [relL_app, h3, relL_s6]
    rfl
  · cases h
 have hty : tyR (stF f x) p = ((tyR f p).1, recT (tyR f p).2 (tyR f p).1 p.bot) := by
  unfold tyR envF
  rw [e1, e2]
  show tyL _ _ (f.body ++ [s6 x]) _ _ _ = _
  rw [tyL_app, tyL_s6]
  rfl
 have hs1 : setlB f = false := by
  unfold setlB
  cases hz : f.body[f.body.length - 1]? with
  | none => rfl
  | some s =>
    simp only
    rw [decide_eq_false (hl s hz), Bool.false_and]
 have hs2 : setlB (stF f x) = true := by
  unfold setlB
  have : (stF f x).body[(stF f x).body.length - 1]? = some (s6 x) := by
   show (f.body ++ [s6 x])[(f.body ++ [s6 x]).length - 1]? = _
   simp
  rw [this]
  have ho := ssC_ok _ _ (code_split hgd.hc).2.2.2.1
  have hov := over_split (code_split hgd.hc).2.2.2.2
  have h1 := bd_eqT ho hov.2.2
  have h2 := bd_s6 CP x (bdL CP f.body ⟨0, 0, 0⟩)
  rw [← bdL_app2] at h2
  have h3 : (bdL CP (stF f x).body ⟨0, 0, 0⟩).t ≤ x := by
   show (bdL CP (f.body ++ [s6 x]) ⟨0, 0, 0⟩).t ≤ x
   omega
  show (decide ((6 : Int) = 6) && decide ((bdL CP (stF f x).body ⟨0, 0, 0⟩).t ≤ x)) = true
  rw [decide_eq_true h3]
  rfl
 refine ⟨hask, ?_, ?_, ?_⟩
 · rw [tyE_out.1, tyE_out.1, hty]
 · rw [tyE_out.2.1, tyE_out.2.1, hty]
   rfl
 · rw [tyE_out.2.2.2.2, if_pos hs2]
end
end Go.Proofs.YtfjidddhehckoaaGreat

namespace Go.Hl
open Go Go.RowKit
inductive RunsC (P : Program) (ops : Array Oper) : List Oper → HS → (HS → Prop) → Prop
 | done {l : List Oper} {s : HS} {K : HS → Prop} : wpR P ops l s K → RunsC P ops l s K
 | cut {l : List Oper} {s s1 s2 : HS} {K : HS → Prop} (k : Nat) : wpR P ops (l.take k) s (fun t => t = s1) → le s1 s2 → RunsC P ops (l.drop k) s2 K → RunsC P ops l s K
 | conv {l : List Oper} {o : Oper} {s : HS} {K : HS → Prop} (sT dT : TypeId) (x : Operand) (k : IntKind) (n : Int) : o.guard = none → o.op = .convert sT dT x → Hl.opd s.regs x = Hl.lit (.int k n) → okDst s o.dst = true → (P.underlying sT).isSome = true →
   P.underlying dT = some (.int (P.intKind dT)) → RunsC P ops l (s.put o.dst (Hl.lit (.int (P.intKind dT) ((P.intKind dT).wrap n)))) K → RunsC P ops (o :: l) s K
section
variable {P : Program} {w0 : World} {B : Nat → Prop} {π : Nat → Option Value}
theorem convS {ops : Array Oper} {Q : Exit → Act → World → Prop} {i : Nat} {o : Oper} {s : HS} {a : Act} {w : World} {F : Nat → Prop} {γ : Nat → Value} {Kc : Act → World → Prop} {sT dT : TypeId} {x : Operand} {k : IntKind} {n : Int}
  (hi : ops[i]? = some o) (h : Rel w0 B π F γ s a w) (hg : o.guard = none) (ho : o.op = .convert sT dT x) (hx : Hl.opd s.regs x = Hl.lit (.int k n)) (hok : okDst s o.dst = true) (hs : (P.underlying sT).isSome = true) (hd : P.underlying dT = some (.int (P.intKind dT)))
  (hK : ∀ a', Rel w0 B π F γ (s.put o.dst (Hl.lit (.int (P.intKind dT) ((P.intKind dT).wrap n)))) a' w → Kc a' w) : wpOp P ops Q i Kc a w := by
 unfold wpOp
 rw [hi]
 simp only
 have hwant : Region.wanted o (yielded ops a.tmps) = true := by unfold Region.wanted; rw [hg]
 rw [hwant]
 simp only [if_true]
 refine .inl ?_
 have hv : a.eval x = .int k n := by
  have := h.opd x
  rw [hx] at this
  have h2 : CRel F w (.lit (.int k n)) (a.eval x) := this
  generalize a.eval x = u at h2
  cases h2
  rfl
 unfold Oper.wp execOp
 simp only [ho, hv, Sem.run_bind, run_convert_int w sT dT k n hs hd, Result.andThen_ok, Sem.run_pure]
 refine hK _ ?_
 exact h.step (dst := o.dst) (r := Hl.lit (.int (P.intKind dT) ((P.intKind dT).wrap n))) (v := .int (P.intKind dT) ((P.intKind dT).wrap n)) (objs' := s.objs) hok h.heap (CRel.lit _) (fun _ _ _ _ h => h)
theorem runsC_ops {ops : Array Oper} {K : HS → Prop} {Q : Exit → Act → World → Prop} {l : List Oper} {s : HS} (h : RunsC P ops l s K) : ∀ (rest : List Nat) (k : Nat) (F : Nat → Prop) (γ : Nat → Value) (a : Act) (w : World), (∀ j o, l[j]? = some o → ops[k + j]? = some o) →
  Rel w0 B π F γ s a w → (∀ s' F' γ' a' w', K s' → (∀ b, F b → F' b) → (∀ b, F' b → F b ∨ ¬ B b) → Rel w0 B π F' γ' s' a' w' → wpOps P ops Q rest a' w') → wpOps P ops Q (List.range' k l.length ++ rest) a w := by
 induction h with
 | done hw => exact fun rest k F γ a w hd hr hK => wpR_opsK _ k _ F γ a w hd hr hw hK
 | cut n hw hle _ ih =>
   intro rest k F γ a w hd hr hK
   rename_i l s s1 s2 K' _
   have hl : l.length = (l.take n).length + (l.drop n).length := by rw [← List.length_append, List.take_append_drop]
   rw [hl, range_cut, List.append_assoc]
   refine wpR_opsK (l.take n) k s F γ a w (fun j o hj => ?_) hr hw fun s' F1 γ1 a1 w1 hs' h1 h2 hr1 => ?_
   · rw [List.getElem?_take] at hj
     split at hj
     · exact hd j o hj
     · cases hj
   · subst hs'
     obtain ⟨F2, γ2, h3, h4, hr2⟩ := hle w0 B π F1 γ1 a1 w1 hr1
     refine ih rest (k + (l.take n).length) F2 γ2 a1 w1 (fun j o hj => ?_) hr2 fun s3 F3 γ3 a3 w3 hk3 h5 h6 hr3 => ?_
     · rw [List.getElem?_drop] at hj
       have hlt : n + j < l.length := (List.getElem?_eq_some_iff.1 hj).1
       have := hd (n + j) o hj
       rw [List.length_take, Nat.min_eq_left (by omega), Nat.add_assoc]
       exact this
     · exact hK s3 F3 γ3 a3 w3 hk3 (fun b hb => h5 b (h3 b (h1 b hb))) (fun b hb => (h6 b hb).elim (fun hb => (h4 b hb).elim (h2 b) .inr) .inr) hr3
 | conv sT dT x k' n hg ho hx hok hs hd _ ih =>
   intro rest k F γ a w hdd hr hK
   rename_i l o s K' _
   rw [List.length_cons, List.range'_succ, List.cons_append, wpOps_cons]
   have hi : ops[k]? = some o := hdd 0 o rfl
   refine convS hi hr hg ho hx hok hs hd fun a2 hr2 => ?_
   exact ih rest (k + 1) F γ a2 w (fun j o' hj => by have := hdd (j + 1) o' hj; rwa [show k + 1 + j = k + (j + 1) by omega]) hr2 hK
theorem HT_runsC {id : Nat} {ops : Array Oper} {s : HS} {Q : Exit → HS → Prop} (h : RunsC P ops ops.toList s (Q .normal)) : HT P (.region id ops false) s Q := by
 intro w0 B π F γ a w hr
 refine wp_region ?_
 have := runsC_ops (w0 := w0) (B := B) (π := π) (Q := fun e a' w' => ∃ (s' : HS) (F' : Nat → Prop) (γ' : Nat → Value), Q e s' ∧ (∀ b, F b → F' b) ∧ (∀ b, F' b → F b ∨ ¬ B b) ∧ Rel w0 B π F' γ' s' a' w') h [] 0 F γ a w (by simp) hr
  fun s' F' γ' a' w' hk h1 h2 h3 => ⟨s', F', γ', hk, h1, h2, h3⟩
 rw [List.range_eq_range']
 simpa using this
theorem RunsC.cutE {ops : Array Oper} {l : List Oper} {s s1 s2 : HS} {p : Prop} {K : HS → Prop} (k : Nat) (cs : List CR) (h : evc P ops (l.take k) s cs = some (s1, p)) (hp : p) (hle : le s1 s2) (hr : RunsC P ops (l.drop k) s2 K) : RunsC P ops l s K :=
 .cut k (wpR_evc _ _ _ _ _ h hp rfl) hle hr
theorem RunsC.doneE {ops : Array Oper} {l : List Oper} {s s1 : HS} {p : Prop} {K : HS → Prop} (cs : List CR) (h : evc P ops l s cs = some (s1, p)) (hp : p) (hq : K s1) : RunsC P ops l s K :=
 .done (wpR_evc _ _ _ _ _ h hp hq)
end
end Go.Hl

namespace Go.Proofs.YtfjidddhehckoaaGreat
open Go Go.Hl
theorem s6_enc (l : List St) (x : Int) : encSs (l ++ [s6 x]) = encSs l ++ [[iC 6, iC 0, iC 0, iC 0, iC 0, iC 0, .sl 3 [], .sl 10 [], .sl 10 [], .sl 1 [[iC x]]]] := by
 rw [encSs_map, encSs_map, List.map_append]
 rfl
theorem settled_law (f : Fl) (p : Po) (ex : Int) (hex : 0 ≤ ex ∧ ex ≤ 255) (d : Nat) : Con Tryz.prog 5 true [aF f, aPo p, .one (.c (.lit (.int .u8 ex)))] (.v (lb true)) none d := by
 have ck := known_con
 have cf := fit_con f p
 obtain ⟨FP, hFP⟩ : ∃ x, fitP f p = x := ⟨_, rfl⟩
 have hsm : FP = true → Sm f p := fun h => fit_in (hFP.trans h)
 rw [hFP] at cf
 have ca := fun h => asked_con f p (hsm h).sp (hsm h).sf
 obtain ⟨A, hA⟩ : ∃ x, askC f p = x := ⟨_, rfl⟩
 rw [hA] at ca
 have hgd : A = 0 → Gd0 f p := fun h => ask_gd (hA.trans h)
 have cL := fun (h : FP = true) (h0 : A = 0) => latR_con p (hgd h0).hp (hsm h).sp
 have cbot := fun (h0 : A = 0) => rbot_con p (hgd h0).hp
 have cc1 := fun (h : FP = true) => chkS_con (hsm h)
 have hnn : FP = true → nodesS f.body + nodesH f.hats ≤ 80 ∧ f.vars.length ≤ 10 ∧ f.body.length ≤ 80 := fun h => ⟨(hsm h).nn, (hsm h).nv, by have := (hsm h).nn; have := len_nodesS f.body; omega⟩
 have hbok : A = 0 → okL f.body = true ∧ (bdL CR f.body ⟨0, 0, 0⟩).t ≤ 67108864 := fun h0 => ⟨ssC_ok _ _ (code_split (hgd h0).hc).2.2.2.1, (over_split (code_split (hgd h0).hc).2.2.2.2).2.2⟩
 have hbt0 : A = 0 → 0 ≤ (bdL CR f.body ⟨0, 0, 0⟩).t := fun h0 => (bdL_in nnCR f.body ⟨0, 0, 0⟩ (hbok h0).1 (in3_0 nnCR)).2.2.2.2.1
 have cbd := fun (h : FP = true) (h0 : A = 0) => boundsR_con f.body (by have := (hnn h).1; omega) (hbok h0).1
 have ccl := fun (h : FP = true) => cloneS_con f.body (by have := (hnn h).2.2; omega)
 obtain ⟨X, hX⟩ : ∃ x, (bdL CR f.body ⟨0, 0, 0⟩).t + ex = x := ⟨_, rfl⟩
 have hsmg : FP = true → smF (stF f X) ∧ (stF f X).hats = f.hats ∧ (stF f X).vars = f.vars := fun h => by
  have h1 := (hsm h).sf
  have h2 := (hsm h).nn
  refine ⟨⟨h1.hv, h1.hh, ?_, ?_⟩, rfl, rfl⟩
  · show nodesS (f.body ++ [s6 X]) + nodesH f.hats ≤ 900000
    rw [nodesS_app2]
    simp only [nodesS, s6, St.nodes, Tm.nodes, nodesT]
    omega
  · show bndL (f.body ++ [s6 X]) = true
    rw [bndL_app2, h1.hb]
    simp only [bndL, s6, bndS]
    rfl
 have cg := fun (h : FP = true) => checkR_con (stF f X) (hsmg h).1.hv (hsmg h).1.hh (by have := (hsmg h).1.hn; omega) (hsmg h).1.hb
 have hfin : ∀ {g : Fl}, askC g p = 0 → (tyE g p).1.length = g.vars.length := fun h => fin_len (ask_gd h)
 have cc2 := fun (h : FP = true) => checkT_con (stF f X) p (smQ_smP (hsm h).sp) (hsm h).rep (hsmg h).1.hv (hsmg h).1.hh (hsmg h).1.hn (hsmg h).1.hb (fun ha => by
  rw [hfin ha]
  have := (hsm h).nv
  show f.vars.length ≤ 1000000
  omega)
 have hsf0 := fun (h : FP = true) (h0 : A = 0) => settled_facts (f := f) (p := p) (x := X) (hA.trans h0) (hsm h).sf.hb
 have hfl : FP = true → A = 0 → (tyE f p).2.faults.length ≤ 80 ∧ (tyE f p).1.length ≤ 10 := fun h h0 => by
  have h1 := fa_len (hgd h0)
  have h2 := (hsm h).nn
  have h3 := (hsm h).nv
  have h4 := hfin (hA.trans h0)
  exact ⟨by omega, by omega⟩
 unfold chkR at cc1 cc2
 obtain ⟨T1, hT1⟩ : ∃ x, tyE f p = x := ⟨_, rfl⟩
 obtain ⟨T2, hT2⟩ : ∃ x, tyE (stF f X) p = x := ⟨_, rfl⟩
 obtain ⟨B1, hB1⟩ : ∃ x, accB f p = x := ⟨_, rfl⟩
 obtain ⟨B2, hB2⟩ : ∃ x, accB (stF f X) p = x := ⟨_, rfl⟩
 obtain ⟨A2, hA2⟩ : ∃ x, askC (stF f X) p = x := ⟨_, rfl⟩
 obtain ⟨G, hG⟩ : ∃ x, codeC (stF f X) = x := ⟨_, rfl⟩
 simp only [hT1, hT2, hB1, hB2, hA2, hA, hG] at cc1 cc2 hsf0 hfl cg
 obtain ⟨F1, t1⟩ := T1
 obtain ⟨F2, t2⟩ := T2
 simp only at cc1 cc2 hsf0 hfl
 obtain ⟨time1, fa1, _, _, _, _⟩ := t1
 obtain ⟨time2, fa2, _, _, _, _⟩ := t2
 simp only at cc1 cc2 hsf0 hfl
 obtain ⟨⟨BS, BO, BT⟩, hBD⟩ : ∃ x, bdL CR f.body ⟨0, 0, 0⟩ = x := ⟨_, rfl⟩
 simp only [hBD] at cbd hX hbok hbt0 hsf0
 have hsf := fun (h : FP = true) (h0 : A = 0) (hg : G = 0) => hsf0 h h0 hg (by omega)
 clear hsf0
 obtain ⟨BOT, hBOT⟩ : ∃ x, p.bot = x := ⟨_, rfl⟩
 rw [hBOT] at cbot
 simp only [hBOT] at hsf
 unfold laT Lt.latT at *
 unfold Lt.matB at cL cbot
 obtain ⟨R, hR⟩ : ∃ x, ((List.range p.levels.length).map fun a => [CD.sl 1 (Lt.rowB p.levels.length p.M a)]) = x := ⟨_, rfl⟩
 rw [hR] at cL cbot
 obtain ⟨NS, hNS⟩ : ∃ x, Lt.nsC p.levels = x := ⟨_, rfl⟩
 have hNS' : ∃ r, NS = .sl 1 r := ⟨_, hNS.symm⟩
 rw [hNS] at cL cbot
 obtain ⟨NR, hNR⟩ := hNS'
 subst hNR
 have henc := s6_enc f.body X
 have hcase : f.body.length = 0 ∨ ∃ z, f.body[f.body.length - 1]? = some z ∧ 0 < f.body.length := by
  rcases Nat.eq_zero_or_pos f.body.length with h | h
  · exact .inl h
  · exact .inr ⟨_, List.getElem?_eq_getElem (by omega), h⟩
 clear hT1 hT2 hB1 hB2 hA2 hA hG hFP hsm hgd hR hNS hBD hBOT hsmg hfin
 obtain ⟨vars, hats, body⟩ := f
 obtain ⟨ls, os, is, hts, ob, tm⟩ := p
 simp only [stF] at cc1 cc2 cL cg hsf hnn ccl henc hcase cbd
 refine con_of_HT Tryz.func5 rfl (by kernel_rfl) (Nat.le_of_ble_eq_true rfl) ?_
 simp only [Tryz.f5]
 simp only [aF, Fl.enc, aPo, Po.enc, List.map_cons, List.map_nil] at cf ca cL cc1 cc2 cg ⊢
 simp only [henc] at cc2 cg
 refine HT_seq <| HT_runA ?_
 refine HT_seq <| HT_seq <| (HT_runcA [⟨true, .v (lb true), none⟩] ?_ ?_)
 · first | exact ck _ | exact trivial | simpa [*] using ck _
 refine (HT_cond rfl (fun h2 => ?_) (fun h2 => HT_skip ?_))
 · exact absurd h2 (by simp)
 · try simp only [BN] at h2
   rcases Bool.eq_false_or_eq_true FP with hfp | hfp
   · subst hfp
     have ca := ca rfl
     refine HT_seq <| HT_seq <| (HT_runcA [⟨true, .v (lb true), none⟩, ⟨true, .v (li A), none⟩] ?_ ?_)
     · first | exact ⟨cf _, ca _⟩ | exact trivial | (repeat' first | exact trivial | exact cf _ | exact ca _ | apply And.intro)
     refine (HT_cond rfl (fun h6 => ?_) (fun h6 => HT_skip ?_))
     · try simp only [BN] at h6
       refine HT_seq <| HT_runA ?_
       exact HT_retA fun h => ⟨.inr rfl, h⟩
     · try simp only [BN] at h6
       have ha0 : A = 0 := by simpa using h6
       subst ha0
       have cL := cL rfl rfl
       have cbot := cbot rfl
       have cc1 := cc1 rfl
       have cc2 := cc2 rfl
       have cg := cg rfl
       have ccl := ccl rfl
       have cbd := cbd rfl rfl
       have hsf := hsf rfl rfl
       obtain ⟨hfl1, hfl2⟩ := hfl rfl rfl
       obtain ⟨_, hbt1⟩ := hbok rfl
       have hbt0 := hbt0 rfl
       obtain ⟨hnn1, hnn2, hnn3⟩ := hnn rfl
       rw [if_pos rfl] at cc1
       have hwx : IntKind.i64.wrap ex = ex := wrap_in (by omega) (by omega)
       have hwX : IntKind.i64.wrap X = X := wrap_in (by omega) (by omega)
       have hik : Tryz.prog.intKind 3 = .i64 := by kernel_rfl
       have hr1 : room 1 8 := room_of (by decide) (by decide)
       have hr2 : room 1 144 := room_of (by decide) (by decide)
       have hr3 : room (body.length + 1) 144 := room_of (by omega) (by omega)
       clear ca cf ck hnn hbok hfl
       refine HT_seq <| HT_runA ?_
       rcases hcase with hc | ⟨z, hz, hzl⟩
       · have hlast : ∀ s, body[body.length - 1]? = some s → ¬ s.do_ = 6 := fun s hs => by
          have := (List.getElem?_eq_some_iff.1 hs).1
          omega
         have hw1 : IntKind.i64.wrap (-1) = -1 := wrap_in (by omega) (by omega)
         refine HT_seq <| HT_seq <| HT_runA ?_
         refine (HT_cond rfl (fun h11 => ?_) (fun h11 => HT_skip ?_))
         · exact absurd h11 (by simp [hc])
         · try simp only [BN] at h11
           refine HT_seq <| (HT_runcA [⟨true, .tup [li BS, li BO, li BT], none⟩] ?_ ?_)
           · first | exact cbd _ | exact trivial | simpa [*] using cbd _
           refine HT_seq <| HT_runA ?_
           have hsf := fun hg => hsf hg hlast
           clear cbd hlast
           refine HT_seq <| (HT_runsC ?_)
           refine RunsC.cutE 5 [⟨false, .v (.one (.own 53)), some (.row 65 10 (encSs body))⟩] (by simp [*]; first | exact ⟨rfl, Iff.rfl⟩ | exact ⟨rfl, trivial⟩ | rfl) (by first | exact ccl _ (by decide) | simpa using ccl 53 (by decide)) (le_refl _) ?_
           refine RunsC.conv 5 3 (.tmp 55) .u8 ex rfl rfl (by simp) (by simp) (by kernel_rfl) (by kernel_rfl) ?_
           rw [hik, hwx]
           refine RunsC.cutE 2 [] (by simp [*]; rfl) trivial (le_frz 58 rfl) ?_
           refine RunsC.cutE 1 [] (by simp [*]; rfl) trivial (le_agg 59 [.c (iC 6), .c (iC 0), .c (iC 0), .c (iC 0), .c (iC 0), .c (iC 0), .c (.sl 3 []), .c (.sl 10 []), .c (.sl 10 []), .c (.sl 1 [[iC X]])] rfl (by (repeat' (first | exact LWk.nil | apply LWk.cons | exact CWk.refl _ | exact CWk.nil _)))) ?_
           refine RunsC.cutE 2 [] (by simp [*]; rfl) trivial (le_frz 61 rfl) ?_
           refine RunsC.doneE [] (by simp [*]; rfl) trivial ?_
           clear ccl henc hwx hwX hik hr1 hr2 hr3 hX
           refine HT_seq <| HT_seq <| (HT_runcA [⟨true, .v (li G), none⟩] ?_ ?_)
           · first | exact cg _ | exact trivial | simpa [*] using cg _
           refine (HT_cond rfl (fun h18 => ?_) (fun h18 => HT_skip ?_))
           · try simp only [BN] at h18
             refine HT_seq <| HT_runA ?_
             exact HT_retA fun h => ⟨.inr rfl, h⟩
           · try simp only [BN] at h18
             have hg0 : G = 0 := by simpa using h18
             subst hg0
             obtain ⟨r1, r2, r3, r4⟩ := hsf rfl
             subst r1 r2 r3 r4
             rw [if_pos rfl] at cc2
             clear cg h18
             refine HT_seq <| (HT_runcA [⟨false, .tup [.agg [.c (bC B1), .c (.sl 1 (encIs fa2)), .c (iC time1), .c (.sl 1 (encIs F2))], li 0], none⟩] ?_ ?_)
             · first | exact cc1 _ | exact trivial | simpa [*] using cc1 _
             refine HT_seq <| (HT_runcA [⟨false, .tup [.agg [.c (bC B2), .c (.sl 1 (encIs fa2)), .c (iC time2), .c (.sl 1 (encIs F2))], li 0], none⟩] ?_ ?_)
             · first | exact cc2 _ | exact trivial | simpa [*] using cc2 _
             have he1 := eqSl_con fa2 fa2 (by omega) (by omega)
             have he2 := eqSl_con F2 F2 (by omega) (by omega)
             rw [decide_eq_true rfl] at he1 he2
             clear cc1 cc2
             refine HT_seq <| (HT_drunc [⟨false, .v (.agg [.c (.sl 1 NR), .c (.sl 1 R)]), none⟩, ⟨true, .v (li time2), none⟩, ⟨true, .v (lb true), none⟩, ⟨true, .v (lb true), none⟩] (by kernel_rfl) (by kernel_rfl) (by rfl) (by simp [*]; first | exact ⟨rfl, Iff.rfl⟩ | exact ⟨rfl, trivial⟩ | rfl) ?_ ?_)
             · first | exact ⟨cL _, cbot _, he1 _, he2 _⟩ | exact trivial | (repeat' first | exact trivial | exact cL _ | exact cbot _ | exact he1 _ | exact he2 _ | apply And.intro)
             exact HT_retA fun h => ⟨.inr rfl, h⟩
       · have hwl : IntKind.i64.wrap ((body.length : Int) - 1) = ((body.length - 1 : Nat) : Int) := by rw [wrap_in (by omega) (by omega)]; omega
         have hz' := get_encS hz
         obtain ⟨zd, zc, zv, zn, ⟨zo, ztn, zks⟩, za, zb, zbs⟩ := z
         simp only [St.enc, Tm.enc, List.cons_append, List.nil_append] at hz'
         have hzd : ∀ s, body[body.length - 1]? = some s → s.do_ = zd := fun s hs => by
          rw [hz] at hs
          cases hs
          rfl
         clear hz
         refine HT_seq <| HT_seq <| HT_runA ?_
         refine (HT_cond rfl (fun h11 => ?_) (fun h11 => HT_skip ?_))
         · try simp only [BN] at h11
           refine HT_seq <| HT_runA ?_
           exact HT_retA fun h => ⟨.inr rfl, h⟩
         · try simp only [BN] at h11
           have hz6 : ¬ zd = 6 := by
            intro h
            simp [h, hzl] at h11
           have hlast : ∀ s, body[body.length - 1]? = some s → ¬ s.do_ = 6 := fun s hs => by
            rw [hzd s hs]
            exact hz6
           clear hzd hz' h11
           refine HT_seq <| (HT_runcA [⟨true, .tup [li BS, li BO, li BT], none⟩] ?_ ?_)
           · first | exact cbd _ | exact trivial | simpa [*] using cbd _
           refine HT_seq <| HT_runA ?_
           have hsf := fun hg => hsf hg hlast
           clear cbd hlast
           refine HT_seq <| (HT_runsC ?_)
           refine RunsC.cutE 5 [⟨false, .v (.one (.own 53)), some (.row 65 10 (encSs body))⟩] (by simp [*]; first | exact ⟨rfl, Iff.rfl⟩ | exact ⟨rfl, trivial⟩ | rfl) (by first | exact ccl _ (by decide) | simpa using ccl 53 (by decide)) (le_refl _) ?_
           refine RunsC.conv 5 3 (.tmp 55) .u8 ex rfl rfl (by simp) (by simp) (by kernel_rfl) (by kernel_rfl) ?_
           rw [hik, hwx]
           refine RunsC.cutE 2 [] (by simp [*]; rfl) trivial (le_frz 58 rfl) ?_
           refine RunsC.cutE 1 [] (by simp [*]; rfl) trivial (le_agg 59 [.c (iC 6), .c (iC 0), .c (iC 0), .c (iC 0), .c (iC 0), .c (iC 0), .c (.sl 3 []), .c (.sl 10 []), .c (.sl 10 []), .c (.sl 1 [[iC X]])] rfl (by (repeat' (first | exact LWk.nil | apply LWk.cons | exact CWk.refl _ | exact CWk.nil _)))) ?_
           refine RunsC.cutE 2 [] (by simp [*]; rfl) trivial (le_frz 61 rfl) ?_
           refine RunsC.doneE [] (by simp [*]; rfl) trivial ?_
           clear ccl henc hwx hwX hik hr1 hr2 hr3 hX
           refine HT_seq <| HT_seq <| (HT_runcA [⟨true, .v (li G), none⟩] ?_ ?_)
           · first | exact cg _ | exact trivial | simpa [*] using cg _
           refine (HT_cond rfl (fun h18 => ?_) (fun h18 => HT_skip ?_))
           · try simp only [BN] at h18
             refine HT_seq <| HT_runA ?_
             exact HT_retA fun h => ⟨.inr rfl, h⟩
           · try simp only [BN] at h18
             have hg0 : G = 0 := by simpa using h18
             subst hg0
             obtain ⟨r1, r2, r3, r4⟩ := hsf rfl
             subst r1 r2 r3 r4
             rw [if_pos rfl] at cc2
             clear cg h18
             refine HT_seq <| (HT_runcA [⟨false, .tup [.agg [.c (bC B1), .c (.sl 1 (encIs fa2)), .c (iC time1), .c (.sl 1 (encIs F2))], li 0], none⟩] ?_ ?_)
             · first | exact cc1 _ | exact trivial | simpa [*] using cc1 _
             refine HT_seq <| (HT_runcA [⟨false, .tup [.agg [.c (bC B2), .c (.sl 1 (encIs fa2)), .c (iC time2), .c (.sl 1 (encIs F2))], li 0], none⟩] ?_ ?_)
             · first | exact cc2 _ | exact trivial | simpa [*] using cc2 _
             have he1 := eqSl_con fa2 fa2 (by omega) (by omega)
             have he2 := eqSl_con F2 F2 (by omega) (by omega)
             rw [decide_eq_true rfl] at he1 he2
             clear cc1 cc2
             refine HT_seq <| (HT_drunc [⟨false, .v (.agg [.c (.sl 1 NR), .c (.sl 1 R)]), none⟩, ⟨true, .v (li time2), none⟩, ⟨true, .v (lb true), none⟩, ⟨true, .v (lb true), none⟩] (by kernel_rfl) (by kernel_rfl) (by rfl) (by simp [*]; first | exact ⟨rfl, Iff.rfl⟩ | exact ⟨rfl, trivial⟩ | rfl) ?_ ?_)
             · first | exact ⟨cL _, cbot _, he1 _, he2 _⟩ | exact trivial | (repeat' first | exact trivial | exact cL _ | exact cbot _ | exact he1 _ | exact he2 _ | apply And.intro)
             exact HT_retA fun h => ⟨.inr rfl, h⟩
   · subst hfp
     refine HT_seq <| HT_seq <| (HT_runcS [some ⟨true, .v (lb false), none⟩, none] (by simp [*]; first | exact ⟨rfl, Iff.rfl⟩ | exact ⟨rfl, trivial⟩ | rfl) ?_ ?_)
     · first | exact trivial | exact cf _ | simpa using cf _
     refine (HT_cond rfl (fun h6 => ?_) (fun h6 => HT_skip ?_))
     · try simp only [BN] at h6
       refine HT_seq <| HT_runA ?_
       exact HT_retA fun h => ⟨.inr rfl, h⟩
     · exact absurd h6 (by simp)
end Go.Proofs.YtfjidddhehckoaaGreat
