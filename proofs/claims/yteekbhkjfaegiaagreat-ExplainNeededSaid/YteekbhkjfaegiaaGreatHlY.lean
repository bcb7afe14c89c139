/- HlY: part of an evaluator of Go code over abstract states, proved sound over the model; used by the proof of the claimed statement. Conditions: none. -/
import Derived.Test.YteekbhkjfaegiaaGreatHlX
set_option linter.unusedSimpArgs false
set_option linter.unusedVariables false
namespace Go.Hl
open Go Go.RowKit

/-! ## a call that is given rows of its caller's for good -/
def ownB (γ : Nat → Value) (objs : List (Nat × Ob)) (w : World) : Nat → Prop := fun b => b < w.heap.size ∧ ¬ Owned γ objs b

def ConG (P : Program) (f : FuncId) (objs : List (Nat × Ob)) (args : List TV) (r : RV) : Prop :=
  callable P f = true ∧ ∀ (F : Nat → Prop) (γ : Nat → Value) (w : World) (vs : Array Value), HeapRel w (ownB γ objs w) (fun _ => none) F γ objs w → vs.size = args.length →
    (∀ (j : Nat) t u, args[j]? = some t → vs[j]? = some u → TVRel F γ w t u) →
    Calls P f vs w fun x w' => ∃ (v : Value) (N : Nat → Prop) (γ' : Nat → Value), x = .returned v ∧ Kept (ownB γ objs w) w w' ∧ (∀ c, N c → ¬ ownB γ objs w c ∧ c < w'.heap.size) ∧ RVRel (fun c => F c ∨ N c) γ' w' r v

section
variable {P : Program} {F : Nat → Prop} {γ γ' : Nat → Value} {w w' w0 : World} {B : Nat → Prop} {π : Nat → Option Value}

theorem con_g_of_HT {f : FuncId} {fn : Func} {c : Code} {objs : List (Nat × Ob)} {args : List TV} {r : RV} (hf : P.funcs[f]? = some fn) (hb : fn.body = some c) (hcall : callable P f = true) (hnt : args.length ≤ fn.ntmps)
    (h : HT P c ⟨fn.ntmps, regsOf 0 args, objs⟩ (fun e s' => (e = .normal ∨ e = .ret) ∧ ∃ s2, le s' s2 ∧ ∃ ts, resL P s2 fn.results.toList = some ts ∧ r = resR ts)) : ConG P f objs args r := by
  refine ⟨hcall, fun F γ w vs hh hsz hargs => ?_⟩
  have hrel : Rel w (ownB γ objs w) (fun _ => none) F γ ⟨fn.ntmps, regsOf 0 args, objs⟩ { tmps := vs ++ Array.replicate (fn.ntmps - vs.size) undef, defers := [] } w := by
    refine ⟨hh, rfl, by simp; omega, fun k r hl => ?_⟩
    obtain ⟨h1, t, ht, rfl⟩ := look_regsOf args 0 k r hl
    have hk : k < vs.size := by rw [hsz]; exact (List.getElem?_eq_some_iff.1 ht).1
    have hv : (vs ++ Array.replicate (fn.ntmps - vs.size) undef).getD k undef = vs[k] := by
      rw [Array.getD_eq_getD_getElem?, Array.getElem?_append_left hk]
      simp [hk]
    rw [hv]
    exact hargs (k - 0) t vs[k] ht (by simp [hk])
  refine calls_of_wp hf hb (wp_mono (h w _ _ F γ _ w hrel) ?_)
  rintro x a' w' ⟨s', F1, γ1, ⟨he, s2, hle, ts, hts, rfl⟩, h1, h2, hr'⟩
  obtain ⟨F2, γ2, h3, h4, hr2⟩ := hle w _ _ F1 γ1 a' w' hr'
  obtain ⟨us, hus, hul, huc⟩ := resL_sound hr2 hts
  have hFF : ∀ c, F2 c → F c ∨ (F2 c ∧ ¬ ownB γ objs w c) := by
    intro c hc
    rcases h4 c hc with h5 | h5
    · rcases h2 c h5 with h6 | h6
      · exact .inl h6
      · exact .inr ⟨hc, h6⟩
    · exact .inr ⟨hc, h5⟩
  have hres : ∃ v, (results fn a'.tmps).run P w' = .ok v w' ∧ RVRel F2 γ2 w' (resR ts) v := by
    rw [results_eq, Sem.run_bind, hus, Result.andThen_ok]
    refine ⟨_, rfl, ?_⟩
    match ts, us, hul, huc with
    | [], [], _, _ => exact ⟨#[], rfl, rfl, by simp⟩
    | [t], [u], _, hc => exact hc 0 t u rfl rfl
    | t1 :: t2 :: ts, u1 :: u2 :: us, hl, hc => exact ⟨(u1 :: u2 :: us).toArray, by simp, by simpa using hl, fun j t u ht hu => hc j t u ht (by simpa using hu)⟩
  obtain ⟨v, hv, hvr⟩ := hres
  have key : a'.defers = [] ∧ ∃ v, (results fn a'.tmps).run P w' = .ok v w' ∧ ∃ (v2 : Value) (N : Nat → Prop) (γ' : Nat → Value), Ending.returned v = .returned v2 ∧ Kept (ownB γ objs w) w w' ∧
      (∀ c, N c → ¬ ownB γ objs w c ∧ c < w'.heap.size) ∧ RVRel (fun c => F c ∨ N c) γ' w' (resR ts) v2 :=
    ⟨hr2.defers, v, hv, v, fun c => F2 c ∧ ¬ ownB γ objs w c, γ2, rfl, hr2.heap.below, fun c hc => ⟨hc.2, hr2.heap.fsz c hc.1⟩, hvr.mono hFF fun _ _ => rfl⟩
  rcases he with rfl | rfl
  · exact key
  · exact key

def Ob.isRow : Ob → Bool
  | .row _ _ _ => true
  | _ => false
theorem row_B {B' : Nat → Prop} {e : TypeId} {s : Nat} {x : Value} {rows : List (List CD)} (h : RowRel F w B e s x rows) (hB : ∀ b, blk x = some b → ¬ B' b) : RowRel F w B' e s x rows := by
  obtain ⟨h0, hs, xs, ⟨hl, hown⟩, h1, hc⟩ := h
  refine ⟨h0, hs, xs, ⟨hl, hown.imp id ?_⟩, h1, hc⟩
  rintro ⟨g, cap, cur, rfl, _, rest⟩
  exact ⟨g, cap, cur, rfl, hB g rfl, rest⟩
theorem lkp_of_mem {α : Type} {n : Nat} {x : α} : ∀ {l : List (Nat × α)}, lkp l n = some x → (n, x) ∈ l := look_mem

def dels (ns : List Nat) (objs : List (Nat × Ob)) : List (Nat × Ob) :=
  match ns with
  | [] => objs
  | n :: ns => dels ns (del n objs)
theorem look_dels (m : Nat) : ∀ (ns : List Nat) (objs : List (Nat × Ob)), lkp (dels ns objs) m = if m ∈ ns then none else lkp objs m
  | [], objs => by simp [dels]
  | n :: ns, objs => by
    rw [dels, look_dels m ns, look_del]
    by_cases h1 : m ∈ ns <;> by_cases h2 : m = n <;> simp [h1, h2]

/-- the operation that calls, looked at -/
def argsT (g : Operand → RV) : List Operand → Option (List TV)
  | [] => some []
  | x :: l => match g x, argsT g l with
    | .v t, some ts => some (t :: ts)
    | _, _ => none
def gOf (s : HS) (o : Oper) : Option (FuncId × List TV × Nat) :=
  match o.guard, o.op, o.dst with
  | none, .call { callee := .value x, args := args, .. }, some d => match opd s.regs x, argsT (opd s.regs) args.toList with
    | .v (.one (.fn f [])), some ts => if okDst s (some d) = true then some (f, ts, d) else none
    | _, _ => none
  | _, _, _ => none
theorem argsT_some {g : Operand → RV} : ∀ {l : List Operand} {ts : List TV}, argsT g l = some ts → ts.length = l.length ∧ ∀ (j : Nat) t, ts[j]? = some t → ∃ x, l[j]? = some x ∧ g x = .v t
  | [], ts, h => by cases h; simp
  | x :: l, ts, h => by
    unfold argsT at h
    split at h
    · rename_i t ts' hx hts
      cases h
      obtain ⟨h1, h2⟩ := argsT_some hts
      refine ⟨by simp [h1], fun j t' hj => ?_⟩
      cases j with
      | zero => cases hj; exact ⟨x, rfl, hx⟩
      | succ j => exact h2 j t' hj
    · cases h

/-- what is handed over, at the caller: where it lies -/
structure Hand (ρ : Nat → Nat) (objs sobjs : List (Nat × Ob)) : Prop where
  at_ : ∀ n o, lkp objs n = some o → lkp sobjs (ρ n) = some o
  row : ∀ n o, lkp objs n = some o → o.isRow = true
  inj : ∀ n m on om, lkp objs n = some on → lkp objs m = some om → n ≠ m → ρ n ≠ ρ m
theorem hand_mk {ρ : Nat → Nat} {objs sobjs : List (Nat × Ob)} (h1 : ∀ p ∈ objs, lkp sobjs (ρ p.1) = some p.2 ∧ p.2.isRow = true) (h2 : ∀ p ∈ objs, ∀ q ∈ objs, p.1 ≠ q.1 → ρ p.1 ≠ ρ q.1) : Hand ρ objs sobjs where
  at_ n o h := (h1 _ (look_mem h)).1
  row n o h := (h1 _ (look_mem h)).2
  inj n m on om hn hm hne := h2 _ (look_mem hn) _ (look_mem hm) hne

theorem Hand.heap {ρ : Nat → Nat} {objs sobjs : List (Nat × Ob)} (hd : Hand ρ objs sobjs) (h : HeapRel w0 B π F γ sobjs w) :
    HeapRel w (ownB (fun n => γ (ρ n)) objs w) (fun _ => none) F (fun n => γ (ρ n)) objs w where
  below := Kept.refl _ _
  hB b hb := hb.1
  fsz := h.fsz
  ob n o ho := by
    have h1 := h.ob _ _ (hd.at_ n o ho)
    have h2 := hd.row n o ho
    cases o with
    | row e s rows =>
      exact row_B (show RowRel F w B e s (γ (ρ n)) rows from h1) fun b hb hx => hx.2 ⟨n, _, ho, (Blk_sl (RowRel.sl (show RowRel F w B e s (γ (ρ n)) rows from h1))).2 hb⟩
    | _ => cases h2
  apart n o ho b hb := h.apart _ _ (hd.at_ n o ho) b hb
  sep n m on om hn hm hne b hb hb' := h.sep _ _ _ _ (hd.at_ n on hn) (hd.at_ m om hm) (hd.inj n m on om hn hm hne) b hb hb'
  pin n v hv := by cases hv

theorem Hand.after {ρ : Nat → Nat} {objs sobjs : List (Nat × Ob)} (hd : Hand ρ objs sobjs) (h : HeapRel w0 B π F γ sobjs w) (hk : Kept (ownB (fun n => γ (ρ n)) objs w) w w') {N : Nat → Prop}
    (hN : ∀ c, N c → ¬ ownB (fun n => γ (ρ n)) objs w c ∧ c < w'.heap.size) :
    (∀ b, N b → ¬ B b) ∧ (∀ c, F c → w'.heap[c]? = w.heap[c]?) ∧ HeapRel w0 B π (fun c => F c ∨ N c) γ (dels (objs.map fun p => ρ p.1) sobjs) w' := by
  have own : ∀ b, Owned (fun n => γ (ρ n)) objs b → ∃ n o, lkp objs n = some o ∧ lkp sobjs (ρ n) = some o ∧ Blk (γ (ρ n)) b := by
    rintro b ⟨n, o, ho, hb⟩
    exact ⟨n, o, ho, hd.at_ n o ho, hb⟩
  have hNB : ∀ b, N b → ¬ B b := by
    intro b hb hx
    refine (hN b hb).1 ⟨h.hB b hx, fun ho => ?_⟩
    obtain ⟨n, o, _, h1, h2⟩ := own b ho
    exact ((h.ob _ _ h1).blk_lt h2).1 hx
  have hF : ∀ c, F c → w'.heap[c]? = w.heap[c]? := fun c hc => hk.block c ⟨h.fsz c hc, fun ho => by
    obtain ⟨n, o, _, h1, h2⟩ := own c ho
    exact h.apart _ _ h1 c h2 hc⟩
  have hlk : ∀ m o, lkp (dels (objs.map fun p => ρ p.1) sobjs) m = some o → lkp sobjs m = some o ∧ ∀ n o', lkp objs n = some o' → ρ n ≠ m := by
    intro m o hl
    rw [look_dels] at hl
    split at hl
    · cases hl
    · rename_i hm
      exact ⟨hl, fun n o' ho e => hm (List.mem_map.2 ⟨(n, o'), look_mem ho, e⟩)⟩
  have hsep : ∀ m o, lkp (dels (objs.map fun p => ρ p.1) sobjs) m = some o → ∀ b, Blk (γ m) b → ¬ Owned (fun n => γ (ρ n)) objs b := by
    intro m o hl b hb ho
    obtain ⟨h1, h2⟩ := hlk m o hl
    obtain ⟨n, o', h3, h4, h5⟩ := own b ho
    exact h.sep _ _ _ _ h1 h4 (Ne.symm (h2 n o' h3)) b hb h5
  refine ⟨hNB, hF, ?_⟩
  exact {
    below := h.below.trans ⟨hk.os, hk.tape, hk.output, hk.size, fun c hc => hk.block c ⟨h.hB c hc, fun ho => by
      obtain ⟨n, o, _, h1, h2⟩ := own c ho
      exact ((h.ob _ _ h1).blk_lt h2).1 hc⟩⟩
    hB := fun c hc => Nat.lt_of_lt_of_le (h.hB c hc) hk.size
    fsz := fun c hc => by
      rcases hc with hc | hc
      · exact Nat.lt_of_lt_of_le (h.fsz c hc) hk.size
      · exact (hN c hc).2
    ob := fun m o hl => by
      obtain ⟨h1, _⟩ := hlk m o hl
      have h2 := h.ob m o h1
      exact h2.mono (fun _ h => .inl h) hF fun c hc => hk.block c ⟨(h2.blk_lt hc).2, hsep m o hl c hc⟩
    apart := fun m o hl c hc hFc => by
      obtain ⟨h1, _⟩ := hlk m o hl
      rcases hFc with hFc | hFc
      · exact h.apart m o h1 c hc hFc
      · exact (hN c hFc).1 ⟨((h.ob m o h1).blk_lt hc).2, hsep m o hl c hc⟩
    sep := fun m k om ok hm hk' hne => h.sep m k om ok (hlk m om hm).1 (hlk k ok hk').1 hne
    pin := h.pin }

theorem g_sound {s : HS} {a : Act} {ops : Array Oper} {i : Nat} {o : Oper} {f : FuncId} {d : Nat} {objs : List (Nat × Ob)} {args : List TV} {ρ : Nat → Nat} {r : RV} {Kc : Act → World → Prop} {Q : Exit → Act → World → Prop} (hi : ops[i]? = some o) (h : Rel w0 B π F γ s a w)
    (hc : gOf s o = some (f, args.map (TV.ren ρ []), d)) (hd : Hand ρ objs s.objs) (hok : ∀ t ∈ args, t.okNil [] = true) (hcon : ConG P f objs args r) (honly : r.onlyB false 0 = true)
    (hK : ∀ F' a' w', (∀ b, F b → F' b) → (∀ b, F' b → F b ∨ ¬ B b) → Rel w0 B π F' γ (({ s with objs := dels (objs.map fun p => ρ p.1) s.objs } : HS).put (some d) r) a' w' → Kc a' w') : wpOp P ops Q i Kc a w := by
  unfold gOf at hc
  split at hc
  · rename_i x as ts0 d0 hgd ho hdst
    split at hc
    · rename_i f0 ts hf hts
      split at hc
      · rename_i hokd
        cases hc
        obtain ⟨hcall, hcon⟩ := hcon
        have hx := h.opd x
        rw [hf] at hx
        obtain ⟨cvs, hv, hcl, _⟩ := hx
        have : cvs = [] := List.eq_nil_of_length_eq_zero (by simpa using hcl)
        subst this
        have hv' : a.eval x = .func (.func f) #[] #[] := hv
        have hrun : (execOp a.eval o).run P w = .ok (.enter f (as.map a.eval)) w := by
          unfold callable at hcall
          split at hcall
          · rename_i fn hfn
            simp only [Bool.and_eq_true, Bool.not_eq_true'] at hcall
            have hnm : ¬ fn.name = "runtime.NumGoroutine" := by simpa using hcall.1
            have hnb : ¬ fn.body = none := by
              intro hb
              rw [hb] at hcall
              cases hcall.2
            simp [execOp, ho, resolve, hv', Deferred.ofValue, invoke, callFunc, hfn, hnm, hnb]
          · cases hcall
        unfold wpOp
        rw [hi]
        simp only
        have hwant : Region.wanted o (yielded ops a.tmps) = true := by unfold Region.wanted; rw [hgd]
        rw [hwant]
        simp only [if_true]
        refine .inl ?_
        unfold Oper.wp
        rw [hrun, Oper.upon_enter]
        obtain ⟨hlen, hget⟩ := argsT_some hts
        refine (hcon F (fun n => γ (ρ n)) w (as.map a.eval) (hd.heap h.heap) (by simpa using hlen.symm) fun j t u ht hu => ?_).mono ?_
        · obtain ⟨y, hy, hgy⟩ := hget j (t.ren ρ []) (by simp [ht])
          have hu' : u = a.eval y := by
            rw [Array.getElem?_map, ← Array.getElem?_toList, hy] at hu
            exact (Option.some.inj hu).symm
          rw [hu']
          have := h.opd y
          rw [hgy] at this
          exact TVRel.ren (ρ := ρ) (nils := []) (fun n _ => rfl) (fun n hn => by cases hn) (hok t (List.mem_of_getElem? ht)) this
        · rintro x w' ⟨v, N, γ', rfl, hk, hN, hr⟩
          obtain ⟨h1, h2, h3⟩ := hd.after h.heap hk hN
          refine hK (fun c => F c ∨ N c) _ _ (fun _ h => .inl h) (fun c hc => hc.imp id fun hc => h1 c hc) ?_
          rw [hdst]
          exact h.step (objs' := dels (objs.map fun p => ρ p.1) s.objs) hokd h3 (hr.only (ob := false) (d := 0) honly (by simp)) fun k r v _ hr => hr.mono (fun _ h => .inl h) h2
      · cases hc
    · cases hc
  · cases hc

theorem range_split {ops : Array Oper} {k : Nat} {o : Oper} (ho : ops[k]? = some o) : List.range ops.size = List.range' 0 (ops.toList.take k).length ++ (k :: List.range' (k + 1) (ops.toList.drop (k + 1)).length) := by
  have hlt : k < ops.size := (Array.getElem?_eq_some_iff.1 ho).1
  rw [List.range_eq_range', List.length_take, List.length_drop, Array.length_toList, Nat.min_eq_left (by omega)]
  apply List.ext_getElem?
  intro j
  by_cases hj : j < k
  · rw [List.getElem?_append_left (by simpa using hj)]
    simp [hj, show j < ops.size by omega]
  · rw [List.getElem?_append_right (by simp; omega)]
    simp only [List.length_range']
    by_cases hjk : j = k
    · subst hjk; simp [hlt]
    · rw [show j - k = (j - (k + 1)) + 1 by omega, List.getElem?_cons_succ]
      by_cases hjs : j < ops.size
      · rw [List.getElem?_range' (by omega), List.getElem?_range' (by omega)]
        congr 1; omega
      · rw [List.getElem?_eq_none (by simp; omega), List.getElem?_eq_none (by simp; omega)]

/-- A REGION WITH ONE CALL THAT IS GIVEN ROWS FOR GOOD: 'k' operations, the call, the rest -/
theorem HT_runG {id : Nat} {ops : Array Oper} (k : Nat) (objs : List (Nat × Ob)) (args : List TV) (ρ : Nat → Nat) (r : RV) (cs1 cs2 : List CR) {s s1 s3 : HS} {p q : Prop} {o : Oper} {f : FuncId} {d : Nat} {Q : Exit → HS → Prop} (ho : ops[k]? = some o)
    (hpre : evc P ops (ops.toList.take k) s cs1 = some (s1, p)) (hp : p)
    (hg : gOf s1 o = some (f, args.map (TV.ren ρ []), d)) (hd : Hand ρ objs s1.objs) (hok : ∀ t ∈ args, t.okNil [] = true) (hcon : ConG P f objs args r) (honly : r.onlyB false 0 = true)
    (hpost : evc P ops (ops.toList.drop (k + 1)) (({ s1 with objs := dels (objs.map fun p => ρ p.1) s1.objs } : HS).put (some d) r) cs2 = some (s3, q)) (hq' : q) (hq : Q .normal s3) : HT P (.region id ops false) s Q := by
  intro w0 B π F γ a w hr
  refine wp_region ?_
  rw [range_split ho]
  refine wpR_opsK (ops.toList.take k) 0 s F γ a w (fun j o' hj => ?_) hr (wpR_evc _ _ _ _ _ hpre hp rfl : wpR P ops (ops.toList.take k) s (fun t => t = s1)) fun s' F1 γ1 a1 w1 hs' h1 h2 hr1 => ?_
  · rw [List.getElem?_take] at hj
    split at hj
    · rw [Nat.zero_add]; simpa using hj
    · cases hj
  · subst hs'
    rw [wpOps_cons]
    refine g_sound ho hr1 hg hd hok hcon honly fun F2 a2 w2 h3 h4 hr2 => ?_
    have := wpR_opsK (Q := fun e a' w' => ∃ (s' : HS) (F' : Nat → Prop) (γ' : Nat → Value), Q e s' ∧ (∀ b, F b → F' b) ∧ (∀ b, F' b → F b ∨ ¬ B b) ∧ Rel w0 B π F' γ' s' a' w') (rest := []) (ops.toList.drop (k + 1)) (k + 1) _ F2 γ1 a2 w2 (fun j o' hj => by
        rw [List.getElem?_drop] at hj; simpa using hj) hr2 (wpR_evc _ _ _ _ _ hpost hq' rfl : wpR P ops (ops.toList.drop (k + 1)) _ (fun t => t = s3)) fun s4 F4 γ4 a4 w4 hs4 h5 h6 hr4 => ?_
    · simpa using this
    · subst hs4
      exact ⟨s4, F4, γ4, hq, fun b hb => h5 b (h3 b (h1 b hb)), fun b hb => (h6 b hb).elim (fun hb => (h4 b hb).elim (h2 b) .inr) .inr, hr4⟩
end
end Go.Hl
