/- HlL: part of an evaluator of Go code over abstract states, proved sound over the model; used by the proof of the claimed statement. Conditions: none. -/
import Derived.Test.YtpnhnldneecpnaaHlK
namespace Go.Hl
open Go Go.RowKit

def noγ : Nat → Value := fun _ => .nilFunc

/-- where a result's data may lie: in new memory; if it is not called fresh, also where the arguments' data lie -/
def Res (fresh : Bool) (F N : Nat → Prop) : Nat → Prop := fun b => N b ∨ (fresh = false ∧ F b)

/-- a function with a body, that a call enters -/
def callable (P : Program) (f : FuncId) : Bool :=
  match P.funcs[f]? with
  | some fn => !(fn.name == "runtime.NumGoroutine") && fn.body.isSome
  | none => false

/-- THE CONTRACT of a function at data arguments: whatever the memory, it returns 'r' (an object that is the caller's own from then on: 'ob', named d), and leaves all old memory as it was -/
def Con (P : Program) (f : FuncId) (fresh : Bool) (args : List TV) (r : RV) (ob : Option Ob) (d : Nat) : Prop :=
  callable P f = true ∧ ∀ (F : Nat → Prop) (w : World) (vs : Array Value), (∀ b, F b → b < w.heap.size) → vs.size = args.length →
    (∀ (j : Nat) t u, args[j]? = some t → vs[j]? = some u → TVRel F noγ w t u) →
    Calls P f vs w fun e w' => ∃ (v : Value) (N : Nat → Prop) (γ' : Nat → Value), e = .returned v ∧ Below w.heap.size w w' ∧ (∀ b, N b → w.heap.size ≤ b ∧ b < w'.heap.size) ∧
      RVRel (Res fresh F N) γ' w' r v ∧ ∀ o, ob = some o → ObRel (Res fresh F N) γ' w' w.heap.size (γ' d) o ∧ ∀ b, blk (γ' d) = some b → ¬ N b

/-! ## arguments -/
def brw (objs : List (Nat × Ob)) : CV → Option CV
  | .any => some .any
  | .c d => some (.c d)
  | .own n => match lkp objs n with
    | some (.row _ s rows) => some (.c (.sl s rows))
    | _ => none
  | .fn f [] => some (.fn f [])
  | _ => none
def brwL (objs : List (Nat × Ob)) : List CV → Option (List CV)
  | [] => some []
  | x :: l => match brw objs x, brwL objs l with
    | some y, some m => some (y :: m)
    | _, _ => none
def brwT (objs : List (Nat × Ob)) : RV → Option TV
  | .v (.one x) => match brw objs x with
    | some y => some (.one y)
    | none => none
  | .v (.agg xs) => match brwL objs xs with
    | some ys => some (.agg ys)
    | none => none
  | .tup _ => none
def brwA (objs : List (Nat × Ob)) (g : Operand → RV) : List Operand → Option (List TV)
  | [] => some []
  | x :: l => match brwT objs (g x), brwA objs g l with
    | some t, some ts => some (t :: ts)
    | _, _ => none

def CV.ownB : CV → Bool
  | .own _ => true
  | _ => false
def RV.ownB : RV → Bool
  | .v (.one x) => x.ownB
  | .v (.agg xs) => xs.any CV.ownB
  | .tup _ => true

/-- the names in a result are 'd' alone (none, where nothing is made) -/
def CV.onlyB (ob : Bool) (d : Nat) : CV → Bool
  | .own n => ob && n == d
  | .at_ n _ => ob && n == d
  | .el n _ _ _ => ob && n == d
  | .fn _ caps => caps.isEmpty
  | .gd _ _ => false
  | _ => true
def TV.onlyB (ob : Bool) (d : Nat) : TV → Bool
  | .one x => x.onlyB ob d
  | .agg xs => xs.all (CV.onlyB ob d)
def RV.onlyB (ob : Bool) (d : Nat) : RV → Bool
  | .v t => t.onlyB ob d
  | .tup ts => ts.all (TV.onlyB ob d)
def Ob.flat : Ob → Bool
  | .box cs => cs.all (CV.onlyB false 0)
  | .row _ _ _ => true

def HS.made (s : HS) (d : Nat) (ob : Option Ob) : HS :=
  match ob with
  | some o => { s with objs := ins d o s.objs }
  | none => s

/-- a call of a Go function by its contract, and what follows -/
def callW (P : Program) (s : HS) (g : Operand → RV) (o : Oper) (K : Nat → RV → Option Ob → Prop) : Prop :=
  match o.op, o.dst with
  | .call { callee := .value x, args := args, .. }, some d => match g x, brwA s.objs g args.toList with
    | .v (.one (.fn f [])), some ts => ∃ (fresh : Bool) (r : RV) (ob : Option Ob), Con P f fresh ts r ob d ∧ (fresh = true ∨ (args.toList.any fun x => (g x).ownB) = false) ∧
        (ob.isSome = true → unmB d s = true) ∧ r.onlyB ob.isSome d = true ∧ (∀ o, ob = some o → o.flat = true) ∧ okDst s (some d) = true ∧ K d r ob
    | _, _ => False
  | _, _ => False
def callWp (P : Program) (s : HS) (o : Oper) (K : HS → Prop) : Prop := callW P s (opd s.regs) o fun d r ob => K ((s.made d ob).put (some d) r)
/-- .. under a guard -/
def callG (P : Program) (s : HS) (b : Bool) (o : Oper) (K : HS → Prop) : Prop := callW P s (fun x => strip b (opd s.regs x)) o fun d r ob => ob = none ∧ K (s.put (some d) (gdR b r))

section
variable {P : Program} {F : Nat → Prop} {γ : Nat → Value} {w w' w0 : World} {B : Nat}

/-- the blocks of the objects -/
def Owned (γ : Nat → Value) (objs : List (Nat × Ob)) : Nat → Prop := fun b => ∃ n o, lkp objs n = some o ∧ blk (γ n) = some b

theorem row_data {e : TypeId} {s : Nat} {rows : List (List CD)} {x : Value} {G : Nat → Prop} (h : ObRel F γ w B x (.row e s rows)) (hF : ∀ b, F b → G b) (hx : ∀ b, blk x = some b → G b) : CRel G w (.sl s rows) x := by
  obtain ⟨h0, hss, xs, hown, h1, hc⟩ := h
  rcases hown.2 with ⟨rfl, hn⟩ | ⟨b, cap, cur, rfl, hB, hh, hcap, hmax, hsz, htake⟩
  · have : rows = [] := List.eq_nil_of_length_eq_zero hn
    subst this
    exact .nil s
  · refine .sl s rows b 0 cap (fun i j => xs.getD (i * s + j) undef) (hx b rfl) hcap hmax hss ?_ ?_ ?_
    · intro i j d hd
      obtain ⟨u, hu, hr⟩ := hc i j d hd
      have := hown.cells (g := b) rfl _ u hu
      rw [add_mk, Nat.zero_add] at this
      rw [Nat.zero_add, this]
      simp [List.getD, hu]
    · intro i j d hd
      obtain ⟨u, hu, hr⟩ := hc i j d hd
      simp only [List.getD, hu, Option.getD_some]
      exact h1 u (List.mem_of_getElem? hu)
    · intro i j d hd
      obtain ⟨u, hu, hr⟩ := hc i j d hd
      simp only [List.getD, hu, Option.getD_some]
      exact hr.mono hF fun _ _ => rfl

theorem brw_sound {objs : List (Nat × Ob)} (hh : HeapRel w0 B F γ objs w) {x y : CV} {v : Value} (h : brw objs x = some y) (hr : CVRel F γ w x v) :
    CVRel (fun b => F b ∨ Owned γ objs b) noγ w y v := by
  unfold brw at h
  split at h
  · cases h; exact trivial
  · cases h; exact CRel.mono (fun _ h => .inl h) (fun _ _ => rfl) hr
  · rename_i n
    split at h
    · rename_i e s rows hl
      cases h
      obtain ⟨rfl, _⟩ := hr
      exact row_data (hh.ob n _ hl) (fun _ h => .inl h) fun b hb => .inr ⟨n, _, hl, hb⟩
    · cases h
  · cases h
    obtain ⟨vs, hv, hl, _⟩ := hr
    exact ⟨vs, hv, hl, by simp⟩
  · cases h

theorem brwL_sound {objs : List (Nat × Ob)} (hh : HeapRel w0 B F γ objs w) : ∀ {xs ys : List CV}, brwL objs xs = some ys → ys.length = xs.length ∧ ∀ (j : Nat) (y : CV), ys[j]? = some y → ∃ x, xs[j]? = some x ∧ brw objs x = some y
  | [], ys, h => by cases h; simp
  | x :: xs, ys, h => by
    simp only [brwL] at h
    split at h
    · rename_i y m hy hm
      cases h
      obtain ⟨h1, h2⟩ := brwL_sound hh hm
      refine ⟨by simp [h1], fun j z hz => ?_⟩
      cases j with
      | zero => cases hz; exact ⟨x, rfl, hy⟩
      | succ j => exact h2 j z hz
    · cases h

theorem brwT_sound {objs : List (Nat × Ob)} (hh : HeapRel w0 B F γ objs w) {r : RV} {t : TV} {v : Value} (h : brwT objs r = some t) (hr : RVRel F γ w r v) :
    TVRel (fun b => F b ∨ Owned γ objs b) noγ w t v := by
  unfold brwT at h
  split at h
  · split at h
    · rename_i y hy
      cases h
      exact brw_sound hh hy hr
    · cases h
  · split at h
    · rename_i xs _ ys hy
      cases h
      obtain ⟨vs, rfl, hs, hc⟩ := hr
      obtain ⟨h1, h2⟩ := brwL_sound hh hy
      refine ⟨vs, rfl, by rw [hs, h1], fun j y u hyj hu => ?_⟩
      obtain ⟨x, hx, hb⟩ := h2 j y hyj
      exact brw_sound hh hb (hc j x u hx hu)
    · cases h
  · cases h

theorem brw_data {objs : List (Nat × Ob)} {x y : CV} {v : Value} (hx : x.ownB = false) (h : brw objs x = some y) (hr : CVRel F γ w x v) : CVRel F noγ w y v := by
  unfold brw at h
  split at h
  · cases h; exact trivial
  · cases h; exact hr
  · cases hx
  · cases h
    obtain ⟨vs, hv, hl, _⟩ := hr
    exact ⟨vs, hv, hl, by simp⟩
  · cases h

theorem brwT_data {objs : List (Nat × Ob)} (hh : HeapRel w0 B F γ objs w) {r : RV} {t : TV} {v : Value} (hx : r.ownB = false) (h : brwT objs r = some t) (hr : RVRel F γ w r v) : TVRel F noγ w t v := by
  unfold brwT at h
  split at h
  · split at h
    · rename_i y hy
      cases h
      exact brw_data hx hy hr
    · cases h
  · split at h
    · rename_i xs _ ys hy
      cases h
      obtain ⟨vs, rfl, hs, hc⟩ := hr
      obtain ⟨h1, h2⟩ := brwL_sound hh hy
      refine ⟨vs, rfl, by rw [hs, h1], fun j y u hyj hu => ?_⟩
      obtain ⟨x, hxj, hb⟩ := h2 j y hyj
      refine brw_data ?_ hb (hc j x u hxj hu)
      simp only [RV.ownB] at hx
      rw [List.any_eq_false] at hx
      simpa using hx x (List.mem_of_getElem? hxj)
    · cases h
  · cases h

theorem brwA_sound {objs : List (Nat × Ob)} {g : Operand → RV} : ∀ {xs : List Operand} {ts : List TV}, brwA objs g xs = some ts → ts.length = xs.length ∧ ∀ (j : Nat) (t : TV), ts[j]? = some t → ∃ x, xs[j]? = some x ∧ brwT objs (g x) = some t
  | [], ts, h => by cases h; simp
  | x :: xs, ts, h => by
    simp only [brwA] at h
    split at h
    · rename_i y m hy hm
      cases h
      obtain ⟨h1, h2⟩ := brwA_sound hm
      refine ⟨by simp [h1], fun j z hz => ?_⟩
      cases j with
      | zero => cases hz; exact ⟨x, rfl, hy⟩
      | succ j => exact h2 j z hz
    · cases h

/-- names in a result are renamed nowhere: the contract's own are the caller's -/
theorem CVRel.only {ob : Bool} {d : Nat} {γ' : Nat → Value} {x : CV} {v : Value} (h : x.onlyB ob d = true) (hd : ob = true → γ' d = γ d) (hr : CVRel F γ w x v) : CVRel F γ' w x v := by
  cases x with
  | any => trivial
  | gd b x => cases h
  | c d => exact hr
  | own n =>
    simp only [CV.onlyB, Bool.and_eq_true, beq_iff_eq] at h
    obtain ⟨h1, rfl⟩ := h
    simp only [CVRel] at *
    rw [hd h1]; exact hr
  | at_ n off =>
    simp only [CV.onlyB, Bool.and_eq_true, beq_iff_eq] at h
    obtain ⟨h1, rfl⟩ := h
    simp only [CVRel] at *
    rw [hd h1]; exact hr
  | el n s i off =>
    simp only [CV.onlyB, Bool.and_eq_true, beq_iff_eq] at h
    obtain ⟨h1, rfl⟩ := h
    simp only [CVRel] at *
    rw [hd h1]; exact hr
  | fn f caps =>
    simp only [CV.onlyB, List.isEmpty_iff] at h
    subst h
    obtain ⟨vs, hv, hl, _⟩ := hr
    exact ⟨vs, hv, hl, by simp⟩
theorem TVRel.only {ob : Bool} {d : Nat} {γ' : Nat → Value} {x : TV} {v : Value} (h : x.onlyB ob d = true) (hd : ob = true → γ' d = γ d) (hr : TVRel F γ w x v) : TVRel F γ' w x v := by
  cases x with
  | one x => exact CVRel.only h hd hr
  | agg xs =>
    obtain ⟨vs, rfl, hs, hc⟩ := hr
    simp only [TV.onlyB, List.all_eq_true] at h
    exact ⟨vs, rfl, hs, fun j x u hx hu => (hc j x u hx hu).only (h x (List.mem_of_getElem? hx)) hd⟩
theorem RVRel.only {ob : Bool} {d : Nat} {γ' : Nat → Value} {x : RV} {v : Value} (h : x.onlyB ob d = true) (hd : ob = true → γ' d = γ d) (hr : RVRel F γ w x v) : RVRel F γ' w x v := by
  cases x with
  | v t => exact TVRel.only h hd hr
  | tup ts =>
    obtain ⟨vs, rfl, hs, hc⟩ := hr
    simp only [RV.onlyB, List.all_eq_true] at h
    exact ⟨vs, rfl, hs, fun j x u hx hu => (hc j x u hx hu).only (h x (List.mem_of_getElem? hx)) hd⟩
theorem ObRel.only {γ' : Nat → Value} {o : Ob} {x : Value} (h : o.flat = true) (hr : ObRel F γ w B x o) : ObRel F γ' w B x o := by
  cases o with
  | box cs =>
    obtain ⟨b, e, vs, rfl, hB, hh, hs, hc⟩ := hr
    simp only [Ob.flat, List.all_eq_true] at h
    exact ⟨b, e, vs, rfl, hB, hh, hs, fun j x u hx hu => (hc j x u hx hu).only (h x (List.mem_of_getElem? hx)) (by simp)⟩
  | row e s rows => exact hr

/-- behind a call: old memory as it was, new data in 'N' -/
theorem HeapRel.called {objs : List (Nat × Ob)} (h : HeapRel w0 B F γ objs w) (hb : Below w.heap.size w w') {N : Nat → Prop} (hN : ∀ b, N b → w.heap.size ≤ b ∧ b < w'.heap.size) :
    HeapRel w0 B (fun b => F b ∨ N b) γ objs w' where
  below := h.below.trans (hb.mono h.hB)
  hB := Nat.le_trans h.hB hb.size
  fsz b hF := by
    rcases hF with hF | hF
    · exact Nat.lt_of_lt_of_le (h.fsz b hF) hb.size
    · exact (hN b hF).2
  ob n o ho := by
    have h1 := h.ob n o ho
    exact h1.mono (fun _ h => .inl h) (fun b hF => hb.block b (h.fsz b hF)) fun b hbk => hb.block b (h1.blk_lt hbk).2
  apart n o ho b hbk hF := by
    rcases hF with hF | hF
    · exact h.apart n o ho b hbk hF
    · have := (h.ob n o ho).blk_lt hbk
      have := hN b hF
      omega
  sep := h.sep

theorem callW_sound {s : HS} {a : Act} {o : Oper} {g : Operand → RV} {K : Nat → RV → Option Ob → Prop} (h : Rel w0 B F γ s a w) (hg : ∀ x, RVRel F γ w (g x) (a.eval x)) (hc : callW P s g o K) {Kc : Act → World → Prop} {Q : Exit → Act → World → Prop}
    (hK : ∀ d r ob F' γ' v w', o.dst = some d → okDst s (some d) = true → K d r ob → (∀ b, F b → F' b) → (∀ b, F' b → F b ∨ B ≤ b) → Rel w0 B F' γ' (s.made d ob) a w' → RVRel F' γ' w' r v → Kc (a.put o.dst v) w')
    : o.wp P a w Kc Q := by
  unfold callW at hc
  split at hc
  · rename_i x args ts d ho hd
    split at hc
    · rename_i f tvs hf hts
      obtain ⟨fresh, r, ob, ⟨hcall, hcon⟩, hown, hunm, honly, hflat, hok, hk⟩ := hc
      have hx := hg x
      rw [hf] at hx
      obtain ⟨cvs, hv, hcl, _⟩ := hx
      have : cvs = [] := List.eq_nil_of_length_eq_zero (by simpa using hcl)
      subst this
      have hv' : a.eval x = .func (.func f) #[] #[] := hv
      have hrun : (execOp a.eval o).run P w = .ok (.enter f (args.map a.eval)) w := by
        unfold callable at hcall
        split at hcall
        · rename_i fn hfn
          simp only [Bool.and_eq_true, Bool.not_eq_true'] at hcall
          have hnm : ¬ fn.name = "runtime.NumGoroutine" := by simpa using hcall.1
          have hnb : ¬ fn.body = none := by
            intro hb
            rw [hb] at hcall
            cases hcall.2
          simp [execOp, ho, resolve, hv', Deferred.ofValue, invoke, callFunc, hfn, hnm, hnb]
        · cases hcall
      unfold Oper.wp
      rw [hrun, Oper.upon_enter]
      obtain ⟨hl, hts'⟩ := brwA_sound hts
      -- the set of blocks that the callee may lkp at
      have hcase : ∃ F2 : Nat → Prop, (∀ b, F2 b → b < w.heap.size) ∧ (fresh = false → ∀ b, F2 b → F b) ∧
          ∀ (j : Nat) t u, tvs[j]? = some t → (args.map a.eval)[j]? = some u → TVRel F2 noγ w t u := by
        have hget : ∀ (j : Nat) x u, args.toList[j]? = some x → (args.map a.eval)[j]? = some u → u = a.eval x := by
          intro j x u hx hu
          have hx' : args[j]? = some x := by simpa using hx
          rw [Array.getElem?_map, hx'] at hu
          simpa using hu.symm
        rcases hown with rfl | hown
        · refine ⟨fun b => F b ∨ Owned γ s.objs b, ?_, by simp, ?_⟩
          · rintro b (hb | ⟨n, o', hl', hb⟩)
            · exact h.heap.fsz b hb
            · exact ((h.heap.ob n o' hl').blk_lt hb).2
          · intro j t u ht hu
            obtain ⟨y, hy, hbr⟩ := hts' j t ht
            rw [hget j y u hy hu]
            exact brwT_sound h.heap hbr (hg y)
        · refine ⟨F, h.heap.fsz, fun _ _ h => h, ?_⟩
          intro j t u ht hu
          obtain ⟨y, hy, hbr⟩ := hts' j t ht
          rw [hget j y u hy hu]
          refine brwT_data h.heap ?_ hbr (hg y)
          rw [List.any_eq_false] at hown
          simpa using hown y (List.mem_of_getElem? hy)
      obtain ⟨F2, hF2, hF2F, hargs⟩ := hcase
      refine (hcon F2 w (args.map a.eval) hF2 (by rw [Array.size_map, hl, Array.length_toList]) hargs).mono ?_
      rintro e w' ⟨v, N, γ', rfl, hb, hN, hr, hobj⟩
      have hres : ∀ b, Res fresh F2 N b → F b ∨ N b := by
        rintro b (hb | ⟨hfr, hb⟩)
        · exact .inr hb
        · exact .inl (hF2F hfr b hb)
      have hheap := h.heap.called hb hN
      have hFk : ∀ b, F b → w'.heap[b]? = w.heap[b]? := fun b hF => hb.block b (h.heap.fsz b hF)
      have hNB : ∀ b, (F b ∨ N b) → F b ∨ B ≤ b := by
        rintro b (hb | hb)
        · exact .inl hb
        · exact .inr (Nat.le_trans h.heap.hB (hN b hb).1)
      cases ob with
      | none =>
        refine hK d r none (fun b => F b ∨ N b) γ v w' hd hok hk (fun _ h => .inl h) hNB ?_ ((hr.mono hres fun _ _ => rfl).only honly (by simp))
        exact ⟨hheap, h.defers, h.nt, fun k r hl => (h.regs k r hl).mono (fun _ h => .inl h) hFk⟩
      | some o' =>
        obtain ⟨ho1, ho2⟩ := hobj o' rfl
        have hun := hunm rfl
        have hnew : ∀ b, blk (γ' d) = some b → w.heap.size ≤ b := fun b hb => (ho1.blk_lt hb).1
        have hfl := hflat o' rfl
        have hob' : ObRel (fun b => F b ∨ N b) (upd γ d (γ' d)) w' w.heap.size (γ' d) o' := (ho1.mono hres (fun _ _ => rfl) (fun _ _ => rfl)).only hfl
        have hobB : ObRel (fun b => F b ∨ N b) (upd γ d (γ' d)) w' B (γ' d) o' := by
          cases o' with
          | box cs => obtain ⟨b, e, vs, h1, h2, h3⟩ := hob'; exact ⟨b, e, vs, h1, Nat.le_trans h.heap.hB h2, h3⟩
          | row e' s' rows =>
            obtain ⟨h0, hs, xs, hown, h3⟩ := hob'
            refine ⟨h0, hs, xs, ⟨hown.1, ?_⟩, h3⟩
            rcases hown.2 with h | ⟨b, cap, cur, h1, h2, h3⟩
            · exact .inl h
            · exact .inr ⟨b, cap, cur, h1, Nat.le_trans h.heap.hB h2, h3⟩
        have hheap' : HeapRel w0 B (fun b => F b ∨ N b) (upd γ d (γ' d)) (ins d o' s.objs) w' := {
          below := hheap.below
          hB := hheap.hB
          fsz := hheap.fsz
          ob := fun n o ho => by
            rw [look_ins] at ho
            split at ho
            · rename_i e; cases ho; subst e; rw [upd_same]; exact hobB
            · rename_i e
              rw [upd_other _ e]
              exact (hheap.ob n o ho).upd (unm_objs hun n o ho).2
          apart := fun n o ho b hbk hF => by
            rw [look_ins] at ho
            split at ho
            · rename_i e
              rw [e, upd_same] at hbk
              rcases hF with hF | hF
              · have := hnew b hbk
                have := h.heap.fsz b hF
                omega
              · exact ho2 b hbk hF
            · rename_i e
              rw [upd_other _ e] at hbk
              exact hheap.apart n o ho b hbk hF
          sep := fun n m on om hn hm hne b hbn hbm => by
            rw [look_ins] at hn hm
            split at hn
            · rename_i e
              rw [e, upd_same] at hbn
              split at hm
              · rename_i e'; exact hne (e.trans e'.symm)
              · rename_i e'
                rw [upd_other _ e'] at hbm
                have h1 := hnew b hbn
                have h2 := (h.heap.ob m om hm).blk_lt hbm
                omega
            · rename_i e
              rw [upd_other _ e] at hbn
              split at hm
              · rename_i e'
                rw [e', upd_same] at hbm
                have h1 := hnew b hbm
                have h2 := (h.heap.ob n on hn).blk_lt hbn
                omega
              · rename_i e'
                rw [upd_other _ e'] at hbm
                exact h.heap.sep n m on om hn hm hne b hbn hbm }
        refine hK d r (some o') (fun b => F b ∨ N b) (upd γ d (γ' d)) v w' hd hok hk (fun _ h => .inl h) hNB ?_ ((hr.mono hres fun _ _ => rfl).only honly (fun _ => by rw [upd_same]))
        exact ⟨hheap', h.defers, h.nt, fun k r hl => ((h.regs k r hl).mono (fun _ h => .inl h) hFk).upd (unm_regs hun hl)⟩
    · exact hc.elim
  · exact hc.elim

theorem callWp_sound {s : HS} {a : Act} {o : Oper} {K : HS → Prop} (h : Rel w0 B F γ s a w) (hc : callWp P s o K) {Kc : Act → World → Prop} {Q : Exit → Act → World → Prop}
    (hK : ∀ s' F' γ' a' w', K s' → (∀ b, F b → F' b) → (∀ b, F' b → F b ∨ B ≤ b) → Rel w0 B F' γ' s' a' w' → Kc a' w')
    : o.wp P a w Kc Q := by
  refine callW_sound h h.opd hc fun d r ob F' γ' v w' hd hok hk h1 h2 hr hv => ?_
  refine hK _ F' γ' _ _ hk h1 h2 ?_
  rw [hd]
  have hok' : okDst (s.made d ob) (some d) = true := by cases ob <;> exact hok
  exact hr.step (objs' := (s.made d ob).objs) hok' hr.heap hv fun _ _ _ _ h => h
theorem callG_sound {s : HS} {a : Act} {o : Oper} {K : HS → Prop} (h : Rel w0 B F γ s a w) (hc : callG P s true o K) {Kc : Act → World → Prop} {Q : Exit → Act → World → Prop}
    (hK : ∀ s' F' γ' a' w', K s' → (∀ b, F b → F' b) → (∀ b, F' b → F b ∨ B ≤ b) → Rel w0 B F' γ' s' a' w' → Kc a' w')
    : o.wp P a w Kc Q := by
  refine callW_sound h (fun x => strip_rel rfl (h.opd x)) hc fun d r ob F' γ' v w' hd hok hk h1 h2 hr hv => ?_
  obtain ⟨rfl, hk⟩ := hk
  refine hK _ F' γ' _ _ hk h1 h2 ?_
  rw [hd]
  exact hr.step (s := s) (objs' := s.objs) hok hr.heap (gdR_rel (fun _ => hv) (by simp)) fun _ _ _ _ h => h
/-- what the guarded call leaves where it is passed over -/
theorem callG_skip {s : HS} {b : Bool} {o : Oper} {K : HS → Prop} (hc : callG P s b o K) : ∃ r, okDst s o.dst = true ∧ K (s.put o.dst (gdR b r)) := by
  unfold callG callW at hc
  split at hc
  · rename_i x args ts d ho hd
    split at hc
    · obtain ⟨fresh, r, ob, _, _, _, _, _, hok, rfl, hk⟩ := hc
      rw [hd]
      exact ⟨r, hok, hk⟩
    · exact hc.elim
  · exact hc.elim
end
end Go.Hl
