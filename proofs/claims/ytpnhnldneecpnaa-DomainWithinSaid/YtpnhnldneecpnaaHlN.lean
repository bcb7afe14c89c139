/- HlN: part of an evaluator of Go code over abstract states, proved sound over the model; used by the proof of the claimed statement. Conditions: none. -/
import Derived.Test.YtpnhnldneecpnaaHlM
namespace Go.Hl
open Go Go.RowKit

/-! ## saying less: names turned, a nil slice as a row of one's own -/
def nilS : Value := .slice none 0 0
def CV.ren (ρ : Nat → Nat) (nils : List Nat) : CV → CV
  | .own n => if nils.contains n then .c (.lit nilS) else .own (ρ n)
  | .at_ n off => if nils.contains n then .at_ n off else .at_ (ρ n) off
  | .el n s i off => if nils.contains n then .el n s i off else .el (ρ n) s i off
  | .fn f caps => .fn f (caps.map fun p => (ρ p.1, p.2))
  | .gd b x => .gd b (x.ren ρ nils)
  | x => x
def TV.ren (ρ : Nat → Nat) (nils : List Nat) : TV → TV
  | .one x => .one (x.ren ρ nils)
  | .agg xs => .agg (xs.map (CV.ren ρ nils))
def RV.ren (ρ : Nat → Nat) (nils : List Nat) : RV → RV
  | .v t => .v (t.ren ρ nils)
  | .tup ts => .tup (ts.map (TV.ren ρ nils))
def Ob.ren (ρ : Nat → Nat) (nils : List Nat) : Ob → Ob
  | .box cs => .box (cs.map (CV.ren ρ nils))
  | .row e s rows => .row e s rows
/-- 'nils' stands in no address and no closure -/
def CV.okNil (nils : List Nat) : CV → Bool
  | .at_ n _ => !nils.contains n
  | .el n _ _ _ => !nils.contains n
  | .fn _ caps => caps.all fun p => !nils.contains p.1
  | .gd _ x => x.okNil nils
  | _ => true
def TV.okNil (nils : List Nat) : TV → Bool
  | .one x => x.okNil nils
  | .agg xs => xs.all (CV.okNil nils)
def RV.okNil (nils : List Nat) : RV → Bool
  | .v t => t.okNil nils
  | .tup ts => ts.all (TV.okNil nils)
def Ob.okNil (nils : List Nat) : Ob → Bool
  | .box cs => cs.all (CV.okNil nils)
  | .row _ _ _ => true

def allL {α : Type} (p : Nat → α → Prop) : List (Nat × α) → Prop
  | [] => True
  | (k, x) :: l => p k x ∧ allL p l
theorem allL_mem {α : Type} {p : Nat → α → Prop} : ∀ {l : List (Nat × α)}, allL p l → ∀ k x, (k, x) ∈ l → p k x
  | (k, x) :: l, h, k', x', hm => by
    rcases List.mem_cons.1 hm with e | hm
    · cases e; exact h.1
    · exact allL_mem h.2 k' x' hm

section
variable {P : Program} {F : Nat → Prop} {γ γ' : Nat → Value} {w w' w0 : World} {B : Nat} {ρ : Nat → Nat} {nils : List Nat}

theorem CVRel.ren (h1 : ∀ n, nils.contains n = false → γ' n = γ (ρ n)) (h2 : ∀ n, nils.contains n = true → γ' n = nilS) {x : CV} {v : Value} (hk : x.okNil nils = true) (h : CVRel F γ w (x.ren ρ nils) v) : CVRel F γ' w x v := by
  induction x with
  | gd b x ih => exact ⟨fun hb => ih hk (h.1 hb), h.2⟩
  | any => trivial
  | c d => exact h
  | own n =>
    simp only [CV.ren] at h
    split at h
    · rename_i hn
      have e : v = nilS := by cases h; rfl
      exact ⟨by rw [h2 n hn, e], none, 0, 0, e⟩
    · rename_i hn
      simp only [CVRel] at *
      rw [h1 n (by simpa using hn)]; exact h
  | at_ n off =>
    simp only [CV.okNil, Bool.not_eq_true'] at hk
    simp only [CV.ren, hk, Bool.false_eq_true, if_false] at h
    simp only [CVRel] at *
    rw [h1 n hk]; exact h
  | el n s i off =>
    simp only [CV.okNil, Bool.not_eq_true'] at hk
    simp only [CV.ren, hk, Bool.false_eq_true, if_false] at h
    simp only [CVRel] at *
    rw [h1 n hk]; exact h
  | fn f caps =>
    simp only [CV.okNil, List.all_eq_true, Bool.not_eq_true'] at hk
    obtain ⟨vs, hv, hl, hc⟩ := h
    refine ⟨vs, hv, by simpa using hl, fun j p u hp hu => ?_⟩
    rw [h1 p.1 (hk p (List.mem_of_getElem? hp))]
    exact hc j (ρ p.1, p.2) u (by simp [hp]) hu
theorem cellsRel.ren (h1 : ∀ n, nils.contains n = false → γ' n = γ (ρ n)) (h2 : ∀ n, nils.contains n = true → γ' n = nilS) {xs : List CV} {vs : Array Value} (hk : xs.all (CV.okNil nils) = true)
    (h : cellsRel F γ w (xs.map (CV.ren ρ nils)) vs) : cellsRel F γ' w xs vs := by
  refine ⟨by simpa using h.1, fun j x u hx hu => ?_⟩
  rw [List.all_eq_true] at hk
  exact (h.2 j (x.ren ρ nils) u (by simp [hx]) hu).ren h1 h2 (hk x (List.mem_of_getElem? hx))
theorem TVRel.ren (h1 : ∀ n, nils.contains n = false → γ' n = γ (ρ n)) (h2 : ∀ n, nils.contains n = true → γ' n = nilS) {x : TV} {v : Value} (hk : x.okNil nils = true) (h : TVRel F γ w (x.ren ρ nils) v) : TVRel F γ' w x v := by
  cases x with
  | one x => exact CVRel.ren h1 h2 hk h
  | agg xs => obtain ⟨vs, rfl, hc⟩ := h; exact ⟨vs, rfl, hc.ren h1 h2 hk⟩
theorem RVRel.ren (h1 : ∀ n, nils.contains n = false → γ' n = γ (ρ n)) (h2 : ∀ n, nils.contains n = true → γ' n = nilS) {x : RV} {v : Value} (hk : x.okNil nils = true) (h : RVRel F γ w (x.ren ρ nils) v) : RVRel F γ' w x v := by
  cases x with
  | v t => exact TVRel.ren h1 h2 hk h
  | tup ts =>
    obtain ⟨vs, rfl, hs, hc⟩ := h
    refine ⟨vs, rfl, by simpa using hs, fun j t u ht hu => ?_⟩
    simp only [RV.okNil, List.all_eq_true] at hk
    exact (hc j (t.ren ρ nils) u (by simp [ht]) hu).ren h1 h2 (hk t (List.mem_of_getElem? ht))

theorem le_mk {s s' : HS} (ρ : Nat → Nat) (nils : List Nat) (hn : s'.nt = s.nt)
    (hr : allL (fun k r => r.okNil nils = true ∧ opd s.regs (.tmp k) = r.ren ρ nils) s'.regs)
    (ho : allL (fun n o => if nils.contains n then (match o with | .row _ sz [] => 0 < sz | _ => False) else o.okNil nils = true ∧ lkp s.objs (ρ n) = some (o.ren ρ nils)) s'.objs)
    (hi : allL (fun n _ => allL (fun m _ => n = m ∨ ρ n ≠ ρ m ∨ nils.contains n = true ∨ nils.contains m = true) s'.objs) s'.objs) : le s s' := by
  intro w0 B F γ a w h
  let γ' : Nat → Value := fun n => if nils.contains n then nilS else γ (ρ n)
  have h1 : ∀ n, nils.contains n = false → γ' n = γ (ρ n) := fun n h => by simp only [γ', h]; rfl
  have h2 : ∀ n, nils.contains n = true → γ' n = nilS := fun n h => by simp only [γ', h, if_true]
  have hobj : ∀ n o, lkp s'.objs n = some o → (nils.contains n = true ∧ ∃ e sz, o = .row e sz [] ∧ 0 < sz) ∨ (nils.contains n = false ∧ o.okNil nils = true ∧ lkp s.objs (ρ n) = some (o.ren ρ nils)) := by
    intro n o hl
    have := allL_mem ho n o (look_mem hl)
    split at this
    · rename_i hc
      refine .inl ⟨hc, ?_⟩
      split at this
      · exact ⟨_, _, rfl, this⟩
      · exact this.elim
    · rename_i hc
      exact .inr ⟨by simpa using hc, this⟩
  refine ⟨F, γ', fun _ h => h, fun _ h => .inl h, ⟨⟨h.heap.below, h.heap.hB, h.heap.fsz, ?_, ?_, ?_⟩, h.defers, h.nt.trans hn.symm, ?_⟩⟩
  · intro n o hl
    rcases hobj n o hl with ⟨hc, e, sz, rfl, hsz⟩ | ⟨hc, hok, hl'⟩
    · rw [h2 n hc]
      exact ⟨hsz, by simp, [], World.ownsRow_nil w B e sz, by simp, by simp [getRC]⟩
    · have := h.heap.ob _ _ hl'
      rw [h1 n hc]
      cases o with
      | box cs =>
        obtain ⟨b, e, vs, hx, hB, hh, hc'⟩ := this
        exact ⟨b, e, vs, hx, hB, hh, hc'.ren h1 h2 hok⟩
      | row e sz rows => exact this
  · intro n o hl b hb
    rcases hobj n o hl with ⟨hc, _⟩ | ⟨hc, hok, hl'⟩
    · rw [h2 n hc] at hb; simp [blk, nilS] at hb
    · rw [h1 n hc] at hb
      exact h.heap.apart _ _ hl' b hb
  · intro n m on om hln hlm hne b hbn hbm
    rcases hobj n on hln with ⟨hc, _⟩ | ⟨hc, hok, hl'⟩
    · rw [h2 n hc] at hbn; simp [blk, nilS] at hbn
    · rcases hobj m om hlm with ⟨hc2, _⟩ | ⟨hc2, hok2, hl2⟩
      · rw [h2 m hc2] at hbm; simp [blk, nilS] at hbm
      · rw [h1 n hc] at hbn
        rw [h1 m hc2] at hbm
        have := allL_mem (allL_mem hi n on (look_mem hln)) m om (look_mem hlm)
        rcases this with h3 | h3 | h3 | h3
        · exact hne h3
        · exact h.heap.sep _ _ _ _ hl' hl2 h3 b hbn hbm
        · rw [hc] at h3; cases h3
        · rw [hc2] at h3; cases h3
  · intro k r hl
    obtain ⟨hok, he⟩ := allL_mem hr k r (look_mem hl)
    have := h.opd (.tmp k)
    rw [he] at this
    exact this.ren h1 h2 hok

theorem le_trans {s s' s'' : HS} (h : le s s') (h' : le s' s'') : le s s'' := by
  intro w0 B F γ a w hr
  obtain ⟨F1, γ1, a1, a2, hr1⟩ := h w0 B F γ a w hr
  obtain ⟨F2, γ2, b1, b2, hr2⟩ := h' w0 B F1 γ1 a w hr1
  exact ⟨F2, γ2, fun b hb => b1 b (a1 b hb), fun b hb => (b2 b hb).elim (a2 b) .inr, hr2⟩
theorem le_refl (s : HS) : le s s := fun _ _ F γ _ _ hr => ⟨F, γ, fun _ h => h, fun _ h => .inl h, hr⟩

/-- a nil slice as data -/
theorem le_nil {s : HS} (k sz : Nat) (h : opd s.regs (.tmp k) = .v (.one (.c (.lit nilS)))) (hk : k < s.nt) : le s (s.put (some k) (.v (.one (.c (.sl sz []))))) := by
  intro w0 B F γ a w hr
  refine ⟨F, γ, fun _ h => h, fun _ h => .inl h, hr.heap, hr.defers, hr.nt, fun j r hl => ?_⟩
  simp only [HS.put] at hl
  rw [look_ins] at hl
  split at hl
  · rename_i e
    cases hl
    subst e
    have hx := hr.opd (.tmp j)
    rw [h] at hx
    have hv : a.eval (.tmp j) = nilS := RVRel.lit_eq rfl hx
    have : a.tmps.getD j undef = nilS := hv
    rw [this]
    exact CRel.nil sz
  · exact hr.regs j r hl

/-! ## a row of one's own as data that is written no more -/
def CV.frz (n s : Nat) (rows : List (List CD)) : CV → CV
  | .own m => if m = n then .c (.sl s rows) else .own m
  | .at_ m off => if m = n then .any else .at_ m off
  | .el m s' i off => if m = n then .any else .el m s' i off
  | .fn f caps => if caps.any (fun p => p.1 == n) then .any else .fn f caps
  | .gd b x => .gd b (x.frz n s rows)
  | x => x
def TV.frz (n s : Nat) (rows : List (List CD)) : TV → TV
  | .one x => .one (x.frz n s rows)
  | .agg xs => .agg (xs.map (CV.frz n s rows))
def RV.frz (n s : Nat) (rows : List (List CD)) : RV → RV
  | .v t => .v (t.frz n s rows)
  | .tup ts => .tup (ts.map (TV.frz n s rows))
def Ob.frz (n s : Nat) (rows : List (List CD)) : Ob → Ob
  | .box cs => .box (cs.map (CV.frz n s rows))
  | .row e s rows => .row e s rows
def mapL {α β : Type} (f : α → β) : List (Nat × α) → List (Nat × β)
  | [] => []
  | (k, x) :: l => (k, f x) :: mapL f l
theorem look_mapL {α β : Type} (f : α → β) (n : Nat) : ∀ l : List (Nat × α), lkp (mapL f l) n = (lkp l n).map f
  | [] => rfl
  | (k, x) :: l => by
    simp only [mapL, lkp]
    split
    · rfl
    · exact look_mapL f n l

theorem CVRel.frz {n s : Nat} {rows : List (List CD)} {G : Nat → Prop} (hG : ∀ b, F b → G b) (hn : CRel G w (.sl s rows) (γ n)) {x : CV} {v : Value} (h : CVRel F γ w x v) : CVRel G γ w (x.frz n s rows) v := by
  induction x with
  | gd b x ih => exact ⟨fun hb => ih (h.1 hb), h.2⟩
  | any => trivial
  | c d => exact CRel.mono hG (fun _ _ => rfl) h
  | own m =>
    simp only [CV.frz]
    split
    · rename_i e; subst e; rw [h.1]; exact hn
    · exact h
  | at_ m off =>
    simp only [CV.frz]
    split
    · trivial
    · exact h
  | el m s' i off =>
    simp only [CV.frz]
    split
    · trivial
    · exact h
  | fn f caps =>
    simp only [CV.frz]
    split
    · trivial
    · exact h
theorem cellsRel.frz {n s : Nat} {rows : List (List CD)} {G : Nat → Prop} (hG : ∀ b, F b → G b) (hn : CRel G w (.sl s rows) (γ n)) {xs : List CV} {vs : Array Value} (h : cellsRel F γ w xs vs) : cellsRel G γ w (xs.map (CV.frz n s rows)) vs := by
  refine ⟨by simpa using h.1, fun j x u hx hu => ?_⟩
  rw [List.getElem?_map] at hx
  simp only [Option.map_eq_some_iff] at hx
  obtain ⟨y, hy, rfl⟩ := hx
  exact (h.2 j y u hy hu).frz hG hn
theorem RVRel.frz {n s : Nat} {rows : List (List CD)} {G : Nat → Prop} (hG : ∀ b, F b → G b) (hn : CRel G w (.sl s rows) (γ n)) {x : RV} {v : Value} (h : RVRel F γ w x v) : RVRel G γ w (x.frz n s rows) v := by
  have ht : ∀ (t : TV) v, TVRel F γ w t v → TVRel G γ w (t.frz n s rows) v := by
    intro t v h
    cases t with
    | one x => exact CVRel.frz hG hn h
    | agg xs => obtain ⟨vs, rfl, hc⟩ := h; exact ⟨vs, rfl, hc.frz hG hn⟩
  cases x with
  | v t => exact ht t v h
  | tup ts =>
    obtain ⟨vs, rfl, hs, hc⟩ := h
    refine ⟨vs, rfl, by simpa using hs, fun j t u htt hu => ?_⟩
    rw [List.getElem?_map] at htt
    simp only [Option.map_eq_some_iff] at htt
    obtain ⟨y, hy, rfl⟩ := htt
    exact ht _ _ (hc j y u hy hu)

def HS.frz (x : HS) (n s : Nat) (rows : List (List CD)) : HS :=
  { x with regs := mapL (RV.frz n s rows) x.regs, objs := mapL (Ob.frz n s rows) (del n x.objs) }

theorem le_frz {x : HS} (n : Nat) {e : TypeId} {s : Nat} {rows : List (List CD)} (h : lkp x.objs n = some (.row e s rows)) : le x (x.frz n s rows) := by
  intro w0 B F γ a w hr
  have hob := hr.heap.ob n _ h
  let G : Nat → Prop := fun b => F b ∨ blk (γ n) = some b
  have hG : ∀ b, F b → G b := fun _ h => .inl h
  have hn : CRel G w (.sl s rows) (γ n) := row_data hob hG fun b hb => .inr hb
  have hlk : ∀ m o, lkp (x.frz n s rows).objs m = some o → m ≠ n ∧ ∃ o0, lkp x.objs m = some o0 ∧ o = o0.frz n s rows := by
    intro m o hl
    simp only [HS.frz] at hl
    rw [look_mapL] at hl
    simp only [Option.map_eq_some_iff] at hl
    obtain ⟨o0, ho0, rfl⟩ := hl
    obtain ⟨h1, h2⟩ := look_del_some ho0
    exact ⟨h1, o0, h2, rfl⟩
  refine ⟨G, γ, hG, ?_, ⟨⟨hr.heap.below, hr.heap.hB, ?_, ?_, ?_, ?_⟩, hr.defers, hr.nt, ?_⟩⟩
  · rintro b (hb | hb)
    · exact .inl hb
    · exact .inr (hob.blk_lt hb).1
  · rintro b (hb | hb)
    · exact hr.heap.fsz b hb
    · exact (hob.blk_lt hb).2
  · intro m o hl
    obtain ⟨hne, o0, h0, rfl⟩ := hlk m o hl
    have := hr.heap.ob m o0 h0
    cases o0 with
    | box cs => obtain ⟨b, e', vs, h1, h2, h3, h4⟩ := this; exact ⟨b, e', vs, h1, h2, h3, h4.frz hG hn⟩
    | row e' s' rows' =>
      obtain ⟨h0', hs, xs, hown, h1, hc⟩ := this
      exact ⟨h0', hs, xs, hown, h1, fun i j d hd => let ⟨u, hu, hr'⟩ := hc i j d hd; ⟨u, hu, hr'.mono hG fun _ _ => rfl⟩⟩
  · rintro m o hl b hb (hF | hF)
    · obtain ⟨hne, o0, h0, rfl⟩ := hlk m o hl
      exact hr.heap.apart m o0 h0 b hb hF
    · obtain ⟨hne, o0, h0, rfl⟩ := hlk m o hl
      exact hr.heap.sep m n o0 _ h0 h hne b hb hF
  · intro m k om ok hlm hlk' hne
    obtain ⟨_, o1, h1, _⟩ := hlk m om hlm
    obtain ⟨_, o2, h2, _⟩ := hlk k ok hlk'
    exact hr.heap.sep m k o1 o2 h1 h2 hne
  · intro k r hl
    simp only [HS.frz] at hl
    rw [look_mapL] at hl
    simp only [Option.map_eq_some_iff] at hl
    obtain ⟨r0, hr0, rfl⟩ := hl
    exact (hr.regs k r0 hr0).frz hG hn
end
end Go.Hl
