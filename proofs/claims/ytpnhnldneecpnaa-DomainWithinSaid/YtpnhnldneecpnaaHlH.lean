/- HlH: part of an evaluator of Go code over abstract states, proved sound over the model; used by the proof of the claimed statement. Conditions: none. -/
import Derived.Test.YtpnhnldneecpnaaHlG
namespace Go.Hl
open Go Go.RowKit

section
variable {P : Program} {F : Nat → Prop} {γ : Nat → Value} {w w' w0 : World} {B : Nat}

/-- the block of one object is written -/
theorem HeapRel.wrote {objs : List (Nat × Ob)} (h : HeapRel w0 B F γ objs w) {n b : Nat} {o0 ob : Ob} (hn : lkp objs n = some o0) (hbn : blk (γ n) = some b)
    (hb : Below B w0 w') (hsz : w.heap.size ≤ w'.heap.size) (hkeep : ∀ k, k < w.heap.size → k ≠ b → w'.heap[k]? = w.heap[k]?)
    (hob : ObRel F γ w' B (γ n) ob) : HeapRel w0 B F γ (ins n ob objs) w' := by
  have hF : ∀ k, F k → w'.heap[k]? = w.heap[k]? := fun k hk => hkeep k (h.fsz k hk) fun e => h.apart n o0 hn b hbn (e ▸ hk)
  exact {
    below := hb
    hB := Nat.le_trans h.hB hsz
    fsz := fun k hk => Nat.lt_of_lt_of_le (h.fsz k hk) hsz
    ob := fun m o ho => by
      rw [look_ins] at ho
      split at ho
      · rename_i hm; cases ho; subst hm; exact hob
      · rename_i hm
        have h1 := h.ob m o ho
        exact h1.mono (fun _ h => h) hF fun k hk => hkeep k (h1.blk_lt hk).2 fun e => h.sep m n o o0 ho hn hm k hk (e ▸ hbn)
    apart := fun m o ho => by
      rw [look_ins] at ho
      split at ho
      · rename_i hm; cases ho; subst hm; exact h.apart _ o0 hn
      · exact h.apart m o ho
    sep := fun m k om ok hm hk hne => by
      have : ∀ x ox, lkp (ins n ob objs) x = some ox → ∃ oy, lkp objs x = some oy := by
        intro x ox hx
        rw [look_ins] at hx
        split at hx
        · rename_i e; subst e; exact ⟨o0, hn⟩
        · exact ⟨ox, hx⟩
      obtain ⟨om', hm'⟩ := this m om hm
      obtain ⟨ok', hk'⟩ := this k ok hk
      exact h.sep m k om' ok' hm' hk' hne }

theorem HeapRel.less {objs objs' : List (Nat × Ob)} (h : HeapRel w0 B F γ objs w) (hs : ∀ n o, lkp objs' n = some o → lkp objs n = some o) : HeapRel w0 B F γ objs' w where
  below := h.below
  hB := h.hB
  fsz := h.fsz
  ob n o ho := h.ob n o (hs n o ho)
  apart n o ho := h.apart n o (hs n o ho)
  sep n m on om hn hm := h.sep n m on om (hs n on hn) (hs m om hm)

theorem look_del_some {α : Type} {n m : Nat} {l : List (Nat × α)} {o : α} (h : lkp (del n l) m = some o) : m ≠ n ∧ lkp l m = some o := by
  rw [look_del] at h
  split at h
  · cases h
  · rename_i hne; exact ⟨hne, h⟩

/-- an object is used up (its block may be written), and one is made -/
theorem HeapRel.moved {objs : List (Nat × Ob)} (h : HeapRel w0 B F γ objs w) {n d : Nat} {o0 ob : Ob} {x : Value} (hn : lkp objs n = some o0)
    (hd : ∀ n o, lkp objs n = some o → n ≠ d ∧ ¬ o.men d) (hb : Below B w0 w') (hsz : w.heap.size ≤ w'.heap.size)
    (hkeep : ∀ k, k < w.heap.size → blk (γ n) ≠ some k → w'.heap[k]? = w.heap[k]?) (hx : ∀ b, blk x = some b → w.heap.size ≤ b ∨ blk (γ n) = some b)
    (hob : ObRel F (upd γ d x) w' B x ob) : HeapRel w0 B F (upd γ d x) (ins d ob (del n objs)) w' := by
  have hF : ∀ k, F k → w'.heap[k]? = w.heap[k]? := fun k hk => hkeep k (h.fsz k hk) fun e => h.apart n o0 hn k e hk
  exact {
    below := hb
    hB := Nat.le_trans h.hB hsz
    fsz := fun k hk => Nat.lt_of_lt_of_le (h.fsz k hk) hsz
    ob := fun m o ho => by
      rw [look_ins] at ho
      split at ho
      · rename_i hm; cases ho; subst hm; rw [upd_same]; exact hob
      · rename_i hm
        obtain ⟨hne, ho'⟩ := look_del_some ho
        rw [upd_other _ hm]
        have h1 := h.ob m o ho'
        exact (h1.mono (fun _ h => h) hF fun k hk => hkeep k (h1.blk_lt hk).2 fun e => h.sep m n o o0 ho' hn hne k hk e).upd (hd m o ho').2
    apart := fun m o ho b hbk hFb => by
      rw [look_ins] at ho
      split at ho
      · rename_i hm
        rw [hm, upd_same] at hbk
        rcases hx b hbk with h1 | h1
        · have := h.fsz b hFb; omega
        · exact h.apart n o0 hn b h1 hFb
      · rename_i hm
        obtain ⟨hne, ho'⟩ := look_del_some ho
        rw [upd_other _ hm] at hbk
        exact h.apart m o ho' b hbk hFb
    sep := fun m k om ok hm hk hne b hbm hbk => by
      rw [look_ins] at hm hk
      have key : ∀ y oy, lkp (del n objs) y = some oy → y ≠ d → blk x = some b → blk (upd γ d x y) = some b → False := by
        intro y oy hy hyd hxb hyb
        obtain ⟨hyn, hy'⟩ := look_del_some hy
        rw [upd_other _ hyd] at hyb
        rcases hx b hxb with h1 | h1
        · have := (h.ob y oy hy').blk_lt hyb; omega
        · exact h.sep y n oy o0 hy' hn hyn b hyb h1
      split at hm
      · rename_i em
        split at hk
        · rename_i ek; exact hne (em.trans ek.symm)
        · rename_i ek
          rw [em, upd_same] at hbm
          exact key k ok hk ek hbm hbk
      · rename_i em
        split at hk
        · rename_i ek
          rw [ek, upd_same] at hbk
          exact key m om hm em hbk hbm
        · rename_i ek
          rw [upd_other _ em] at hbm
          rw [upd_other _ ek] at hbk
          obtain ⟨_, hm'⟩ := look_del_some hm
          obtain ⟨_, hk'⟩ := look_del_some hk
          exact h.sep m k om ok hm' hk' hne b hbm hbk }

theorem below_setRow {g : Nat} (h : Below B w0 w) (hg : B ≤ g) (cs : Array Value) : Below B w0 (w.setRow g cs) :=
  ⟨h.os, h.tape, h.output, by simpa using h.size, fun k hk => (setRow_other w g k cs (by omega)).trans (h.block k hk)⟩

theorem run_storeVar_of {t : TypeId} {i : TypeInfo} (hi : P.info? t = some i) {v : Value} (hv : v.cells.size = i.size) (h1 : ∀ u ∈ v.cells.toList, u.oneCell' = true)
    {b off : Nat} {e : TypeId} {cur : Array Value} (hb : w.heap[b]? = some (.cells cur e (0, 0))) (hle : off + v.cells.size ≤ cur.size) :
    (storeVar t ⟨b, off, none⟩ v).run P w = .ok () (w.setRow b (cur.toList.take off ++ v.cells.toList ++ cur.toList.drop (off + v.cells.toList.length)).toArray) := by
  have := run_storeCells_at P b off e v.cells.toList 0 cur w hb (by simpa using hle) h1
  simp only [Nat.add_zero] at this
  simp [storeVar, run_sizeOf_of hi, hv, this]
end
end Go.Hl
