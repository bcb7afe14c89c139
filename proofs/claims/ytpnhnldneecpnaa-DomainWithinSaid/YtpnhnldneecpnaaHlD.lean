/- HlD: part of an evaluator of Go code over abstract states, proved sound over the model; used by the proof of the claimed statement. Conditions: none. -/
import Derived.Test.YtpnhnldneecpnaaHlE
namespace Go.Hl
open Go Go.RowKit

/-! ## names that a value mentions -/
def CV.men (d : Nat) : CV → Prop
  | .own n => n = d
  | .at_ n _ => n = d
  | .el n _ _ _ => n = d
  | .fn _ caps => ∃ p ∈ caps, p.1 = d
  | .gd _ x => x.men d
  | _ => False
def TV.men (d : Nat) : TV → Prop
  | .one x => x.men d
  | .agg xs => ∃ x ∈ xs, x.men d
def RV.men (d : Nat) : RV → Prop
  | .v t => t.men d
  | .tup ts => ∃ t ∈ ts, t.men d
def Ob.men (d : Nat) : Ob → Prop
  | .box cs => ∃ x ∈ cs, x.men d
  | .row _ _ _ => False

def upd (γ : Nat → Value) (d : Nat) (x : Value) : Nat → Value := fun n => if n = d then x else γ n
theorem upd_same (γ : Nat → Value) (d : Nat) (x : Value) : upd γ d x d = x := by simp [upd]
theorem upd_other {γ : Nat → Value} {d n : Nat} (x : Value) (h : n ≠ d) : upd γ d x n = γ n := by simp [upd, h]

section
variable {P : Program} {F : Nat → Prop} {γ : Nat → Value} {w w' w0 : World} {B : Nat}

theorem CVRel.upd {d : Nat} {y : Value} {x : CV} {v : Value} (hm : ¬ x.men d) (h : CVRel F γ w x v) : CVRel F (upd γ d y) w x v := by
  induction x with
  | gd b x ih => exact ⟨fun hb => ih hm (h.1 hb), h.2⟩
  | any => exact h
  | c d => exact h
  | own n => simp only [CVRel] at *; rw [upd_other _ hm]; exact h
  | at_ n off => simp only [CVRel] at *; rw [upd_other _ hm]; exact h
  | el n s i off => simp only [CVRel] at *; rw [upd_other _ hm]; exact h
  | fn f caps =>
    obtain ⟨vs, hv, hl, hc⟩ := h
    refine ⟨vs, hv, hl, fun j p u hp hu => ?_⟩
    rw [upd_other _ (fun e => hm ⟨p, List.mem_of_getElem? hp, e⟩)]
    exact hc j p u hp hu
theorem cellsRel.upd {d : Nat} {y : Value} {xs : List CV} {vs : Array Value} (hm : ¬ ∃ x ∈ xs, x.men d) (h : cellsRel F γ w xs vs) : cellsRel F (upd γ d y) w xs vs :=
  ⟨h.1, fun j x u hx hu => (h.2 j x u hx hu).upd fun hd => hm ⟨x, List.mem_of_getElem? hx, hd⟩⟩
theorem TVRel.upd {d : Nat} {y : Value} {x : TV} {v : Value} (hm : ¬ x.men d) (h : TVRel F γ w x v) : TVRel F (upd γ d y) w x v := by
  cases x with
  | one x => exact CVRel.upd hm h
  | agg xs => obtain ⟨vs, rfl, hc⟩ := h; exact ⟨vs, rfl, hc.upd hm⟩
theorem RVRel.upd {d : Nat} {y : Value} {x : RV} {v : Value} (hm : ¬ x.men d) (h : RVRel F γ w x v) : RVRel F (upd γ d y) w x v := by
  cases x with
  | v t => exact TVRel.upd hm h
  | tup ts =>
    obtain ⟨vs, rfl, hs, hc⟩ := h
    exact ⟨vs, rfl, hs, fun j t u ht hu => (hc j t u ht hu).upd fun hd => hm ⟨t, List.mem_of_getElem? ht, hd⟩⟩
theorem ObRel.upd {d : Nat} {y x : Value} {o : Ob} (hm : ¬ o.men d) (h : ObRel F γ w B x o) : ObRel F (upd γ d y) w B x o := by
  cases o with
  | box cs => obtain ⟨b, e, vs, rfl, hb, hh, hc⟩ := h; exact ⟨b, e, vs, rfl, hb, hh, hc.upd hm⟩
  | row e s rows => exact h

theorem ObRel.blk_lt {x : Value} {o : Ob} (h : ObRel F γ w B x o) {b : Nat} (hb : blk x = some b) : B ≤ b ∧ b < w.heap.size := by
  cases o with
  | box cs =>
    obtain ⟨g, e, vs, rfl, hg, hh, hc⟩ := h
    simp only [blk, Option.some.injEq] at hb
    subst hb
    exact ⟨hg, by rcases Nat.lt_or_ge g w.heap.size with h | h; exact h; simp [Array.getElem?_eq_none h] at hh⟩
  | row e s rows =>
    obtain ⟨h0, hs, xs, hown, _⟩ := h
    rcases hown.2 with ⟨rfl, _⟩ | ⟨g, cap, cur, rfl, hg, hh, rest⟩
    · simp [blk] at hb
    · simp only [blk, Option.some.injEq] at hb
      subst hb
      exact ⟨hg, by rcases Nat.lt_or_ge g w.heap.size with h | h; exact h; simp [Array.getElem?_eq_none h] at hh⟩

/-- a new block that is named -/
theorem HeapRel.made {objs : List (Nat × Ob)} (h : HeapRel w0 B F γ objs w) {d : Nat} {x : Value} {ob : Ob}
    (hd : ∀ n o, lkp objs n = some o → n ≠ d ∧ ¬ o.men d) (hb : Below B w0 w') (hsz : w.heap.size ≤ w'.heap.size)
    (hkeep : ∀ b, b < w.heap.size → w'.heap[b]? = w.heap[b]?) (hx : ∀ b, blk x = some b → w.heap.size ≤ b)
    (hob : ObRel F (upd γ d x) w' B x ob) : HeapRel w0 B F (upd γ d x) (ins d ob objs) w' where
  below := hb
  hB := Nat.le_trans h.hB hsz
  fsz b hF := Nat.lt_of_lt_of_le (h.fsz b hF) hsz
  ob n o ho := by
    rw [look_ins] at ho
    split at ho
    · rename_i hn
      cases ho
      subst hn
      rw [upd_same]; exact hob
    · rename_i hn
      rw [upd_other _ hn]
      have h1 := h.ob n o ho
      exact (h1.mono (fun _ h => h) (fun b hF => hkeep b (h.fsz b hF)) (fun b hbk => hkeep b (h1.blk_lt hbk).2)).upd (hd n o ho).2
  apart n o ho b hbk hF := by
    rw [look_ins] at ho
    split at ho
    · rename_i hn
      rw [hn, upd_same] at hbk
      have := hx b hbk
      have := h.fsz b hF
      omega
    · rename_i hn
      rw [upd_other _ hn] at hbk
      exact h.apart n o ho b hbk hF
  sep n m on om hn hm hne b hbn hbm := by
    rw [look_ins] at hn hm
    split at hn
    · rename_i en
      rw [en, upd_same] at hbn
      split at hm
      · rename_i em; exact hne (en.trans em.symm)
      · rename_i em
        rw [upd_other _ em] at hbm
        have h1 := (h.ob m om hm).blk_lt hbm
        have h2 := hx b hbn
        omega
    · rename_i en
      rw [upd_other _ en] at hbn
      split at hm
      · rename_i em
        rw [em, upd_same] at hbm
        have h1 := (h.ob n on hn).blk_lt hbn
        have h2 := hx b hbm
        omega
      · rename_i em
        rw [upd_other _ em] at hbm
        exact h.sep n m on om hn hm hne b hbn hbm

theorem HeapRel.drew {objs : List (Nat × Ob)} (h : HeapRel w0 B F γ objs w) : HeapRel w0 B F γ objs w.drew where
  below := h.below.drew
  hB := h.hB
  fsz := h.fsz
  ob n o ho := (h.ob n o ho).mono (w := w) (w' := w.drew) (fun _ h => h) (fun _ _ => rfl) (fun _ _ => rfl)
  apart := h.apart
  sep := h.sep

theorem add_mk (b o k : Nat) : (⟨b, o, none⟩ : Addr).add k = ⟨b, o + k, none⟩ := by
  unfold Addr.add
  split
  · rename_i h; simp [h]
  · rfl

theorem run_fieldAt_of {s : TypeId} {f : Nat} {fs : Array Field} {fd : Field} {i : TypeInfo} (hu : P.underlying s = some (.struct fs)) (hfd : fs[f]? = some fd)
    (hi : P.info? fd.type = some i) (hne : ¬ i.size = 0) (b o : Nat) : (Instr.fieldAt s (.pointer (some ⟨b, o, none⟩)) f).run P w = .ok (.pointer (some ⟨b, o + fd.offset, none⟩)) w := by
  have hlt : f < fs.size := by
    rcases Nat.lt_or_ge f fs.size with h | h
    · exact h
    · simp [Array.getElem?_eq_none h] at hfd
  have hfd' : fs[f] = fd := by simpa [hlt] using hfd
  simp [Instr.fieldAt, run_underlying hu, hlt, hfd', Instr.sureAddr, fieldPlace, run_sizeOf_of hi, hne, add_mk]

/-! ## neutral operations -/
theorem evN_sound {ρ : Operand → Value} {g : Operand → RV} {o : Oper} {r : RV} {ob : Option Ob} (hg : ∀ x, RVRel F γ w (g x) (ρ x)) (h : evN P g o.op = some (r, ob)) :
    ob = none ∧ ∃ v, (execOp ρ o).run P w = .ok (.value v) w ∧ RVRel F γ w r v := by
  unfold execOp
  generalize o.op = op at *
  cases op <;> simp only [evN] at h
  case move x => cases h; exact ⟨rfl, _, rfl, hg x⟩
  case assign x => cases h; exact ⟨rfl, _, rfl, hg x⟩
  case pick c a b =>
    split at h
    · rename_i t hc
      have ec := RVRel.lit_eq hc (hg c)
      split at h
      · rename_i fa x fb y hx hy
        split at h
        · rename_i hf
          cases h
          refine ⟨rfl, .bool (pickB t x y), ?_, RVRel.mkLit _⟩
          cases t with
          | true =>
            have ex := RVRel.litG_eq hx (by simpa [impB] using hf) (hg a)
            simp only [ec, ex, pickB_true]
            simp [asBool]
          | false =>
            have ey := RVRel.litG_eq hy (by simpa [impB] using hf) (hg b)
            simp only [ec, ey, pickB_false]
            simp [asBool]
        · cases h
      · cases h
        refine ⟨rfl, if t = true then ρ a else ρ b, ?_, ?_⟩
        · simp only [ec]; cases t <;> simp [asBool]
        · cases t
          · exact hg b
          · exact hg a
    · cases h
  case fieldAddr s x f =>
    split at h
    · rename_i off t hf
      split at h
      · rename_i ti hti
        split at h
        · rename_i hpos
          obtain ⟨fs, fd, hu, hfd, rfl, rfl⟩ := fieldOf_some hf
          obtain ⟨i, d, z, hi, hd, hz, h1, h2, h3, h4, h5⟩ := tyOf_some hti
          have hne : ¬ i.size = 0 := by omega
          have hx := hg x
          split at h
          · rename_i n o' hgx
            cases h
            rw [hgx] at hx
            obtain ⟨b, hb, hv⟩ := hx
            refine ⟨rfl, .pointer (some ⟨b, o' + fd.offset, none⟩), ?_, ⟨b, hb, rfl⟩⟩
            simp [hv, run_fieldAt_of hu hfd hi hne]
          · rename_i n s' i' o' hgx
            cases h
            rw [hgx] at hx
            obtain ⟨b, len, cap, hb, hv⟩ := hx
            refine ⟨rfl, .pointer (some ⟨b, i' * s' + (o' + fd.offset), none⟩), ?_, ⟨b, len, cap, hb, rfl⟩⟩
            simp [hv, run_fieldAt_of hu hfd hi hne, Nat.add_assoc]
          · rename_i cs hgx
            cases h
            rw [hgx] at hx
            obtain ⟨b, o', cells, hv, hF, hc, h1', hr⟩ := CRel.ptr_inv (show CRel F w (.ptr cs) (ρ x) from hx)
            · refine ⟨rfl, .pointer (some ⟨b, o' + fd.offset, none⟩), ?_, ?_⟩
              · simp [hv, run_fieldAt_of hu hfd hi hne]
              · refine CRel.ptr _ b _ (fun j => cells (fd.offset + j)) hF ?_ ?_ ?_
                · intro j d hj
                  rw [List.getElem?_drop] at hj
                  rw [Nat.add_assoc]
                  exact hc _ d hj
                · intro j d hj
                  rw [List.getElem?_drop] at hj
                  exact h1' _ d hj
                · intro j d hj
                  rw [List.getElem?_drop] at hj
                  exact hr _ d hj
          · cases h
        · cases h
      · cases h
    · cases h
  case field t x f =>
    split at h
    · rename_i off t' hf
      split at h
      · rename_i ti xs hti hgx
        simp only [Option.map_eq_some_iff] at h
        obtain ⟨r', hr', he⟩ := h
        cases he
        obtain ⟨fs, fd, hu, hfd, rfl, rfl⟩ := fieldOf_some hf
        have hx := hg x
        rw [hgx] at hx
        obtain ⟨vs, hv, hc⟩ := hx
        obtain ⟨v, hrun, hrel⟩ := partOf_sound hti hc hr'
        refine ⟨rfl, v, ?_, hrel⟩
        have hlt : f < fs.size := by
          rcases Nat.lt_or_ge f fs.size with h | h
          · exact h
          · simp [Array.getElem?_eq_none h] at hfd
        have hfd' : fs[f] = fd := by simpa [hlt] using hfd
        simp [hv, Instr.field, run_underlying hu, hlt, hfd', asAgg, hrun]
      · cases h
    · cases h
  case extract x i =>
    split at h
    · rename_i ts hgx
      simp only [Option.map_eq_some_iff] at h
      obtain ⟨t, ht, he⟩ := h
      cases he
      have hx := hg x
      rw [hgx] at hx
      obtain ⟨vs, hv, hs, hc⟩ := hx
      have hlt : i < vs.size := by rw [hs]; exact (List.getElem?_eq_some_iff.1 ht).1
      refine ⟨rfl, vs[i], ?_, hc i t _ ht (by simp [hlt])⟩
      simp [hv, Instr.extract, hlt]
    · cases h
  case binOp op t x y t' =>
    split at h
    · rename_i a b ha hb
      simp only [Option.map_eq_some_iff] at h
      obtain ⟨v, hv, he⟩ := h
      cases he
      have ea := RVRel.lit_eq ha (hg x)
      have eb := RVRel.lit_eq hb (hg y)
      refine ⟨rfl, v, ?_, RVRel.mkLit _⟩
      have := evBin_sound (P := P) (w := w) t hv x y
      show (do let v ← (do eqGuard op t x y (ρ x) (ρ y); binOp op t (ρ x) (ρ y) : Sem Value); pure (Next.value v) : Sem Next).run P w = _
      rw [ea, eb, Sem.run_bind, this]
      rfl
    · cases h
  case unOp op t x =>
    split at h
    · rename_i a ha
      simp only [Option.map_eq_some_iff] at h
      obtain ⟨v, hv, he⟩ := h
      cases he
      have ea := RVRel.lit_eq ha (hg x)
      refine ⟨rfl, v, ?_, RVRel.mkLit _⟩
      simp only [ea]
      cases op <;> cases a <;> simp [evUn] at hv <;> subst hv <;> simp [Op.unary, Op.intArith]
    · cases h
  case build t parts =>
    split at h
    · rename_i ti hti
      split at h
      · rename_i hcond
        split at h
        · rename_i cs hcs
          cases h
          obtain ⟨v, hrun, hr⟩ := build_sound hti hg hcond.1 hcond.2 hcs
          refine ⟨rfl, v, ?_, hr⟩
          show (do let v ← Instr.build t (parts.map fun (x : Nat × Operand) => (x.1, ρ x.2)); pure (Next.value v) : Sem Next).run P w = _
          rw [Sem.run_bind, hrun]
          rfl
        · cases h
      · cases h
    · cases h
  case call c =>
    obtain ⟨callee, args, ts⟩ := c
    cases callee with
    | value f => simp [evN] at h
    | invoke f m => simp [evN] at h
    | builtin b =>
      cases b <;> simp only [evN] at h <;> try cases h
      · split at h
        · rename_i x y hxy
          split at h
          · rename_i k a k' b hx hy
            split at h
            · rename_i hk
              subst hk
              cases h
              have ex := RVRel.lit_eq hx (hg x)
              have ey := RVRel.lit_eq hy (hg y)
              refine ⟨rfl, _, ?_, RVRel.mkLit _⟩
              simp [resolve, invoke, builtin, Builtin.max_, Builtin.max2, hxy, ex, ey]
            · cases h
          · cases h
        · cases h
      · split at h
        · rename_i x y hxy
          split at h
          · rename_i k a k' b hx hy
            split at h
            · rename_i hk
              subst hk
              cases h
              have ex := RVRel.lit_eq hx (hg x)
              have ey := RVRel.lit_eq hy (hg y)
              refine ⟨rfl, _, ?_, RVRel.mkLit _⟩
              simp [resolve, invoke, builtin, Builtin.min_, Builtin.min2, hxy, ex, ey]
            · cases h
          · cases h
        · cases h
  all_goals cases h
end
end Go.Hl
