/- HlG: part of an evaluator of Go code over abstract states, proved sound over the model; used by the proof of the claimed statement. Conditions: none. -/
import Derived.Test.YtpnhnldneecpnaaHlF
namespace Go.Hl
open Go Go.RowKit

section
variable {P : Program} {F : Nat → Prop} {γ : Nat → Value} {w w' w0 : World} {B : Nat}

/-- memory at which the cells 'xs' lie -/
theorem load_of_cells {t : TypeId} {ti : TI} (hti : tyOf P t = some ti) {b o : Nat} {cells : Nat → Value} {xs : List CV} {r : RV}
    (hc : ∀ (j : Nat) x, xs[j]? = some x → w.cell? ⟨b, o + j, none⟩ = some (cells j)) (hr : ∀ (j : Nat) x, xs[j]? = some x → CVRel F γ w x (cells j))
    {off : Nat} (h : partOf ti xs off = some r) : ∃ v, (loadVar t ⟨b, o + off, none⟩).run P w = .ok v w ∧ RVRel F γ w r v := by
  obtain ⟨i, d, z, hi, hd, hz, h1, h2, h3, h4, h5⟩ := tyOf_some hti
  unfold partOf at h
  unfold loadVar
  by_cases ha : ti.agg = true
  · rw [if_pos ha] at h
    by_cases hle : off + ti.size ≤ xs.length
    · rw [if_pos hle] at h
      cases h
      have hcs : (loadCells ⟨b, o + off, none⟩ ti.size).run P w = .ok ((List.range ti.size).map fun j => cells (off + j)).toArray w := by
        refine run_loadCells (P := P) w _ _ (fun j => cells (off + j)) fun j hj => ?_
        rw [add_mk, Nat.add_assoc]
        exact hc (off + j) xs[off + j] (by simp)
      refine ⟨.agg ((List.range ti.size).map fun j => cells (off + j)).toArray, ?_, _, rfl, by simp; omega, fun j x u hx hu => ?_⟩
      · simp [run_isAgg_of hd, ← h3, ha, run_sizeOf_of hi, h1, hcs]
      · rw [List.getElem?_take] at hx
        split at hx
        · rw [List.getElem?_drop] at hx
          rename_i hj
          simp [hj] at hu
          subst hu
          exact hr _ x hx
        · cases hx
    · rw [if_neg hle] at h; cases h
  · rw [if_neg ha] at h
    cases hx : xs[off]? with
    | none => simp [hx] at h
    | some x =>
      simp only [hx] at h
      cases h
      refine ⟨cells off, ?_, hr off x hx⟩
      simp [run_isAgg_of hd, ← h3, ha, hc off x hx]

theorem evR_sound {objs : List (Nat × Ob)} {g : Operand → RV} {ρ : Operand → Value} {o : Oper} {r : RV} (hh : HeapRel w0 B F γ objs w)
    (hg : ∀ x, RVRel F γ w (g x) (ρ x)) (h : evR P objs g o.op = some r) :
    ∃ v, (execOp ρ o).run P w = .ok (.value v) w ∧ RVRel F γ w r v := by
  unfold execOp
  generalize o.op = op at *
  unfold evR at h
  split at h
  · -- load
    rename_i t x
    have hx := hg x
    split at h
    · rename_i ti n off hti hgx
      rw [hgx] at hx
      obtain ⟨b, hb, hv⟩ := hx
      split at h
      · rename_i cs hl
        obtain ⟨b', e, vs, hb', hB, hh', hc⟩ := hh.ob n _ hl
        rw [hb] at hb'
        cases hb'
        obtain ⟨v, hrun, hrel⟩ := load_of_cells (F := F) (γ := γ) (w := w) hti (b := b) (o := 0) (cells := fun j => vs.getD j undef) (xs := cs) (fun j x hx => by
          have hlt : j < vs.size := by rw [hc.1]; exact (List.getElem?_eq_some_iff.1 hx).1
          rw [cell_of_row w b _ vs e (0, 0) hh']; simp [hlt]) (fun j x hx => by
          have hlt : j < vs.size := by rw [hc.1]; exact (List.getElem?_eq_some_iff.1 hx).1
          exact hc.2 j x _ hx (by simp [hlt])) h
        refine ⟨v, ?_, hrel⟩
        rw [Nat.zero_add] at hrun
        simp [hv, Instr.loadAt, Instr.sureAddr, hrun]
      · cases h
    · rename_i ti n s i off hti hgx
      rw [hgx] at hx
      obtain ⟨b, len, cap, hb, hv⟩ := hx
      split at h
      · rename_i e s' rows hl
        split at h
        · rename_i hs
          subst hs
          split at h
          · rename_i rw' hrw
            obtain ⟨h0, hss, xs, hown, h1, hc⟩ := hh.ob n _ hl
            rw [hb] at hown
            have hcell := hown.cells (g := b) rfl
            obtain ⟨v, hrun, hrel⟩ := load_of_cells (F := F) (γ := γ) (w := w) hti (b := b) (o := i * s) (cells := fun j => xs.getD (i * s + j) undef) (xs := rw'.map .c) (fun j x hx => by
              rw [List.getElem?_map] at hx
              simp only [Option.map_eq_some_iff] at hx
              obtain ⟨d, hd, rfl⟩ := hx
              obtain ⟨u, hu, hr⟩ := hc i j d (by simp [getRC, hrw, hd])
              have := hcell _ u hu
              rw [add_mk, Nat.zero_add] at this
              simp [this, hu]) (fun j x hx => by
              rw [List.getElem?_map] at hx
              simp only [Option.map_eq_some_iff] at hx
              obtain ⟨d, hd, rfl⟩ := hx
              obtain ⟨u, hu, hr⟩ := hc i j d (by simp [getRC, hrw, hd])
              simp only [List.getD, hu, Option.getD_some]
              exact hr) h
            refine ⟨v, ?_, hrel⟩
            simp [hv, Instr.loadAt, Instr.sureAddr, hrun]
          · cases h
        · cases h
      · cases h
    · rename_i ti cs hti hgx
      rw [hgx] at hx
      obtain ⟨b, o', cells, hv, hF, hc, h1, hr⟩ := CRel.ptr_inv (show CRel F w (.ptr cs) (ρ x) from hx)
      obtain ⟨v, hrun, hrel⟩ := load_of_cells (F := F) (γ := γ) (w := w) hti (b := b) (o := o') (cells := cells) (xs := cs.map .c) (fun j x hx => by
        rw [List.getElem?_map] at hx
        simp only [Option.map_eq_some_iff] at hx
        obtain ⟨d, hd, rfl⟩ := hx
        exact hc j d hd) (fun j x hx => by
        rw [List.getElem?_map] at hx
        simp only [Option.map_eq_some_iff] at hx
        obtain ⟨d, hd, rfl⟩ := hx
        exact hr j d hd) h
      refine ⟨v, ?_, hrel⟩
      rw [Nat.add_zero] at hrun
      simp [hv, Instr.loadAt, Instr.sureAddr, hrun]
    · cases h
  · -- indexAddr
    rename_i t x i
    have hx := hg x
    split at h
    · rename_i k hk
      have ek := RVRel.lit_eq hk (hg i)
      split at h
      · rename_i hk0
        obtain ⟨m, rfl⟩ := Int.eq_ofNat_of_zero_le hk0
        simp only [Int.toNat_natCast] at h
        split at h
        · rename_i e he
          have hu := elemOf_some he
          split at h
          · rename_i ti s rows hti hgx
            obtain ⟨i', d', z, hi, hd, hz, h1, h2, h3, h4, h5⟩ := tyOf_some hti
            split at h
            · rename_i hs
              subst hs
              split at h
              · rename_i rr hrr
                cases h
                rw [hgx] at hx
                have hlt : m < rows.length := (List.getElem?_eq_some_iff.1 hrr).1
                rcases CRel.sl_inv (show CRel F w (.sl ti.size rows) (ρ x) from hx) with ⟨rfl, _⟩ | ⟨b, o', cap, cells, hv, hF, hcap, hmax, hs, hc, h1', hr⟩
                · simp at hrr
                · refine ⟨.pointer (some ⟨b, o' + m * ti.size, none⟩), ?_, ?_⟩
                  · simp [hv, ek, Instr.indexAt, asIntOf, run_underlying hu, hlt, run_sizeOf_of hi, h1, add_mk]
                  · have hget : ∀ j d, rr[j]? = some d → getRC rows m j = some d := fun j d hj => by simp [getRC, hrr, hj]
                    refine CRel.ptr _ b _ (fun j => cells m j) hF (fun j d hj => ?_) (fun j d hj => h1' _ _ d (hget j d hj)) (fun j d hj => hr _ _ d (hget j d hj))
                    have := hc m j d (hget j d hj)
                    rwa [← Nat.add_assoc] at this
              · cases h
            · cases h
          · rename_i ti n hti hgx
            obtain ⟨i', d', z, hi, hd, hz, h1, h2, h3, h4, h5⟩ := tyOf_some hti
            split at h
            · rename_i e' s rows hl
              split at h
              · rename_i hs
                obtain ⟨rfl, hlt⟩ := hs
                cases h
                rw [hgx] at hx
                obtain ⟨hv, a', l', c', hsl⟩ := hx
                obtain ⟨h0, hss, xs, hown, _⟩ := hh.ob n _ hl
                rcases hown.2 with ⟨_, hn⟩ | ⟨b, cap, cur, hγ, rest⟩
                · omega
                · refine ⟨.pointer (some ⟨b, m * ti.size + 0, none⟩), ?_, b, _, _, hγ, rfl⟩
                  simp [hv, hγ, ek, Instr.indexAt, asIntOf, run_underlying hu, hlt, run_sizeOf_of hi, h1, add_mk]
              · cases h
            · cases h
          · cases h
        · unfold idxArr at h
          split at h
          · rename_i n e ha
            have hu := arrOf_some ha
            split at h
            · rename_i ti hti
              obtain ⟨i', d', z, hi, hd, hz, h1, h2, h3, h4, h5⟩ := tyOf_some hti
              split at h
              · rename_i hlt
                split at h
                · rename_i n' off hgx
                  cases h
                  rw [hgx] at hx
                  obtain ⟨b, hb, hv⟩ := hx
                  refine ⟨.pointer (some ⟨b, off + m * ti.size, none⟩), ?_, b, hb, rfl⟩
                  simp [hv, ek, Instr.indexAt, Instr.sureAddr, asIntOf, run_underlying hu, hlt, run_sizeOf_of hi, h1, add_mk]
                · rename_i n' s i' off hgx
                  cases h
                  rw [hgx] at hx
                  obtain ⟨b, len, cap, hb, hv⟩ := hx
                  refine ⟨.pointer (some ⟨b, _, none⟩), ?_, b, len, cap, hb, rfl⟩
                  simp [hv, ek, Instr.indexAt, Instr.sureAddr, asIntOf, run_underlying hu, hlt, run_sizeOf_of hi, h1, add_mk, Nat.add_assoc]
                · rename_i cs hgx
                  cases h
                  rw [hgx] at hx
                  obtain ⟨b, o', cells, hv, hF, hc, h1', hr⟩ := CRel.ptr_inv (show CRel F w (.ptr cs) (ρ x) from hx)
                  refine ⟨.pointer (some ⟨b, o' + m * ti.size, none⟩), ?_, ?_⟩
                  · simp [hv, ek, Instr.indexAt, Instr.sureAddr, asIntOf, run_underlying hu, hlt, run_sizeOf_of hi, h1, add_mk]
                  · refine CRel.ptr _ b _ (fun j => cells (m * ti.size + j)) hF ?_ ?_ ?_
                    · intro j d hj
                      rw [List.getElem?_drop] at hj
                      rw [Nat.add_assoc]
                      exact hc _ d hj
                    · intro j d hj
                      rw [List.getElem?_drop] at hj
                      exact h1' _ d hj
                    · intro j d hj
                      rw [List.getElem?_drop] at hj
                      exact hr _ d hj
                · cases h
              · cases h
            · cases h
          · cases h
      · cases h
    · cases h
  · -- len
    rename_i args ts
    split at h
    · rename_i t x ht hxx
      have hx := hg x
      split at h
      · rename_i e s rows he hgx
        cases h
        have hu := elemOf_some he
        rw [hgx] at hx
        refine ⟨_, ?_, RVRel.mkLit _⟩
        rcases CRel.sl_inv (show CRel F w (.sl s rows) (ρ x) from hx) with ⟨rfl, hv | ⟨a, c, hv⟩⟩ | ⟨b, o', cap, cells, hv, _⟩
        · simp [resolve, invoke, builtin, Builtin.len_, ht, hxx, hv, run_underlying hu, goInt]
        · simp [resolve, invoke, builtin, Builtin.len_, ht, hxx, hv, run_underlying hu, goInt]
        · simp [resolve, invoke, builtin, Builtin.len_, ht, hxx, hv, run_underlying hu, goInt]
      · rename_i e a n c he hgx
        cases h
        have hu := elemOf_some he
        rw [hgx] at hx
        have hv : ρ x = .slice a n c := RVRel.lit_eq rfl hx
        refine ⟨_, ?_, RVRel.mkLit _⟩
        simp [resolve, invoke, builtin, Builtin.len_, ht, hxx, hv, run_underlying hu, goInt]
      · rename_i e n he hgx
        split at h
        · rename_i e' s rows hl
          cases h
          have hu := elemOf_some he
          rw [hgx] at hx
          obtain ⟨hv, _⟩ := hx
          obtain ⟨h0, hss, xs, hown, _⟩ := hh.ob n _ hl
          refine ⟨_, ?_, RVRel.mkLit _⟩
          rcases hown.2 with ⟨hγ, hn⟩ | ⟨b, cap, cur, hγ, rest⟩
          · simp [resolve, invoke, builtin, Builtin.len_, ht, hxx, hv, hγ, hn, run_underlying hu, goInt]
          · simp [resolve, invoke, builtin, Builtin.len_, ht, hxx, hv, hγ, run_underlying hu, goInt]
        · cases h
      · cases h
    · cases h
  · cases h
end
end Go.Hl
