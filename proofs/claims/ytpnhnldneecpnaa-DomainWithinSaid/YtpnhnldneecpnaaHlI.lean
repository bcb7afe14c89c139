/- HlI: part of an evaluator of Go code over abstract states, proved sound over the model; used by the proof of the claimed statement. Conditions: none. -/
import Derived.Test.YtpnhnldneecpnaaHlH
namespace Go.Hl
open Go Go.RowKit

section
variable {P : Program} {F : Nat → Prop} {γ : Nat → Value} {w w' w0 : World} {B : Nat}

theorem splice_get {α : Type} (xs vs : List α) (off k : Nat) (hle : off + vs.length ≤ xs.length) :
    (xs.take off ++ vs ++ xs.drop (off + vs.length))[k]? = if off ≤ k ∧ k < off + vs.length then vs[k - off]? else xs[k]? := by
  have e1 : (List.take off xs).length = off := by rw [List.length_take]; omega
  rw [List.append_assoc]
  by_cases h1 : k < off
  · rw [List.getElem?_append_left (by rw [e1]; exact h1), List.getElem?_take, if_pos h1, if_neg (by omega)]
  · rw [List.getElem?_append_right (by rw [e1]; omega), e1]
    by_cases h2 : k - off < vs.length
    · rw [List.getElem?_append_left h2, if_pos (by omega)]
    · rw [List.getElem?_append_right (by omega), List.getElem?_drop, if_neg (by omega)]
      congr 1; omega

theorem setRow_len {rows : List (List CD)} {i off : Nat} {ds : List CD} : (setRow rows i off ds).length = rows.length := by
  unfold setRow; split <;> simp

theorem setRow_s {s : Nat} {rows : List (List CD)} (h : ∀ r ∈ rows, r.length = s) {i off : Nat} {ds : List CD} (hle : off + ds.length ≤ s) : ∀ r ∈ setRow rows i off ds, r.length = s := by
  unfold setRow
  split
  · rename_i r hr
    have hrs := h r (List.mem_of_getElem? hr)
    intro r' hr'
    rcases List.mem_or_eq_of_mem_set hr' with h1 | h1
    · exact h r' h1
    · subst h1; simp [hrs]; omega
  · exact h

theorem setRow_get {s : Nat} {rows : List (List CD)} (h : ∀ r ∈ rows, r.length = s) {i off : Nat} {ds : List CD} (hle : off + ds.length ≤ s) (hi : i < rows.length) (i' j : Nat) :
    getRC (setRow rows i off ds) i' j = if i' = i ∧ off ≤ j ∧ j < off + ds.length then ds[j - off]? else getRC rows i' j := by
  unfold setRow
  have hr : rows[i]? = some rows[i] := List.getElem?_eq_getElem hi
  rw [hr]
  have hrs := h rows[i] (List.getElem_mem hi)
  unfold getRC
  rw [List.getElem?_set]
  by_cases e : i = i'
  · subst e
    rw [if_pos rfl, if_pos hi]
    simp only [Option.bind_some, true_and]
    rw [splice_get _ _ _ _ (by omega), hr]
    rfl
  · rw [if_neg e, if_neg (by intro h; exact e h.1.symm)]

theorem storeVar_world {t : TypeId} {i : TypeInfo} (hi : P.info? t = some i) {v : Value} (hv : v.cells.size = i.size) (h1 : ∀ u ∈ v.cells.toList, u.oneCell' = true)
    {b off : Nat} {e : TypeId} {cur : Array Value} (hb : w.heap[b]? = some (.cells cur e (0, 0))) (hle : off + v.cells.size ≤ cur.size) (hbw : Below B w0 w) (hB : B ≤ b) :
    ∃ W, (storeVar t ⟨b, off, none⟩ v).run P w = .ok () W ∧ W.heap[b]? = some (.cells (cur.toList.take off ++ v.cells.toList ++ cur.toList.drop (off + v.cells.toList.length)).toArray e (0, 0)) ∧
      (∀ k, k ≠ b → W.heap[k]? = w.heap[k]?) ∧ W.heap.size = w.heap.size ∧ Below B w0 W :=
  ⟨_, run_storeVar_of hi hv h1 hb hle, setRow_heap w b cur _ e _ hb, fun k hk => setRow_other _ _ _ _ hk, by simp, below_setRow hbw hB _⟩

/-- what holds behind an operation that was carried out -/
def Did (P : Program) (ρ : Operand → Value) (o : Oper) (w0 : World) (B : Nat) (F : Nat → Prop) (γ : Nat → Value) (w : World) (d : Option Nat) (r : RV) (objs' : List (Nat × Ob)) : Prop :=
  ∃ nx v w' γ', (execOp ρ o).run P w = .ok nx w' ∧ (nx = .value v ∨ nx = .skip ∧ v = undef) ∧ HeapRel w0 B F γ' objs' w' ∧ RVRel F γ' w' r v ∧
    (∀ n, some n ≠ d → γ' n = γ n) ∧ w.heap.size ≤ w'.heap.size ∧ ∀ b, F b → w'.heap[b]? = w.heap[b]?

theorem store_sound {objs objs' : List (Nat × Ob)} {g : Operand → RV} {ρ : Operand → Value} {o : Oper} {d : Option Nat} {r : RV} {t : TypeId} {x y : Operand} (hh : HeapRel w0 B F γ objs w)
    (hg : ∀ x, RVRel F γ w (g x) (ρ x)) (ho : o.op = .store t x y) (h : evW P objs g d (.store t x y) = some (r, objs')) : Did P ρ o w0 B F γ w none r objs' := by
  unfold Did execOp
  rw [ho]
  simp only [evW] at h
  have hx := hg x
  split at h
  · rename_i ti cs n off hti hcs hgx
    obtain ⟨i, td, z, hi, htd, hz, h1, h2, h3, h4, h5⟩ := tyOf_some hti
    split at h
    · rename_i hcond
      obtain ⟨hsz, hall⟩ := hcond
      split at h
      · rename_i xs hl
        split at h
        · rename_i hle
          cases h
          rw [hgx] at hx
          obtain ⟨b, hb, hv⟩ := hx
          obtain ⟨b', e, vs, hb', hB, hh', hc⟩ := hh.ob n _ hl
          rw [hb] at hb'
          cases hb'
          have hy := (hg y).cells hcs
          have hone : ∀ u ∈ (ρ y).cells.toList, u.oneCell' = true := by
            intro u hu
            obtain ⟨j, hj⟩ := List.mem_iff_getElem?.1 hu
            have hj' : (ρ y).cells[j]? = some u := by simpa using hj
            have hjl : j < cs.length := by rw [← hy.1]; exact (Array.getElem?_eq_some_iff.1 hj').1
            exact CVRel.one (List.all_eq_true.1 hall _ (List.getElem_mem hjl)) (hy.2 j cs[j] u (by simp) hj')
          obtain ⟨W, hrun, hWb, hWo, hWs, hWB⟩ := storeVar_world (P := P) (w := w) (w0 := w0) (B := B) hi (v := ρ y) (by rw [hy.1, hsz, h1]) hone hh' (off := off) (by rw [hy.1, hc.1]; exact hle) hh.below hB
          have hF : ∀ k, F k → W.heap[k]? = w.heap[k]? := fun k hk => hWo k fun e' => hh.apart n _ hl b (by rw [hb]; rfl) (e' ▸ hk)
          refine ⟨.skip, undef, W, γ, ?_, .inr ⟨rfl, rfl⟩, ?_, trivial, fun _ _ => rfl, by rw [hWs]; exact Nat.le_refl _, hF⟩
          · simp [hv, Instr.storeAt, Instr.sureAddr, hrun]
          · refine hh.wrote hl (b := b) (by rw [hb]; rfl) hWB (by rw [hWs]; exact Nat.le_refl _) (fun k _ hne => hWo k hne) ⟨b, e, _, hb, hB, hWb, ?_⟩
            exact (hc.splice hy hle).mono (fun _ h => h) hF
        · cases h
      · cases h
    · cases h
  · rename_i ti cs n s i' off hti hcs hgx
    obtain ⟨i, td, z, hi, htd, hz, h1, h2, h3, h4, h5⟩ := tyOf_some hti
    split at h
    · rename_i hcond
      obtain ⟨hsz, hall⟩ := hcond
      split at h
      · rename_i e s' rows ds hl hds
        split at h
        · rename_i hle
          obtain ⟨rfl, hlt, hle⟩ := hle
          cases h
          rw [hgx] at hx
          obtain ⟨b, len, cap, hb, hv⟩ := hx
          obtain ⟨h0, hss, xs, hown, hxs1, hc⟩ := hh.ob n _ hl
          have hcs' := dataOf_some _ _ hds
          subst hcs'
          have hy := (hg y).cells hcs
          simp only [List.length_map] at hsz
          have hyl : (ρ y).cells.size = ds.length := by rw [hy.1, List.length_map]
          have hone : ∀ u ∈ (ρ y).cells.toList, u.oneCell' = true := by
            intro u hu
            obtain ⟨j, hj⟩ := List.mem_iff_getElem?.1 hu
            have hj' : (ρ y).cells[j]? = some u := by simpa using hj
            have hjl : j < (ds.map CV.c).length := by rw [← hy.1]; exact (Array.getElem?_eq_some_iff.1 hj').1
            exact CVRel.one (List.all_eq_true.1 hall _ (List.getElem_mem hjl)) (hy.2 j (ds.map CV.c)[j] u (by simp) hj')
          rcases hown.2 with ⟨_, hn0⟩ | ⟨b', cap', cur, hγ, hB, hh', hnc, hcm, hcsz, htake⟩
          · omega
          · rw [hb] at hγ
            cases hγ
            have hrs : (i' + 1) * s ≤ rows.length * s := Nat.mul_le_mul_right _ hlt
            have hrc : rows.length * s ≤ cap * s := Nat.mul_le_mul_right _ hnc
            rw [Nat.add_mul] at hrs
            obtain ⟨W, hrun, hWb, hWo, hWs, hWB⟩ := storeVar_world (P := P) (w := w) (w0 := w0) (B := B) hi (v := ρ y) (by rw [hyl, hsz, h1]) hone hh' (off := i' * s + off) (by rw [hyl, hcsz]; omega) hh.below hB
            have hul : (ρ y).cells.toList.length = ds.length := by rw [Array.length_toList, hyl]
            have hF : ∀ k, F k → W.heap[k]? = w.heap[k]? := fun k hk => hWo k fun e' => hh.apart n _ hl b (by rw [hb]; rfl) (e' ▸ hk)
            refine ⟨.skip, undef, W, γ, ?_, .inr ⟨rfl, rfl⟩, ?_, trivial, fun _ _ => rfl, by rw [hWs]; exact Nat.le_refl _, hF⟩
            · simp [hv, Instr.storeAt, Instr.sureAddr, hrun]
            · refine hh.wrote hl (b := b) (by rw [hb]; rfl) hWB (by rw [hWs]; exact Nat.le_refl _) (fun k _ hne => hWo k hne) ⟨h0, setRow_s hss hle, xs.take (i' * s + off) ++ (ρ y).cells.toList ++ xs.drop (i' * s + off + (ρ y).cells.toList.length), ⟨?_, .inr ⟨b, cap, _, ?_, hB, hWb, ?_, hcm, ?_, ?_⟩⟩, ?_, ?_⟩
              · rw [setRow_len, List.length_append, List.length_append, List.length_take, List.length_drop, hul, hown.1]
                omega
              · rw [hb, setRow_len]
              · rw [setRow_len]; exact hnc
              · rw [List.size_toArray, List.length_append, List.length_append, List.length_take, List.length_drop, hul, Array.length_toList, hcsz]; omega
              · rw [setRow_len, ← htake]
                apply List.ext_getElem?
                intro k
                have hcl : cur.toList.length = cap * s := by rw [Array.length_toList, hcsz]
                rw [List.getElem?_take, splice_get _ _ _ _ (by rw [hul, hcl]; omega), splice_get _ _ _ _ (by rw [hul, List.length_take, hcl]; omega), List.getElem?_take]
                by_cases hk : k < rows.length * s
                · simp only [hk, if_true]
                · rw [if_neg hk, if_neg (by rw [hul]; omega), if_neg hk]
              · intro u hu
                rcases List.mem_append.1 hu with hu | hu
                · rcases List.mem_append.1 hu with hu | hu
                  · exact hxs1 u (List.mem_of_mem_take hu)
                  · exact hone u hu
                · exact hxs1 u (List.mem_of_mem_drop hu)
              · intro i2 j dd hdd
                have hlt2 := getRC_lt (setRow_s hss hle) hdd
                rw [setRow_len] at hlt2
                rw [setRow_get hss hle hlt] at hdd
                rw [splice_get _ _ _ _ (by rw [hul, hown.1]; omega), hul]
                split at hdd
                · rename_i hcase
                  obtain ⟨rfl, ha, hb2⟩ := hcase
                  rw [if_pos (by omega), show i2 * s + j - (i2 * s + off) = j - off by omega]
                  have hjd : j - off < ds.length := (List.getElem?_eq_some_iff.1 hdd).1
                  have hjv : j - off < (ρ y).cells.size := by rw [hyl]; exact hjd
                  refine ⟨(ρ y).cells[j - off]'hjv, by simp [hjv], ?_⟩
                  exact CRel.mono (fun _ h => h) hF (hy.2 (j - off) (.c dd) _ (by simp [hdd]) (by simp [hjv]))
                · rename_i hcase
                  rw [if_neg ?_]
                  · obtain ⟨u, hu, hr⟩ := hc i2 j dd hdd
                    exact ⟨u, hu, hr.mono (fun _ h => h) hF⟩
                  · intro hk
                    apply hcase
                    rcases Nat.lt_trichotomy i2 i' with e' | e' | e'
                    · have : (i2 + 1) * s ≤ i' * s := Nat.mul_le_mul_right _ e'
                      rw [Nat.add_mul] at this; omega
                    · subst e'; omega
                    · have : (i' + 1) * s ≤ i2 * s := Nat.mul_le_mul_right _ e'
                      rw [Nat.add_mul] at this; omega
        · cases h
      · cases h
    · cases h
  · cases h
end
end Go.Hl
