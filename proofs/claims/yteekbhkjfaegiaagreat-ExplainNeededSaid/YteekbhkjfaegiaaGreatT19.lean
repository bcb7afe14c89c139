/- Part 19: contracts of functions of the program and of the reference, and plain facts about what they compute; used by the proof of the claimed statement. Conditions: as each theorem states. -/
import Derived.Test.YteekbhkjfaegiaaGreatT14
import Derived.Test.YteekbhkjfaegiaaGreatRows
set_option linter.unusedSimpArgs false
set_option linter.unusedVariables false
set_option linter.unnecessarySimpa false
set_option maxRecDepth 100000
set_option maxHeartbeats 2000000
namespace Go.Proofs.YteekbhkjfaegiaaGreat
open Go Go.Hl Go.RowKit Go.ChangeShapes Go.Proofs.YteekbhkjfaegiaaGreat

/-! ## the argument, read as0 a tree -/
theorem tiled : Tiled Tryz.prog := tiled_mk (by kernel_rfl)
theorem own : ownKnob Tryz.prog.godebug = none := by kernel_rfl
theorem laidOut : laidOutB Tryz.prog = true := by kernel_rfl
section
variable {P : Program} {k : Nat} {t : TypeId} {ds : List CD}
theorem shape_slK {α : Type} {enc : α → List CD} {e : TypeId} {c : Nat} (hu : P.underlying t = some (.slice e)) (hc : P.cellsOf e = c) (he : ∀ k', k' < k → ∀ r, Shape P k' e r → ∃ x, r = enc x) (h : Shape P k t ds) : ∃ xs : List α, ds = [.sl c (xs.map enc)] := by
  cases k with
  | zero => exact h.elim
  | succ k =>
    unfold Shape at h
    rw [hu] at h
    obtain ⟨rows, h1, _, h3⟩ := h
    obtain ⟨xs, hxs⟩ := rows_enc (enc := enc) fun r hr => he k (Nat.lt_succ_self k) r (h3 r hr).2
    subst hxs
    exact ⟨xs, by rw [h1, hc]⟩
theorem shape_structK {fs : Array Field} {l : List (Nat × Nat × TypeId)} {c : Nat} (hu : P.underlying t = some (.struct fs)) (hl : segsF P fs = l) (hc : P.cellsOf t = c) (h : Shape P k t ds) : ds.length = c ∧ ∃ k', k' < k ∧ ∀ x ∈ l, Shape P k' x.2.2 ((ds.drop x.1).take x.2.1) := by
  cases k with
  | zero => exact h.elim
  | succ k =>
    unfold Shape at h
    rw [hu] at h
    have h' : ds.length = P.cellsOf t ∧ ∀ x ∈ segsF P fs, Shape P k x.2.2 ((ds.drop x.1).take x.2.1) := h
    exact ⟨hc ▸ h'.1, k, Nat.lt_succ_self k, fun x hx => h'.2 x (hl ▸ hx)⟩
end
theorem dec_i {k : Nat} {t : TypeId} {ds : List CD} (hu : Tryz.prog.underlying t = some (.int .i64)) (h : Shape Tryz.prog k t ds) : ∃ n : Int, ds = [iC n] := by
  obtain ⟨n, h1, _⟩ := shape_int hu h
  exact ⟨n, h1⟩
theorem dec_s {k : Nat} {ds : List CD} (h : Shape Tryz.prog k 9 ds) : ∃ s : ByteArray, ds = [sC s] := by
  obtain ⟨s, h1, _⟩ := shape_str Tryz.underlying9 h
  exact ⟨s, h1⟩
theorem dec_I {k : Nat} {ds : List CD} (h : Shape Tryz.prog k 27 ds) : ∃ l : List Int, ds = [.sl 1 (encIs l)] :=
  shape_slK (enc := fun x => [iC x]) Tryz.underlying27 (by kernel_rfl : Tryz.prog.cellsOf 3 = 1) (fun _ _ _ hr => dec_i Tryz.underlying3 hr) h
theorem dec_T : ∀ (k : Nat) (ds : List CD), Shape Tryz.prog k 59 ds → ∃ t : Tm, ds = t.enc := by
  intro k
  induction k using Nat.strongRecOn with
  | ind k ih =>
    intro ds h
    obtain ⟨hl, k1, hk1, hx⟩ := shape_structK (l := [(0, 1, 56), (1, 1, 3), (2, 1, 57)]) Tryz.underlying59 (by kernel_rfl) (by kernel_rfl : Tryz.prog.cellsOf 59 = 3) h
    match ds, hl with
    | [a, b, c], _ =>
      obtain ⟨n1, h1⟩ := dec_i Tryz.underlying56 (hx (0, 1, 56) (by simp))
      obtain ⟨n2, h2⟩ := dec_i Tryz.underlying3 (hx (1, 1, 3) (by simp))
      obtain ⟨ks, h3⟩ := shape_slK (enc := Tm.enc) Tryz.underlying57 (by kernel_rfl : Tryz.prog.cellsOf 59 = 3) (fun k' hk' r hr => ih k' (by omega) r hr) (hx (2, 1, 57) (by simp))
      simp only [List.drop, List.take, List.cons.injEq, and_true] at h1 h2 h3
      subst h1 h2 h3
      exact ⟨.mk n1 n2 ks, by simp only [Tm.enc, encTs_map]⟩
theorem dec_S : ∀ (k : Nat) (ds : List CD), Shape Tryz.prog k 65 ds → ∃ s : St, ds = s.enc := by
  intro k
  induction k using Nat.strongRecOn with
  | ind k ih =>
    intro ds h
    obtain ⟨hl, k1, hk1, hx⟩ := shape_structK (l := [(0, 1, 63), (1, 1, 3), (2, 1, 3), (3, 1, 3), (4, 3, 59), (7, 1, 24), (8, 1, 24), (9, 1, 27)]) Tryz.underlying65 (by kernel_rfl) (by kernel_rfl : Tryz.prog.cellsOf 65 = 10) h
    match ds, hl with
    | [a0, a1, a2, a3, a4, a5, a6, a7, a8, a9], _ =>
      obtain ⟨n0, h0⟩ := dec_i Tryz.underlying63 (hx (0, 1, 63) (by simp))
      obtain ⟨n1, h1⟩ := dec_i Tryz.underlying3 (hx (1, 1, 3) (by simp))
      obtain ⟨n2, h2⟩ := dec_i Tryz.underlying3 (hx (2, 1, 3) (by simp))
      obtain ⟨n3, h3⟩ := dec_i Tryz.underlying3 (hx (3, 1, 3) (by simp))
      obtain ⟨t, h4⟩ := dec_T _ _ (hx (4, 3, 59) (by simp))
      obtain ⟨la, h7⟩ := shape_slK (enc := St.enc) Tryz.underlying24 (by kernel_rfl : Tryz.prog.cellsOf 65 = 10) (fun k' hk' r hr => ih k' (by omega) r hr) (hx (7, 1, 24) (by simp))
      obtain ⟨lb', h8⟩ := shape_slK (enc := St.enc) Tryz.underlying24 (by kernel_rfl : Tryz.prog.cellsOf 65 = 10) (fun k' hk' r hr => ih k' (by omega) r hr) (hx (8, 1, 24) (by simp))
      obtain ⟨lc, h9⟩ := dec_I (hx (9, 1, 27) (by simp))
      simp only [List.drop, List.take, List.cons.injEq, and_true] at h0 h1 h2 h3 h4 h7 h8 h9
      subst h0 h1 h2 h3 h7 h8 h9
      refine ⟨.mk n0 n1 n2 n3 t la lb' lc, ?_⟩
      simp only [St.enc, encSs_map, ← h4, List.cons_append, List.nil_append]
theorem dec_V {k : Nat} {ds : List CD} (h : Shape Tryz.prog k 62 ds) : ∃ v : Vr, ds = v.enc := by
  obtain ⟨hl, k1, _, hx⟩ := shape_structK (l := [(0, 1, 9), (1, 1, 48), (2, 1, 3), (3, 1, 3), (4, 1, 3)]) Tryz.underlying62 (by kernel_rfl) (by kernel_rfl : Tryz.prog.cellsOf 62 = 5) h
  match ds, hl with
  | [a0, a1, a2, a3, a4], _ =>
    obtain ⟨n0, h0⟩ := dec_s (hx (0, 1, 9) (by simp))
    obtain ⟨n1, h1⟩ := dec_i Tryz.underlying48 (hx (1, 1, 48) (by simp))
    obtain ⟨n2, h2⟩ := dec_i Tryz.underlying3 (hx (2, 1, 3) (by simp))
    obtain ⟨n3, h3⟩ := dec_i Tryz.underlying3 (hx (3, 1, 3) (by simp))
    obtain ⟨n4, h4⟩ := dec_i Tryz.underlying3 (hx (4, 1, 3) (by simp))
    simp only [List.drop, List.take, List.cons.injEq, and_true] at h0 h1 h2 h3 h4
    subst h0 h1 h2 h3 h4
    exact ⟨⟨n0, n1, n2, n3, n4⟩, rfl⟩
theorem dec_H {k : Nat} {ds : List CD} (h : Shape Tryz.prog k 90 ds) : ∃ v : Ht, ds = v.enc := by
  obtain ⟨hl, k1, _, hx⟩ := shape_structK (l := [(0, 1, 9), (1, 1, 3), (2, 1, 3), (3, 3, 59)]) Tryz.underlying90 (by kernel_rfl) (by kernel_rfl : Tryz.prog.cellsOf 90 = 6) h
  match ds, hl with
  | [a0, a1, a2, a3, a4, a5], _ =>
    obtain ⟨n0, h0⟩ := dec_s (hx (0, 1, 9) (by simp))
    obtain ⟨n1, h1⟩ := dec_i Tryz.underlying3 (hx (1, 1, 3) (by simp))
    obtain ⟨n2, h2⟩ := dec_i Tryz.underlying3 (hx (2, 1, 3) (by simp))
    obtain ⟨t, h3⟩ := dec_T _ _ (hx (3, 3, 59) (by simp))
    simp only [List.drop, List.take, List.cons.injEq, and_true] at h0 h1 h2 h3
    subst h0 h1 h2
    exact ⟨⟨n0, n1, n2, t⟩, by simp only [Ht.enc, ← h3, List.cons_append, List.nil_append]⟩
theorem dec_F {k : Nat} {ds : List CD} (h : Shape Tryz.prog k 26 ds) : ∃ f : Fl, ds = f.enc := by
  obtain ⟨hl, k1, _, hx⟩ := shape_structK (l := [(0, 1, 22), (1, 1, 23), (2, 1, 24)]) Tryz.underlying26 (by kernel_rfl) (by kernel_rfl : Tryz.prog.cellsOf 26 = 3) h
  match ds, hl with
  | [a0, a1, a2], _ =>
    obtain ⟨lv, h0⟩ := shape_slK (enc := Vr.enc) Tryz.underlying22 (by kernel_rfl : Tryz.prog.cellsOf 62 = 5) (fun _ _ _ hr => dec_V hr) (hx (0, 1, 22) (by simp))
    obtain ⟨lh, h1⟩ := shape_slK (enc := Ht.enc) Tryz.underlying23 (by kernel_rfl : Tryz.prog.cellsOf 90 = 6) (fun _ _ _ hr => dec_H hr) (hx (1, 1, 23) (by simp))
    obtain ⟨ls, h2⟩ := shape_slK (enc := St.enc) Tryz.underlying24 (by kernel_rfl : Tryz.prog.cellsOf 65 = 10) (fun k' _ r hr => dec_S k' r hr) (hx (2, 1, 24) (by simp))
    simp only [List.drop, List.take, List.cons.injEq, and_true] at h0 h1 h2
    subst h0 h1 h2
    exact ⟨⟨lv, lh, ls⟩, by simp only [Fl.enc, encVs, encHs, encSs_map]⟩
theorem agg26 : aggT Tryz.prog 26 = true := by unfold aggT; rw [Tryz.underlying26]
theorem agg29 : aggT Tryz.prog 29 = true := by unfold aggT; rw [Tryz.underlying29]
theorem agg43 : aggT Tryz.prog 43 = true := by unfold aggT; rw [Tryz.underlying43]
theorem dec_W {k : Nat} {ds : List CD} (h : Shape Tryz.prog k 29 ds) : ∃ v : Vw, ds = [.sl 1 (encIs v.pub), bC v.timed] := by
  obtain ⟨hl, k1, _, hx⟩ := shape_structK (l := [(0, 1, 27), (1, 1, 4)]) Tryz.underlying29 (by kernel_rfl) (by kernel_rfl : Tryz.prog.cellsOf 29 = 2) h
  match ds, hl with
  | [a0, a1], _ =>
    obtain ⟨l, h0⟩ := dec_I (hx (0, 1, 27) (by simp))
    obtain ⟨b, h1⟩ := shape_bool Tryz.underlying4 (hx (1, 1, 4) (by simp))
    simp only [List.drop, List.take, List.cons.injEq, and_true] at h0 h1
    subst h0 h1
    exact ⟨⟨l, b⟩, rfl⟩
theorem dec_P {k : Nat} {ds : List CD} (h : Shape Tryz.prog k 43 ds) : ∃ a b : Int, ds = [iC a, iC b] := by
  obtain ⟨hl, k1, hx⟩ := shape_array (l := [(0, 1, 3), (1, 1, 3)]) Tryz.underlying43 (by kernel_rfl) (by kernel_rfl : Tryz.prog.cellsOf 43 = 2) h
  match ds, hl with
  | [a0, a1], _ =>
    obtain ⟨n0, h0⟩ := dec_i Tryz.underlying3 (hx (0, 1, 3) (by simp))
    obtain ⟨n1, h1⟩ := dec_i Tryz.underlying3 (hx (1, 1, 3) (by simp))
    simp only [List.drop, List.take, List.cons.injEq, and_true] at h0 h1
    subst h0 h1
    exact ⟨n0, n1, rfl⟩
end Go.Proofs.YteekbhkjfaegiaaGreat
