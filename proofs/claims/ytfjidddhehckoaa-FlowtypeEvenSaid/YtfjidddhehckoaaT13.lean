/- Part 13: contracts of functions of the program and of the reference, and plain facts about what they compute; used by the proof of the claimed statement. Conditions: as each theorem states. -/
import Derived.Test.YtfjidddhehckoaaT12
import Derived.Test.YtfjidddhehckoaaT9
import Derived.Test.YtfjidddhehckoaaT6
import Derived.Test.YtfjidddhehckoaaRows
set_option linter.unusedSimpArgs false
set_option linter.unusedVariables false
set_option linter.unnecessarySimpa false
set_option maxRecDepth 100000
set_option maxHeartbeats 2000000
namespace Go.Proofs.Ytfjidddhehckoaa
open Go Go.Hl

theorem known_con (d : Nat) : Con Try.prog 4 true [] (.v (lb true)) none d := by
  obtain ⟨t0, h0⟩ := xchk0
  obtain ⟨t1, h1⟩ := xchk1
  have c0 := checkT_con XF (XP 0) ⟨by decide, by decide, by decide, by decide⟩ (repC_holds (by decide)) (by decide) (by decide) (by decide) (by kernel_rfl) (fun _ => by rw [tyE_of xset, xty0.1]; decide)
  have c1 := checkT_con XF (XP 1) ⟨by decide, by decide, by decide, by decide⟩ (repC_holds (by decide)) (by decide) (by decide) (by decide) (by kernel_rfl) (fun _ => by rw [tyE_of xset, xty1.1]; decide)
  rw [h0] at c0
  rw [h1] at c1
  have he1 := eqSl_con [2] [2] (by decide) (by decide)
  have he2 := eqSl_con [1, 1] [1, 1] (by decide) (by decide)
  have hq1 : room 1 144 := room_of (by decide) (by decide)
  have hq2 : room 2 144 := room_of (by decide) (by decide)
  have hq3 : room 2 48 := room_of (by decide) (by decide)
  have hq4 : room 2 16 := room_of (by decide) (by decide)
  have hq5 : room 1 16 := room_of (by decide) (by decide)
  have hq6 : room 1 8 := room_of (by decide) (by decide)
  have hq7 : room 2 8 := room_of (by decide) (by decide)
  clear h0 h1
  simp only [XF, XP, xVs, x0, x1, xS, aF, aPo, Po.enc, encNs, encPr, encLs, Fl.enc, Vr.enc, encVs, encHs, encIs, encSs, encTs, St.enc, Tm.enc, aT, aTg, List.map_cons, List.map_nil, List.cons_append, List.nil_append] at c0 c1 he1 he2
  refine con_of_HT Try.func4 rfl (by kernel_rfl) (Nat.le_of_ble_eq_true rfl) ?_
  simp only [Try.f4]
  refine HT_seq <| HT_runA ?_
  refine HT_seq <| (HT_runsF ?_)
  refine RunsF.cutE 6 [] (by simp [*, allTyped, fillC, placeOf]; rfl) trivial (le_agg 13 [.c (iC 0), .c (iC 0), .c (iC 1), .c (iC 0), .c (iC 0), .c (iC 1), .c (.sl 3 []), .c (.sl 10 []), .c (.sl 10 []), .c (.sl 1 [])] rfl (by (repeat' (first | exact LWk.nil | apply LWk.cons | exact CWk.refl _ | exact CWk.nil _)))) ?_
  refine RunsF.cutE 1 [] (by simp [*, allTyped, fillC, placeOf]; rfl) trivial (le_frz 14 rfl) ?_
  refine RunsF.cutE 3 [] (by simp [*, allTyped, fillC, placeOf]; rfl) trivial (le_trans (le_agg 15 [.c (iC 3), .c (iC 0), .c (iC 0), .c (iC 0), .c (iC 24), .c (iC 0), .c (.sl 3 []), .c (.sl 10 [[iC 0, iC 0, iC 1, iC 0, iC 0, iC 1, .sl 3 [], .sl 10 [], .sl 10 [], .sl 1 []]]), .c (.sl 10 []), .c (.sl 1 [])] rfl (by (repeat' (first | exact LWk.nil | apply LWk.cons | exact CWk.refl _ | exact CWk.nil _)))) (le_agg 17 [.c (iC 1), .c (iC 0), .c (iC 0), .c (iC 0), .c (iC 24), .c (iC 1), .c (.sl 3 []), .c (.sl 10 []), .c (.sl 10 []), .c (.sl 1 [])] rfl (by (repeat' (first | exact LWk.nil | apply LWk.cons | exact CWk.refl _ | exact CWk.nil _))))) ?_
  refine RunsF.cutE 1 [] (by simp [*, allTyped, fillC, placeOf]; rfl) trivial (le_trans (le_frz 10 rfl) (le_frz 18 rfl)) ?_
  refine RunsF.cutE 1 [] (by simp [*, allTyped, fillC, placeOf]; rfl) trivial (le_agg 19 [.c (.sl 5 [[sC ⟨#[120]⟩, iC 1, iC 0, iC 1, iC 0], [sC ⟨#[121]⟩, iC 0, iC 0, iC 1, iC 0]]), .c (.sl 6 []), .c (.sl 10 [[iC 3, iC 0, iC 0, iC 0, iC 24, iC 0, .sl 3 [], .sl 10 [[iC 0, iC 0, iC 1, iC 0, iC 0, iC 1, .sl 3 [], .sl 10 [], .sl 10 [], .sl 1 []]], .sl 10 [], .sl 1 []], [iC 1, iC 0, iC 0, iC 0, iC 24, iC 1, .sl 3 [], .sl 10 [], .sl 10 [], .sl 1 []]])] rfl (by (repeat' (first | exact LWk.nil | apply LWk.cons | exact CWk.refl _ | exact CWk.nil _)))) ?_
  refine RunsF.doneE [] (by simp [*, allTyped, fillC, placeOf]; rfl) trivial ?_
  refine HT_seq <| (HT_runsF ?_)
  refine RunsF.cutE 3 [] (by simp [*, allTyped, fillC, placeOf]; rfl) trivial (le_trans (le_frz 20 rfl) (le_frz 22 rfl)) ?_
  refine RunsF.cutE 1 [] (by simp [*, allTyped, fillC, placeOf]; rfl) trivial (le_agg 23 [.c (.sl 1 [[sC ⟨#[108, 111, 119]⟩], [sC ⟨#[104, 105, 103, 104]⟩]]), .c (.sl 2 [[iC 0, iC 1]]), .c (.sl 2 []), .c (.sl 2 []), .c (iC 0), .c (bC false)] rfl (by (repeat' (first | exact LWk.nil | apply LWk.cons | exact CWk.refl _ | exact CWk.nil _)))) ?_
  refine RunsF.doneE [] (by simp [*, allTyped, fillC, placeOf]; rfl) trivial ?_
  refine HT_seq <| (HT_runc [⟨false, .tup [.agg [.c (bC false), .c (.sl 1 [[iC 2]]), .c (iC t0), .c (.sl 1 [[iC 1], [iC 1]])], li 0], none⟩] (by simp [*]; first | exact ⟨rfl, Iff.rfl⟩ | exact ⟨rfl, trivial⟩ | rfl) ?_ ?_)
  · first | exact c0 _ | exact trivial | simpa [*] using c0 _
  refine HT_seq <| HT_runA ?_
  refine HT_seq <| HT_runA ?_
  refine HT_seq <| (HT_runc [⟨false, .tup [.agg [.c (bC true), .c (.sl 1 []), .c (iC t1), .c (.sl 1 [[iC 1], [iC 1]])], li 0], none⟩] (by simp [*]; first | exact ⟨rfl, Iff.rfl⟩ | exact ⟨rfl, trivial⟩ | rfl) ?_ ?_)
  · first | exact c1 _ | exact trivial | simpa [*] using c1 _
  refine HT_seq <| (HT_runc [⟨true, .v (lb true), none⟩, ⟨true, .v (lb true), none⟩] (by simp [*]; first | exact ⟨rfl, Iff.rfl⟩ | exact ⟨rfl, trivial⟩ | rfl) ?_ ?_)
  · first | exact ⟨he1 _, he2 _⟩ | exact trivial | (repeat' first | exact trivial | exact he1 _ | exact he2 _ | apply And.intro)
  exact HT_retA fun h => ⟨.inr rfl, h⟩
end Go.Proofs.Ytfjidddhehckoaa


namespace Go.Proofs.Ytfjidddhehckoaa
open Go Go.Hl

theorem evenR_con (l : List St) (hn : nodesS l ≤ 1000000000) (d : Nat) : Con Try.prog 7 true [lS l] (.v (lb (evenB l))) none d := by
  have cs := spanR_con l hn
  unfold evenB
  obtain ⟨⟨A, B⟩, hAB⟩ : ∃ x, spL l (0, 0) = x := ⟨_, rfl⟩
  rw [hAB] at cs ⊢
  simp only at cs ⊢
  clear hAB
  refine con_of_HT Try.func7 rfl (by kernel_rfl) (Nat.le_of_ble_eq_true rfl) ?_
  simp only [Try.f7]
  refine HT_seq <| HT_runA ?_
  refine HT_seq <| (HT_runc [⟨true, .tup [li A, li B], none⟩] (by simp [*]; first | exact ⟨rfl, Iff.rfl⟩ | exact ⟨rfl, trivial⟩ | rfl) ?_ ?_)
  · first | exact cs _ | exact trivial | simpa [*] using cs _
  refine HT_seq <| HT_runA ?_
  exact HT_retA fun h => ⟨.inr rfl, h⟩
theorem even_law (l : List St) (d : Nat) : Con Try.prog 3 true [lS l] (.v (lb true)) none d := by
  have ck := known_con
  have cf := few_con ⟨[], [], l⟩ 0 300 (by decide) (by decide)
  have hin : fewB ⟨[], [], l⟩ 0 300 = true → nodesS l ≤ 1000000000 := fun h => by
    have := (fewB_in (nodes := 300) (by decide) h).2.2.1
    simp only at this
    omega
  have ce := fun h => evenT_con l (hin h)
  have cr := fun h => evenR_con l (hin h)
  obtain ⟨FW, hFW⟩ : ∃ x, fewB ⟨[], [], l⟩ 0 300 = x := ⟨_, rfl⟩
  rw [hFW] at cf ce cr
  obtain ⟨E, hE⟩ : ∃ x, evenB l = x := ⟨_, rfl⟩
  rw [hE] at ce cr
  clear hFW hE hin
  simp only [aF, Fl.enc, encVs, encHs, List.map_cons, List.map_nil] at cf
  refine con_of_HT Try.func3 rfl (by kernel_rfl) (Nat.le_of_ble_eq_true rfl) ?_
  simp only [Try.f3]
  refine HT_seq <| HT_runA ?_
  refine HT_seq <| HT_seq <| (HT_runc [⟨true, .v (lb true), none⟩] (by simp [*]; first | exact ⟨rfl, Iff.rfl⟩ | exact ⟨rfl, trivial⟩ | rfl) ?_ ?_)
  · first | exact ck _ | exact trivial | simpa [*] using ck _
  refine (HT_cond rfl (fun h2 => ?_) (fun h2 => HT_skip ?_))
  · exact absurd h2 (by simp)
  · try simp only [BN] at h2
    refine HT_seq <| HT_seq <| (HT_runsF ?_)
    refine RunsF.cutE 2 [] (by simp [*, allTyped, fillC, placeOf]; rfl) trivial (le_agg 6 [.c (.sl 5 []), .c (.sl 6 []), .c (.sl 10 (encSs l))] rfl (by (repeat' (first | exact LWk.nil | apply LWk.cons | exact CWk.refl _ | exact CWk.nil _)))) ?_
    refine RunsF.doneE [⟨true, .v (lb FW), none⟩] (by simp [*, allTyped, fillC, placeOf]; first | exact ⟨rfl, Iff.rfl⟩ | exact ⟨rfl, trivial⟩ | rfl) ?_ ?_
    · first | exact cf _ | exact trivial | simpa using cf _
    refine (HT_cond rfl (fun h6 => ?_) (fun h6 => HT_skip ?_))
    · try simp only [BN] at h6
      refine HT_seq <| HT_runA ?_
      exact HT_retA fun h => ⟨.inr rfl, h⟩
    · try simp only [BN] at h6
      have hf : FW = true := by simpa using h6
      subst hf
      have ce := ce rfl
      have cr := cr rfl
      refine HT_seq <| (HT_runc [⟨true, .v (lb E), none⟩, ⟨true, .v (lb E), none⟩] (by simp [*]; first | exact ⟨rfl, Iff.rfl⟩ | exact ⟨rfl, trivial⟩ | rfl) ?_ ?_)
      · first | exact ⟨ce _, cr _⟩ | exact trivial | (repeat' first | exact trivial | exact ce _ | exact cr _ | apply And.intro)
      exact HT_retA fun h => ⟨.inr rfl, h⟩
end Go.Proofs.Ytfjidddhehckoaa


namespace Go.Proofs.Ytfjidddhehckoaa
open Go Go.Hl Go.RowKit Go.ChangeShapes Go.Proofs.Ytfjidddhehckoaa

/-! ## the argument, read as0 a tree -/
theorem tiled : Tiled Try.prog := tiled_mk (by kernel_rfl)
theorem own : ownKnob Try.prog.godebug = none := by kernel_rfl
theorem laidOut : laidOutB Try.prog = true := by kernel_rfl
section
variable {P : Program} {k : Nat} {t : TypeId} {ds : List CD}
theorem shape_slK {α : Type} {enc : α → List CD} {e : TypeId} {c : Nat} (hu : P.underlying t = some (.slice e)) (hc : P.cellsOf e = c) (he : ∀ k', k' < k → ∀ r, Shape P k' e r → ∃ x, r = enc x) (h : Shape P k t ds) : ∃ xs : List α, ds = [.sl c (xs.map enc)] := by
  cases k with
  | zero => exact h.elim
  | succ k =>
    unfold Shape at h
    rw [hu] at h
    obtain ⟨rows, h1, _, h3⟩ := h
    obtain ⟨xs, hxs⟩ := rows_enc (enc := enc) fun r hr => he k (Nat.lt_succ_self k) r (h3 r hr).2
    subst hxs
    exact ⟨xs, by rw [h1, hc]⟩
theorem shape_structK {fs : Array Field} {l : List (Nat × Nat × TypeId)} {c : Nat} (hu : P.underlying t = some (.struct fs)) (hl : segsF P fs = l) (hc : P.cellsOf t = c) (h : Shape P k t ds) : ds.length = c ∧ ∃ k', k' < k ∧ ∀ x ∈ l, Shape P k' x.2.2 ((ds.drop x.1).take x.2.1) := by
  cases k with
  | zero => exact h.elim
  | succ k =>
    unfold Shape at h
    rw [hu] at h
    have h' : ds.length = P.cellsOf t ∧ ∀ x ∈ segsF P fs, Shape P k x.2.2 ((ds.drop x.1).take x.2.1) := h
    exact ⟨hc ▸ h'.1, k, Nat.lt_succ_self k, fun x hx => h'.2 x (hl ▸ hx)⟩
end
theorem dec_i {k : Nat} {t : TypeId} {ds : List CD} (hu : Try.prog.underlying t = some (.int .i64)) (h : Shape Try.prog k t ds) : ∃ n : Int, ds = [iC n] := by
  obtain ⟨n, h1, _⟩ := shape_int hu h
  exact ⟨n, h1⟩
theorem dec_I {k : Nat} {ds : List CD} (h : Shape Try.prog k 38 ds) : ∃ l : List Int, ds = [.sl 1 (encIs l)] :=
  shape_slK (enc := fun x => [iC x]) Try.underlying38 (by kernel_rfl : Try.prog.cellsOf 3 = 1) (fun _ _ _ hr => dec_i Try.underlying3 hr) h
theorem dec_T : ∀ (k : Nat) (ds : List CD), Shape Try.prog k 37 ds → ∃ t : Tm, ds = t.enc := by
  intro k
  induction k using Nat.strongRecOn with
  | ind k ih =>
    intro ds h
    obtain ⟨hl, k1, hk1, hx⟩ := shape_structK (l := [(0, 1, 34), (1, 1, 3), (2, 1, 35)]) Try.underlying37 (by kernel_rfl) (by kernel_rfl : Try.prog.cellsOf 37 = 3) h
    match ds, hl with
    | [a, b, c], _ =>
      obtain ⟨n1, h1⟩ := dec_i Try.underlying34 (hx (0, 1, 34) (by simp))
      obtain ⟨n2, h2⟩ := dec_i Try.underlying3 (hx (1, 1, 3) (by simp))
      obtain ⟨ks, h3⟩ := shape_slK (enc := Tm.enc) Try.underlying35 (by kernel_rfl : Try.prog.cellsOf 37 = 3) (fun k' hk' r hr => ih k' (by omega) r hr) (hx (2, 1, 35) (by simp))
      simp only [List.drop, List.take, List.cons.injEq, and_true] at h1 h2 h3
      subst h1 h2 h3
      exact ⟨.mk n1 n2 ks, by simp only [Tm.enc, encTs_map]⟩
theorem dec_S : ∀ (k : Nat) (ds : List CD), Shape Try.prog k 40 ds → ∃ s : St, ds = s.enc := by
  intro k
  induction k using Nat.strongRecOn with
  | ind k ih =>
    intro ds h
    obtain ⟨hl, k1, hk1, hx⟩ := shape_structK (l := [(0, 1, 33), (1, 1, 3), (2, 1, 3), (3, 1, 3), (4, 3, 37), (7, 1, 22), (8, 1, 22), (9, 1, 38)]) Try.underlying40 (by kernel_rfl) (by kernel_rfl : Try.prog.cellsOf 40 = 10) h
    match ds, hl with
    | [a0, a1, a2, a3, a4, a5, a6, a7, a8, a9], _ =>
      obtain ⟨n0, h0⟩ := dec_i Try.underlying33 (hx (0, 1, 33) (by simp))
      obtain ⟨n1, h1⟩ := dec_i Try.underlying3 (hx (1, 1, 3) (by simp))
      obtain ⟨n2, h2⟩ := dec_i Try.underlying3 (hx (2, 1, 3) (by simp))
      obtain ⟨n3, h3⟩ := dec_i Try.underlying3 (hx (3, 1, 3) (by simp))
      obtain ⟨t, h4⟩ := dec_T _ _ (hx (4, 3, 37) (by simp))
      obtain ⟨la, h7⟩ := shape_slK (enc := St.enc) Try.underlying22 (by kernel_rfl : Try.prog.cellsOf 40 = 10) (fun k' hk' r hr => ih k' (by omega) r hr) (hx (7, 1, 22) (by simp))
      obtain ⟨lb', h8⟩ := shape_slK (enc := St.enc) Try.underlying22 (by kernel_rfl : Try.prog.cellsOf 40 = 10) (fun k' hk' r hr => ih k' (by omega) r hr) (hx (8, 1, 22) (by simp))
      obtain ⟨lc, h9⟩ := dec_I (hx (9, 1, 38) (by simp))
      simp only [List.drop, List.take, List.cons.injEq, and_true] at h0 h1 h2 h3 h4 h7 h8 h9
      subst h0 h1 h2 h3 h7 h8 h9
      refine ⟨.mk n0 n1 n2 n3 t la lb' lc, ?_⟩
      simp only [St.enc, encSs_map, ← h4, List.cons_append, List.nil_append]
theorem dec_Ss {k : Nat} {ds : List CD} (h : Shape Try.prog k 22 ds) : ∃ l : List St, ds = [.sl 10 (encSs l)] := by
  obtain ⟨ls, h2⟩ := shape_slK (enc := St.enc) Try.underlying22 (by kernel_rfl : Try.prog.cellsOf 40 = 10) (fun k' _ r hr => dec_S k' r hr) h
  exact ⟨ls, by rw [h2, encSs_map]⟩
end Go.Proofs.Ytfjidddhehckoaa

