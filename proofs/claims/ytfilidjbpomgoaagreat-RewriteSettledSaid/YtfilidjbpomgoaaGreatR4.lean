/- Part 4: contracts of functions of the program and of the reference, and plain facts about what they compute; used by the proof of the claimed statement. Conditions: as each theorem states. -/
import Derived.Test.YtfilidjbpomgoaaGreatR3
import Derived.Test.YtfilidjbpomgoaaGreatR2
set_option linter.unusedSimpArgs false
set_option linter.unusedVariables false
set_option linter.unnecessarySimpa false
set_option maxRecDepth 100000
set_option maxHeartbeats 2000000
namespace Go.Proofs.YtfilidjbpomgoaaGreat
open Go Go.Hl

def selI (k0 : Int) (len : Nat) : Int := wr (1 + heldI k0 0 (wr ((len : Int) - 2)))
def valN (vs : List Int) (o n : Int) (k : List Int) : Int :=
  if o = 0 then n else if o = 24 then (vs[n.toNat]?).getD 0 else if o = 6 then wr (-((k[0]?).getD 0)) else if o = 7 then flagI (decide ((k[0]?).getD 0 = 0))
  else if o = 23 then (if (k[0]?).getD 0 = 0 then (k[2]?).getD 0 else (k[1]?).getD 0)
  else if o = 25 then (k[(selI ((k[0]?).getD 0) k.length).toNat]?).getD 0
  else binI o ((k[0]?).getD 0) ((k[1]?).getD 0)
mutual
def vT (vs : List Int) : Tm → Int
  | .mk o n ks => valN vs o n (vTs vs ks)
def vTs (vs : List Int) : List Tm → List Int
  | [] => []
  | t :: l => vT vs t :: vTs vs l
end
theorem vTs_map (vs : List Int) : ∀ l : List Tm, vTs vs l = l.map (vT vs)
  | [] => by simp [vTs]
  | t :: l => by simp [vTs, vTs_map vs l]
theorem kq1 {vars : List Vr} {inp : Bool} {o n : Int} {ks : List Tm} (h : nodeB vars inp o n ks.length = true) (ho : o = 6 ∨ o = 7) : ∃ a, ks = [a] := by
  have := node_ar h
  rw [show kidsP o = (1, 1) by unfold kidsP; rw [if_neg (by omega), if_pos ho]] at this
  simp only at this
  match ks, this with
  | [a], _ => exact ⟨a, rfl⟩
  | [], h => simp at h
  | a :: b :: l, h => simp at h; omega
theorem kq2 {vars : List Vr} {inp : Bool} {o n : Int} {ks : List Tm} (h : nodeB vars inp o n ks.length = true) (h1 : ¬ o = 0) (h2 : ¬ o = 24) (h3 : ¬ o = 6) (h4 : ¬ o = 7) (h5 : ¬ o = 23) (h6 : ¬ o = 25) : ∃ a b, ks = [a, b] := by
  have := node_ar h
  have hr : 8 ≤ o ∧ o ≤ 22 := by
    refine Classical.byContradiction fun hc => ?_
    rw [show kidsP o = (-1, -1) by unfold kidsP; rw [if_neg (by omega), if_neg (by omega), if_neg hc, if_neg h5, if_neg h6]] at this
    simp at this
  rw [show kidsP o = (2, 2) by unfold kidsP; rw [if_neg (by omega), if_neg (by omega), if_pos hr]] at this
  simp only at this
  match ks, this with
  | [a, b], _ => exact ⟨a, b, rfl⟩
  | [], h => simp at h
  | [a], h => simp at h
  | a :: b :: c :: l, h => simp at h; omega
theorem kq3 {vars : List Vr} {inp : Bool} {n : Int} {ks : List Tm} (h : nodeB vars inp 23 n ks.length = true) : ∃ a b c, ks = [a, b, c] := by
  have := node_ar h
  rw [show kidsP 23 = (3, 3) by decide] at this
  simp only at this
  match ks, this with
  | [a, b, c], _ => exact ⟨a, b, c, rfl⟩
  | [], h => simp at h
  | [a], h => simp at h
  | [a, b], h => simp at h
  | a :: b :: c :: e :: l, h => simp at h; omega
theorem kqN {vars : List Vr} {inp : Bool} {n : Int} {ks : List Tm} (h : nodeB vars inp 25 n ks.length = true) : 2 ≤ ks.length ∧ ks.length ≤ 33 := by
  have := node_ar h
  rw [show kidsP 25 = (2, 33) by decide] at this
  simp only at this
  omega

theorem value_con (vars : List Vr) (inp : Bool) (vs : List Int) (hvs : vs.length = vars.length) (t : Tm) : formB vars inp t = true → ∀ d : Nat,
    Con Tryz.prog 104 true [lI vs, aT t] (.v (li (vT vs t))) none d := by
  induction t using Tm.ind with
  | h o n ks ih =>
  intro hf d
  simp only [formB, Bool.and_eq_true] at hf
  have hfk := formBs_mem hf.2
  have hf := hf.1
  obtain ⟨res, hres⟩ : ∃ r, vT vs (.mk o n ks) = r := ⟨_, rfl⟩
  rw [hres]
  simp only [vT, valN] at hres
  have ih := fun t ht => ih t ht (hfk t ht)
  clear hfk
  refine con_of_HT Tryz.func104 rfl (by kernel_rfl) (Nat.le_of_ble_eq_true rfl) ?_
  simp only [Tryz.f104]
  simp only [aT, Tm.enc]
  refine HT_seq <| (HT_run (by simp [*]; rfl) ?_)
  refine HT_seq <| HT_seq <| (HT_run (by simp [*]; rfl) ?_)
  refine HT_block <| HT_seq <| (HT_run (by simp [*]; rfl) ?_)
  refine (HT_cond rfl (fun h3 => ?_) (fun h3 => ?_))
  · try simp only [Bool.or_eq_true, Bool.and_eq_true, Bool.or_eq_false_iff, Bool.and_eq_false_iff, Bool.not_eq_true', Bool.not_eq_false', decide_eq_true_eq, decide_eq_false_iff_not] at h3
    rw [if_pos h3] at hres
    subst hres
    refine HT_seq <| (HT_run (by simp [*]; rfl) ?_)
    exact (HT_retE (fun h => ⟨.inr rfl, h⟩) _ (by simp [*]; rfl) (by first | rfl | (simp [*]; done) | (simp only [resR]; (repeat' split) <;> first | rfl | (exfalso; omega) | simp_all)) (by simp))
  · try simp only [Bool.or_eq_true, Bool.and_eq_true, Bool.or_eq_false_iff, Bool.and_eq_false_iff, Bool.not_eq_true', Bool.not_eq_false', decide_eq_true_eq, decide_eq_false_iff_not] at h3
    rw [if_neg h3] at hres
    refine HT_seq <| (HT_run (by simp [*]; rfl) ?_)
    refine (HT_cond rfl (fun h7 => ?_) (fun h7 => ?_))
    · try simp only [Bool.or_eq_true, Bool.and_eq_true, Bool.or_eq_false_iff, Bool.and_eq_false_iff, Bool.not_eq_true', Bool.not_eq_false', decide_eq_true_eq, decide_eq_false_iff_not] at h7
      rw [if_pos h7] at hres
      subst h7
      obtain ⟨hn0, v, hv, _⟩ := node_ref hf
      have hlt : n.toNat < vs.length := by rw [hvs]; exact (List.getElem?_eq_some_iff.1 hv).1
      obtain ⟨x, hx⟩ : ∃ x, vs[n.toNat]? = some x := ⟨vs[n.toNat], by simp [hlt]⟩
      rw [hx] at hres
      simp only [Option.getD_some] at hres
      subst hres
      clear hlt hv
      refine HT_seq <| (HT_run (by simp [*]; rfl) ?_)
      exact (HT_retE (fun h => ⟨.inr rfl, h⟩) _ (by simp [*]; rfl) (by first | rfl | (simp [*]; done) | (simp only [resR]; (repeat' split) <;> first | rfl | (exfalso; omega) | simp_all)) (by simp))
    · try simp only [Bool.or_eq_true, Bool.and_eq_true, Bool.or_eq_false_iff, Bool.and_eq_false_iff, Bool.not_eq_true', Bool.not_eq_false', decide_eq_true_eq, decide_eq_false_iff_not] at h7
      rw [if_neg h7] at hres
      refine HT_seq <| (HT_run (by simp [*]; rfl) ?_)
      refine (HT_cond rfl (fun h11 => ?_) (fun h11 => ?_))
      · try simp only [Bool.or_eq_true, Bool.and_eq_true, Bool.or_eq_false_iff, Bool.and_eq_false_iff, Bool.not_eq_true', Bool.not_eq_false', decide_eq_true_eq, decide_eq_false_iff_not] at h11
        rw [if_pos h11] at hres
        obtain ⟨⟨ao, an, ak⟩, rfl⟩ := kq1 hf (.inl h11)
        have ca := ih _ (List.mem_singleton.2 rfl)
        simp only [aT, Tm.enc, List.map_cons, List.map_nil] at ca
        obtain ⟨A, hA⟩ : ∃ x, vT vs (.mk ao an ak) = x := ⟨_, rfl⟩
        rw [hA] at ca
        rw [show vTs vs [Tm.mk ao an ak] = [A] by simp [vTs, hA]] at hres
        simp only [List.getElem?_cons_zero, Option.getD_some] at hres
        subst hres
        clear ih hA
        refine HT_seq <| (HT_runc [⟨true, .v (li A), none⟩] (by simp [*]; first | exact ⟨rfl, Iff.rfl⟩ | exact ⟨rfl, trivial⟩ | rfl) ?_ ?_)
        · first | exact ca _ | exact trivial | simpa [*] using ca _
        exact (HT_retE (fun h => ⟨.inr rfl, h⟩) _ (by simp [*]; rfl) (by first | rfl | (simp [*]; done) | (simp only [resR]; (repeat' split) <;> first | rfl | (exfalso; omega) | simp_all)) (by simp))
      · try simp only [Bool.or_eq_true, Bool.and_eq_true, Bool.or_eq_false_iff, Bool.and_eq_false_iff, Bool.not_eq_true', Bool.not_eq_false', decide_eq_true_eq, decide_eq_false_iff_not] at h11
        rw [if_neg h11] at hres
        refine HT_seq <| (HT_run (by simp [*]; rfl) ?_)
        refine (HT_cond rfl (fun h15 => ?_) (fun h15 => ?_))
        · try simp only [Bool.or_eq_true, Bool.and_eq_true, Bool.or_eq_false_iff, Bool.and_eq_false_iff, Bool.not_eq_true', Bool.not_eq_false', decide_eq_true_eq, decide_eq_false_iff_not] at h15
          rw [if_pos h15] at hres
          obtain ⟨⟨ao, an, ak⟩, rfl⟩ := kq1 hf (.inr h15)
          have ca := ih _ (List.mem_singleton.2 rfl)
          simp only [aT, Tm.enc, List.map_cons, List.map_nil] at ca
          obtain ⟨A, hA⟩ : ∃ x, vT vs (.mk ao an ak) = x := ⟨_, rfl⟩
          rw [hA] at ca
          rw [show vTs vs [Tm.mk ao an ak] = [A] by simp [vTs, hA]] at hres
          simp only [List.getElem?_cons_zero, Option.getD_some] at hres
          subst hres
          clear ih hA
          refine HT_seq <| (HT_runc [⟨true, .v (li A), none⟩, ⟨true, .v (li (flagI (decide (A = 0)))), none⟩] (by simp [*]; first | exact ⟨rfl, Iff.rfl⟩ | exact ⟨rfl, trivial⟩ | rfl) ?_ ?_)
          · first | exact ⟨ca _, flag_con _ _⟩ | exact trivial | (repeat' first | exact trivial | exact ca _ | exact flag_con _ _ | apply And.intro)
          exact (HT_retE (fun h => ⟨.inr rfl, h⟩) _ (by simp [*]; rfl) (by first | rfl | (simp [*]; done) | (simp only [resR]; (repeat' split) <;> first | rfl | (exfalso; omega) | simp_all)) (by simp))
        · try simp only [Bool.or_eq_true, Bool.and_eq_true, Bool.or_eq_false_iff, Bool.and_eq_false_iff, Bool.not_eq_true', Bool.not_eq_false', decide_eq_true_eq, decide_eq_false_iff_not] at h15
          rw [if_neg h15] at hres
          refine HT_seq <| (HT_run (by simp [*]; rfl) ?_)
          refine (HT_cond rfl (fun h19 => ?_) (fun h19 => ?_))
          · try simp only [Bool.or_eq_true, Bool.and_eq_true, Bool.or_eq_false_iff, Bool.and_eq_false_iff, Bool.not_eq_true', Bool.not_eq_false', decide_eq_true_eq, decide_eq_false_iff_not] at h19
            rw [if_pos h19] at hres
            subst h19
            obtain ⟨⟨ao, an, ak⟩, ⟨bo, bn, bk⟩, ⟨co, cn, ck⟩, rfl⟩ := kq3 hf
            have ca := ih (.mk ao an ak) (by simp)
            have cb := ih (.mk bo bn bk) (by simp)
            have cc := ih (.mk co cn ck) (by simp)
            simp only [aT, Tm.enc, List.map_cons, List.map_nil] at ca cb cc
            obtain ⟨A, hA⟩ : ∃ x, vT vs (.mk ao an ak) = x := ⟨_, rfl⟩
            obtain ⟨B, hB⟩ : ∃ x, vT vs (.mk bo bn bk) = x := ⟨_, rfl⟩
            obtain ⟨C, hC⟩ : ∃ x, vT vs (.mk co cn ck) = x := ⟨_, rfl⟩
            rw [hA] at ca
            rw [hB] at cb
            rw [hC] at cc
            rw [show vTs vs [Tm.mk ao an ak, Tm.mk bo bn bk, Tm.mk co cn ck] = [A, B, C] by simp [vTs, hA, hB, hC]] at hres
            simp only [List.getElem?_cons_zero, List.getElem?_cons_succ, Option.getD_some] at hres
            clear ih hA hB hC
            refine HT_seq <| HT_seq <| (HT_runc [⟨true, .v (li A), none⟩] (by simp [*]; first | exact ⟨rfl, Iff.rfl⟩ | exact ⟨rfl, trivial⟩ | rfl) ?_ ?_)
            · first | exact ca _ | exact trivial | simpa [*] using ca _
            refine (HT_cond rfl (fun h21 => ?_) (fun h21 => HT_skip ?_))
            · try simp only [Bool.or_eq_true, Bool.and_eq_true, Bool.or_eq_false_iff, Bool.and_eq_false_iff, Bool.not_eq_true', Bool.not_eq_false', decide_eq_true_eq, decide_eq_false_iff_not] at h21
              rw [if_neg h21] at hres
              subst hres
              refine HT_seq <| (HT_runc [⟨true, .v (li B), none⟩] (by simp [*]; first | exact ⟨rfl, Iff.rfl⟩ | exact ⟨rfl, trivial⟩ | rfl) ?_ ?_)
              · first | exact cb _ | exact trivial | simpa [*] using cb _
              exact (HT_retE (fun h => ⟨.inr rfl, h⟩) _ (by simp [*]; rfl) (by first | rfl | (simp [*]; done) | (simp only [resR]; (repeat' split) <;> first | rfl | (exfalso; omega) | simp_all)) (by simp))
            · try simp only [Bool.or_eq_true, Bool.and_eq_true, Bool.or_eq_false_iff, Bool.and_eq_false_iff, Bool.not_eq_true', Bool.not_eq_false', decide_eq_true_eq, decide_eq_false_iff_not] at h21
              rw [if_pos (by simpa using h21)] at hres
              subst hres
              refine HT_seq <| (HT_runc [⟨true, .v (li C), none⟩] (by simp [*]; first | exact ⟨rfl, Iff.rfl⟩ | exact ⟨rfl, trivial⟩ | rfl) ?_ ?_)
              · first | exact cc _ | exact trivial | simpa [*] using cc _
              exact (HT_retE (fun h => ⟨.inr rfl, h⟩) _ (by simp [*]; rfl) (by first | rfl | (simp [*]; done) | (simp only [resR]; (repeat' split) <;> first | rfl | (exfalso; omega) | simp_all)) (by simp))
          · try simp only [Bool.or_eq_true, Bool.and_eq_true, Bool.or_eq_false_iff, Bool.and_eq_false_iff, Bool.not_eq_true', Bool.not_eq_false', decide_eq_true_eq, decide_eq_false_iff_not] at h19
            rw [if_neg h19] at hres
            refine HT_seq <| (HT_run (by simp [*]; rfl) ?_)
            refine (HT_cond rfl (fun h27 => ?_) (fun h27 => HT_skip ?_))
            · try simp only [Bool.or_eq_true, Bool.and_eq_true, Bool.or_eq_false_iff, Bool.and_eq_false_iff, Bool.not_eq_true', Bool.not_eq_false', decide_eq_true_eq, decide_eq_false_iff_not] at h27
              rw [if_pos h27] at hres
              subst h27
              have hln := kqN hf
              obtain ⟨⟨ao, an, ak⟩, he0⟩ : ∃ t, ks[0]? = some t := ⟨ks[0], by simp⟩
              have ca := ih _ (List.mem_of_getElem? he0)
              have he0' := get_encT he0
              simp only [aT, Tm.enc, List.map_cons, List.map_nil] at ca he0'
              obtain ⟨A, hA⟩ : ∃ x, vT vs (.mk ao an ak) = x := ⟨_, rfl⟩
              rw [hA] at ca
              rw [vTs_map, List.getElem?_map, List.getElem?_map, he0, Option.map_some, Option.getD_some, hA, List.length_map] at hres
              have hw1 : IntKind.i64.wrap ((ks.length : Int) - 2) = (ks.length : Int) - 2 := wrap_in (by omega) (by omega)
              unfold selI at hres
              simp only [wr, hw1] at hres
              have hh := held_in (n := A) (lo := 0) (hi := (ks.length : Int) - 2) (by omega)
              obtain ⟨H, hH⟩ : ∃ x, heldI A 0 ((ks.length : Int) - 2) = x := ⟨_, rfl⟩
              have cheld := held_con A 0 ((ks.length : Int) - 2)
              rw [hH] at hres hh cheld
              have hw2 : IntKind.i64.wrap (1 + H) = 1 + H := wrap_in (by omega) (by omega)
              rw [hw2] at hres
              obtain ⟨⟨bo, bn, bk⟩, he1⟩ : ∃ t, ks[(1 + H).toNat]? = some t := ⟨ks[(1 + H).toNat]'(by omega), by simp⟩
              have cb := ih _ (List.mem_of_getElem? he1)
              have he1' := get_encT he1
              simp only [aT, Tm.enc, List.map_cons, List.map_nil] at cb he1'
              rw [he1, Option.map_some, Option.getD_some] at hres
              obtain ⟨B, hB⟩ : ∃ x, vT vs (.mk bo bn bk) = x := ⟨_, rfl⟩
              rw [hB] at cb hres
              subst hres
              have hp1 : 0 ≤ 1 + H := by omega
              have hp2 : 1 ≤ ks.length := by omega
              clear ih hA hB hH he0 he1 hln hf hvs
              refine HT_seq <| (HT_drunc [⟨true, .v (li A), none⟩, ⟨true, .v (li H), none⟩, ⟨true, .v (li B), none⟩] (by kernel_rfl) (by kernel_rfl) (by rfl) (by simp [*]; first | exact ⟨rfl, Iff.rfl⟩ | exact ⟨rfl, trivial⟩ | rfl) ?_ ?_)
              · first | exact ⟨ca _, cheld _, cb _⟩ | exact trivial | (repeat' first | exact trivial | exact ca _ | exact cheld _ | exact cb _ | apply And.intro)
              exact (HT_retE (fun h => ⟨.inr rfl, h⟩) _ (by simp [*]; rfl) (by first | rfl | (simp [*]; done) | (simp only [resR]; (repeat' split) <;> first | rfl | (exfalso; omega) | simp_all)) (by simp))
            · try simp only [Bool.or_eq_true, Bool.and_eq_true, Bool.or_eq_false_iff, Bool.and_eq_false_iff, Bool.not_eq_true', Bool.not_eq_false', decide_eq_true_eq, decide_eq_false_iff_not] at h27
              rw [if_neg h27] at hres
              obtain ⟨⟨ao, an, ak⟩, ⟨bo, bn, bk⟩, rfl⟩ := kq2 hf h3 h7 h11 h15 h19 h27
              have ca := ih (.mk ao an ak) (by simp)
              have cb := ih (.mk bo bn bk) (by simp)
              simp only [aT, Tm.enc, List.map_cons, List.map_nil] at ca cb
              simp only [vTs, List.getElem?_cons_zero, List.getElem?_cons_succ, Option.getD_some] at hres
              obtain ⟨A, hA⟩ : ∃ x, vT vs (.mk ao an ak) = x := ⟨_, rfl⟩
              obtain ⟨B, hB⟩ : ∃ x, vT vs (.mk bo bn bk) = x := ⟨_, rfl⟩
              rw [hA] at ca hres
              rw [hB] at cb hres
              subst hres
              clear ih hA hB
              refine HT_seq <| (HT_drunc [⟨true, .v (li A), none⟩, ⟨true, .v (li B), none⟩, ⟨true, .v (li (binI o A B)), none⟩] (by kernel_rfl) (by kernel_rfl) (by rfl) (by simp [*]; first | exact ⟨rfl, Iff.rfl⟩ | exact ⟨rfl, trivial⟩ | rfl) ?_ ?_)
              · first | exact ⟨ca _, cb _, bin_con _ _ _ _⟩ | exact trivial | (repeat' first | exact trivial | exact ca _ | exact cb _ | exact bin_con _ _ _ _ | apply And.intro)
              exact (HT_retE (fun h => ⟨.inr rfl, h⟩) _ (by simp [*]; rfl) (by first | rfl | (simp [*]; done) | (simp only [resR]; (repeat' split) <;> first | rfl | (exfalso; omega) | simp_all)) (by simp))
end Go.Proofs.YtfilidjbpomgoaaGreat

namespace Go.Proofs.YtfilidjbpomgoaaGreat
open Go Go.Hl

@[simp] theorem take_encV (l : List Vr) (i : Nat) : (encVs l).take i = encVs (l.take i) := by simp [encVs]
@[simp] theorem encV_snoc (l : List Vr) (v : Vr) : encVs (l ++ [v]) = encVs l ++ [v.enc] := by simp [encVs]
theorem take_snoc {α : Type} {l : List α} {k : Nat} {x : α} (h : l[k]? = some x) : l.take (k + 1) = l.take k ++ [x] := by
  rw [List.take_add_one, h]; rfl

theorem nameR_con (s : ByteArray) (d : Nat) : Con Tryz.prog 33 true [sv s] (.v (lb (nameB s))) none d := by
  refine con_of_HT Tryz.func33 rfl (by kernel_rfl) (Nat.le_of_ble_eq_true rfl) ?_
  simp only [Tryz.f33]
  refine HT_seq <| (HT_run (by simp [*]; rfl) ?_)
  refine HT_seq <| HT_seq <| (HT_run (by simp [*]; rfl) ?_)
  refine (HT_cond rfl (fun h2 => ?_) (fun h2 => HT_skip ?_))
  · try simp only [Bool.or_eq_true, Bool.and_eq_true, Bool.or_eq_false_iff, Bool.and_eq_false_iff, Bool.not_eq_true', Bool.not_eq_false', decide_eq_true_eq, decide_eq_false_iff_not] at h2
    have hz : nameB s = false := by
      unfold nameB
      rw [Bool.and_eq_false_iff, Bool.and_eq_false_iff]
      simp only [decide_eq_false_iff_not]
      omega
    refine HT_seq <| (HT_run (by simp [*]; rfl) ?_)
    exact (HT_retE (fun h => ⟨.inr rfl, h⟩) _ (by simp [*]; rfl) (by first | rfl | (simp [*]; done) | (simp only [resR]; (repeat' split) <;> first | rfl | (exfalso; omega) | simp_all)) (by simp))
  · try simp only [Bool.or_eq_true, Bool.and_eq_true, Bool.or_eq_false_iff, Bool.and_eq_false_iff, Bool.not_eq_true', Bool.not_eq_false', decide_eq_true_eq, decide_eq_false_iff_not] at h2
    have h1 : 1 ≤ s.size := by omega
    have h40 : s.size ≤ 40 := by omega
    refine HT_seq <| HT_seq <| (HT_run (by simp [*]; rfl) ?_)
    refine HT_block <| (HT_loopU [0] (fun (x : Nat) => [(3, .v (li x))]) (fun (x : Nat) => []) (fun (x : Nat) => x ≤ s.size ∧ ∀ j : Nat, j < x → chOk s j = true) (fun (x : Nat) => s.size - x) (0 : Nat) ⟨Nat.zero_le _, fun j hj => absurd hj (Nat.not_lt_zero j)⟩ ?_ ?_)
    · exact le_mk (fun n => n) [] rfl (by simp [*, upS, keepS]) (by simp [*, upS]) (by simp [upS])
    rintro k ⟨hk, hall⟩
    simp only [upS, keepS, insS]
    try simp only [keepS, List.contains_cons, List.contains_nil, Bool.or_false, Bool.or_true, Bool.true_or, Bool.false_or, Nat.reduceBEq, BEq.rfl, beq_self_eq_true, if_true, if_false, Bool.false_eq_true, ite_true, ite_false, ins, Nat.reduceLT]
    refine HT_seq <| HT_seq <| (HT_run (by simp [*]; rfl) ?_)
    refine (HT_cond rfl (fun h8 => HT_skip ?_) (fun h8 => ?_))
    · try simp only [Bool.or_eq_true, Bool.and_eq_true, Bool.or_eq_false_iff, Bool.and_eq_false_iff, Bool.not_eq_true', Bool.not_eq_false', decide_eq_true_eq, decide_eq_false_iff_not] at h8
      have hlt : k < s.size := by omega
      obtain ⟨b, hb⟩ := get_bytes hlt
      have hw := wrap1 hlt (by omega)
      have hk1 : k + 1 ≤ s.size := hlt
      clear hlt h8
      refine HT_seq <| HT_block <| HT_seq <| (HT_run (by simp [*]; rfl) ?_)
      refine HT_seq <| (HT_run (by simp [*]; rfl) ?_)
      refine HT_seq <| (HT_run (by simp [*]; rfl) ?_)
      refine HT_seq <| (HT_run (by simp [*]; rfl) ?_)
      refine (HT_cond rfl (fun h13 => ?_) (fun h13 => HT_skip ?_))
      · try simp only [Bool.or_eq_true, Bool.and_eq_true, Bool.or_eq_false_iff, Bool.and_eq_false_iff, Bool.not_eq_true', Bool.not_eq_false', decide_eq_true_eq, decide_eq_false_iff_not] at h13
        have hbad : chOk s k = false := by
          unfold chOk
          rw [hb]
          simp only [Bool.or_eq_false_iff, Bool.and_eq_false_iff, decide_eq_false_iff_not]
          omega
        have hz := nameB_bad hk1 hbad
        refine HT_seq <| (HT_run (by simp [*]; rfl) ?_)
        exact (HT_retE (fun h => ⟨.inr rfl, h⟩) _ (by simp [*]; rfl) (by first | rfl | (simp [*]; done) | (simp only [resR]; (repeat' split) <;> first | rfl | (exfalso; omega) | simp_all)) (by simp))
      · try simp only [Bool.or_eq_true, Bool.and_eq_true, Bool.or_eq_false_iff, Bool.and_eq_false_iff, Bool.not_eq_true', Bool.not_eq_false', decide_eq_true_eq, decide_eq_false_iff_not] at h13
        have hgood : chOk s k = true := by
          unfold chOk
          rw [hb]
          simp only [Bool.or_eq_true, Bool.and_eq_true, decide_eq_true_eq]
          omega
        refine (HT_run (by simp [*]; rfl) ?_)
        exact ⟨k + 1, ⟨by omega, fun j hj => (Nat.lt_succ_iff_lt_or_eq.1 hj).elim (hall j) (fun e => e ▸ hgood)⟩, by omega, le_mk (fun n => n) [] rfl (by simp [upS, keepS, *]) (by simp [*, upS]) (by simp [upS])⟩
    · try simp only [Bool.or_eq_true, Bool.and_eq_true, Bool.or_eq_false_iff, Bool.and_eq_false_iff, Bool.not_eq_true', Bool.not_eq_false', decide_eq_true_eq, decide_eq_false_iff_not] at h8
      have hz := nameB_good h1 h40 (fun j hj => hall j (by omega))
      refine (HT_exit ?_)
      refine HT_seq <| (HT_run (by simp [*]; rfl) ?_)
      exact (HT_retE (fun h => ⟨.inr rfl, h⟩) _ (by simp [*]; rfl) (by first | rfl | (simp [*]; done) | (simp only [resR]; (repeat' split) <;> first | rfl | (exfalso; omega) | simp_all)) (by simp))

/-! ## spaces -/
def sz (v : Vr) : Int := v.high - v.low + 1
def prV : List Vr → Int → Int
  | [], n => n
  | v :: l, n => if 4096 < n * sz v then 4097 else prV l (n * sz v)
def spc (vars : List Vr) (kind : Int) : Int := prV (vars.filter fun v => decide (v.kind = kind)) 1
def goodV' (vars : List Vr) : Prop := ∀ v ∈ vars, v.low ≤ v.high ∧ -1048576 ≤ v.low ∧ v.high ≤ 1048576
theorem sz_in {vars : List Vr} (h : goodV' vars) {v : Vr} (hv : v ∈ vars) : 1 ≤ sz v ∧ sz v ≤ 2097153 := by
  have := h v hv
  unfold sz
  omega
theorem mul_in {n s : Int} (h1 : 1 ≤ n ∧ n ≤ 4096) (h2 : 1 ≤ s ∧ s ≤ 2097153) : 1 ≤ n * s ∧ n * s ≤ 8589938688 := by
  have h3 : n.natAbs * s.natAbs ≤ 4096 * 2097153 := Nat.mul_le_mul (by omega) (by omega)
  have h4 : 1 * 1 ≤ n.natAbs * s.natAbs := Nat.mul_le_mul (by omega) (by omega)
  rw [← Int.natAbs_mul] at h3 h4
  have h5 : 0 ≤ n * s := Int.mul_nonneg (by omega) (by omega)
  omega
theorem prV_in {vars : List Vr} (h : goodV' vars) : ∀ (l : List Vr) (n : Int), (∀ v ∈ l, v ∈ vars) → 1 ≤ n ∧ n ≤ 4096 → 1 ≤ prV l n ∧ prV l n ≤ 4097
  | [], n, _, hn => by simp only [prV]; omega
  | v :: l, n, hl, hn => by
    simp only [prV]
    have := mul_in hn (sz_in h (hl v (by simp)))
    split
    · omega
    · exact prV_in h l _ (fun w hw => hl w (List.mem_cons_of_mem _ hw)) (by omega)

theorem spaceR_con (vars : List Vr) (kind : Int) (hv : goodV' vars) (hl : vars.length ≤ 1000000000) (d : Nat) : Con Tryz.prog 68 true [lV vars, li kind] (.v (li (spc vars kind))) none d := by
  obtain ⟨res, hres⟩ : ∃ r, spc vars kind = r := ⟨_, rfl⟩
  rw [hres]
  unfold spc at hres
  refine con_of_HT Tryz.func68 rfl (by kernel_rfl) (Nat.le_of_ble_eq_true rfl) ?_
  simp only [Tryz.f68]
  refine HT_seq <| (HT_run (by simp [*]; rfl) ?_)
  refine HT_seq <| (HT_run (by simp [*]; rfl) ?_)
  refine HT_seq <| HT_seq <| (HT_run (by simp [*]; rfl) ?_)
  refine HT_block <| (HT_loopU [0, 1] (fun (x : Nat × Int) => [(5, .v (li x.2)), (6, .v (li x.1))]) (fun (x : Nat × Int) => []) (fun (x : Nat × Int) => x.1 ≤ vars.length ∧ prV ((vars.drop x.1).filter fun v => decide (v.kind = kind)) x.2 = res ∧ 1 ≤ x.2 ∧ x.2 ≤ 4096) (fun (x : Nat × Int) => vars.length - x.1) (0, 1) ⟨Nat.zero_le _, hres, by decide, by decide⟩ ?_ ?_)
  · exact le_mk (fun n => n) [] rfl (by simp [*, upS, keepS]) (by simp [*, upS]) (by simp [upS])
  rintro ⟨k, n⟩ ⟨hk, hJ, hn1, hn2⟩
  simp only [upS, keepS, insS]
  try simp only [keepS, List.contains_cons, List.contains_nil, Bool.or_false, Bool.or_true, Bool.true_or, Bool.false_or, Nat.reduceBEq, BEq.rfl, beq_self_eq_true, if_true, if_false, Bool.false_eq_true, ite_true, ite_false, ins, Nat.reduceLT]
  simp only at hk hJ hn1 hn2
  clear hres
  refine HT_seq <| HT_seq <| (HT_run (by simp [*]; rfl) ?_)
  refine (HT_cond rfl (fun h5 => HT_skip ?_) (fun h5 => ?_))
  · try simp only [Bool.or_eq_true, Bool.and_eq_true, Bool.or_eq_false_iff, Bool.and_eq_false_iff, Bool.not_eq_true', Bool.not_eq_false', decide_eq_true_eq, decide_eq_false_iff_not] at h5
    have hlt : k < vars.length := by omega
    obtain ⟨v, he, hd⟩ := at_lt hlt
    have hw1 := wrap1 hlt (by omega)
    have hk1 : k + 1 ≤ vars.length := hlt
    have hmem : v ∈ vars := List.mem_of_getElem? he
    have hs := sz_in hv hmem
    have hm := mul_in ⟨hn1, hn2⟩ hs
    have hb := hv v hmem
    have hw2 : IntKind.i64.wrap (v.high - v.low) = v.high - v.low := wrap_in (by omega) (by omega)
    have hw3 : IntKind.i64.wrap (v.high - v.low + 1) = sz v := by rw [wrap_in (by omega) (by omega)]; rfl
    have hw4 : IntKind.i64.wrap (n * sz v) = n * sz v := wrap_in (by omega) (by omega)
    rw [hd] at hJ
    clear hlt h5 hv
    refine HT_seq <| HT_block <| HT_seq <| HT_seq <| (HT_run (by simp [*]; rfl) ?_)
    refine (HT_cond rfl (fun h7 => ?_) (fun h7 => HT_skip ?_))
    · try simp only [Bool.or_eq_true, Bool.and_eq_true, Bool.or_eq_false_iff, Bool.and_eq_false_iff, Bool.not_eq_true', Bool.not_eq_false', decide_eq_true_eq, decide_eq_false_iff_not] at h7
      rw [List.filter_cons_of_neg (by simpa using h7)] at hJ
      refine (HT_exit ?_)
      refine (HT_run (by simp [*]; rfl) ?_)
      exact ⟨(k + 1, n), ⟨hk1, hJ, hn1, hn2⟩, by simp only; omega, le_mk (fun n => n) [] rfl (by simp [upS, keepS, *]) (by simp [*, upS]) (by simp [upS])⟩
    · try simp only [Bool.or_eq_true, Bool.and_eq_true, Bool.or_eq_false_iff, Bool.and_eq_false_iff, Bool.not_eq_true', Bool.not_eq_false', decide_eq_true_eq, decide_eq_false_iff_not] at h7
      rw [List.filter_cons_of_pos (by simpa using h7)] at hJ
      simp only [prV] at hJ
      refine HT_seq <| (HT_drun (by kernel_rfl) (by kernel_rfl) (by rfl) (by simp [*]; rfl) ?_)
      refine HT_seq <| (HT_run (by simp [*]; rfl) ?_)
      refine (HT_cond rfl (fun h12 => ?_) (fun h12 => HT_skip ?_))
      · try simp only [Bool.or_eq_true, Bool.and_eq_true, Bool.or_eq_false_iff, Bool.and_eq_false_iff, Bool.not_eq_true', Bool.not_eq_false', decide_eq_true_eq, decide_eq_false_iff_not] at h12
        rw [if_pos h12] at hJ
        subst hJ
        refine HT_seq <| (HT_run (by simp [*]; rfl) ?_)
        exact (HT_retE (fun h => ⟨.inr rfl, h⟩) _ (by simp [*]; rfl) (by first | rfl | (simp [*]; done) | (simp only [resR]; (repeat' split) <;> first | rfl | (exfalso; omega) | simp_all)) (by simp))
      · try simp only [Bool.or_eq_true, Bool.and_eq_true, Bool.or_eq_false_iff, Bool.and_eq_false_iff, Bool.not_eq_true', Bool.not_eq_false', decide_eq_true_eq, decide_eq_false_iff_not] at h12
        rw [if_neg h12] at hJ
        refine (HT_run (by simp [*]; rfl) ?_)
        exact ⟨(k + 1, n * sz v), ⟨hk1, hJ, hm.1, by simp only; omega⟩, by simp only; omega, le_mk (fun n => n) [] rfl (by simp [upS, keepS, *]) (by simp [*, upS]) (by simp [upS])⟩
  · try simp only [Bool.or_eq_true, Bool.and_eq_true, Bool.or_eq_false_iff, Bool.and_eq_false_iff, Bool.not_eq_true', Bool.not_eq_false', decide_eq_true_eq, decide_eq_false_iff_not] at h5
    have hkl : k = vars.length := by omega
    rw [hkl, List.drop_length] at hJ
    simp only [List.filter_nil, prV] at hJ
    refine (HT_exit ?_)
    refine HT_seq <| (HT_run (by simp [*]; rfl) ?_)
    exact (HT_retE (fun h => ⟨.inr rfl, h⟩) _ (by simp [*]; rfl) (by subst hJ; rfl) (by simp))

theorem sizeD_con (v : Vr) (hv : -1048576 ≤ v.low ∧ v.low ≤ v.high ∧ v.high ≤ 1048576) (d : Nat) : Con Tryz.prog 120 true [aV v] (.v (li (sz v))) none d := by
  have hw2 : IntKind.i64.wrap (v.high - v.low) = v.high - v.low := wrap_in (by omega) (by omega)
  have hw3 : IntKind.i64.wrap (v.high - v.low + 1) = sz v := by rw [wrap_in (by omega) (by omega)]; rfl
  refine con_of_HT Tryz.func120 rfl (by kernel_rfl) (Nat.le_of_ble_eq_true rfl) ?_
  simp only [Tryz.f120]
  refine HT_seq <| (HT_run (by simp [*]; rfl) ?_)
  refine HT_seq <| (HT_run (by simp [*]; rfl) ?_)
  exact (HT_retE (fun h => ⟨.inr rfl, h⟩) _ (by simp [*]; rfl) (by first | rfl | (simp [*]; done) | (simp only [resR]; (repeat' split) <;> first | rfl | (exfalso; omega) | simp_all)) (by simp))
def chR (vars : List Vr) (kind : Int) : RV := if spc vars kind ≤ 4096 then .tup [.one (.c (.sl 5 (encVs (vars.filter fun v => decide (v.kind = kind))))), li (spc vars kind), li 0] else .tup [.one (.c (.lit nilS)), li 0, li 4]
theorem chosen_con (vars : List Vr) (kind : Int) (hkd : 1 ≤ kind ∧ kind ≤ 3) (hv : goodV' vars) (hl : vars.length ≤ 1000000) (d : Nat) : Con Tryz.prog 106 false [lV vars, li kind] (chR vars kind) none d := by
  obtain ⟨S, hS⟩ : ∃ S, vars.filter (fun v => decide (v.kind = kind)) = S := ⟨_, rfl⟩
  obtain ⟨res, hres⟩ : ∃ r, spc vars kind = r := ⟨_, rfl⟩
  unfold chR
  rw [hres, hS]
  unfold spc at hres
  rw [hS] at hres
  refine con_of_HT Tryz.func106 rfl (by kernel_rfl) (Nat.le_of_ble_eq_true rfl) ?_
  simp only [Tryz.f106]
  refine HT_seq <| (HT_run (by simp [*]; rfl) ?_)
  refine (HT_cutU [0, 1] (fun (z : Unit) => []) (fun (z : Unit) => []) (fun (z : Unit) => True) ?_ ?_)
  ·
    refine HT_seq <| (HT_run (by simp [*]; rfl) ?_)
    refine HT_block <| (HT_cutU [0, 1] (fun (z : Bool) => [(14, .v (lb z))]) (fun (z : Bool) => []) (fun (z : Bool) => z = true) ?_ ?_)
    ·
      refine HT_seq <| (HT_run (by simp [*]; rfl) ?_)
      refine (HT_cond rfl (fun h5 => HT_skip ?_) (fun h5 => ?_))
      · try simp only [Bool.or_eq_true, Bool.and_eq_true, Bool.or_eq_false_iff, Bool.and_eq_false_iff, Bool.not_eq_true', Bool.not_eq_false', decide_eq_true_eq, decide_eq_false_iff_not] at h5
        exact ⟨true, rfl, le_mk (fun n => n) [] rfl (by simp [upS, keepS, *]) (by simp [*, upS]) (by simp [upS])⟩
      · try simp only [Bool.or_eq_true, Bool.and_eq_true, Bool.or_eq_false_iff, Bool.and_eq_false_iff, Bool.not_eq_true', Bool.not_eq_false', decide_eq_true_eq, decide_eq_false_iff_not] at h5
        refine HT_seq <| (HT_run (by simp [*]; rfl) ?_)
        refine (HT_cond rfl (fun h8 => HT_skip ?_) (fun h8 => ?_))
        · try simp only [Bool.or_eq_true, Bool.and_eq_true, Bool.or_eq_false_iff, Bool.and_eq_false_iff, Bool.not_eq_true', Bool.not_eq_false', decide_eq_true_eq, decide_eq_false_iff_not] at h8
          exact ⟨true, rfl, le_mk (fun n => n) [] rfl (by simp [upS, keepS, *]) (by simp [*, upS]) (by simp [upS])⟩
        · try simp only [Bool.or_eq_true, Bool.and_eq_true, Bool.or_eq_false_iff, Bool.and_eq_false_iff, Bool.not_eq_true', Bool.not_eq_false', decide_eq_true_eq, decide_eq_false_iff_not] at h8
          refine HT_seq <| (HT_run (by simp [*]; rfl) ?_)
          refine (HT_cond rfl (fun h11 => HT_skip ?_) (fun h11 => ?_))
          · try simp only [Bool.or_eq_true, Bool.and_eq_true, Bool.or_eq_false_iff, Bool.and_eq_false_iff, Bool.not_eq_true', Bool.not_eq_false', decide_eq_true_eq, decide_eq_false_iff_not] at h11
            exact ⟨true, rfl, le_mk (fun n => n) [] rfl (by simp [upS, keepS, *]) (by simp [*, upS]) (by simp [upS])⟩
          · try simp only [Bool.or_eq_true, Bool.and_eq_true, Bool.or_eq_false_iff, Bool.and_eq_false_iff, Bool.not_eq_true', Bool.not_eq_false', decide_eq_true_eq, decide_eq_false_iff_not] at h11
            refine (HT_run (by simp [*]; rfl) ?_)
            have hz : decide (kind = 3) = true := by rw [decide_eq_true_eq]; omega
            exact ⟨true, rfl, le_mk (fun n => n) [] rfl (by simp [upS, keepS, *]) (by simp [*, upS]) (by simp [upS])⟩
    rintro _ rfl
    simp only [upS, keepS, insS]
    try simp only [keepS, List.contains_cons, List.contains_nil, Bool.or_false, Bool.or_true, Bool.true_or, Bool.false_or, Nat.reduceBEq, BEq.rfl, beq_self_eq_true, if_true, if_false, Bool.false_eq_true, ite_true, ite_false, ins, Nat.reduceLT]
    refine (HT_cond rfl (fun h15 => HT_skip ?_) (fun h15 => ?_))
    · try simp only [Bool.or_eq_true, Bool.and_eq_true, Bool.or_eq_false_iff, Bool.and_eq_false_iff, Bool.not_eq_true', Bool.not_eq_false', decide_eq_true_eq, decide_eq_false_iff_not] at h15
      exact ⟨(), trivial, le_mk (fun n => n) [] rfl (by simp [upS, keepS, *]) (by simp [*, upS]) (by simp [upS])⟩
    · exact absurd h15 (by simp)
  rintro z hz
  simp only [upS, keepS, insS]
  try simp only [keepS, List.contains_cons, List.contains_nil, Bool.or_false, Bool.or_true, Bool.true_or, Bool.false_or, Nat.reduceBEq, BEq.rfl, beq_self_eq_true, if_true, if_false, Bool.false_eq_true, ite_true, ite_false, ins, Nat.reduceLT]
  refine HT_seq <| (HT_run (by simp [*]; rfl) ?_)
  refine HT_seq <| HT_seq <| (HT_run (by simp [*]; rfl) ?_)
  refine HT_block <| (HT_loopU [1, 19, 20] (fun (x : Nat × List Vr) => [(7, .v (.one (.own 1007))), (21, .v (li x.1))]) (fun (x : Nat × List Vr) => [(1007, .row 65 5 (encVs x.2))]) (fun (x : Nat × List Vr) => x.1 ≤ vars.length ∧ x.2 = (vars.take x.1).filter fun v => decide (v.kind = kind)) (fun (x : Nat × List Vr) => vars.length - x.1) (0, []) ⟨Nat.zero_le _, by simp⟩ ?_ ?_)
  · exact le_mk (fun n => n) [1007] rfl (by simp [upS, keepS]) (by simp [upS, encVs]) (by simp [upS])
  rintro ⟨k, acc⟩ ⟨hk, hJ⟩
  simp only [upS, keepS, insS]
  try simp only [keepS, List.contains_cons, List.contains_nil, Bool.or_false, Bool.or_true, Bool.true_or, Bool.false_or, Nat.reduceBEq, BEq.rfl, beq_self_eq_true, if_true, if_false, Bool.false_eq_true, ite_true, ite_false, ins, Nat.reduceLT]
  simp only at hk hJ
  replace hJ := hJ.symm
  refine HT_seq <| (HT_run (by simp [*]; rfl) ?_)
  refine HT_seq <| (HT_cond rfl (fun h23 => HT_skip ?_) (fun h23 => ?_))
  · try simp only [Bool.or_eq_true, Bool.and_eq_true, Bool.or_eq_false_iff, Bool.and_eq_false_iff, Bool.not_eq_true', Bool.not_eq_false', decide_eq_true_eq, decide_eq_false_iff_not] at h23
    have hlt : k < vars.length := by omega
    obtain ⟨v, he, hd⟩ := at_lt hlt
    have hw1 := wrap1 hlt (by omega)
    have hk1 : k + 1 ≤ vars.length := hlt
    have hmem : v ∈ vars := List.mem_of_getElem? he
    have hb := hv v hmem
    have ht := take_snoc he
    generalize hT : (vars.take k).filter (fun v => decide (v.kind = kind)) = T at hJ
    have hal : acc.length ≤ k := by
      rw [← hJ, ← hT]
      exact Nat.le_trans (List.length_filter_le _ _) (by rw [List.length_take]; omega)
    have hroom : room (acc.length + 1) 48 := room_of (by omega) (by omega)
    clear hlt h23 hv
    refine HT_seq <| HT_block <| HT_seq <| (HT_run (by simp [*]; rfl) ?_)
    refine HT_seq <| HT_seq <| (HT_run (by simp [*]; rfl) ?_)
    refine (HT_cond rfl (fun h26 => ?_) (fun h26 => HT_skip ?_))
    · try simp only [Bool.or_eq_true, Bool.and_eq_true, Bool.or_eq_false_iff, Bool.and_eq_false_iff, Bool.not_eq_true', Bool.not_eq_false', decide_eq_true_eq, decide_eq_false_iff_not] at h26
      have hf : (vars.take (k + 1)).filter (fun v => decide (v.kind = kind)) = acc := by rw [ht, List.filter_append, hT, hJ, List.filter_cons_of_neg (by simpa using h26)]; simp
      clear hS
      refine (HT_exit ?_)
      refine (HT_run (by simp [*]; rfl) ?_)
      exact ⟨(k + 1, acc), ⟨hk1, hf.symm⟩, by simp only; omega, le_mk (fun n => n) [] rfl (by simp [upS, keepS, *]) (by simp [*, upS]) (by simp [upS])⟩
    · try simp only [Bool.or_eq_true, Bool.and_eq_true, Bool.or_eq_false_iff, Bool.and_eq_false_iff, Bool.not_eq_true', Bool.not_eq_false', decide_eq_true_eq, decide_eq_false_iff_not] at h26
      have hf : (vars.take (k + 1)).filter (fun v => decide (v.kind = kind)) = acc ++ [v] := by rw [ht, List.filter_append, hT, hJ, List.filter_cons_of_pos (by simpa using h26)]; simp
      clear hS
      refine HT_seq <| HT_seq <| (HT_run (by simp [*]; rfl) ?_)
      refine (HT_cond rfl (fun h30 => ?_) (fun h30 => HT_skip ?_))
      · exfalso
        simp only [Bool.or_eq_true, decide_eq_true_eq] at h30
        omega
      · try simp only [Bool.or_eq_true, Bool.and_eq_true, Bool.or_eq_false_iff, Bool.and_eq_false_iff, Bool.not_eq_true', Bool.not_eq_false', decide_eq_true_eq, decide_eq_false_iff_not] at h30
        refine (HT_run (by simp [*]; rfl) ?_)
        refine (HT_run (by simp [*]; rfl) ?_)
        exact ⟨(k + 1, acc ++ [v]), ⟨hk1, hf.symm⟩, by simp only; omega, le_mk (fun n => if n = 1007 then 47 else n) [] rfl (by simp [upS, keepS, *]) (by simp [*, upS]) (by simp [upS])⟩
  · try simp only [Bool.or_eq_true, Bool.and_eq_true, Bool.or_eq_false_iff, Bool.and_eq_false_iff, Bool.not_eq_true', Bool.not_eq_false', decide_eq_true_eq, decide_eq_false_iff_not] at h23
    have hkl : k = vars.length := by omega
    rw [hkl, List.take_length, hS] at hJ
    subst hJ
    have hSl : S.length ≤ 1000000 := by rw [← hS]; exact Nat.le_trans (List.length_filter_le _ _) hl
    have hSv : ∀ v ∈ S, v.low ≤ v.high ∧ -1048576 ≤ v.low ∧ v.high ≤ 1048576 := fun v h => hv v (by rw [← hS] at h; exact (List.mem_filter.1 h).1)
    clear hS hv hk hl h23 hkl
    refine (HT_exit ?_)
    refine HT_seq <| (HT_run (by simp [*]; rfl) ?_)
    refine HT_seq <| HT_seq <| (HT_run (by simp [*]; rfl) ?_)
    refine HT_block <| (HT_loopU [7, 49, 50] (fun (x : Nat × Int) => [(10, .v (li x.2)), (51, .v (li x.1))]) (fun (x : Nat × Int) => [(1007, .row 65 5 (encVs S))]) (fun (x : Nat × Int) => x.1 ≤ S.length ∧ prV (S.drop x.1) x.2 = res ∧ 1 ≤ x.2 ∧ x.2 ≤ 4096) (fun (x : Nat × Int) => S.length - x.1) (0, 1) ⟨Nat.zero_le _, hres, by decide, by decide⟩ ?_ ?_)
    · exact le_mk (fun n => n) [] rfl (by simp [*, upS, keepS]) (by simp [*, upS]) (by simp [upS])
    rintro ⟨k2, n⟩ ⟨hk2, hJ, hn1, hn2⟩
    simp only [upS, keepS, insS]
    try simp only [keepS, List.contains_cons, List.contains_nil, Bool.or_false, Bool.or_true, Bool.true_or, Bool.false_or, Nat.reduceBEq, BEq.rfl, beq_self_eq_true, if_true, if_false, Bool.false_eq_true, ite_true, ite_false, ins, Nat.reduceLT]
    simp only at hk2 hJ hn1 hn2
    clear hres
    refine HT_seq <| (HT_run (by simp [*]; rfl) ?_)
    refine HT_seq <| (HT_cond rfl (fun h40 => HT_skip ?_) (fun h40 => ?_))
    · try simp only [Bool.or_eq_true, Bool.and_eq_true, Bool.or_eq_false_iff, Bool.and_eq_false_iff, Bool.not_eq_true', Bool.not_eq_false', decide_eq_true_eq, decide_eq_false_iff_not] at h40
      have hlt : k2 < S.length := by omega
      obtain ⟨v, he, hd⟩ := at_lt hlt
      have hw1 := wrap1 hlt (by omega)
      have hk1 : k2 + 1 ≤ S.length := hlt
      have hb := hSv v (List.mem_of_getElem? he)
      have hs : 1 ≤ sz v ∧ sz v ≤ 2097153 := by unfold sz; omega
      have hm := mul_in ⟨hn1, hn2⟩ hs
      have hw4 : IntKind.i64.wrap (n * sz v) = n * sz v := wrap_in (by omega) (by omega)
      rw [hd] at hJ
      simp only [prV] at hJ
      clear hlt h40
      refine HT_seq <| HT_block <| HT_seq <| (HT_run (by simp [*]; rfl) ?_)
      refine HT_seq <| (HT_runc [⟨true, .v (li (sz v)), none⟩] (by simp [*]; first | exact ⟨rfl, Iff.rfl⟩ | exact ⟨rfl, trivial⟩ | rfl) ?_ ?_)
      · first | exact sizeD_con v ⟨hb.2.1, hb.1, hb.2.2⟩ _ | exact trivial | simpa [*] using sizeD_con v ⟨hb.2.1, hb.1, hb.2.2⟩ _
      refine HT_seq <| (HT_run (by simp [*]; rfl) ?_)
      refine (HT_cond rfl (fun h44 => ?_) (fun h44 => HT_skip ?_))
      · try simp only [Bool.or_eq_true, Bool.and_eq_true, Bool.or_eq_false_iff, Bool.and_eq_false_iff, Bool.not_eq_true', Bool.not_eq_false', decide_eq_true_eq, decide_eq_false_iff_not] at h44
        rw [if_pos h44] at hJ
        subst hJ
        refine HT_seq <| (HT_run (by simp [*]; rfl) ?_)
        exact HT_ret ⟨.inr rfl, _, le_refl _, ⟨⟨_, by simp; rfl, by simp [resR]⟩, by simp, fun h => by cases h⟩⟩
      · try simp only [Bool.or_eq_true, Bool.and_eq_true, Bool.or_eq_false_iff, Bool.and_eq_false_iff, Bool.not_eq_true', Bool.not_eq_false', decide_eq_true_eq, decide_eq_false_iff_not] at h44
        rw [if_neg h44] at hJ
        refine (HT_run (by simp [*]; rfl) ?_)
        exact ⟨(k2 + 1, n * sz v), ⟨hk1, hJ, hm.1, by simp only; omega⟩, by simp only; omega, le_mk (fun n => n) [] rfl (by simp [upS, keepS, *]) (by simp [*, upS]) (by simp [upS])⟩
    · try simp only [Bool.or_eq_true, Bool.and_eq_true, Bool.or_eq_false_iff, Bool.and_eq_false_iff, Bool.not_eq_true', Bool.not_eq_false', decide_eq_true_eq, decide_eq_false_iff_not] at h40
      have hkl : k2 = S.length := by omega
      rw [hkl, List.drop_length] at hJ
      simp only [prV] at hJ
      subst hJ
      refine (HT_exit ?_)
      refine HT_seq <| (HT_run (by simp [*]; rfl) ?_)
      exact HT_ret ⟨.inr rfl, _, le_frz 1007 rfl, ⟨⟨_, by simp; rfl, by simp [resR, hn2]⟩, by simp, fun h => by cases h⟩⟩
theorem spaceP_con (vars : List Vr) (kind : Int) (hkd : 1 ≤ kind ∧ kind ≤ 3) (hv : goodV' vars) (hl : vars.length ≤ 1000000) (d : Nat) : Con Tryz.prog 86 true [lV vars, li kind]
    (.tup [li (if spc vars kind ≤ 4096 then spc vars kind else 0), li (if spc vars kind ≤ 4096 then 0 else 4)]) none d := by
  have c := chosen_con vars kind hkd hv hl
  unfold chR at c
  obtain ⟨res, hres⟩ : ∃ r, spc vars kind = r := ⟨_, rfl⟩
  rw [hres] at c ⊢
  clear hres
  by_cases h : res ≤ 4096
  · rw [if_pos h] at c
    rw [if_pos h, if_pos h]
    refine con_of_HT Tryz.func86 rfl (by kernel_rfl) (Nat.le_of_ble_eq_true rfl) ?_
    simp only [Tryz.f86]
    refine HT_seq <| (HT_run (by simp [*]; rfl) ?_)
    refine HT_seq <| (HT_runc [⟨false, .tup [.one (.c (.sl 5 (encVs (vars.filter fun v => decide (v.kind = kind))))), li res, li 0], none⟩] (by simp [*]; first | exact ⟨rfl, Iff.rfl⟩ | exact ⟨rfl, trivial⟩ | rfl) ?_ ?_)
    · first | exact c _ | exact trivial | simpa [*] using c _
    refine HT_seq <| (HT_run (by simp [*]; rfl) ?_)
    exact (HT_retE (fun h => ⟨.inr rfl, h⟩) _ (by simp [*]; rfl) (by first | rfl | (simp [*]; done) | (simp only [resR]; (repeat' split) <;> first | rfl | (exfalso; omega) | simp_all)) (by simp))
  · rw [if_neg h] at c
    rw [if_neg h, if_neg h]
    refine con_of_HT Tryz.func86 rfl (by kernel_rfl) (Nat.le_of_ble_eq_true rfl) ?_
    simp only [Tryz.f86]
    refine HT_seq <| (HT_run (by simp [*]; rfl) ?_)
    refine HT_seq <| (HT_runc [⟨false, .tup [.one (.c (.lit nilS)), li 0, li 4], none⟩] (by simp [*]; first | exact ⟨rfl, Iff.rfl⟩ | exact ⟨rfl, trivial⟩ | rfl) ?_ ?_)
    · first | exact c _ | exact trivial | simpa [*] using c _
    refine HT_seq <| (HT_run (by simp [*]; rfl) ?_)
    exact (HT_retE (fun h => ⟨.inr rfl, h⟩) _ (by simp [*]; rfl) (by first | rfl | (simp [*]; done) | (simp only [resR]; (repeat' split) <;> first | rfl | (exfalso; omega) | simp_all)) (by simp))
end Go.Proofs.YtfilidjbpomgoaaGreat

namespace Go.Proofs.YtfilidjbpomgoaaGreat
open Go Go.Hl

/-! ## rising -/
def risAt (l : List Int) (i : Nat) : Bool :=
  match l[i]?, l[i + 1]? with
  | some a, some b => decide (a < b)
  | _, _ => true
def risB (l : List Int) : Bool := (List.range l.length).all (risAt l)
theorem ris_bad {l : List Int} {i : Nat} (hi : i < l.length) (h : risAt l i = false) : risB l = false := by
  unfold risB
  rw [List.all_eq_false]
  exact ⟨i, by simpa using hi, by simp [h]⟩
theorem ris_good {l : List Int} (h : ∀ i : Nat, i + 1 < l.length → risAt l i = true) : risB l = true := by
  unfold risB
  rw [List.all_eq_true]
  intro i hi
  simp only [List.mem_range] at hi
  by_cases h2 : i + 1 < l.length
  · exact h i h2
  · unfold risAt
    rw [List.getElem?_eq_none (i := i + 1) (by omega)]
    cases l[i]? <;> rfl
theorem get_I {l : List Int} {k : Nat} (h : k < l.length) : ∃ b, l[k]? = some b := ⟨l[k], by simp [h]⟩
theorem risingP_con (l : List Int) (hl : l.length ≤ 1000000000) (d : Nat) : Con Tryz.prog 114 true [lI l] (.v (lb (risB l))) none d := by
  refine con_of_HT Tryz.func114 rfl (by kernel_rfl) (Nat.le_of_ble_eq_true rfl) ?_
  simp only [Tryz.f114]
  refine HT_seq <| (HT_run (by simp [*]; rfl) ?_)
  refine HT_seq <| HT_seq <| (HT_run (by simp [*]; rfl) ?_)
  refine HT_block <| (HT_loopU [0, 5] (fun (x : Nat) => [(6, .v (li x))]) (fun (x : Nat) => []) (fun (x : Nat) => x ≤ l.length ∧ ∀ j : Nat, j + 1 < x → risAt l j = true) (fun (x : Nat) => l.length - x) (0 : Nat) ⟨Nat.zero_le _, fun j hj => absurd hj (by omega)⟩ ?_ ?_)
  · exact le_mk (fun n => n) [] rfl (by simp [*, upS, keepS]) (by simp [*, upS]) (by simp [upS])
  rintro k ⟨hk, hJ⟩
  simp only [upS, keepS, insS]
  try simp only [keepS, List.contains_cons, List.contains_nil, Bool.or_false, Bool.or_true, Bool.true_or, Bool.false_or, Nat.reduceBEq, BEq.rfl, beq_self_eq_true, if_true, if_false, Bool.false_eq_true, ite_true, ite_false, ins, Nat.reduceLT]
  refine HT_seq <| (HT_run (by simp [*]; rfl) ?_)
  refine HT_seq <| (HT_cond rfl (fun h4 => HT_skip ?_) (fun h4 => ?_))
  · try simp only [Bool.or_eq_true, Bool.and_eq_true, Bool.or_eq_false_iff, Bool.and_eq_false_iff, Bool.not_eq_true', Bool.not_eq_false', decide_eq_true_eq, decide_eq_false_iff_not] at h4
    have hlt : k < l.length := by omega
    obtain ⟨b, hb⟩ := get_I hlt
    have hw := wrap1 hlt hl
    have hk1 : k + 1 ≤ l.length := hlt
    have hk9 : k ≤ 1000000000 := by omega
    clear hlt h4
    refine HT_seq <| HT_block <| HT_seq <| (HT_run (by simp [*]; rfl) ?_)
    rcases k with _ | j
    · have hw1 : IntKind.i64.wrap 1 = 1 := wrap_in (by omega) (by omega)
      refine HT_seq <| (HT_drun (by kernel_rfl) (by kernel_rfl) (by rfl) (by simp [*]; rfl) ?_)
      refine (HT_cond rfl (fun h7 => ?_) (fun h7 => HT_skip ?_))
      · exact absurd h7 (by simp)
      · try simp only [Bool.or_eq_true, Bool.and_eq_true, Bool.or_eq_false_iff, Bool.and_eq_false_iff, Bool.not_eq_true', Bool.not_eq_false', decide_eq_true_eq, decide_eq_false_iff_not] at h7
        refine (HT_run (by simp [*]; rfl) ?_)
        exact ⟨1, ⟨hk1, fun j hj => absurd hj (by omega)⟩, by omega, le_mk (fun n => n) [] rfl (by simp [upS, keepS, *]) (by simp [*, upS]) (by simp [upS])⟩
    · have hw1 : IntKind.i64.wrap ((j : Int) + 1 + 1) = (j : Int) + 1 + 1 := wrap_in (by omega) (by omega)
      obtain ⟨a, ha⟩ := get_I (show j < l.length by omega)
      have hwj : IntKind.i64.wrap (j : Int) = j := wrap_in (by omega) (by omega)
      have hri : risAt l j = decide (a < b) := by unfold risAt; rw [ha, hb]
      have hj0 : (0 : Int) < (j : Int) + 1 := by omega
      have hj1 : 0 ≤ (j : Int) + 1 := by omega
      have hj2 : ((j : Int) + 1).toNat = j + 1 := by omega
      refine HT_seq <| (HT_drun (by kernel_rfl) (by kernel_rfl) (by rfl) (by simp [*]; rfl) ?_)
      refine (HT_cond rfl (fun h7 => ?_) (fun h7 => HT_skip ?_))
      · try simp only [Bool.or_eq_true, Bool.and_eq_true, Bool.or_eq_false_iff, Bool.and_eq_false_iff, Bool.not_eq_true', Bool.not_eq_false', decide_eq_true_eq, decide_eq_false_iff_not] at h7
        have hz : risB l = false := ris_bad (i := j) (by omega) (by rw [hri]; simpa using h7)
        refine HT_seq <| (HT_run (by simp [*]; rfl) ?_)
        exact (HT_retE (fun h => ⟨.inr rfl, h⟩) _ (by simp [*]; rfl) (by first | rfl | (simp [*]; done) | (simp only [resR]; (repeat' split) <;> first | rfl | (exfalso; omega) | simp_all)) (by simp))
      · try simp only [Bool.or_eq_true, Bool.and_eq_true, Bool.or_eq_false_iff, Bool.and_eq_false_iff, Bool.not_eq_true', Bool.not_eq_false', decide_eq_true_eq, decide_eq_false_iff_not] at h7
        refine (HT_run (by simp [*]; rfl) ?_)
        exact ⟨j + 1 + 1, ⟨hk1, fun i hi => by
          rcases Nat.lt_or_eq_of_le (Nat.le_of_lt_succ hi) with h | h
          · exact hJ i (by omega)
          · have : i = j := by omega
            rw [this, hri]
            simpa using h7⟩, by omega, le_mk (fun n => n) [] rfl (by simp [upS, keepS, *]) (by simp [*, upS]) (by simp [upS])⟩
  · try simp only [Bool.or_eq_true, Bool.and_eq_true, Bool.or_eq_false_iff, Bool.and_eq_false_iff, Bool.not_eq_true', Bool.not_eq_false', decide_eq_true_eq, decide_eq_false_iff_not] at h4
    have hz : risB l = true := ris_good fun i hi => hJ i (by omega)
    refine (HT_exit ?_)
    refine HT_seq <| (HT_run (by simp [*]; rfl) ?_)
    exact (HT_retE (fun h => ⟨.inr rfl, h⟩) _ (by simp [*]; rfl) (by first | rfl | (simp [*]; done) | (simp only [resR]; (repeat' split) <;> first | rfl | (exfalso; omega) | simp_all)) (by simp))
def head0 (l : List Int) : Bool :=
  match l[0]? with
  | some b => decide (0 ≤ b)
  | none => false
def riseB (l : List Int) : Bool := (decide (1 ≤ l.length) && (decide (l.length ≤ 32) && head0 l)) && risB l
theorem nil_or (l : List Int) : l = [] ∨ ∃ b0, l[0]? = some b0 := by
  cases l with
  | nil => exact .inl rfl
  | cons b r => exact .inr ⟨b, rfl⟩
theorem risingR_con (l : List Int) (hl : l.length ≤ 1000000000) (d : Nat) : Con Tryz.prog 98 true [lI l] (.v (lb (riseB l))) none d := by
  obtain ⟨res, hres⟩ : ∃ r, riseB l = r := ⟨_, rfl⟩
  rw [hres]
  refine con_of_HT Tryz.func98 rfl (by kernel_rfl) (Nat.le_of_ble_eq_true rfl) ?_
  simp only [Tryz.f98]
  refine HT_seq <| (HT_run (by simp [*]; rfl) ?_)
  rcases nil_or l with h0 | ⟨b0, hb0⟩
  · subst h0
    replace hres : false = res := hres
    refine HT_seq <| HT_seq <| (HT_run (by simp [*]; rfl) ?_)
    refine (HT_cond rfl (fun h2 => ?_) (fun h2 => HT_skip ?_))
    · try simp only [Bool.or_eq_true, Bool.and_eq_true, Bool.or_eq_false_iff, Bool.and_eq_false_iff, Bool.not_eq_true', Bool.not_eq_false', decide_eq_true_eq, decide_eq_false_iff_not] at h2
      subst hres
      refine HT_seq <| (HT_run (by simp [*]; rfl) ?_)
      exact (HT_retE (fun h => ⟨.inr rfl, h⟩) _ (by simp [*]; rfl) (by first | rfl | (simp [*]; done) | (simp only [resR]; (repeat' split) <;> first | rfl | (exfalso; omega) | simp_all)) (by simp))
    · exact absurd h2 (by simp)
  · have hh : head0 l = decide (0 ≤ b0) := by unfold head0; rw [hb0]
    have hpos : 1 ≤ l.length := (List.getElem?_eq_some_iff.1 hb0).1
    refine HT_seq <| HT_seq <| (HT_run (by simp [*]; rfl) ?_)
    refine (HT_cond rfl (fun h2 => ?_) (fun h2 => HT_skip ?_))
    · try simp only [Bool.or_eq_true, Bool.and_eq_true, Bool.or_eq_false_iff, Bool.and_eq_false_iff, Bool.not_eq_true', Bool.not_eq_false', decide_eq_true_eq, decide_eq_false_iff_not] at h2
      have hz : riseB l = false := by
        unfold riseB
        rw [hh]
        simp only [Bool.and_eq_false_iff, decide_eq_false_iff_not]
        omega
      rw [hz] at hres
      subst hres
      refine HT_seq <| (HT_run (by simp [*]; rfl) ?_)
      exact (HT_retE (fun h => ⟨.inr rfl, h⟩) _ (by simp [*]; rfl) (by first | rfl | (simp [*]; done) | (simp only [resR]; (repeat' split) <;> first | rfl | (exfalso; omega) | simp_all)) (by simp))
    · try simp only [Bool.or_eq_true, Bool.and_eq_true, Bool.or_eq_false_iff, Bool.and_eq_false_iff, Bool.not_eq_true', Bool.not_eq_false', decide_eq_true_eq, decide_eq_false_iff_not] at h2
      have hz : riseB l = risB l := by
        unfold riseB
        rw [hh]
        rw [decide_eq_true (by omega), decide_eq_true (by omega), decide_eq_true (by omega)]
        rfl
      rw [hz] at hres
      have hl32 : l.length ≤ 32 := by omega
      clear hz hh h2 hb0
      refine HT_seq <| HT_seq <| (HT_run (by simp [*]; rfl) ?_)
      refine HT_block <| (HT_loopU [0] (fun (x : Nat) => [(3, .v (li ((x : Int) + 1)))]) (fun (x : Nat) => []) (fun (x : Nat) => x + 1 ≤ l.length ∧ ∀ j : Nat, j < x → risAt l j = true) (fun (x : Nat) => l.length - x) (0 : Nat) ⟨hpos, fun j hj => absurd hj (Nat.not_lt_zero j)⟩ ?_ ?_)
      · exact le_mk (fun n => n) [] rfl (by simp [*, upS, keepS]) (by simp [*, upS]) (by simp [upS])
      rintro k ⟨hk, hJ⟩
      simp only [upS, keepS, insS]
      try simp only [keepS, List.contains_cons, List.contains_nil, Bool.or_false, Bool.or_true, Bool.true_or, Bool.false_or, Nat.reduceBEq, BEq.rfl, beq_self_eq_true, if_true, if_false, Bool.false_eq_true, ite_true, ite_false, ins, Nat.reduceLT]
      refine HT_seq <| HT_seq <| (HT_run (by simp [*]; rfl) ?_)
      refine (HT_cond rfl (fun h8 => HT_skip ?_) (fun h8 => ?_))
      · try simp only [Bool.or_eq_true, Bool.and_eq_true, Bool.or_eq_false_iff, Bool.and_eq_false_iff, Bool.not_eq_true', Bool.not_eq_false', decide_eq_true_eq, decide_eq_false_iff_not] at h8
        have hlt : k + 1 < l.length := by omega
        obtain ⟨b, hb⟩ := get_I hlt
        obtain ⟨a, ha⟩ := get_I (show k < l.length by omega)
        have hw : IntKind.i64.wrap ((k : Int) + 1 + 1) = (k : Int) + 1 + 1 := wrap_in (by omega) (by omega)
        have hwj : IntKind.i64.wrap (k : Int) = k := wrap_in (by omega) (by omega)
        have hri : risAt l k = decide (a < b) := by unfold risAt; rw [ha, hb]
        have hj1 : 0 ≤ (k : Int) + 1 := by omega
        have hj2 : ((k : Int) + 1).toNat = k + 1 := by omega
        have hk1 : k + 1 + 1 ≤ l.length := hlt
        clear hlt h8
        refine HT_seq <| HT_block <| HT_seq <| (HT_drun (by kernel_rfl) (by kernel_rfl) (by rfl) (by simp [*]; rfl) ?_)
        refine (HT_cond rfl (fun h10 => ?_) (fun h10 => HT_skip ?_))
        · try simp only [Bool.or_eq_true, Bool.and_eq_true, Bool.or_eq_false_iff, Bool.and_eq_false_iff, Bool.not_eq_true', Bool.not_eq_false', decide_eq_true_eq, decide_eq_false_iff_not] at h10
          have hz : risB l = false := ris_bad (i := k) (by omega) (by rw [hri]; simpa using h10)
          refine HT_seq <| (HT_run (by simp [*]; rfl) ?_)
          exact (HT_retE (fun h => ⟨.inr rfl, h⟩) _ (by simp [*]; rfl) (by first | rfl | (simp [*]; done) | (simp only [resR]; (repeat' split) <;> first | rfl | (exfalso; omega) | simp_all)) (by simp))
        · try simp only [Bool.or_eq_true, Bool.and_eq_true, Bool.or_eq_false_iff, Bool.and_eq_false_iff, Bool.not_eq_true', Bool.not_eq_false', decide_eq_true_eq, decide_eq_false_iff_not] at h10
          refine (HT_run (by simp [*]; rfl) ?_)
          exact ⟨k + 1, ⟨hk1, fun i hi => by
            rcases Nat.lt_or_eq_of_le (Nat.le_of_lt_succ hi) with h | h
            · exact hJ i h
            · rw [h, hri]
              simpa using h10⟩, by omega, le_mk (fun n => n) [] rfl (by simp [upS, keepS, *]) (by simp [*, upS]) (by simp [upS])⟩
      · try simp only [Bool.or_eq_true, Bool.and_eq_true, Bool.or_eq_false_iff, Bool.and_eq_false_iff, Bool.not_eq_true', Bool.not_eq_false', decide_eq_true_eq, decide_eq_false_iff_not] at h8
        have hz : risB l = true := ris_good fun i hi => hJ i (by omega)
        refine (HT_exit ?_)
        refine HT_seq <| (HT_run (by simp [*]; rfl) ?_)
        exact (HT_retE (fun h => ⟨.inr rfl, h⟩) _ (by simp [*]; rfl) (by first | rfl | (simp [*]; done) | (simp only [resR]; (repeat' split) <;> first | rfl | (exfalso; omega) | simp_all)) (by simp))
end Go.Proofs.YtfilidjbpomgoaaGreat
