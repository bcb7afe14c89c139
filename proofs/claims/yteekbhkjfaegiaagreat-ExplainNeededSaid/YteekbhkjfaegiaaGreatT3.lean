/- Part 3: contracts of functions of the program and of the reference, and plain facts about what they compute; used by the proof of the claimed statement. Conditions: as each theorem states. -/
import Derived.Test.YteekbhkjfaegiaaGreatT2
import Derived.Test.YteekbhkjfaegiaaGreatHlZ
set_option linter.unusedSimpArgs false
set_option linter.unusedVariables false
set_option linter.unnecessarySimpa false
set_option maxRecDepth 100000
set_option maxHeartbeats 2000000
namespace Go.Proofs.YteekbhkjfaegiaaGreat
open Go Go.Hl

def selI (k0 : Int) (len : Nat) : Int := wr (1 + heldI k0 0 (wr ((len : Int) - 2)))
def valN (vs : List Int) (o n : Int) (k : List Int) : Int :=
  if o = 0 then n else if o = 24 then (vs[n.toNat]?).getD 0 else if o = 6 then wr (-((k[0]?).getD 0)) else if o = 7 then flagI (decide ((k[0]?).getD 0 = 0))
  else if o = 23 then (if (k[0]?).getD 0 = 0 then (k[2]?).getD 0 else (k[1]?).getD 0)
  else if o = 25 then (k[(selI ((k[0]?).getD 0) k.length).toNat]?).getD 0
  else binI o ((k[0]?).getD 0) ((k[1]?).getD 0)
mutual
def vT (vs : List Int) : Tm → Int
  | .mk o n ks => valN vs o n (vTs vs ks)
def vTs (vs : List Int) : List Tm → List Int
  | [] => []
  | t :: l => vT vs t :: vTs vs l
end
theorem vTs_map (vs : List Int) : ∀ l : List Tm, vTs vs l = l.map (vT vs)
  | [] => by simp [vTs]
  | t :: l => by simp [vTs, vTs_map vs l]
theorem kq1 {vars : List Vr} {inp : Bool} {o n : Int} {ks : List Tm} (h : nodeB vars inp o n ks.length = true) (ho : o = 6 ∨ o = 7) : ∃ a, ks = [a] := by
  have := node_ar h
  rw [show kidsP o = (1, 1) by unfold kidsP; rw [if_neg (by omega), if_pos ho]] at this
  simp only at this
  match ks, this with
  | [a], _ => exact ⟨a, rfl⟩
  | [], h => simp at h
  | a :: b :: l, h => simp at h; omega
theorem kq2 {vars : List Vr} {inp : Bool} {o n : Int} {ks : List Tm} (h : nodeB vars inp o n ks.length = true) (h1 : ¬ o = 0) (h2 : ¬ o = 24) (h3 : ¬ o = 6) (h4 : ¬ o = 7) (h5 : ¬ o = 23) (h6 : ¬ o = 25) : ∃ a b, ks = [a, b] := by
  have := node_ar h
  have hr : 8 ≤ o ∧ o ≤ 22 := by
    refine Classical.byContradiction fun hc => ?_
    rw [show kidsP o = (-1, -1) by unfold kidsP; rw [if_neg (by omega), if_neg (by omega), if_neg hc, if_neg h5, if_neg h6]] at this
    simp at this
  rw [show kidsP o = (2, 2) by unfold kidsP; rw [if_neg (by omega), if_neg (by omega), if_pos hr]] at this
  simp only at this
  match ks, this with
  | [a, b], _ => exact ⟨a, b, rfl⟩
  | [], h => simp at h
  | [a], h => simp at h
  | a :: b :: c :: l, h => simp at h; omega
theorem kq3 {vars : List Vr} {inp : Bool} {n : Int} {ks : List Tm} (h : nodeB vars inp 23 n ks.length = true) : ∃ a b c, ks = [a, b, c] := by
  have := node_ar h
  rw [show kidsP 23 = (3, 3) by decide] at this
  simp only at this
  match ks, this with
  | [a, b, c], _ => exact ⟨a, b, c, rfl⟩
  | [], h => simp at h
  | [a], h => simp at h
  | [a, b], h => simp at h
  | a :: b :: c :: e :: l, h => simp at h; omega
theorem kqN {vars : List Vr} {inp : Bool} {n : Int} {ks : List Tm} (h : nodeB vars inp 25 n ks.length = true) : 2 ≤ ks.length ∧ ks.length ≤ 33 := by
  have := node_ar h
  rw [show kidsP 25 = (2, 33) by decide] at this
  simp only at this
  omega

theorem value_con (vars : List Vr) (inp : Bool) (vs : List Int) (hvs : vs.length = vars.length) (t : Tm) : formB vars inp t = true → ∀ d : Nat,
    Con Tryz.prog 119 true [lI vs, aT t] (.v (li (vT vs t))) none d := by
  induction t using Tm.ind with
  | h o n ks ih =>
  intro hf d
  simp only [formB, Bool.and_eq_true] at hf
  have hfk := formBs_mem hf.2
  have hf := hf.1
  obtain ⟨res, hres⟩ : ∃ r, vT vs (.mk o n ks) = r := ⟨_, rfl⟩
  rw [hres]
  simp only [vT, valN] at hres
  have ih := fun t ht => ih t ht (hfk t ht)
  clear hfk
  refine con_of_HT Tryz.func119 rfl (by kernel_rfl) (Nat.le_of_ble_eq_true rfl) ?_
  simp only [Tryz.f119]
  simp only [aT, Tm.enc]
  refine HT_seq <| HT_runA ?_
  refine HT_seq <| HT_seq <| HT_runA ?_
  refine HT_block <| HT_seq <| HT_runA ?_
  refine (HT_cond rfl (fun h3 => ?_) (fun h3 => ?_))
  · try simp only [BN] at h3
    rw [if_pos h3] at hres
    subst hres
    refine HT_seq <| HT_runA ?_
    exact HT_retA fun h => ⟨.inr rfl, h⟩
  · try simp only [BN] at h3
    rw [if_neg h3] at hres
    refine HT_seq <| HT_runA ?_
    refine (HT_cond rfl (fun h7 => ?_) (fun h7 => ?_))
    · try simp only [BN] at h7
      rw [if_pos h7] at hres
      subst h7
      obtain ⟨hn0, v, hv, _⟩ := node_ref hf
      have hlt : n.toNat < vs.length := by rw [hvs]; exact (List.getElem?_eq_some_iff.1 hv).1
      obtain ⟨x, hx⟩ : ∃ x, vs[n.toNat]? = some x := ⟨vs[n.toNat], by simp [hlt]⟩
      rw [hx] at hres
      simp only [Option.getD_some] at hres
      subst hres
      clear hlt hv
      refine HT_seq <| HT_runA ?_
      exact HT_retA fun h => ⟨.inr rfl, h⟩
    · try simp only [BN] at h7
      rw [if_neg h7] at hres
      refine HT_seq <| HT_runA ?_
      refine (HT_cond rfl (fun h11 => ?_) (fun h11 => ?_))
      · try simp only [BN] at h11
        rw [if_pos h11] at hres
        obtain ⟨⟨ao, an, ak⟩, rfl⟩ := kq1 hf (.inl h11)
        have ca := ih _ (List.mem_singleton.2 rfl)
        simp only [aT, Tm.enc, List.map_cons, List.map_nil] at ca
        obtain ⟨A, hA⟩ : ∃ x, vT vs (.mk ao an ak) = x := ⟨_, rfl⟩
        rw [hA] at ca
        rw [show vTs vs [Tm.mk ao an ak] = [A] by simp [vTs, hA]] at hres
        simp only [List.getElem?_cons_zero, Option.getD_some] at hres
        subst hres
        clear ih hA
        refine HT_seq <| (HT_runc [⟨true, .v (li A), none⟩] (by simp [*]; first | exact ⟨rfl, Iff.rfl⟩ | exact ⟨rfl, trivial⟩ | rfl) ?_ ?_)
        · first | exact ca _ | exact trivial | simpa [*] using ca _
        exact HT_retA fun h => ⟨.inr rfl, h⟩
      · try simp only [BN] at h11
        rw [if_neg h11] at hres
        refine HT_seq <| HT_runA ?_
        refine (HT_cond rfl (fun h15 => ?_) (fun h15 => ?_))
        · try simp only [BN] at h15
          rw [if_pos h15] at hres
          obtain ⟨⟨ao, an, ak⟩, rfl⟩ := kq1 hf (.inr h15)
          have ca := ih _ (List.mem_singleton.2 rfl)
          simp only [aT, Tm.enc, List.map_cons, List.map_nil] at ca
          obtain ⟨A, hA⟩ : ∃ x, vT vs (.mk ao an ak) = x := ⟨_, rfl⟩
          rw [hA] at ca
          rw [show vTs vs [Tm.mk ao an ak] = [A] by simp [vTs, hA]] at hres
          simp only [List.getElem?_cons_zero, Option.getD_some] at hres
          subst hres
          clear ih hA
          refine HT_seq <| (HT_runc [⟨true, .v (li A), none⟩, ⟨true, .v (li (flagI (decide (A = 0)))), none⟩] (by simp [*]; first | exact ⟨rfl, Iff.rfl⟩ | exact ⟨rfl, trivial⟩ | rfl) ?_ ?_)
          · first | exact ⟨ca _, flag_con _ _⟩ | exact trivial | (repeat' first | exact trivial | exact ca _ | exact flag_con _ _ | apply And.intro)
          exact HT_retA fun h => ⟨.inr rfl, h⟩
        · try simp only [BN] at h15
          rw [if_neg h15] at hres
          refine HT_seq <| HT_runA ?_
          refine (HT_cond rfl (fun h19 => ?_) (fun h19 => ?_))
          · try simp only [BN] at h19
            rw [if_pos h19] at hres
            subst h19
            obtain ⟨⟨ao, an, ak⟩, ⟨bo, bn, bk⟩, ⟨co, cn, ck⟩, rfl⟩ := kq3 hf
            have ca := ih (.mk ao an ak) (by simp)
            have cb := ih (.mk bo bn bk) (by simp)
            have cc := ih (.mk co cn ck) (by simp)
            simp only [aT, Tm.enc, List.map_cons, List.map_nil] at ca cb cc
            obtain ⟨A, hA⟩ : ∃ x, vT vs (.mk ao an ak) = x := ⟨_, rfl⟩
            obtain ⟨B, hB⟩ : ∃ x, vT vs (.mk bo bn bk) = x := ⟨_, rfl⟩
            obtain ⟨C, hC⟩ : ∃ x, vT vs (.mk co cn ck) = x := ⟨_, rfl⟩
            rw [hA] at ca
            rw [hB] at cb
            rw [hC] at cc
            rw [show vTs vs [Tm.mk ao an ak, Tm.mk bo bn bk, Tm.mk co cn ck] = [A, B, C] by simp [vTs, hA, hB, hC]] at hres
            simp only [List.getElem?_cons_zero, List.getElem?_cons_succ, Option.getD_some] at hres
            clear ih hA hB hC
            refine HT_seq <| HT_seq <| (HT_runc [⟨true, .v (li A), none⟩] (by simp [*]; first | exact ⟨rfl, Iff.rfl⟩ | exact ⟨rfl, trivial⟩ | rfl) ?_ ?_)
            · first | exact ca _ | exact trivial | simpa [*] using ca _
            refine (HT_cond rfl (fun h21 => ?_) (fun h21 => HT_skip ?_))
            · try simp only [BN] at h21
              rw [if_neg h21] at hres
              subst hres
              refine HT_seq <| (HT_runc [⟨true, .v (li B), none⟩] (by simp [*]; first | exact ⟨rfl, Iff.rfl⟩ | exact ⟨rfl, trivial⟩ | rfl) ?_ ?_)
              · first | exact cb _ | exact trivial | simpa [*] using cb _
              exact HT_retA fun h => ⟨.inr rfl, h⟩
            · try simp only [BN] at h21
              rw [if_pos (by simpa using h21)] at hres
              subst hres
              refine HT_seq <| (HT_runc [⟨true, .v (li C), none⟩] (by simp [*]; first | exact ⟨rfl, Iff.rfl⟩ | exact ⟨rfl, trivial⟩ | rfl) ?_ ?_)
              · first | exact cc _ | exact trivial | simpa [*] using cc _
              exact HT_retA fun h => ⟨.inr rfl, h⟩
          · try simp only [BN] at h19
            rw [if_neg h19] at hres
            refine HT_seq <| HT_runA ?_
            refine (HT_cond rfl (fun h27 => ?_) (fun h27 => HT_skip ?_))
            · try simp only [BN] at h27
              rw [if_pos h27] at hres
              subst h27
              have hln := kqN hf
              obtain ⟨⟨ao, an, ak⟩, he0⟩ : ∃ t, ks[0]? = some t := ⟨ks[0], by simp⟩
              have ca := ih _ (List.mem_of_getElem? he0)
              have he0' := get_encT he0
              simp only [aT, Tm.enc, List.map_cons, List.map_nil] at ca he0'
              obtain ⟨A, hA⟩ : ∃ x, vT vs (.mk ao an ak) = x := ⟨_, rfl⟩
              rw [hA] at ca
              rw [vTs_map, List.getElem?_map, List.getElem?_map, he0, Option.map_some, Option.getD_some, hA, List.length_map] at hres
              have hw1 : IntKind.i64.wrap ((ks.length : Int) - 2) = (ks.length : Int) - 2 := wrap_in (by omega) (by omega)
              unfold selI at hres
              simp only [wr, hw1] at hres
              have hh := held_in (n := A) (lo := 0) (hi := (ks.length : Int) - 2) (by omega)
              obtain ⟨H, hH⟩ : ∃ x, heldI A 0 ((ks.length : Int) - 2) = x := ⟨_, rfl⟩
              have cheld := held_con A 0 ((ks.length : Int) - 2)
              rw [hH] at hres hh cheld
              have hw2 : IntKind.i64.wrap (1 + H) = 1 + H := wrap_in (by omega) (by omega)
              rw [hw2] at hres
              obtain ⟨⟨bo, bn, bk⟩, he1⟩ : ∃ t, ks[(1 + H).toNat]? = some t := ⟨ks[(1 + H).toNat]'(by omega), by simp⟩
              have cb := ih _ (List.mem_of_getElem? he1)
              have he1' := get_encT he1
              simp only [aT, Tm.enc, List.map_cons, List.map_nil] at cb he1'
              rw [he1, Option.map_some, Option.getD_some] at hres
              obtain ⟨B, hB⟩ : ∃ x, vT vs (.mk bo bn bk) = x := ⟨_, rfl⟩
              rw [hB] at cb hres
              subst hres
              have hp1 : 0 ≤ 1 + H := by omega
              have hp2 : 1 ≤ ks.length := by omega
              clear ih hA hB hH he0 he1 hln hf hvs
              refine HT_seq <| (HT_drunc [⟨true, .v (li A), none⟩, ⟨true, .v (li H), none⟩, ⟨true, .v (li B), none⟩] (by kernel_rfl) (by kernel_rfl) (by rfl) (by simp [*]; first | exact ⟨rfl, Iff.rfl⟩ | exact ⟨rfl, trivial⟩ | rfl) ?_ ?_)
              · first | exact ⟨ca _, cheld _, cb _⟩ | exact trivial | (repeat' first | exact trivial | exact ca _ | exact cheld _ | exact cb _ | apply And.intro)
              exact HT_retA fun h => ⟨.inr rfl, h⟩
            · try simp only [BN] at h27
              rw [if_neg h27] at hres
              obtain ⟨⟨ao, an, ak⟩, ⟨bo, bn, bk⟩, rfl⟩ := kq2 hf h3 h7 h11 h15 h19 h27
              have ca := ih (.mk ao an ak) (by simp)
              have cb := ih (.mk bo bn bk) (by simp)
              simp only [aT, Tm.enc, List.map_cons, List.map_nil] at ca cb
              simp only [vTs, List.getElem?_cons_zero, List.getElem?_cons_succ, Option.getD_some] at hres
              obtain ⟨A, hA⟩ : ∃ x, vT vs (.mk ao an ak) = x := ⟨_, rfl⟩
              obtain ⟨B, hB⟩ : ∃ x, vT vs (.mk bo bn bk) = x := ⟨_, rfl⟩
              rw [hA] at ca hres
              rw [hB] at cb hres
              subst hres
              clear ih hA hB
              refine HT_seq <| (HT_drunc [⟨true, .v (li A), none⟩, ⟨true, .v (li B), none⟩, ⟨true, .v (li (binI o A B)), none⟩] (by kernel_rfl) (by kernel_rfl) (by rfl) (by simp [*]; first | exact ⟨rfl, Iff.rfl⟩ | exact ⟨rfl, trivial⟩ | rfl) ?_ ?_)
              · first | exact ⟨ca _, cb _, bin_con _ _ _ _⟩ | exact trivial | (repeat' first | exact trivial | exact ca _ | exact cb _ | exact bin_con _ _ _ _ | apply And.intro)
              exact HT_retA fun h => ⟨.inr rfl, h⟩
end Go.Proofs.YteekbhkjfaegiaaGreat

namespace Go.Proofs.YteekbhkjfaegiaaGreat
open Go Go.Hl

/-! ## the program's values -/
theorem flagP_con (b : Bool) (d : Nat) : Con Tryz.prog 133 true [lb b] (.v (li (flagI b))) none d := by
  refine con_of_HT Tryz.func133 rfl (by kernel_rfl) (Nat.le_of_ble_eq_true rfl) ?_
  simp only [Tryz.f133]
  refine HT_seq <| HT_runA ?_
  refine HT_seq <| HT_seq <| HT_runA ?_
  refine (HT_cond rfl (fun h2 => ?_) (fun h2 => HT_skip ?_))
  · try simp only [BN] at h2
    refine HT_seq <| HT_runA ?_
    exact (HT_retE (fun h => ⟨.inr rfl, h⟩) _ (by simp [*]; rfl) (by first | rfl | (simp [*, flagI]; done) | (simp only [resR, flagI]; (repeat' split) <;> first | rfl | (exfalso; omega) | simp_all)) (by simp))
  · try simp only [BN] at h2
    refine HT_seq <| HT_runA ?_
    exact (HT_retE (fun h => ⟨.inr rfl, h⟩) _ (by simp [*]; rfl) (by first | rfl | (simp [*, flagI]; done) | (simp only [resR, flagI]; (repeat' split) <;> first | rfl | (exfalso; omega) | simp_all)) (by simp))
theorem divP_con (a b : Int) (d : Nat) : Con Tryz.prog 139 true [li a, li b] (.v (li (divI a b))) none d := by
  obtain ⟨res, hres⟩ : ∃ r, divI a b = r := ⟨_, rfl⟩
  rw [hres]
  unfold divI at hres
  refine con_of_HT Tryz.func139 rfl (by kernel_rfl) (Nat.le_of_ble_eq_true rfl) ?_
  simp only [Tryz.f139]
  refine HT_seq <| HT_runA ?_
  refine HT_seq <| HT_seq <| HT_runA ?_
  refine (HT_cond rfl (fun h2 => ?_) (fun h2 => HT_skip ?_))
  · try simp only [BN] at h2
    rw [if_pos h2] at hres
    subst hres
    refine HT_seq <| HT_runA ?_
    exact HT_retA fun h => ⟨.inr rfl, h⟩
  · try simp only [BN] at h2
    rw [if_neg h2] at hres
    refine HT_seq <| HT_runA ?_
    refine HT_seq <| HT_seq <| HT_runA ?_
    refine (HT_cond rfl (fun h7 => ?_) (fun h7 => HT_skip ?_))
    · try simp only [BN] at h7
      rw [if_pos (by simpa using h7)] at hres
      subst hres
      refine HT_runA ?_
      refine HT_seq <| HT_runA ?_
      exact HT_retA fun h => ⟨.inr rfl, h⟩
    · try simp only [BN] at h7
      rw [if_neg (by
          simp only [Bool.and_eq_true, Bool.not_eq_true', decide_eq_false_iff_not, bne_iff_ne, ne_eq, decide_eq_decide, not_and, Decidable.not_not]
          intro h
          rcases h7 with h7 | h7
          · exact absurd h7 h
          · simpa using h7)] at hres
      subst hres
      refine HT_seq <| HT_runA ?_
      exact HT_retA fun h => ⟨.inr rfl, h⟩
theorem modP_con (a b : Int) (d : Nat) : Con Tryz.prog 140 true [li a, li b] (.v (li (modI a b))) none d := by
  obtain ⟨res, hres⟩ : ∃ r, modI a b = r := ⟨_, rfl⟩
  rw [hres]
  unfold modI at hres
  refine con_of_HT Tryz.func140 rfl (by kernel_rfl) (Nat.le_of_ble_eq_true rfl) ?_
  simp only [Tryz.f140]
  refine HT_seq <| HT_runA ?_
  refine HT_seq <| HT_seq <| HT_runA ?_
  refine (HT_cond rfl (fun h2 => ?_) (fun h2 => HT_skip ?_))
  · try simp only [BN] at h2
    rw [if_pos h2] at hres
    subst hres
    refine HT_seq <| HT_runA ?_
    exact HT_retA fun h => ⟨.inr rfl, h⟩
  · try simp only [BN] at h2
    rw [if_neg h2] at hres
    subst hres
    refine HT_seq <| (HT_runc [⟨true, .v (li (divI a b)), none⟩] (by simp [*]; first | exact ⟨rfl, Iff.rfl⟩ | exact ⟨rfl, trivial⟩ | rfl) ?_ ?_)
    · first | exact divP_con _ _ _ | exact trivial | simpa [*] using divP_con _ _ _
    exact HT_retA fun h => ⟨.inr rfl, h⟩
theorem binP_con (o a b : Int) (d : Nat) : Con Tryz.prog 134 true [li o, li a, li b] (.v (li (binI o a b))) none d := by
  obtain ⟨res, hres⟩ : ∃ r, binI o a b = r := ⟨_, rfl⟩
  rw [hres]
  unfold binI at hres
  refine con_of_HT Tryz.func134 rfl (by kernel_rfl) (Nat.le_of_ble_eq_true rfl) ?_
  simp only [Tryz.f134]
  refine HT_seq <| HT_runA ?_
  refine HT_seq <| HT_seq <| HT_runA ?_
  refine HT_block <| HT_seq <| HT_runA ?_
  refine (HT_cond rfl (fun h3 => ?_) (fun h3 => ?_))
  · try simp only [BN] at h3
    rw [if_pos h3] at hres
    subst hres
    refine HT_seq <| HT_runA ?_
    exact HT_retA fun h => ⟨.inr rfl, h⟩
  · try simp only [BN] at h3
    rw [if_neg h3] at hres
    refine HT_seq <| HT_runA ?_
    refine (HT_cond rfl (fun h7 => ?_) (fun h7 => ?_))
    · try simp only [BN] at h7
      rw [if_pos h7] at hres
      subst hres
      refine HT_seq <| HT_runA ?_
      exact HT_retA fun h => ⟨.inr rfl, h⟩
    · try simp only [BN] at h7
      rw [if_neg h7] at hres
      refine HT_seq <| HT_runA ?_
      refine (HT_cond rfl (fun h11 => ?_) (fun h11 => ?_))
      · try simp only [BN] at h11
        rw [if_pos h11] at hres
        subst hres
        refine HT_seq <| HT_runA ?_
        exact HT_retA fun h => ⟨.inr rfl, h⟩
      · try simp only [BN] at h11
        rw [if_neg h11] at hres
        refine HT_seq <| HT_runA ?_
        refine (HT_cond rfl (fun h15 => ?_) (fun h15 => ?_))
        · try simp only [BN] at h15
          rw [if_pos h15] at hres
          subst hres
          refine HT_seq <| (HT_runc [⟨true, .v (li (divI a b)), none⟩] (by simp [*]; first | exact ⟨rfl, Iff.rfl⟩ | exact ⟨rfl, trivial⟩ | rfl) ?_ ?_)
          · first | exact divP_con _ _ _ | exact trivial | simpa [*] using divP_con _ _ _
          exact HT_retA fun h => ⟨.inr rfl, h⟩
        · try simp only [BN] at h15
          rw [if_neg h15] at hres
          refine HT_seq <| HT_runA ?_
          refine (HT_cond rfl (fun h19 => ?_) (fun h19 => ?_))
          · try simp only [BN] at h19
            rw [if_pos h19] at hres
            subst hres
            refine HT_seq <| (HT_runc [⟨true, .v (li (modI a b)), none⟩] (by simp [*]; first | exact ⟨rfl, Iff.rfl⟩ | exact ⟨rfl, trivial⟩ | rfl) ?_ ?_)
            · first | exact modP_con _ _ _ | exact trivial | simpa [*] using modP_con _ _ _
            exact HT_retA fun h => ⟨.inr rfl, h⟩
          · try simp only [BN] at h19
            rw [if_neg h19] at hres
            refine HT_seq <| HT_runA ?_
            refine (HT_cond rfl (fun h23 => ?_) (fun h23 => ?_))
            · try simp only [BN] at h23
              rw [if_pos h23] at hres
              subst hres
              refine HT_seq <| (HT_runc [⟨true, .v (li (flagI (decide (a = b)))), none⟩] (by simp [*]; first | exact ⟨rfl, Iff.rfl⟩ | exact ⟨rfl, trivial⟩ | rfl) ?_ ?_)
              · first | exact flagP_con _ _ | exact trivial | simpa [*] using flagP_con _ _
              exact HT_retA fun h => ⟨.inr rfl, h⟩
            · try simp only [BN] at h23
              rw [if_neg h23] at hres
              refine HT_seq <| HT_runA ?_
              refine (HT_cond rfl (fun h27 => ?_) (fun h27 => ?_))
              · try simp only [BN] at h27
                rw [if_pos h27] at hres
                subst hres
                refine HT_seq <| (HT_runc [⟨true, .v (li (flagI (!decide (a = b)))), none⟩] (by simp [*]; first | exact ⟨rfl, Iff.rfl⟩ | exact ⟨rfl, trivial⟩ | rfl) ?_ ?_)
                · first | exact flagP_con _ _ | exact trivial | simpa [*] using flagP_con _ _
                exact HT_retA fun h => ⟨.inr rfl, h⟩
              · try simp only [BN] at h27
                rw [if_neg h27] at hres
                refine HT_seq <| HT_runA ?_
                refine (HT_cond rfl (fun h31 => ?_) (fun h31 => ?_))
                · try simp only [BN] at h31
                  rw [if_pos h31] at hres
                  subst hres
                  refine HT_seq <| (HT_runc [⟨true, .v (li (flagI (decide (a < b)))), none⟩] (by simp [*]; first | exact ⟨rfl, Iff.rfl⟩ | exact ⟨rfl, trivial⟩ | rfl) ?_ ?_)
                  · first | exact flagP_con _ _ | exact trivial | simpa [*] using flagP_con _ _
                  exact HT_retA fun h => ⟨.inr rfl, h⟩
                · try simp only [BN] at h31
                  rw [if_neg h31] at hres
                  refine HT_seq <| HT_runA ?_
                  refine (HT_cond rfl (fun h35 => ?_) (fun h35 => ?_))
                  · try simp only [BN] at h35
                    rw [if_pos h35] at hres
                    subst hres
                    refine HT_seq <| (HT_runc [⟨true, .v (li (flagI (decide (a ≤ b)))), none⟩] (by simp [*]; first | exact ⟨rfl, Iff.rfl⟩ | exact ⟨rfl, trivial⟩ | rfl) ?_ ?_)
                    · first | exact flagP_con _ _ | exact trivial | simpa [*] using flagP_con _ _
                    exact HT_retA fun h => ⟨.inr rfl, h⟩
                  · try simp only [BN] at h35
                    rw [if_neg h35] at hres
                    refine HT_seq <| HT_runA ?_
                    refine (HT_cond rfl (fun h39 => ?_) (fun h39 => ?_))
                    · try simp only [BN] at h39
                      rw [if_pos h39] at hres
                      subst hres
                      refine HT_seq <| (HT_runc [⟨true, .v (li (flagI (decide (b < a)))), none⟩] (by simp [*]; first | exact ⟨rfl, Iff.rfl⟩ | exact ⟨rfl, trivial⟩ | rfl) ?_ ?_)
                      · first | exact flagP_con _ _ | exact trivial | simpa [*] using flagP_con _ _
                      exact HT_retA fun h => ⟨.inr rfl, h⟩
                    · try simp only [BN] at h39
                      rw [if_neg h39] at hres
                      refine HT_seq <| HT_runA ?_
                      refine (HT_cond rfl (fun h43 => ?_) (fun h43 => ?_))
                      · try simp only [BN] at h43
                        rw [if_pos h43] at hres
                        subst hres
                        refine HT_seq <| (HT_runc [⟨true, .v (li (flagI (decide (b ≤ a)))), none⟩] (by simp [*]; first | exact ⟨rfl, Iff.rfl⟩ | exact ⟨rfl, trivial⟩ | rfl) ?_ ?_)
                        · first | exact flagP_con _ _ | exact trivial | simpa [*] using flagP_con _ _
                        exact HT_retA fun h => ⟨.inr rfl, h⟩
                      · try simp only [BN] at h43
                        rw [if_neg h43] at hres
                        refine HT_seq <| HT_runA ?_
                        refine (HT_cond rfl (fun h47 => ?_) (fun h47 => ?_))
                        · try simp only [BN] at h47
                          rw [if_pos h47] at hres
                          subst hres
                          refine HT_seq <| (HT_runc [⟨true, .v (li (flagI (!decide (a = 0) && !decide (b = 0)))), none⟩] (by simp [*]; first | exact ⟨rfl, Iff.rfl⟩ | exact ⟨rfl, trivial⟩ | rfl) ?_ ?_)
                          · first | exact flagP_con _ _ | exact trivial | simpa [*] using flagP_con _ _
                          exact HT_retA fun h => ⟨.inr rfl, h⟩
                        · try simp only [BN] at h47
                          rw [if_neg h47] at hres
                          refine HT_seq <| HT_runA ?_
                          refine (HT_cond rfl (fun h51 => ?_) (fun h51 => ?_))
                          · try simp only [BN] at h51
                            rw [if_pos h51] at hres
                            subst hres
                            refine HT_seq <| (HT_runc [⟨true, .v (li (flagI (!decide (a = 0) || !decide (b = 0)))), none⟩] (by simp [*]; first | exact ⟨rfl, Iff.rfl⟩ | exact ⟨rfl, trivial⟩ | rfl) ?_ ?_)
                            · first | exact flagP_con _ _ | exact trivial | simpa [*] using flagP_con _ _
                            exact HT_retA fun h => ⟨.inr rfl, h⟩
                          · try simp only [BN] at h51
                            rw [if_neg h51] at hres
                            refine HT_seq <| HT_runA ?_
                            refine (HT_cond rfl (fun h55 => ?_) (fun h55 => HT_skip ?_))
                            · try simp only [BN] at h55
                              rw [if_pos h55] at hres
                              subst hres
                              refine HT_seq <| HT_runA ?_
                              exact HT_retA fun h => ⟨.inr rfl, h⟩
                            · try simp only [BN] at h55
                              rw [if_neg h55] at hres
                              subst hres
                              refine HT_seq <| HT_runA ?_
                              exact HT_retA fun h => ⟨.inr rfl, h⟩

abbrev pI (l : List Int) : TV := .one (.c (.ptr [.sl 1 (encIs l)]))
abbrev pT (t : Tm) : TV := .one (.c (.ptr t.enc))
theorem kid_con (vs : List Int) (o n : Int) (ks : List Tm) (i : Nat) (k : Tm) (hk : ks[i]? = some k) (cv : ∀ d, Con Tryz.prog 111 true [lI vs, aT k] (.v (li (vT vs k))) none d) (d : Nat) :
    Con Tryz.prog 132 true [li (i : Int), pI vs, pT (.mk o n ks)] (.v (li (vT vs k))) none d := by
  obtain ⟨A, hA⟩ : ∃ x, vT vs k = x := ⟨_, rfl⟩
  rw [hA] at cv ⊢
  obtain ⟨ko, kn, kk⟩ := k
  have he' := get_encT hk
  simp only [aT, Tm.enc, List.map_cons, List.map_nil] at cv he'
  clear hA hk
  refine con_of_HT Tryz.func132 rfl (by kernel_rfl) (Nat.le_of_ble_eq_true rfl) ?_
  simp only [Tryz.f132]
  simp only [pI, pT, Tm.enc]
  refine HT_seq <| HT_runA ?_
  refine HT_seq <| (HT_druncH [(1, 2000000), (6, 2000000), (9, 2000000)] [⟨true, .v (li A), none⟩] (by kernel_rfl) (by kernel_rfl) (by rfl) (by simp [evcH, hokB, hintOf, *]; first | exact ⟨rfl, Iff.rfl⟩ | exact ⟨rfl, trivial⟩ | rfl) ?_ ?_)
  · first | exact cv _ | exact trivial | simpa [*] using cv _
  exact HT_retA fun h => ⟨.inr rfl, h⟩
theorem valueP_con (vars : List Vr) (inp : Bool) (vs : List Int) (hvs : vs.length = vars.length) (t : Tm) : formB vars inp t = true → ∀ d : Nat,
    Con Tryz.prog 111 true [lI vs, aT t] (.v (li (vT vs t))) none d := by
  induction t using Tm.ind with
  | h o n ks ih =>
  intro hf d
  simp only [formB, Bool.and_eq_true] at hf
  have hfk := formBs_mem hf.2
  have hf := hf.1
  obtain ⟨res, hres⟩ : ∃ r, vT vs (.mk o n ks) = r := ⟨_, rfl⟩
  rw [hres]
  simp only [vT, valN] at hres
  have ih := fun t ht => ih t ht (hfk t ht)
  clear hfk
  refine con_of_HT Tryz.func111 rfl (by kernel_rfl) (Nat.le_of_ble_eq_true rfl) ?_
  simp only [Tryz.f111]
  simp only [aT, Tm.enc]
  refine HT_seq <| HT_runA ?_
  refine HT_seq <| HT_runA ?_
  refine HT_seq <| HT_seq <| HT_runA ?_
  refine HT_block <| HT_seq <| HT_runA ?_
  refine (HT_cond rfl (fun h4 => ?_) (fun h4 => ?_))
  · try simp only [BN] at h4
    rw [if_pos h4] at hres
    subst hres
    refine HT_seq <| HT_runA ?_
    exact HT_retA fun h => ⟨.inr rfl, h⟩
  · try simp only [BN] at h4
    rw [if_neg h4] at hres
    refine HT_seq <| HT_runA ?_
    refine (HT_cond rfl (fun h8 => ?_) (fun h8 => ?_))
    · try simp only [BN] at h8
      rw [if_pos h8] at hres
      subst h8
      obtain ⟨hn0, v, hv, _⟩ := node_ref hf
      have hlt : n.toNat < vs.length := by rw [hvs]; exact (List.getElem?_eq_some_iff.1 hv).1
      obtain ⟨x, hx⟩ : ∃ x, vs[n.toNat]? = some x := ⟨vs[n.toNat], by simp [hlt]⟩
      rw [hx] at hres
      simp only [Option.getD_some] at hres
      subst hres
      clear hlt hv
      refine HT_seq <| HT_runA ?_
      exact HT_retA fun h => ⟨.inr rfl, h⟩
    · try simp only [BN] at h8
      rw [if_neg h8] at hres
      refine HT_seq <| HT_runA ?_
      refine (HT_cond rfl (fun h12 => ?_) (fun h12 => ?_))
      · try simp only [BN] at h12
        rw [if_pos h12] at hres
        obtain ⟨⟨ao, an, ak⟩, rfl⟩ := kq1 hf (.inl h12)
        have ca := ih _ (List.mem_singleton.2 rfl)
        have ca := kid_con vs o n [.mk ao an ak] 0 _ rfl ca
        rw [h12] at ca
        simp only [pI, pT, Tm.enc, encTs] at ca
        obtain ⟨A, hA⟩ : ∃ x, vT vs (.mk ao an ak) = x := ⟨_, rfl⟩
        rw [hA] at ca
        rw [show vTs vs [Tm.mk ao an ak] = [A] by simp [vTs, hA]] at hres
        simp only [List.getElem?_cons_zero, Option.getD_some] at hres
        subst hres
        clear ih hA
        refine HT_seq <| (HT_runc [⟨true, .v (li A), none⟩] (by simp [*]; first | exact ⟨rfl, Iff.rfl⟩ | exact ⟨rfl, trivial⟩ | rfl) ?_ ?_)
        · first | exact ca _ | exact trivial | simpa [*] using ca _
        exact HT_retA fun h => ⟨.inr rfl, h⟩
      · try simp only [BN] at h12
        rw [if_neg h12] at hres
        refine HT_seq <| HT_runA ?_
        refine (HT_cond rfl (fun h16 => ?_) (fun h16 => ?_))
        · try simp only [BN] at h16
          rw [if_pos h16] at hres
          obtain ⟨⟨ao, an, ak⟩, rfl⟩ := kq1 hf (.inr h16)
          have ca := ih _ (List.mem_singleton.2 rfl)
          have ca := kid_con vs o n [.mk ao an ak] 0 _ rfl ca
          rw [h16] at ca
          simp only [pI, pT, Tm.enc, encTs] at ca
          obtain ⟨A, hA⟩ : ∃ x, vT vs (.mk ao an ak) = x := ⟨_, rfl⟩
          rw [hA] at ca
          rw [show vTs vs [Tm.mk ao an ak] = [A] by simp [vTs, hA]] at hres
          simp only [List.getElem?_cons_zero, Option.getD_some] at hres
          subst hres
          clear ih hA
          refine HT_seq <| (HT_runc [⟨true, .v (li A), none⟩, ⟨true, .v (li (flagI (decide (A = 0)))), none⟩] (by simp [*]; first | exact ⟨rfl, Iff.rfl⟩ | exact ⟨rfl, trivial⟩ | rfl) ?_ ?_)
          · first | exact ⟨ca _, flagP_con _ _⟩ | exact trivial | (repeat' first | exact trivial | exact ca _ | exact flagP_con _ _ | apply And.intro)
          exact HT_retA fun h => ⟨.inr rfl, h⟩
        · try simp only [BN] at h16
          rw [if_neg h16] at hres
          refine HT_seq <| HT_runA ?_
          refine (HT_cond rfl (fun h20 => ?_) (fun h20 => ?_))
          · try simp only [BN] at h20
            rw [if_pos h20] at hres
            subst h20
            obtain ⟨⟨ao, an, ak⟩, ⟨bo, bn, bk⟩, ⟨co, cn, ck⟩, rfl⟩ := kq3 hf
            have ca := ih (.mk ao an ak) (by simp)
            have cb := ih (.mk bo bn bk) (by simp)
            have cc := ih (.mk co cn ck) (by simp)
            have ca := kid_con vs 23 n [.mk ao an ak, .mk bo bn bk, .mk co cn ck] 0 _ rfl ca
            have cb := kid_con vs 23 n [.mk ao an ak, .mk bo bn bk, .mk co cn ck] 1 _ rfl cb
            have cc := kid_con vs 23 n [.mk ao an ak, .mk bo bn bk, .mk co cn ck] 2 _ rfl cc
            simp only [pI, pT, Tm.enc, encTs] at ca cb cc
            obtain ⟨A, hA⟩ : ∃ x, vT vs (.mk ao an ak) = x := ⟨_, rfl⟩
            obtain ⟨B, hB⟩ : ∃ x, vT vs (.mk bo bn bk) = x := ⟨_, rfl⟩
            obtain ⟨C, hC⟩ : ∃ x, vT vs (.mk co cn ck) = x := ⟨_, rfl⟩
            rw [hA] at ca
            rw [hB] at cb
            rw [hC] at cc
            rw [show vTs vs [Tm.mk ao an ak, Tm.mk bo bn bk, Tm.mk co cn ck] = [A, B, C] by simp [vTs, hA, hB, hC]] at hres
            simp only [List.getElem?_cons_zero, List.getElem?_cons_succ, Option.getD_some] at hres
            clear ih hA hB hC
            refine HT_seq <| HT_seq <| (HT_runc [⟨true, .v (li A), none⟩] (by simp [*]; first | exact ⟨rfl, Iff.rfl⟩ | exact ⟨rfl, trivial⟩ | rfl) ?_ ?_)
            · first | exact ca _ | exact trivial | simpa [*] using ca _
            refine (HT_cond rfl (fun h22 => ?_) (fun h22 => HT_skip ?_))
            · try simp only [BN] at h22
              rw [if_neg h22] at hres
              subst hres
              refine HT_seq <| (HT_runc [⟨true, .v (li B), none⟩] (by simp [*]; first | exact ⟨rfl, Iff.rfl⟩ | exact ⟨rfl, trivial⟩ | rfl) ?_ ?_)
              · first | exact cb _ | exact trivial | simpa [*] using cb _
              exact HT_retA fun h => ⟨.inr rfl, h⟩
            · try simp only [BN] at h22
              rw [if_pos (by simpa using h22)] at hres
              subst hres
              refine HT_seq <| (HT_runc [⟨true, .v (li C), none⟩] (by simp [*]; first | exact ⟨rfl, Iff.rfl⟩ | exact ⟨rfl, trivial⟩ | rfl) ?_ ?_)
              · first | exact cc _ | exact trivial | simpa [*] using cc _
              exact HT_retA fun h => ⟨.inr rfl, h⟩
          · try simp only [BN] at h20
            rw [if_neg h20] at hres
            refine HT_seq <| HT_runA ?_
            refine (HT_cond rfl (fun h28 => ?_) (fun h28 => HT_skip ?_))
            · try simp only [BN] at h28
              rw [if_pos h28] at hres
              subst h28
              have hln := kqN hf
              obtain ⟨⟨ao, an, ak⟩, he0⟩ : ∃ t, ks[0]? = some t := ⟨ks[0], by simp⟩
              have ca := ih _ (List.mem_of_getElem? he0)
              have he0' := get_encT he0
              have ca := kid_con vs 25 n ks 0 _ he0 ca
              simp only [pI, pT, Tm.enc, encTs] at ca
              obtain ⟨A, hA⟩ : ∃ x, vT vs (.mk ao an ak) = x := ⟨_, rfl⟩
              rw [hA] at ca
              rw [vTs_map, List.getElem?_map, List.getElem?_map, he0, Option.map_some, Option.getD_some, hA, List.length_map] at hres
              have hw1 : IntKind.i64.wrap ((ks.length : Int) - 2) = (ks.length : Int) - 2 := wrap_in (by omega) (by omega)
              unfold selI at hres
              simp only [wr, hw1] at hres
              have hh := held_in (n := A) (lo := 0) (hi := (ks.length : Int) - 2) (by omega)
              obtain ⟨H, hH⟩ : ∃ x, heldI A 0 ((ks.length : Int) - 2) = x := ⟨_, rfl⟩
              have cheld := clamp_con A 0 ((ks.length : Int) - 2) (by omega)
              rw [hH] at hres hh cheld
              have hw2 : IntKind.i64.wrap (1 + H) = 1 + H := wrap_in (by omega) (by omega)
              rw [hw2] at hres
              obtain ⟨⟨bo, bn, bk⟩, he1⟩ : ∃ t, ks[(1 + H).toNat]? = some t := ⟨ks[(1 + H).toNat]'(by omega), by simp⟩
              have cb := ih _ (List.mem_of_getElem? he1)
              have he1' := get_encT he1
              have cb := kid_con vs 25 n ks (1 + H).toNat _ he1 cb
              rw [show (((1 + H).toNat : Nat) : Int) = 1 + H by omega] at cb
              simp only [pI, pT, Tm.enc, encTs] at cb
              rw [he1, Option.map_some, Option.getD_some] at hres
              obtain ⟨B, hB⟩ : ∃ x, vT vs (.mk bo bn bk) = x := ⟨_, rfl⟩
              rw [hB] at cb hres
              subst hres
              have hp1 : 0 ≤ 1 + H := by omega
              have hp2 : 1 ≤ ks.length := by omega
              clear ih hA hB hH he0 he1 hln hf hvs
              refine HT_seq <| (HT_drunc [⟨true, .v (li A), none⟩, ⟨true, .v (li H), none⟩, ⟨true, .v (li B), none⟩] (by kernel_rfl) (by kernel_rfl) (by rfl) (by simp [*]; first | exact ⟨rfl, Iff.rfl⟩ | exact ⟨rfl, trivial⟩ | rfl) ?_ ?_)
              · first | exact ⟨ca _, cheld _, cb _⟩ | exact trivial | (repeat' first | exact trivial | exact ca _ | exact cheld _ | exact cb _ | apply And.intro)
              exact HT_retA fun h => ⟨.inr rfl, h⟩
            · try simp only [BN] at h28
              rw [if_neg h28] at hres
              obtain ⟨⟨ao, an, ak⟩, ⟨bo, bn, bk⟩, rfl⟩ := kq2 hf h4 h8 h12 h16 h20 h28
              have ca := ih (.mk ao an ak) (by simp)
              have cb := ih (.mk bo bn bk) (by simp)
              have ca := kid_con vs o n [.mk ao an ak, .mk bo bn bk] 0 _ rfl ca
              have cb := kid_con vs o n [.mk ao an ak, .mk bo bn bk] 1 _ rfl cb
              simp only [pI, pT, Tm.enc, encTs] at ca cb
              simp only [vTs, List.getElem?_cons_zero, List.getElem?_cons_succ, Option.getD_some] at hres
              obtain ⟨A, hA⟩ : ∃ x, vT vs (.mk ao an ak) = x := ⟨_, rfl⟩
              obtain ⟨B, hB⟩ : ∃ x, vT vs (.mk bo bn bk) = x := ⟨_, rfl⟩
              rw [hA] at ca hres
              rw [hB] at cb hres
              subst hres
              clear ih hA hB
              refine HT_seq <| (HT_drunc [⟨true, .v (li A), none⟩, ⟨true, .v (li B), none⟩, ⟨true, .v (li (binI o A B)), none⟩] (by kernel_rfl) (by kernel_rfl) (by rfl) (by simp [*]; first | exact ⟨rfl, Iff.rfl⟩ | exact ⟨rfl, trivial⟩ | rfl) ?_ ?_)
              · first | exact ⟨ca _, cb _, binP_con _ _ _ _⟩ | exact trivial | (repeat' first | exact trivial | exact ca _ | exact cb _ | exact binP_con _ _ _ _ | apply And.intro)
              exact HT_retA fun h => ⟨.inr rfl, h⟩
end Go.Proofs.YteekbhkjfaegiaaGreat

namespace Go.Hl
open Go Go.RowKit
/-! ## a region in many parts, with a weakening between any two -/
inductive RunsF (P : Program) (ops : Array Oper) : List Oper → HS → (HS → Prop) → Prop
  | done {l : List Oper} {s : HS} {K : HS → Prop} : wpR P ops l s K → RunsF P ops l s K
  | cut {l : List Oper} {s s1 s2 : HS} {K : HS → Prop} (k : Nat) : wpR P ops (l.take k) s (fun t => t = s1) → le s1 s2 → RunsF P ops (l.drop k) s2 K → RunsF P ops l s K
section
variable {P : Program} {w0 : World} {B : Nat → Prop} {π : Nat → Option Value}
theorem range_cut (k n m : Nat) : List.range' k (n + m) = List.range' k n ++ List.range' (k + n) m := by
  apply List.ext_getElem?
  intro j
  by_cases hj : j < n
  · rw [List.getElem?_append_left (by simpa using hj), List.getElem?_range' (by omega), List.getElem?_range' (by omega)]
  · rw [List.getElem?_append_right (by simp; omega)]
    simp only [List.length_range']
    by_cases hm : j < n + m
    · rw [List.getElem?_range' (by omega), List.getElem?_range' (by omega)]
      congr 1; omega
    · rw [List.getElem?_eq_none (by simp; omega), List.getElem?_eq_none (by simp; omega)]
theorem runsF_ops {ops : Array Oper} {K : HS → Prop} {Q : Exit → Act → World → Prop} {l : List Oper} {s : HS} (h : RunsF P ops l s K) : ∀ (rest : List Nat) (k : Nat) (F : Nat → Prop) (γ : Nat → Value) (a : Act) (w : World), (∀ j o, l[j]? = some o → ops[k + j]? = some o) →
    Rel w0 B π F γ s a w → (∀ s' F' γ' a' w', K s' → (∀ b, F b → F' b) → (∀ b, F' b → F b ∨ ¬ B b) → Rel w0 B π F' γ' s' a' w' → wpOps P ops Q rest a' w') → wpOps P ops Q (List.range' k l.length ++ rest) a w := by
  induction h with
  | done hw => exact fun rest k F γ a w hd hr hK => wpR_opsK _ k _ F γ a w hd hr hw hK
  | cut n hw hle _ ih =>
    intro rest k F γ a w hd hr hK
    rename_i l s s1 s2 K' _
    have hl : l.length = (l.take n).length + (l.drop n).length := by rw [← List.length_append, List.take_append_drop]
    rw [hl, range_cut, List.append_assoc]
    refine wpR_opsK (l.take n) k s F γ a w (fun j o hj => ?_) hr hw fun s' F1 γ1 a1 w1 hs' h1 h2 hr1 => ?_
    · rw [List.getElem?_take] at hj
      split at hj
      · exact hd j o hj
      · cases hj
    · subst hs'
      obtain ⟨F2, γ2, h3, h4, hr2⟩ := hle w0 B π F1 γ1 a1 w1 hr1
      refine ih rest (k + (l.take n).length) F2 γ2 a1 w1 (fun j o hj => ?_) hr2 fun s3 F3 γ3 a3 w3 hk3 h5 h6 hr3 => ?_
      · rw [List.getElem?_drop] at hj
        have hlt : n + j < l.length := (List.getElem?_eq_some_iff.1 hj).1
        have := hd (n + j) o hj
        rw [List.length_take, Nat.min_eq_left (by omega), Nat.add_assoc]
        exact this
      · exact hK s3 F3 γ3 a3 w3 hk3 (fun b hb => h5 b (h3 b (h1 b hb))) (fun b hb => (h6 b hb).elim (fun hb => (h4 b hb).elim (h2 b) .inr) .inr) hr3
theorem HT_runsF {id : Nat} {ops : Array Oper} {s : HS} {Q : Exit → HS → Prop} (h : RunsF P ops ops.toList s (Q .normal)) : HT P (.region id ops false) s Q := by
  intro w0 B π F γ a w hr
  refine wp_region ?_
  have := runsF_ops (w0 := w0) (B := B) (π := π) (Q := fun e a' w' => ∃ (s' : HS) (F' : Nat → Prop) (γ' : Nat → Value), Q e s' ∧ (∀ b, F b → F' b) ∧ (∀ b, F' b → F b ∨ ¬ B b) ∧ Rel w0 B π F' γ' s' a' w') h [] 0 F γ a w (by simp) hr
    fun s' F' γ' a' w' hk h1 h2 h3 => ⟨s', F', γ', hk, h1, h2, h3⟩
  rw [List.range_eq_range']
  simpa using this
theorem RunsF.cutE {ops : Array Oper} {l : List Oper} {s s1 s2 : HS} {p : Prop} {K : HS → Prop} (k : Nat) (cs : List CR) (h : evc P ops (l.take k) s cs = some (s1, p)) (hp : p) (hle : le s1 s2) (hr : RunsF P ops (l.drop k) s2 K) : RunsF P ops l s K :=
  .cut k (wpR_evc _ _ _ _ _ h hp rfl) hle hr
theorem RunsF.doneE {ops : Array Oper} {l : List Oper} {s s1 : HS} {p : Prop} {K : HS → Prop} (cs : List CR) (h : evc P ops l s cs = some (s1, p)) (hp : p) (hq : K s1) : RunsF P ops l s K :=
  .done (wpR_evc _ _ _ _ _ h hp hq)
theorem le_trans' {x y z : HS} (h1 : le x y) (h2 : le y z) : le x z := by
  intro w0 B π F γ a w hr
  obtain ⟨F1, γ1, a1, a2, hr1⟩ := h1 w0 B π F γ a w hr
  obtain ⟨F2, γ2, b1, b2, hr2⟩ := h2 w0 B π F1 γ1 a w hr1
  exact ⟨F2, γ2, fun b hb => b1 b (a1 b hb), fun b hb => (b2 b hb).elim (a2 b) .inr, hr2⟩
end
end Go.Hl
