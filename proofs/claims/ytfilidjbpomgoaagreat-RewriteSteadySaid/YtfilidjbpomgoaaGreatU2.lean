/- Part 2: contracts of functions of the program and of the reference, and plain facts about what they compute; used by the proof of the claimed statement. Conditions: as each theorem states. -/
import Derived.Test.YtfilidjbpomgoaaGreatU1
import Derived.Test.YtfilidjbpomgoaaGreatT11
import Derived.Test.YtfilidjbpomgoaaGreatT12
import Derived.Test.YtfilidjbpomgoaaGreatT15
set_option linter.unusedSimpArgs false
set_option linter.unusedVariables false
set_option linter.unnecessarySimpa false
set_option maxRecDepth 100000
set_option maxHeartbeats 2000000
namespace Go.Proofs.YtfilidjbpomgoaaGreat
open Go Go.Hl

/-! ## exact spans and bounds of the time -/
def BT : List St → Int
  | [] => 0
  | .mk d c _ n _ a b _ :: l => (if d = 4 then n * (c + BT a) else if d = 3 then c + mx (BT a) (BT b) else c) + BT l
def SX : List St → Int
  | [] => 0
  | .mk d c _ n (.mk o tn _) a b _ :: l => (if d = 3 then c + mn (SX a) (SX b) else if d = 4 then (if o ≠ 0 then onceI n c else if tn ≠ 0 then n * (c + SX a) else onceI n c) else c) + SX l
def noS : List St → Bool
  | [] => true
  | .mk d _ _ _ _ a b _ :: l => decide (d ≠ 6) && (noS a && (noS b && noS l))
theorem BT_cons (y : St) (l : List St) : BT (y :: l) = BT [y] + BT l := by
  obtain ⟨d, c, v, n, t, a, b, bs⟩ := y
  simp only [BT]
  omega
theorem SX_cons (y : St) (l : List St) : SX (y :: l) = SX [y] + SX l := by
  obtain ⟨d, c, v, n, ⟨o, tn, ks⟩, a, b, bs⟩ := y
  simp only [SX]
  omega
theorem BT_app : ∀ a b : List St, BT (a ++ b) = BT a + BT b
  | [], b => by simp [BT]
  | y :: a, b => by rw [List.cons_append, BT_cons, BT_cons y a, BT_app a b]; omega
theorem SX_app : ∀ a b : List St, SX (a ++ b) = SX a + SX b
  | [], b => by simp [SX]
  | y :: a, b => by rw [List.cons_append, SX_cons, SX_cons y a, SX_app a b]; omega
theorem okL_app : ∀ a b : List St, okL (a ++ b) = (okL a && okL b)
  | [], b => by simp [okL]
  | y :: a, b => by simp [okL, okL_app a b, Bool.and_assoc]
theorem BT_wait (n : Int) : BT (waitL n) = n := by
  unfold waitL
  split
  · simp [BT, *]
  · simp [BT]
theorem SX_wait (n : Int) : SX (waitL n) = n := by
  unfold waitL
  split
  · simp [SX, *]
  · simp [SX]
theorem once_le {n c x : Int} (hn : 0 ≤ n) (hc : 0 ≤ c) (hx : 0 ≤ x) : 0 ≤ onceI n c ∧ onceI n c ≤ n * (c + x) := by
  unfold onceI
  split
  · have := Int.mul_le_mul_of_nonneg_right (show (1 : Int) ≤ n by omega) (show 0 ≤ c + x by omega)
    omega
  · have : n = 0 := by omega
    subst this
    simp
theorem SX_BT : ∀ l : List St, okL l = true → 0 ≤ SX l ∧ SX l ≤ BT l
  | [], _ => by simp [SX, BT]
  | .mk d c v n (.mk o tn ks) a b bs :: l, h => by
    simp only [okL, okS, Bool.and_eq_true, Bool.or_eq_true, decide_eq_true_eq] at h
    have ha := SX_BT a h.1.2.2.1
    have hb := SX_BT b h.1.2.2.2
    have hl := SX_BT l h.2
    have hc := h.1.1.1
    have hn : d = 4 → 0 ≤ n := fun h4 => by omega
    clear h
    simp only [SX, BT]
    by_cases h3 : d = 3
    · rw [if_pos h3, if_neg (by omega), if_pos h3]
      unfold mn mx
      (repeat' split) <;> omega
    · rw [if_neg h3]
      by_cases h4 : d = 4
      · have hn := hn h4
        rw [if_pos h4, if_pos h4]
        have ho := once_le hn hc (x := BT a) (by omega)
        have h1 := Int.mul_le_mul_of_nonneg_left (show c + SX a ≤ c + BT a by omega) hn
        have h2 := Int.mul_nonneg hn (show 0 ≤ c + SX a by omega)
        split
        · omega
        · split <;> omega
      · rw [if_neg h4, if_neg h4, if_neg h3]
        omega
theorem held_id {c hi : Int} (h0 : 0 ≤ c) (h1 : c ≤ hi) : heldI c 0 hi = c := by
  unfold heldI
  rw [if_neg (by omega), if_neg (by omega)]
theorem mn_add {x y p k : Int} (hy : 0 ≤ y) (hp : 0 ≤ p) (hx : 0 ≤ x) (h : mn x k = mn y k) : mn (p + x) k = mn (p + y) k := by
  unfold mn at *
  (repeat' split at h) <;> (repeat' split) <;> omega
theorem SX_cut : ∀ (l : List St) (p : Int × Int), okL l = true → 0 ≤ p.1 → 0 ≤ (spL l p).1 ∧ mn (spL l p).1 67108865 = mn (p.1 + SX l) 67108865
  | [], p, _, hp => by simp [spL, SX, hp]
  | .mk d c v n (.mk o tn ks) a b bs :: l, p, h, hp => by
    have hbt := SX_BT a (by simp only [okL, okS, Bool.and_eq_true, Bool.or_eq_true, decide_eq_true_eq] at h; exact h.1.2.2.1)
    have hbu := SX_BT b (by simp only [okL, okS, Bool.and_eq_true, Bool.or_eq_true, decide_eq_true_eq] at h; exact h.1.2.2.2)
    have hbl := SX_BT l (by simp only [okL, Bool.and_eq_true] at h; exact h.2)
    simp only [okL, okS, Bool.and_eq_true, Bool.or_eq_true, decide_eq_true_eq] at h
    have ha := SX_cut a (0, 0) h.1.2.2.1 (Int.le_refl 0)
    have hb := SX_cut b (0, 0) h.1.2.2.2 (Int.le_refl 0)
    have il := fun q => SX_cut l q h.2
    have hc := h.1.1.1
    have hc2 := h.1.1.2.1
    have hn : d = 4 → 0 ≤ n ∧ n ≤ 4096 := fun h4 => by omega
    clear h
    simp only [spL, spS, SX, held_id hc (show c ≤ 67108865 by omega)]
    generalize (spL b (0, 0)).1 = B at *
    generalize (spL b (0, 0)).2 = B2 at *
    generalize (spL a (0, 0)).1 = A at *
    generalize (spL a (0, 0)).2 = A2 at *
    simp only [Int.zero_add] at ha hb
    generalize SX a = xa at *
    generalize SX b = xb at *
    generalize SX l = xl at *
    generalize BT a = ya at *
    generalize BT b = yb at *
    generalize BT l = yl at *
    have key : ∀ (X Y : Int) (q : Int), 0 ≤ X → 0 ≤ Y → mn X 67108865 = mn Y 67108865 → 0 ≤ (spL l (mn (p.1 + X) 67108865, q)).1 ∧ mn (spL l (mn (p.1 + X) 67108865, q)).1 67108865 = mn (p.1 + (Y + xl)) 67108865 := by
      intro X Y q hX hY he
      have := il (mn (p.1 + X) 67108865, q) (by simp only [mn]; split <;> omega)
      refine ⟨this.1, ?_⟩
      rw [this.2]
      simp only [mn] at he ⊢
      (repeat' split at he) <;> (repeat' split) <;> omega
    by_cases h3 : d = 3
    · simp only [if_pos h3]
      have e : mn (c + mn A B) 67108865 = mn (c + mn xa xb) 67108865 := by
        obtain ⟨a0, a1⟩ := ha
        obtain ⟨b0, b1⟩ := hb
        clear key il
        simp only [mn] at *
        (repeat' split at a1) <;> (repeat' split at b1) <;> (repeat' split) <;> omega
      exact key _ _ _ (by unfold mn; split <;> omega) (by unfold mn; split <;> omega) e
    · simp only [if_neg h3]
      by_cases h4 : d = 4
      · obtain ⟨hn0, hn1⟩ := hn h4
        simp only [if_pos h4, held_id hn0 hn1]
        have ho := once_le hn0 hc (x := xa) (by omega)
        have hm := Int.mul_nonneg hn0 (show 0 ≤ c + A by omega)
        have hm' := Int.mul_nonneg hn0 (show 0 ≤ c + xa by omega)
        by_cases h5 : o ≠ 0
        · simp only [if_pos h5]
          exact key _ _ _ ho.1 ho.1 rfl
        · simp only [if_neg h5]
          by_cases h6 : tn ≠ 0
          · simp only [if_pos h6]
            have e := mul_cut (C := 67108865) hn0 ha.1 (show 0 ≤ xa by omega) hc (Int.le_refl 0) ha.2
            simp only [Int.zero_add] at e
            exact key _ _ _ hm hm' e
          · simp only [if_neg h6]
            exact key _ _ _ ho.1 ho.1 rfl
      · simp only [if_neg h4]
        exact key _ _ _ hc hc rfl
theorem BT_cut : ∀ (l : List St) (p : B3), okL l = true → 0 ≤ p.t → 0 ≤ (bdL CR l p).t ∧ mn (bdL CR l p).t 67108865 = mn (p.t + BT l) 67108865
  | [], p, _, hp => by simp [bdL, BT, hp]
  | .mk d c v n t a b bs :: l, p, h, hp => by
    have hbt := SX_BT a (by simp only [okL, okS, Bool.and_eq_true, Bool.or_eq_true, decide_eq_true_eq] at h; exact h.1.2.2.1)
    have hbu := SX_BT b (by simp only [okL, okS, Bool.and_eq_true, Bool.or_eq_true, decide_eq_true_eq] at h; exact h.1.2.2.2)
    have hbl := SX_BT l (by simp only [okL, Bool.and_eq_true] at h; exact h.2)
    simp only [okL, okS, Bool.and_eq_true, Bool.or_eq_true, decide_eq_true_eq] at h
    have ha := BT_cut a ⟨0, 0, 0⟩ h.1.2.2.1 (Int.le_refl 0)
    have hb := BT_cut b ⟨0, 0, 0⟩ h.1.2.2.2 (Int.le_refl 0)
    have il := fun q => BT_cut l q h.2
    have hc := h.1.1.1
    have hn : d = 4 → 0 ≤ n ∧ n ≤ 4096 := fun h4 => by omega
    clear h
    simp only [bdL, bdS, BT]
    generalize bdL CR a ⟨0, 0, 0⟩ = A at *
    generalize bdL CR b ⟨0, 0, 0⟩ = B at *
    simp only [Int.zero_add] at ha hb
    generalize SX a = xa at *
    generalize SX b = xb at *
    generalize SX l = xl at *
    generalize BT a = ya at *
    generalize BT b = yb at *
    generalize BT l = yl at *
    have key : ∀ (X : B3) (Y : Int), 0 ≤ X.t → 0 ≤ Y → mn X.t 67108865 = mn Y 67108865 → 0 ≤ (bdL CR l (add3 CR p X)).t ∧ mn (bdL CR l (add3 CR p X)).t 67108865 = mn (p.t + (Y + yl)) 67108865 := by
      intro X Y hX hY he
      have := il (add3 CR p X) (by simp only [add3, CR]; unfold mn; split <;> omega)
      refine ⟨this.1, ?_⟩
      rw [this.2]
      simp only [add3, CR]
      simp only [mn] at he ⊢
      (repeat' split at he) <;> (repeat' split) <;> omega
    unfold bd1
    by_cases h4 : d = 4
    · obtain ⟨hn0, hn1⟩ := hn h4
      rw [if_pos h4, if_pos h4]
      have e := mul_cut (C := 67108865) hn0 ha.1 (show 0 ≤ ya by omega) hc (Int.le_refl 0) ha.2
      simp only [Int.zero_add] at e
      exact key _ _ (Int.mul_nonneg hn0 (show 0 ≤ c + A.t by omega)) (Int.mul_nonneg hn0 (show 0 ≤ c + ya by omega)) e
    · rw [if_neg h4, if_neg h4]
      by_cases h3 : d = 3
      · rw [if_pos h3, if_pos h3]
        have e : mn (c + mx A.t B.t) 67108865 = mn (c + mx ya yb) 67108865 := by
          obtain ⟨a0, a1⟩ := ha
          obtain ⟨b0, b1⟩ := hb
          clear key il
          simp only [mn, mx] at *
          (repeat' split at a1) <;> (repeat' split at b1) <;> (repeat' split) <;> omega
        exact key _ _ (by simp only [mx]; split <;> omega) (by unfold mx; split <;> omega) e
      · rw [if_neg h3, if_neg h3]
        split
        · exact key _ _ hc hc rfl
        · exact key _ _ hc hc rfl
theorem SX_sp {l : List St} (h : okL l = true) (hb : BT l ≤ 67108864) : (spL l (0, 0)).1 = SX l := by
  have h1 := SX_BT l h
  have h2 := SX_cut l (0, 0) h (Int.le_refl 0)
  simp only [Int.zero_add, mn] at h2
  obtain ⟨h3, h4⟩ := h2
  (repeat' split at h4) <;> omega
end Go.Proofs.YtfilidjbpomgoaaGreat

namespace Go.Proofs.YtfilidjbpomgoaaGreat
open Go Go.Hl

/-! ## runs of the even form -/
theorem stepsF_app (vars : List Vr) (hv : List Int) : ∀ (a b : List St) (s : Sta), stepsF vars hv (a ++ b) s = stepsF vars hv b (stepsF vars hv a s)
  | [], b, s => by simp [stepsF]
  | .mk d c v n t x y bs :: a, b, s => by
    simp only [List.cons_append, stepsF]
    exact stepsF_app vars hv a b _
theorem stepsF_wait (vars : List Vr) (hv : List Int) (n : Int) (s : Sta) : stepsF vars hv (waitL n) s = if n = 0 then s else tick s n := by
  unfold waitL
  split
  · simp [stepsF]
  · simp [stepsF, leafF]
def sameV (s t : Sta) : Prop := s.vals = t.vals ∧ s.outs = t.outs
theorem sameV_tick {s t : Sta} (h : sameV s t) (c c' : Int) : sameV (tick s c) (tick t c') := h
theorem sameV_wait {vars : List Vr} {hv : List Int} {s t : Sta} (n : Int) (h : sameV s t) : sameV (stepsF vars hv (waitL n) s) t := by
  rw [stepsF_wait]
  split
  · exact h
  · exact h
theorem sameV_leaf {vars : List Vr} {hv : List Int} {s t : Sta} (d v n : Int) (x : Tm) (bs : List Int) (h : sameV s t) : sameV (leafF vars hv d v n x bs s) (leafF vars hv d v n x bs t) := by
  obtain ⟨h1, h2⟩ := h
  unfold leafF
  (repeat' split) <;> (first | exact ⟨by simp only [h1], by simp only [h1, h2]⟩ | exact ⟨h1, h2⟩)
theorem sameV_rnd {c : Int} {x : Tm} {f g : Sta → Sta} (h : ∀ s t, sameV s t → sameV (f s) (g t)) : ∀ (k : Nat) (s t : Sta), sameV s t → sameV (rndF c x f k s) (rndF c x g k t)
  | 0, s, t, hs => hs
  | k + 1, s, t, hs => by
    simp only [rndF, hs.1]
    split
    · exact sameV_tick hs _ _
    · exact sameV_rnd h k _ _ (h _ _ (sameV_tick hs _ _))
theorem vT_lit (vs : List Int) (n : Int) (ks : List Tm) : vT vs (.mk 0 n ks) = n := by
  simp [vT, valN]
theorem sameV_rnd0 {c : Int} {x : Tm} {f : Sta → Sta} (h : ∀ s t : Sta, vT t.vals x = 0 → sameV s t → sameV (f s) t) : ∀ (k : Nat) (s t : Sta), vT t.vals x = 0 → sameV s t → sameV (rndF c (.mk 0 1 []) f k s) t
  | 0, s, t, _, hs => hs
  | k + 1, s, t, h0, hs => by
    simp only [rndF, vT_lit]
    rw [if_neg (by decide)]
    exact sameV_rnd0 h k _ _ h0 (h _ _ h0 (sameV_tick hs c 0 : sameV (tick s c) (tick t 0)))
theorem sameV_rnd1 {c : Int} {x : Tm} {f g : Sta → Sta} (h0 : ∀ s t : Sta, vT t.vals x = 0 → sameV s t → sameV (f s) t) (h1 : ∀ s t : Sta, vT t.vals x ≠ 0 → sameV s t → sameV (f s) (g t)) : ∀ (k : Nat) (s t : Sta), sameV s t → sameV (rndF c (.mk 0 1 []) f k s) (rndF c x g k t)
  | 0, s, t, hs => hs
  | k + 1, s, t, hs => by
    by_cases hx : vT t.vals x = 0
    · have := sameV_rnd0 (c := c) h0 (k + 1) s t hx hs
      simp only [rndF, if_pos hx] at this ⊢
      exact this
    · simp only [rndF, vT_lit, if_neg hx]
      rw [if_neg (by decide)]
      exact sameV_rnd1 h0 h1 k _ _ (h1 _ _ hx (sameV_tick hs _ _))
theorem ev_vals (vars : List Vr) (hv : List Int) : ∀ (l : List St) (s t : Sta), sameV s t → sameV (stepsF vars hv (evL l) s) (stepsF vars hv l t)
  | [], s, t, h => by simpa [stepsF, evL] using h
  | .mk d c v n x a b bs :: l, s, t, h => by
    have ha := ev_vals vars hv a
    have hb := ev_vals vars hv b
    have hl := ev_vals vars hv l
    simp only [evL, balS]
    by_cases h3 : d = 3
    · rw [if_pos h3]
      simp only [stepsF, if_neg (show ¬ d = 4 by omega), if_pos h3, h.1]
      refine hl _ _ ?_
      split
      · rw [stepsF_app]; exact sameV_wait _ (hb _ _ (sameV_tick h _ _))
      · rw [stepsF_app]; exact sameV_wait _ (ha _ _ (sameV_tick h _ _))
    · rw [if_neg h3]
      by_cases h4 : d = 4
      · by_cases ho : x.op = 0
        · rw [if_neg (by rintro ⟨_, hx⟩; exact hx ho)]
          simp only [stepsF, if_pos h4]
          exact hl _ _ (sameV_rnd ha _ _ _ h)
        · rw [if_pos ⟨h4, ho⟩]
          simp only [stepsF, if_pos h4]
          refine hl _ _ (sameV_rnd1 ?_ ?_ _ _ _ h)
          · intro s t hx hs
            rw [if_neg (show ¬ (3 : Int) = 4 by decide), if_pos trivial, hs.1, if_pos hx]
            exact sameV_wait _ (sameV_tick hs 0 0 : sameV (tick s 0) (tick t 0))
          · intro s t hx hs
            rw [if_neg (show ¬ (3 : Int) = 4 by decide), if_pos trivial, hs.1, if_neg hx]
            exact ha _ _ hs
      · rw [if_neg (fun hx => h4 hx.1)]
        simp only [stepsF, if_neg h4, if_neg h3]
        exact hl _ _ (sameV_leaf _ _ _ _ _ (sameV_tick h _ _))
theorem wr_id {x : Int} (h0 : 0 ≤ x) (h1 : x ≤ 1000000000000) : wr x = x := wrap_in (by omega) (by omega)
theorem tick_time {s : Sta} {c : Int} (h0 : 0 ≤ s.time) (hc : 0 ≤ c) (h1 : s.time + c ≤ 1000000000000) : (tick s c).time = s.time + c := wr_id (by omega) h1
theorem wait_time {vars : List Vr} {hv : List Int} {s : Sta} {n : Int} (h0 : 0 ≤ s.time) (hc : 0 ≤ n) (h1 : s.time + n ≤ 1000000000000) : (stepsF vars hv (waitL n) s).time = s.time + n := by
  rw [stepsF_wait]
  split
  · omega
  · exact tick_time h0 hc h1
theorem leaf_time {vars : List Vr} {hv : List Int} {d v n : Int} {t : Tm} {bs : List Int} {s : Sta} (h : d ≠ 6) : (leafF vars hv d v n t bs s).time = s.time := by
  unfold leafF
  (repeat' split) <;> first | rfl | (exact absurd (by assumption) h)
theorem rnd_time {c A : Int} {t : Tm} {body : Sta → Sta} (hc : 0 ≤ c) (hA : 0 ≤ A) (ht : ∀ vs, vT vs t ≠ 0) (hb : ∀ s : Sta, 0 ≤ s.time → s.time + A ≤ 1000000000000 → (body s).time = s.time + A) :
    ∀ (k : Nat) (s : Sta), 0 ≤ s.time → s.time + k * (c + A) ≤ 1000000000000 → (rndF c t body k s).time = s.time + k * (c + A)
  | 0, s, h0, h1 => by simp [rndF]
  | k + 1, s, h0, h1 => by
    simp only [rndF, if_neg (ht _)]
    have e : ((k + 1 : Nat) : Int) * (c + A) = k * (c + A) + (c + A) := by
      rw [show ((k + 1 : Nat) : Int) = (k : Int) + 1 by omega, Int.add_mul, Int.one_mul]
    have hk := Int.mul_nonneg (Int.natCast_nonneg k) (show 0 ≤ c + A by omega)
    have ih := rnd_time hc hA ht hb k (body (tick s c))
    rw [e] at h1 ⊢
    obtain ⟨K, hK⟩ : ∃ K, (k : Int) * (c + A) = K := ⟨_, rfl⟩
    rw [hK] at h1 hk ih ⊢
    have t1 := tick_time (s := s) (c := c) h0 hc (by omega)
    have t2 := hb (tick s c) (by omega) (by omega)
    rw [ih (by omega) (by omega)]
    omega
/-- rounds that may end early -/
theorem rnd_le {c A : Int} {t : Tm} {body : Sta → Sta} (hc : 0 ≤ c) (hA : 0 ≤ A) (hb : ∀ s : Sta, 0 ≤ s.time → s.time + A ≤ 1000000000000 → s.time ≤ (body s).time ∧ (body s).time ≤ s.time + A) :
    ∀ (k : Nat) (s : Sta), 0 ≤ s.time → s.time + k * (c + A) ≤ 1000000000000 → s.time ≤ (rndF c t body k s).time ∧ (rndF c t body k s).time ≤ s.time + k * (c + A)
  | 0, s, h0, h1 => by simp [rndF]
  | k + 1, s, h0, h1 => by
    simp only [rndF]
    have e : ((k + 1 : Nat) : Int) * (c + A) = k * (c + A) + (c + A) := by
      rw [show ((k + 1 : Nat) : Int) = (k : Int) + 1 by omega, Int.add_mul, Int.one_mul]
    have hk := Int.mul_nonneg (Int.natCast_nonneg k) (show 0 ≤ c + A by omega)
    have ih := rnd_le (t := t) hc hA hb k (body (tick s c))
    rw [e] at h1 ⊢
    obtain ⟨K, hK⟩ : ∃ K, (k : Int) * (c + A) = K := ⟨_, rfl⟩
    rw [hK] at h1 hk ih ⊢
    have t1 := tick_time (s := s) (c := c) h0 hc (by omega)
    split
    · omega
    · have t2 := hb (tick s c) (by omega) (by omega)
      have := ih (by omega) (by omega)
      omega
/-- rounds that are ended at once -/
theorem rnd_once {c : Int} {t : Tm} {body : Sta → Sta} (hc : 0 ≤ c) (ht : ∀ vs, vT vs t = 0) (n : Int) (s : Sta) (h0 : 0 ≤ s.time) (hn : 0 ≤ n) (h1 : s.time + onceI n c ≤ 1000000000000) : (rndF c t body n.toNat s).time = s.time + onceI n c := by
  unfold onceI at *
  match hk : n.toNat with
  | 0 =>
    rw [if_neg (by omega)]
    simp [rndF]
  | k + 1 =>
    rw [if_pos (by omega)] at h1 ⊢
    simp only [rndF, if_pos (ht _)]
    exact tick_time h0 hc h1
theorem mul_pos_le {n x : Int} (hn : 0 < n) (hx : 0 ≤ x) : x ≤ n * x := by
  have := Int.mul_le_mul_of_nonneg_right (show (1 : Int) ≤ n by omega) hx
  omega
/-- one step of the original: what is known of its inner steps -/
structure Inn (vars : List Vr) (hv : List Int) (a a' : List St) : Prop where
  ok : okL a' = true
  run : BT a' ≤ 67108864 → ∀ s : Sta, 0 ≤ s.time → s.time + SX a' ≤ 1000000000000 →
    (stepsF vars hv a' s).time = s.time + SX a' ∧ s.time ≤ (stepsF vars hv a s).time ∧ (stepsF vars hv a s).time ≤ s.time + SX a'
theorem ev_time (vars : List Vr) (hv : List Int) : ∀ l : List St, noS l = true → okL l = true → okL (evL l) = true → Inn vars hv l (evL l)
  | [], _, _, h => ⟨h, fun _ s h0 h1 => by simp only [evL, stepsF, SX] at *; omega⟩
  | .mk d c v n (.mk o tn ks) a b bs :: l, hS, hok, h => by
    refine ⟨h, ?_⟩
    simp only [noS, Bool.and_eq_true, decide_eq_true_eq] at hS
    simp only [okL, okS, Bool.and_eq_true, Bool.or_eq_true, decide_eq_true_eq] at hok
    have hc := hok.1.1.1
    have hn : d = 4 → 0 ≤ n := fun h4 => by omega
    intro hB s h0 h1
    simp only [evL] at h hB h1 ⊢
    rw [BT_cons] at hB
    rw [SX_cons] at h1 ⊢
    have hokl : okL (evL l) = true := by
      simp only [okL, Bool.and_eq_true] at h
      exact h.2
    have il := (ev_time vars hv l hS.2.2.2 hok.2 hokl).run
    have hl0 := SX_BT (evL l) hokl
    have hoky : okL [balS (.mk d c v n (Tm.mk o tn ks) (evL a) (evL b) bs)] = true := by
      simp only [okL, Bool.and_eq_true] at h ⊢
      exact ⟨h.1, trivial⟩
    have hy0 := SX_BT _ hoky
    have ia := ev_time vars hv a hS.2.1 hok.1.2.2.1
    have ib := ev_time vars hv b hS.2.2.1 hok.1.2.2.2
    -- the step itself, and then the rest
    suffices hst : ∀ X, SX [balS (.mk d c v n (Tm.mk o tn ks) (evL a) (evL b) bs)] = X → s.time + X ≤ 1000000000000 →
        (stepsF vars hv [balS (.mk d c v n (Tm.mk o tn ks) (evL a) (evL b) bs)] s).time = s.time + X ∧ s.time ≤ (stepsF vars hv [.mk d c v n (Tm.mk o tn ks) a b bs] s).time ∧ (stepsF vars hv [.mk d c v n (Tm.mk o tn ks) a b bs] s).time ≤ s.time + X by
      obtain ⟨X, hX⟩ : ∃ X, SX [balS (.mk d c v n (Tm.mk o tn ks) (evL a) (evL b) bs)] = X := ⟨_, rfl⟩
      have h2 := hst X hX (by omega)
      rw [hX] at h1 hy0 ⊢
      rw [← List.singleton_append, stepsF_app, show (St.mk d c v n (Tm.mk o tn ks) a b bs :: l) = [St.mk d c v n (Tm.mk o tn ks) a b bs] ++ l from rfl, stepsF_app]
      generalize stepsF vars hv [balS (.mk d c v n (Tm.mk o tn ks) (evL a) (evL b) bs)] s = s1 at *
      generalize stepsF vars hv [.mk d c v n (Tm.mk o tn ks) a b bs] s = s2 at *
      have r1 := il (by omega) s1 (by omega) (by omega)
      have r2 := il (by omega) s2 (by omega) (by omega)
      omega
    intro X hX h2
    clear il h1
    have hB1 : BT [balS (.mk d c v n (Tm.mk o tn ks) (evL a) (evL b) bs)] ≤ 67108864 := by omega
    clear hB hl0
    rw [hX] at hy0
    have hX0 : 0 ≤ X := hy0.1
    clear hy0
    by_cases h3 : d = 3
    · simp only [balS, if_pos h3] at hX hB1 hoky ⊢
      simp only [okL, okS, okL_app, Bool.and_eq_true, Bool.or_eq_true, decide_eq_true_eq] at hoky
      have ha' : okL (evL a) = true := hoky.1.2.2.1.1
      have hb' : okL (evL b) = true := hoky.1.2.2.2.1
      have ra := (ia ha').run
      have rb := (ib hb').run
      have na := SX_BT _ ha'
      have nb := SX_BT _ hb'
      simp only [BT, SX, BT_app, SX_app, BT_wait, SX_wait, if_neg (show ¬ d = 4 by omega), if_pos h3, Int.add_zero] at hB1 hX
      have hBa : BT (evL a) ≤ 67108864 := by unfold posI mx at hB1; (repeat' split at hB1) <;> omega
      have hBb : BT (evL b) ≤ 67108864 := by unfold posI mx at hB1; (repeat' split at hB1) <;> omega
      rw [SX_sp ha' hBa, SX_sp hb' hBb] at hX ⊢
      have ra := ra hBa
      have rb := rb hBb
      clear hB1
      have hp1 : 0 ≤ posI (SX (evL b) - SX (evL a)) := by unfold posI; split <;> omega
      have hp2 : 0 ≤ posI (SX (evL a) - SX (evL b)) := by unfold posI; split <;> omega
      have hX1 : c + (SX (evL a) + posI (SX (evL b) - SX (evL a))) = X := by unfold mn posI at hX; unfold posI; (repeat' split at hX) <;> (repeat' split) <;> omega
      have hX2 : c + (SX (evL b) + posI (SX (evL a) - SX (evL b))) = X := by unfold mn posI at hX; unfold posI; (repeat' split at hX) <;> (repeat' split) <;> omega
      clear hX
      simp only [stepsF, if_neg (show ¬ d = 4 by omega), if_pos h3]
      have t1 := tick_time (s := s) (c := c) h0 hc (by omega)
      split
      · rw [stepsF_app]
        have := rb (tick s c) (by omega) (by omega)
        rw [wait_time (by omega) hp2 (by omega)]
        omega
      · rw [stepsF_app]
        have := ra (tick s c) (by omega) (by omega)
        rw [wait_time (by omega) hp1 (by omega)]
        omega
    · by_cases h4 : d = 4
      · have hn := hn h4
        by_cases ho : (Tm.mk o tn ks).op = 0
        · simp only [balS, if_neg h3, if_neg (show ¬ (d = 4 ∧ (Tm.mk o tn ks).op ≠ 0) from fun hx => hx.2 ho)] at hX hB1 hoky ⊢
          simp only [okL, okS, Bool.and_eq_true, Bool.or_eq_true, decide_eq_true_eq] at hoky
          have ha' : okL (evL a) = true := hoky.1.2.2.1
          have ra := (ia ha').run
          have na := SX_BT _ ha'
          simp only [BT, SX, if_neg h3, if_pos h4, Int.add_zero] at hB1 hX
          have ho : o = 0 := ho
          subst ho
          rw [if_neg (by decide)] at hX
          simp only [stepsF, if_pos h4]
          by_cases ht : tn = 0
          · subst ht
            rw [if_neg (by decide)] at hX
            have e1 := rnd_once (body := stepsF vars hv (evL a)) (c := c) (t := .mk 0 0 ks) hc (fun vs => vT_lit vs 0 ks) n s h0 hn (by omega)
            have e2 := rnd_once (body := stepsF vars hv a) (c := c) (t := .mk 0 0 ks) hc (fun vs => vT_lit vs 0 ks) n s h0 hn (by omega)
            omega
          · rw [if_pos ht] at hX
            by_cases hn0 : n = 0
            · subst hn0
              simp only [Int.zero_mul] at hX
              simp only [Int.toNat_zero, rndF]
              omega
            · have hBa : BT (evL a) ≤ 67108864 := by
                have := mul_pos_le (n := n) (by omega) (show 0 ≤ c + BT (evL a) by omega)
                omega
              have ra := ra hBa
              have hnn : ((n.toNat : Nat) : Int) = n := by omega
              have e1 := rnd_time (t := .mk 0 tn ks) (body := stepsF vars hv (evL a)) hc na.1 (fun vs => by rw [vT_lit]; exact ht) (fun s h h' => (ra s h h').1) n.toNat s h0 (by rw [hnn]; omega)
              have e2 := rnd_le (t := .mk 0 tn ks) (body := stepsF vars hv a) hc na.1 (fun s h h' => (ra s h h').2) n.toNat s h0 (by rw [hnn]; omega)
              rw [hnn] at e1 e2
              omega
        · simp only [balS, if_neg h3, if_pos (show d = 4 ∧ (Tm.mk o tn ks).op ≠ 0 from ⟨h4, ho⟩)] at hX hB1 hoky ⊢
          simp only [okL, okS, Bool.and_eq_true, Bool.or_eq_true, decide_eq_true_eq] at hoky
          have ha' : okL (evL a) = true := hoky.1.2.2.1.1.2.2.1
          have ra := (ia ha').run
          have na := SX_BT _ ha'
          simp only [BT, SX, BT_wait, SX_wait, if_neg h3, if_pos h4, Tm.op, Tm.n, Int.add_zero, Int.zero_add, if_neg (show ¬ (3 : Int) = 4 by decide), if_pos (show (3 : Int) = 3 from rfl), if_neg (show ¬ (0 : Int) ≠ 0 by decide), if_pos (show (1 : Int) ≠ 0 by decide), if_true] at hB1 hX
          by_cases hn0 : n = 0
          · subst hn0
            simp only [Int.zero_mul] at hX
            simp only [stepsF, if_pos h4, Int.toNat_zero, rndF]
            omega
          · have hBa : BT (evL a) ≤ 67108864 := by
              have hx : BT (evL a) ≤ mx (BT (evL a)) (spL (evL a) (0, 0)).1 := by unfold mx; split <;> omega
              have := mul_pos_le (n := n) (by omega) (show 0 ≤ c + mx (BT (evL a)) (spL (evL a) (0, 0)).1 by omega)
              omega
            rw [SX_sp ha' hBa] at hX ⊢
            rw [show mn (SX (evL a)) (SX (evL a)) = SX (evL a) by unfold mn; split <;> rfl] at hX
            have ra := ra hBa
            have hnn : ((n.toNat : Nat) : Int) = n := by omega
            simp only [stepsF, if_pos h4]
            have e1 := rnd_time (c := c) (A := SX (evL a)) (t := .mk 0 1 []) (body := fun s => if (3 : Int) = 4 then rndF 0 (Tm.mk o tn ks) (stepsF vars hv (evL a)) (0 : Int).toNat s else if (3 : Int) = 3 then (if vT s.vals (Tm.mk o tn ks) = 0 then stepsF vars hv (waitL (SX (evL a))) (tick s 0) else stepsF vars hv (evL a) (tick s 0)) else leafF vars hv 3 0 0 (Tm.mk o tn ks) [] (tick s 0)) hc na.1 (fun vs => by rw [vT_lit]; decide) (fun s h h' => by
                simp only [if_neg (show ¬ (3 : Int) = 4 by decide), if_true]
                have t1 := tick_time (s := s) (c := 0) h (Int.le_refl 0) (by omega)
                split
                · rw [wait_time (by omega) na.1 (by omega)]; omega
                · rw [(ra (tick s 0) (by omega) (by omega)).1]; omega) n.toNat s h0 (by rw [hnn]; omega)
            have e2 := rnd_le (t := (Tm.mk o tn ks)) (body := stepsF vars hv a) hc na.1 (fun s h h' => (ra s h h').2) n.toNat s h0 (by rw [hnn]; omega)
            rw [hnn] at e1 e2
            refine ⟨?_, by omega, by omega⟩
            rw [← hX]
            exact e1
      · simp only [balS, if_neg h3, if_neg (show ¬ (d = 4 ∧ (Tm.mk o tn ks).op ≠ 0) from fun hx => h4 hx.1)] at hX ⊢
        simp only [SX, if_neg h3, if_neg h4, Int.add_zero] at hX
        simp only [stepsF, if_neg h3, if_neg h4]
        rw [leaf_time hS.1, tick_time h0 hc (by omega)]
        omega
end Go.Proofs.YtfilidjbpomgoaaGreat

namespace Go.Proofs.YtfilidjbpomgoaaGreat
open Go Go.Hl

/-! ## the even program: outputs stay, the time is constant -/
theorem shB_6 {vars : List Vr} {nh : Nat} {v n : Int} {t : Tm} {la lb_ : Nat} {bs : List Int} {last : Bool} (h : shB vars nh 6 v n t la lb_ bs last = true) : la = 0 ∧ lb_ = 0 ∧ last = true := by
  unfold shB at h
  simp only [show ¬ (6 : Int) = 0 by decide, show ¬ (6 : Int) = 1 by decide, show ¬ (6 : Int) = 2 by decide, show ¬ (6 : Int) = 3 by decide, show ¬ (6 : Int) = 4 by decide, show ¬ (6 : Int) = 5 by decide, if_true, if_false, Bool.and_eq_true, decide_eq_true_eq] at h
  exact ⟨h.1.1.1.1.1.1, h.1.1.1.1.1.2, h.1.1.1.1.2⟩
theorem ss_noS {vars : List Vr} {nh : Nat} : ∀ l : List St, ssC vars nh l false = 0 → noS l = true
  | [], _ => by simp [noS]
  | .mk d c v n t a b bs :: l, h => by
    obtain ⟨hs, _, _, ha, hb, hl⟩ := ssC_split h
    simp only [noS, ss_noS a ha, ss_noS b hb, ss_noS l hl, Bool.and_true, decide_eq_true_eq]
    intro hd
    subst hd
    have := (shB_6 hs).2.2
    simp at this
theorem ss_split {vars : List Vr} {nh : Nat} : ∀ l : List St, ssC vars nh l true = 0 → noS l = true ∨ ∃ m c v n t bs, l = m ++ [.mk 6 c v n t [] [] bs] ∧ noS m = true
  | [], _ => .inl (by simp [noS])
  | .mk d c v n t a b bs :: l, h => by
    obtain ⟨hs, _, _, ha, hb, hl⟩ := ssC_split h
    by_cases hd : d = 6
    · subst hd
      obtain ⟨h1, h2, h3⟩ := shB_6 hs
      have e1 := List.eq_nil_of_length_eq_zero h1
      have e2 := List.eq_nil_of_length_eq_zero h2
      have e3 : l = [] := by simpa using h3
      subst e1 e2 e3
      exact .inr ⟨[], c, v, n, t, bs, rfl, by simp [noS]⟩
    · rcases ss_split l hl with h1 | ⟨m, c', v', n', t', bs', rfl, hm⟩
      · exact .inl (by simp only [noS, ss_noS a ha, ss_noS b hb, h1, Bool.and_true, decide_eq_true_eq]; exact hd)
      · exact .inr ⟨.mk d c v n t a b bs :: m, c', v', n', t', bs', rfl, by simp only [noS, ss_noS a ha, ss_noS b hb, hm, Bool.and_true, decide_eq_true_eq]; exact hd⟩
def stl (bs : List Int) (t : Int) : Int := stlL bs t t false
theorem stl_true : ∀ (l : List Int) (t best : Int), t ≤ best → stlL l t best true ≤ best ∧ t ≤ stlL l t best true ∧ (stlL l t best true = best ∨ stlL l t best true ∈ l) ∧ ∀ b ∈ l, t ≤ b → stlL l t best true ≤ b
  | [], t, best, h => by simp [stlL, h]
  | x :: l, t, best, h => by
    simp only [stlL]
    split
    · rename_i hx
      have hx2 : x < best := hx.2.resolve_left (by decide)
      have ih := stl_true l t x hx.1
      refine ⟨by omega, ih.2.1, ?_, ?_⟩
      · rcases ih.2.2.1 with e | e
        · exact .inr (by rw [e]; exact List.mem_cons_self)
        · exact .inr (List.mem_cons_of_mem _ e)
      · intro b hb hbt
        rcases List.mem_cons.1 hb with rfl | h1
        · exact ih.1
        · exact ih.2.2.2 b h1 hbt
    · rename_i hx
      have ih := stl_true l t best h
      refine ⟨ih.1, ih.2.1, ?_, ?_⟩
      · rcases ih.2.2.1 with e | e
        · exact .inl e
        · exact .inr (List.mem_cons_of_mem _ e)
      · intro b hb hbt
        rcases List.mem_cons.1 hb with rfl | h1
        · have : ¬ b < best := fun hlt => hx ⟨hbt, .inr hlt⟩
          have := ih.1
          omega
        · exact ih.2.2.2 b h1 hbt
theorem stl_false : ∀ (l : List Int) (t best : Int), ((∀ b ∈ l, b < t) ∧ stlL l t best false = best) ∨ (stlL l t best false ∈ l ∧ t ≤ stlL l t best false ∧ ∀ b ∈ l, t ≤ b → stlL l t best false ≤ b)
  | [], t, best => .inl ⟨by simp, by simp [stlL]⟩
  | x :: l, t, best => by
    simp only [stlL]
    split
    · rename_i hx
      have ih := stl_true l t x hx.1
      refine .inr ⟨?_, ih.2.1, ?_⟩
      · rcases ih.2.2.1 with e | e
        · rw [e]; exact List.mem_cons_self
        · exact List.mem_cons_of_mem _ e
      · intro b hb hbt
        rcases List.mem_cons.1 hb with rfl | h1
        · exact ih.1
        · exact ih.2.2.2 b h1 hbt
    · rename_i hx
      have hlt : x < t := by
        refine Int.not_le.1 fun hle => hx ⟨hle, .inl trivial⟩
      rcases stl_false l t best with ⟨h1, h2⟩ | ⟨h1, h2, h3⟩
      · refine .inl ⟨fun b hb => ?_, h2⟩
        rcases List.mem_cons.1 hb with rfl | h
        · exact hlt
        · exact h1 b h
      · refine .inr ⟨List.mem_cons_of_mem _ h1, h2, fun b hb hbt => ?_⟩
        rcases List.mem_cons.1 hb with rfl | h
        · omega
        · exact h3 b h hbt
theorem stl_mono {bs : List Int} {s t : Int} (h : s ≤ t) : stl bs s ≤ stl bs t := by
  unfold stl
  rcases stl_false bs s s with ⟨h1, h2⟩ | ⟨h1, h2, h3⟩
  · rcases stl_false bs t t with ⟨g1, g2⟩ | ⟨g1, g2, g3⟩
    · omega
    · omega
  · rcases stl_false bs t t with ⟨g1, g2⟩ | ⟨g1, g2, g3⟩
    · have := g1 _ h1
      omega
    · exact h3 _ g1 (by omega)
theorem steady_body (vars : List Vr) (nh : Nat) {l : List St} (h : ssC vars nh l true = 0) (h' : ssC vars nh (evL l) true = 0) (hb : BT (evL l) ≤ 67108864) :
    ∃ T, ∀ hv vs : List Int, (stepsF vars hv (evL l) ⟨vs, [], 0⟩).outs = (stepsF vars hv l ⟨vs, [], 0⟩).outs ∧ (stepsF vars hv (evL l) ⟨vs, [], 0⟩).time = T ∧ (stepsF vars hv l ⟨vs, [], 0⟩).time ≤ T := by
  have ok := ssC_ok _ _ h
  have ok' := ssC_ok _ _ h'
  have ev := fun hv vs : List Int => (ev_vals vars hv l ⟨vs, [], 0⟩ ⟨vs, [], 0⟩ ⟨rfl, rfl⟩).2
  rcases ss_split l h with hS | ⟨m, c, v, n, t, bs, rfl, hS⟩
  · have hs := SX_BT _ ok'
    refine ⟨SX (evL l), fun hv vs => ⟨ev hv vs, ?_⟩⟩
    have := (ev_time vars hv l hS ok ok').run hb ⟨vs, [], 0⟩ (Int.le_refl 0) (by simp only; omega)
    simp only [Int.zero_add] at this
    exact ⟨this.1, this.2.2⟩
  · have e : evL (m ++ [.mk 6 c v n t [] [] bs]) = evL m ++ [.mk 6 c v n t [] [] bs] := by
      rw [evL_app]
      simp [evL, balS]
    rw [e] at ok' hb
    rw [okL_app, Bool.and_eq_true] at ok ok'
    have hs := SX_BT _ ok'.1
    have hc : 0 ≤ c := by
      have := ok.2
      simp only [okL, okS, Bool.and_eq_true, decide_eq_true_eq] at this
      exact this.1.1.1
    simp only [BT_app, BT, if_neg (show ¬ (6 : Int) = 4 by decide), if_neg (show ¬ (6 : Int) = 3 by decide), Int.add_zero] at hb
    refine ⟨stl bs (SX (evL m) + c), fun hv vs => ⟨ev hv vs, ?_⟩⟩
    have hr := (ev_time vars hv m hS ok.1 ok'.1).run (by omega) ⟨vs, [], 0⟩ (Int.le_refl 0) (by simp only; omega)
    simp only [Int.zero_add] at hr
    rw [e, stepsF_app, stepsF_app]
    have fin : ∀ s : Sta, 0 ≤ s.time → s.time + c ≤ 1000000000000 → (stepsF vars hv [.mk 6 c v n t [] [] bs] s).time = stl bs (s.time + c) := by
      intro s h0 h1
      have := tick_time h0 hc h1
      simp only [stepsF, if_neg (show ¬ (6 : Int) = 4 by decide), if_neg (show ¬ (6 : Int) = 3 by decide), leafF, if_neg (show ¬ (6 : Int) = 0 by decide), if_neg (show ¬ (6 : Int) = 1 by decide), if_neg (show ¬ (6 : Int) = 5 by decide), if_true, this]
      rfl
    rw [fin _ (by omega) (by omega), fin _ (by omega) (by omega), hr.1]
    exact ⟨rfl, stl_mono (by omega)⟩
theorem BT_of {l : List St} {vars : List Vr} {nh : Nat} (h : ssC vars nh l true = 0) (ho : overL l = false) : BT l ≤ 67108864 := by
  have ht := (over_split ho).2.2
  have := BT_cut l ⟨0, 0, 0⟩ (ssC_ok _ _ h) (Int.le_refl 0)
  simp only [Int.zero_add, mn] at this
  obtain ⟨h1, h2⟩ := this
  (repeat' split at h2) <;> omega
theorem steady_run {f : Fl} (h : codeC f = 0) (h' : codeC ⟨f.vars, f.hats, evL f.body⟩ = 0) : ∃ T : Int, ∀ i, (stL i f.vars 0 0 0 [] true).2 = 0 →
    runF ⟨f.vars, f.hats, evL f.body⟩ i = (⟨(runF f i).1.outs, T⟩, 0) ∧ (runF f i).2 = 0 ∧ (runF f i).1.time ≤ T := by
  obtain ⟨_, _, _, hs, _⟩ := code_split h
  obtain ⟨_, _, _, hs', ho⟩ := code_split h'
  obtain ⟨T, hT⟩ := steady_body f.vars f.hats.length hs hs' (BT_of hs' ho)
  refine ⟨T, fun i h0 => ?_⟩
  have := hT (hvals (stL i f.vars 0 0 0 [] true).1 f.hats) (stL i f.vars 0 0 0 [] true).1
  unfold runF playF
  simp only [if_pos h, if_pos h', if_pos h0, this.1, this.2.1, if_true]
  first | exact ⟨rfl, rfl, this.2.2⟩ | exact ⟨trivial, trivial, this.2.2⟩ | simpa using this.2.2
end Go.Proofs.YtfilidjbpomgoaaGreat

namespace Go.Proofs.YtfilidjbpomgoaaGreat
open Go Go.Hl

theorem outs_len {f : Fl} {i : Inp} (hb : bndL f.body = true) : (runF f i).1.outs.length ≤ 1000000000 := by
  unfold runF playF
  split
  · rename_i h0
    split
    · rename_i hc
      split
      · have h1 := (code_wf hb (by assumption)).2.1
        have h2 := (steps_len f.vars (hvals (stL i f.vars 0 0 0 [] true).1 f.hats) f.body ⟨(stL i f.vars 0 0 0 [] true).1, [], 0⟩).2
        simp only [List.length_nil] at h2 ⊢
        omega
      · simp [st0]
    · simp [st0]
  · simp
theorem steady_law (f : Fl) (d : Nat) : Con Tryz.prog 4 true [aF f] (.v (lb true)) none d := by
  have ck := known_con
  have cf := fit_con f
  obtain ⟨FW, hFW⟩ : ∃ x, fitB f 16 4 4 = x := ⟨_, rfl⟩
  rw [hFW] at cf
  have hin : FW = true → Fit f 16 4 4 := fun h => fit_in (hFW.trans h)
  clear hFW
  refine con_of_HT Tryz.func4 rfl (by kernel_rfl) (Nat.le_of_ble_eq_true rfl) ?_
  simp only [Tryz.f4]
  simp only [aF, Fl.enc, List.map_cons, List.map_nil] at cf ⊢
  refine HT_seq <| (HT_run (by simp [*]; rfl) ?_)
  refine HT_seq <| HT_seq <| (HT_runc [⟨true, .v (lb true), none⟩] (by simp [*]; first | exact ⟨rfl, Iff.rfl⟩ | exact ⟨rfl, trivial⟩ | rfl) ?_ ?_)
  · first | exact ck _ | exact trivial | simpa [*] using ck _
  refine (HT_cond rfl (fun h2 => ?_) (fun h2 => HT_skip ?_))
  · exact absurd h2 (by simp)
  · try simp only [Bool.or_eq_true, Bool.and_eq_true, Bool.or_eq_false_iff, Bool.and_eq_false_iff, Bool.not_eq_true', Bool.not_eq_false', decide_eq_true_eq, decide_eq_false_iff_not] at h2
    refine HT_seq <| HT_seq <| (HT_runc [⟨true, .v (lb FW), none⟩] (by simp [*]; first | exact ⟨rfl, Iff.rfl⟩ | exact ⟨rfl, trivial⟩ | rfl) ?_ ?_)
    · first | exact cf _ | exact trivial | simpa [*] using cf _
    refine (HT_cond rfl (fun h6 => ?_) (fun h6 => HT_skip ?_))
    · try simp only [Bool.or_eq_true, Bool.and_eq_true, Bool.or_eq_false_iff, Bool.and_eq_false_iff, Bool.not_eq_true', Bool.not_eq_false', decide_eq_true_eq, decide_eq_false_iff_not] at h6
      refine HT_seq <| (HT_run (by simp [*]; rfl) ?_)
      exact (HT_retE (fun h => ⟨.inr rfl, h⟩) _ (by simp [*]; rfl) (by first | rfl | (simp [*]; done) | (simp only [resR]; (repeat' split) <;> first | rfl | (exfalso; omega) | simp_all)) (by simp))
    · try simp only [Bool.or_eq_true, Bool.and_eq_true, Bool.or_eq_false_iff, Bool.and_eq_false_iff, Bool.not_eq_true', Bool.not_eq_false', decide_eq_true_eq, decide_eq_false_iff_not] at h6
      have hfw : FW = true := by simpa using h6
      have hF := hin hfw
      clear hin cf ck h2 h6 hfw
      have hhv := hF.hv
      have hhh := hF.hh
      have hhn := hF.hn
      have hbnd := hF.hb
      have hcode := hF.code
      have ce := evenP_con f (by omega) (by omega) (by omega) hF.hb
      have ci := inputs_con f hF.good (by omega) hF.s1 hF.s2 hF.s3
      have hil := insL_len hF.good hF.s1 hF.s2 hF.s3
      have hiok := fun i hi => @ins_ok f.vars (code_split hF.code).2.1 i hi
      have r1 := fun i => runG_con f i (by omega) (by omega) (by omega) hbnd
      have hol := fun i => @outs_len f i hbnd
      have hevn := evL_nodes f.body
      have hevb := evL_bnd f.body hbnd
      have hE : evF f = chkF ⟨f.vars, f.hats, evL f.body⟩ := by unfold evF; rw [if_pos hcode]
      rw [hE] at ce
      clear hE hF
      obtain ⟨L, hL⟩ : ∃ x, insL f.vars = x := ⟨_, rfl⟩
      rw [hL] at ci hil hiok
      clear hL
      obtain ⟨C2, hC2⟩ : ∃ x, codeC ⟨f.vars, f.hats, evL f.body⟩ = x := ⟨_, rfl⟩
      have hst : C2 = 0 → _ := fun h => steady_run hcode (hC2.trans h)
      have r2 := fun i => runG_con ⟨f.vars, f.hats, evL f.body⟩ i (by simp only; omega) (by simp only; omega) (by simp only; omega) hevb
      have hG : chkF ⟨f.vars, f.hats, evL f.body⟩ = if C2 = 0 then (⟨f.vars, f.hats, evL f.body⟩, 0) else (fl0, 4) := by unfold chkF; rw [hC2]
      obtain ⟨⟨g, e⟩, hg⟩ : ∃ x, chkF ⟨f.vars, f.hats, evL f.body⟩ = x := ⟨_, rfl⟩
      rw [hg] at ce hG
      have hgt : e = 0 → ∃ T : Int, (∀ i ∈ L, runF g i = (⟨(runF f i).1.outs, T⟩, 0) ∧ (runF f i).1.time ≤ T) ∧ ∀ i d, Con Tryz.prog 16 false [aF g, aI i] (.tup [aO (runF g i).1, li (runF g i).2]) none d := by
        intro he
        by_cases hc : C2 = 0
        · rw [if_pos hc] at hG
          obtain ⟨T, hT⟩ := hst hc
          simp only [Prod.mk.injEq] at hG
          rw [hG.1]
          exact ⟨T, fun i hi => ⟨(hT i (hiok i hi)).1, (hT i (hiok i hi)).2.2⟩, r2⟩
        · rw [if_neg hc] at hG
          simp only [Prod.mk.injEq] at hG
          omega
      have he4 : e ≠ 0 → e = 4 := by
        intro he
        by_cases hc : C2 = 0
        · rw [if_pos hc] at hG
          simp only [Prod.mk.injEq] at hG
          omega
        · rw [if_neg hc] at hG
          simp only [Prod.mk.injEq] at hG
          omega
      clear hst r2 hG hg hC2 hevb hevn hbnd hcode hhv hhh hhn hiok
      obtain ⟨vars, hats, body⟩ := f
      obtain ⟨gv, gh, gb⟩ := g
      simp only at ce
      simp only [aF, Fl.enc, List.map_cons, List.map_nil] at ce ci r1
      refine HT_seq <| (HT_runc [⟨false, .tup [.agg [.c (.sl 5 (encVs gv)), .c (.sl 6 (encHs gh)), .c (.sl 10 (encSs gb))], li e], none⟩] (by simp [*]; first | exact ⟨rfl, Iff.rfl⟩ | exact ⟨rfl, trivial⟩ | rfl) ?_ ?_)
      · first | exact ce _ | exact trivial | simpa [*] using ce _
      refine HT_seq <| HT_seq <| (HT_run (by simp [*]; rfl) ?_)
      refine (HT_cond rfl (fun h11 => ?_) (fun h11 => HT_skip ?_))
      · try simp only [Bool.or_eq_true, Bool.and_eq_true, Bool.or_eq_false_iff, Bool.and_eq_false_iff, Bool.not_eq_true', Bool.not_eq_false', decide_eq_true_eq, decide_eq_false_iff_not] at h11
        have he : e = 4 := he4 h11
        subst he
        clear hgt he4 r1 hol
        refine HT_seq <| (HT_run (by simp [*]; rfl) ?_)
        exact (HT_retE (fun h => ⟨.inr rfl, h⟩) _ (by simp [*]; rfl) (by first | rfl | (simp [*]; done) | (simp only [resR]; (repeat' split) <;> first | rfl | (exfalso; omega) | simp_all)) (by simp))
      · try simp only [Bool.or_eq_true, Bool.and_eq_true, Bool.or_eq_false_iff, Bool.and_eq_false_iff, Bool.not_eq_true', Bool.not_eq_false', decide_eq_true_eq, decide_eq_false_iff_not] at h11
        have he : e = 0 := by simpa using h11
        obtain ⟨T, hT, r2⟩ := hgt he
        simp only [aF, Fl.enc, List.map_cons, List.map_nil] at r2
        clear hgt he4 h11 ce he
        refine HT_seq <| (HT_run (by simp [*]; rfl) ?_)
        refine HT_seq <| HT_seq <| (HT_runc [⟨false, .v (.one (.c (.sl 3 (encNs L)))), none⟩] (by simp [*]; first | exact ⟨rfl, Iff.rfl⟩ | exact ⟨rfl, trivial⟩ | rfl) ?_ ?_)
        · first | exact ci _ | exact trivial | simpa [*] using ci _
        refine HT_block <| (HT_loopU [1, 3, 27, 28] (fun (x : Nat × Int) => [(5, .v (li x.2)), (29, .v (li x.1))]) (fun (x : Nat × Int) => [(1, .box [.c (.sl 5 (encVs vars)), .c (.sl 6 (encHs hats)), .c (.sl 10 (encSs body))]), (3, .box [.c (.sl 5 (encVs gv)), .c (.sl 6 (encHs gh)), .c (.sl 10 (encSs gb))])]) (fun (x : Nat × Int) => x.1 ≤ L.length ∧ (x.2 < 0 ∨ x.2 = T)) (fun (x : Nat × Int) => L.length - x.1) (0, -1) ⟨Nat.zero_le _, .inl (by decide)⟩ ?_ ?_)
        · exact le_mk (fun n => n) [] rfl (by simp [*, upS, keepS]) (by simp [*, upS]) (by simp [upS])
        rintro ⟨k, m⟩ ⟨hk, hm⟩
        simp only [upS, keepS, insS]
        try simp only [keepS, List.contains_cons, List.contains_nil, Bool.or_false, Bool.or_true, Bool.true_or, Bool.false_or, Nat.reduceBEq, BEq.rfl, beq_self_eq_true, if_true, if_false, Bool.false_eq_true, ite_true, ite_false, ins, Nat.reduceLT]
        simp only at hk hm
        clear ci
        refine HT_seq <| (HT_run (by simp [*]; rfl) ?_)
        refine HT_seq <| (HT_cond rfl (fun h18 => HT_skip ?_) (fun h18 => ?_))
        · try simp only [Bool.or_eq_true, Bool.and_eq_true, Bool.or_eq_false_iff, Bool.and_eq_false_iff, Bool.not_eq_true', Bool.not_eq_false', decide_eq_true_eq, decide_eq_false_iff_not] at h18
          have hlt : k < L.length := by omega
          obtain ⟨⟨is, ip, ir⟩, he, hd⟩ := at_lt hlt
          have hw1 : IntKind.i64.wrap ((k : Int) + 1) = (k : Int) + 1 := wrap_in (by omega) (by omega)
          have hk1 : k + 1 ≤ L.length := hlt
          have he' : (encNs L)[k]? = some [.sl 1 (encIs is), .sl 1 (encIs ip), .sl 1 (encIs ir)] := by rw [get_encN, he]; rfl
          obtain ⟨hT1, hT2⟩ := hT _ (List.mem_of_getElem? he)
          have r1 := r1 ⟨is, ip, ir⟩
          have r2 := r2 ⟨is, ip, ir⟩
          have hol := hol ⟨is, ip, ir⟩
          rw [hT1] at r2
          obtain ⟨⟨⟨O, t⟩, c⟩, hR⟩ : ∃ x, runF ⟨vars, hats, body⟩ ⟨is, ip, ir⟩ = x := ⟨_, rfl⟩
          rw [hR] at r1 r2 hol hT2
          simp only at r1 r2 hol hT2
          simp only [aI] at r1 r2
          have cq := eqI_con O hol
          clear hlt h18 hT hT1 hR hd he hol
          refine HT_seq <| HT_block <| HT_seq <| (HT_run (by simp [*]; rfl) ?_)
          refine HT_seq <| (HT_runc [⟨false, .tup [.agg [.c (.sl 1 (encIs O)), .c (iC t)], li c], none⟩] (by simp [*]; first | exact ⟨rfl, Iff.rfl⟩ | exact ⟨rfl, trivial⟩ | rfl) ?_ ?_)
          · first | exact r1 _ | exact trivial | simpa [*] using r1 _
          refine HT_seq <| (HT_runc [⟨false, .tup [.agg [.c (.sl 1 (encIs O)), .c (iC T)], li 0], none⟩] (by simp [*]; first | exact ⟨rfl, Iff.rfl⟩ | exact ⟨rfl, trivial⟩ | rfl) ?_ ?_)
          · first | exact r2 _ | exact trivial | simpa [*] using r2 _
          refine HT_seq <| HT_seq <| (HT_runc [⟨true, .v (lb true), none⟩] (by simp [*]; first | exact ⟨rfl, Iff.rfl⟩ | exact ⟨rfl, trivial⟩ | rfl) ?_ ?_)
          · first | exact cq _ | exact trivial | simpa [*] using cq _
          refine (HT_cond rfl (fun h23 => ?_) (fun h23 => HT_skip ?_))
          · exfalso
            simp at h23
            omega
          · try simp only [Bool.or_eq_true, Bool.and_eq_true, Bool.or_eq_false_iff, Bool.and_eq_false_iff, Bool.not_eq_true', Bool.not_eq_false', decide_eq_true_eq, decide_eq_false_iff_not] at h23
            refine (HT_run (by simp [*]; rfl) ?_)
            refine (HT_run (by simp [*]; rfl) ?_)
            exact ⟨(k + 1, T), ⟨hk1, .inr rfl⟩, by simp only; omega, le_mk (fun n => n) [] rfl (by simp [upS, keepS, *]) (by simp [*, upS]) (by simp [upS])⟩
        · try simp only [Bool.or_eq_true, Bool.and_eq_true, Bool.or_eq_false_iff, Bool.and_eq_false_iff, Bool.not_eq_true', Bool.not_eq_false', decide_eq_true_eq, decide_eq_false_iff_not] at h18
          refine (HT_exit ?_)
          refine HT_seq <| (HT_run (by simp [*]; rfl) ?_)
          exact (HT_retE (fun h => ⟨.inr rfl, h⟩) _ (by simp [*]; rfl) (by first | rfl | (simp [*]; done) | (simp only [resR]; (repeat' split) <;> first | rfl | (exfalso; omega) | simp_all)) (by simp))
end Go.Proofs.YtfilidjbpomgoaaGreat
