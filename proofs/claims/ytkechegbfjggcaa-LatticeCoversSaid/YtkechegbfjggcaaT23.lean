/- T23: contracts of functions of the package, used by the proof of the claimed statement. Conditions: as each theorem states. -/
import Derived.Test.YtkechegbfjggcaaT18
set_option linter.unusedSimpArgs false
set_option linter.unusedVariables false
namespace Go.Proofs.Ytkechegbfjggcaa
open Go Go.Hl

/-! ## covers -/
def between (n : Nat) (M : Nat → Nat → Bool) (a b : Nat) (k : Nat) : Bool := (List.range k).all fun c => !(!decide (c = a) && (!decide (c = b) && (M a c && M c b)))
def coverB (n : Nat) (M : Nat → Nat → Bool) (a b : Nat) : Bool := !decide (a = b) && (M a b && between n M a b n)
def rowCov (n : Nat) (M : Nat → Nat → Bool) (a k : Nat) : List (Int × Int) := ((List.range k).filter fun b => coverB n M a b).map fun b : Nat => ((a : Int), (b : Int))
def coversL (n : Nat) (M : Nat → Nat → Bool) (k : Nat) : List (Int × Int) := ((List.range k).map fun a => rowCov n M a n).flatten
theorem rowCov_succ (n : Nat) (M : Nat → Nat → Bool) (a k : Nat) : rowCov n M a (k + 1) = rowCov n M a k ++ (if coverB n M a k = true then [((a : Int), (k : Int))] else []) := by
  unfold rowCov
  rw [List.range_succ, List.filter_append, List.map_append]
  cases h : coverB n M a k <;> simp [h]
theorem coversL_succ (n : Nat) (M : Nat → Nat → Bool) (k : Nat) : coversL n M (k + 1) = coversL n M k ++ rowCov n M k n := by simp [coversL, List.range_succ]
theorem rowCov_len (n : Nat) (M : Nat → Nat → Bool) (a k : Nat) : (rowCov n M a k).length ≤ k := by
  unfold rowCov
  rw [List.length_map]
  exact Nat.le_trans (List.length_filter_le _ _) (by simp)
theorem coversL_len (n : Nat) (M : Nat → Nat → Bool) : ∀ k, (coversL n M k).length ≤ k * n
  | 0 => by simp [coversL]
  | k + 1 => by
    rw [coversL_succ, List.length_append]
    have := coversL_len n M k
    have := rowCov_len n M k n
    rw [Nat.succ_mul]
    omega
theorem coversL_mem {n : Nat} {M : Nat → Nat → Bool} {k : Nat} {p : Int × Int} : p ∈ coversL n M k ↔ ∃ a b : Nat, a < k ∧ b < n ∧ coverB n M a b = true ∧ p = ((a : Int), (b : Int)) := by
  simp only [coversL, List.mem_flatten, List.mem_map, List.mem_range]
  constructor
  · rintro ⟨l, ⟨a, ha, rfl⟩, hp⟩
    simp only [rowCov, List.mem_map, List.mem_filter, List.mem_range] at hp
    obtain ⟨b, ⟨hb, hc⟩, rfl⟩ := hp
    exact ⟨a, b, ha, hb, hc, rfl⟩
  · rintro ⟨a, b, ha, hb, hc, rfl⟩
    refine ⟨_, ⟨a, ha, rfl⟩, ?_⟩
    simp only [rowCov, List.mem_map, List.mem_filter, List.mem_range]
    exact ⟨b, ⟨hb, hc⟩, rfl⟩
theorem coverB_out {n : Nat} {M : Nat → Nat → Bool} {a b : Nat} (h : coverB n M a b = true) : a ≠ b ∧ M a b = true := by
  simp only [coverB, Bool.and_eq_true, Bool.not_eq_true', decide_eq_false_iff_not] at h
  exact ⟨h.1, h.2.1⟩
theorem between_out {n : Nat} {M : Nat → Nat → Bool} {a b k : Nat} (h : between n M a b k = false) : ∃ c, c < k ∧ c ≠ a ∧ c ≠ b ∧ M a c = true ∧ M c b = true := by
  unfold between at h
  rw [List.all_eq_false] at h
  obtain ⟨c, hc, h⟩ := h
  simp only [List.mem_range] at hc
  simp only [Bool.not_eq_true', Bool.not_eq_false', Bool.and_eq_true, decide_eq_false_iff_not, Bool.not_eq_false] at h
  exact ⟨c, hc, h.1, h.2.1, h.2.2.1, h.2.2.2⟩

/-! ## how many are above -/
def upN (n : Nat) (M : Nat → Nat → Bool) (a : Nat) : Nat := ((List.range n).filter fun c => M a c && !decide (c = a)).length
theorem filter_lt {p q : Nat → Bool} {l : List Nat} (h : ∀ x ∈ l, p x = true → q x = true) {y : Nat} (hy : y ∈ l) (h1 : q y = true) (h2 : p y = false) : (l.filter p).length < (l.filter q).length := by
  induction l with
  | nil => cases hy
  | cons x l ih =>
    have hle : (l.filter p).length ≤ (l.filter q).length := by
      clear ih hy
      induction l with
      | nil => simp
      | cons z l ih =>
        have ih := ih fun x hx => h x (by rcases List.mem_cons.1 hx with e | e <;> simp [e])
        cases hp : p z with
        | true =>
          have := h z (by simp) hp
          rw [List.filter_cons_of_pos hp, List.filter_cons_of_pos this]
          simpa using ih
        | false =>
          rw [List.filter_cons_of_neg (by rw [hp]; simp)]
          cases hq : q z with
          | true => rw [List.filter_cons_of_pos hq, List.length_cons]; omega
          | false => rwa [List.filter_cons_of_neg (by rw [hq]; simp)]
    rcases List.mem_cons.1 hy with rfl | hy
    · rw [List.filter_cons_of_neg (by rw [h2]; simp), List.filter_cons_of_pos h1, List.length_cons]; omega
    · have ih := ih (fun x hx => h x (by simp [hx])) hy
      cases hp : p x with
      | true =>
        have := h x (by simp) hp
        rw [List.filter_cons_of_pos hp, List.filter_cons_of_pos this]
        simpa using ih
      | false =>
        rw [List.filter_cons_of_neg (by rw [hp]; simp)]
        cases hq : q x with
        | true => rw [List.filter_cons_of_pos hq, List.length_cons]; omega
        | false => rwa [List.filter_cons_of_neg (by rw [hq]; simp)]
section
variable {n : Nat} {M : Nat → Nat → Bool}
theorem Lat.up_lt (h : Lat n M) {a b : Nat} (ha : a < n) (hb : b < n) (hne : a ≠ b) (hab : M a b = true) : upN n M b < upN n M a := by
  unfold upN
  refine filter_lt (y := b) (fun x hx hp => ?_) (by simpa using hb) (by simp [hab]; omega) (by simp)
  simp only [List.mem_range] at hx
  simp only [Bool.and_eq_true, Bool.not_eq_true', decide_eq_false_iff_not] at hp ⊢
  refine ⟨h.trans a b x ha hb hx hab hp.1, fun e => ?_⟩
  subst e
  exact hne (h.anti _ _ ha hb hab hp.1)
/-- between two there is one that covers the lower -/
theorem Lat.cover (h : Lat n M) {a : Nat} (ha : a < n) : ∀ (k b : Nat), n - upN n M b ≤ k → b < n → a ≠ b → M a b = true → ∃ c, c < n ∧ coverB n M a c = true ∧ M c b = true
  | 0, b, hk, hb, _, _ => by
    have : upN n M b < n := by
      unfold upN
      have := filter_lt (p := fun c => M b c && !decide (c = b)) (q := fun _ => true) (l := List.range n) (fun _ _ _ => rfl) (y := b) (by simpa using hb) rfl (by simp)
      rw [List.filter_eq_self.2 (fun _ _ => rfl), List.length_range] at this
      exact this
    omega
  | k + 1, b, hk, hb, hne, hab => by
    cases hbt : between n M a b n with
    | true => exact ⟨b, hb, by simp [coverB, hne, hab, hbt], h.refl b hb⟩
    | false =>
      obtain ⟨c, hc, h1, h2, h3, h4⟩ := between_out hbt
      have hlt : upN n M b < upN n M c := h.up_lt hc hb h2 h4
      obtain ⟨c', k1, k2, k3⟩ := Lat.cover h ha k c (by omega) hc (fun e => h1 e.symm) h3
      exact ⟨c', k1, k2, h.trans _ _ _ k1 hc hb k3 h4⟩

/-! ## the covers make the same order again -/
theorem fwM_least {R N : Nat → Nat → Bool} (hR : ∀ a b c, a < n → b < n → c < n → R a b = true → R b c = true → R a c = true) (hN : ∀ a b, a < n → b < n → N a b = true → R a b = true) :
    ∀ k, k ≤ n → ∀ a b, a < n → b < n → fwM n N k a b = true → R a b = true
  | 0, _, a, b, ha, hb, h => hN a b ha hb (by simpa [fwM] using h)
  | k + 1, hk, a, b, ha, hb, h => by
    have ih := fwM_least hR hN k (by omega)
    rw [fwM_succ, fwA_eq, if_pos ⟨ha, hb⟩] at h
    simp only [Bool.or_eq_true, Bool.and_eq_true] at h
    rcases h with h | ⟨h1, h2⟩
    · exact ih a b ha hb h
    · exact hR _ _ _ ha (by omega) hb (ih a k ha (by omega) h1) (ih k b (by omega) hb h2)
theorem foldl_up_out {a b : Nat} : ∀ (l : List (Int × Int)) (N : Nat → Nat → Bool), l.foldl (fun M p => up M p.1.toNat p.2.toNat true) N a b = true → N a b = true ∨ ∃ p ∈ l, p.1.toNat = a ∧ p.2.toNat = b
  | [], _, h => .inl h
  | p :: l, N, h => by
    rcases foldl_up_out l (up N p.1.toNat p.2.toNat true) h with h | ⟨q, hq, h1, h2⟩
    · unfold up at h
      split at h
      · rename_i e
        exact .inr ⟨p, by simp, e.1.symm, e.2.symm⟩
      · exact .inl h
    · exact .inr ⟨q, by simp [hq], h1, h2⟩
theorem Lat.again (h : Lat n M) {a b : Nat} (ha : a < n) (hb : b < n) : closeM n (coversL n M n) a b = M a b := by
  cases hm : M a b with
  | true =>
    have key : ∀ k a, upN n M a ≤ k → a < n → M a b = true → closeM n (coversL n M n) a b = true := by
      intro k
      induction k with
      | zero =>
        intro a hk ha hm
        by_cases e : a = b
        · subst e; exact close_refl _ _ _
        · have := h.up_lt ha hb e hm
          omega
      | succ k ih =>
        intro a hk ha hm
        by_cases e : a = b
        · subst e; exact close_refl _ _ _
        · obtain ⟨c, hc, h1, h2⟩ := h.cover ha n b (by omega) hb e hm
          obtain ⟨e1, e2⟩ := coverB_out h1
          have hlt := h.up_lt ha hc e1 e2
          have hp : closeM n (coversL n M n) a c = true := by
            have := close_pair (n := n) (coversL_mem.2 ⟨a, c, ha, hc, h1, rfl⟩)
            simpa using this
          exact close_trans ha hb hc hp (ih c (by omega) hc h2)
    exact key _ a (Nat.le_refl _) ha hm
  | false =>
    cases hc : closeM n (coversL n M n) a b with
    | false => rfl
    | true =>
      have := fwM_least h.trans (N := pairsM (coversL n M n)) (fun x y hx hy hN => by
        rcases foldl_up_out _ _ hN with h1 | ⟨p, hp, e1, e2⟩
        · have : x = y := by simpa [eqM] using h1
          subst this; exact h.refl x hx
        · obtain ⟨x', y', _, _, hcv, rfl⟩ := coversL_mem.1 hp
          simp only [Int.toNat_natCast] at e1 e2
          subst e1 e2
          exact (coverB_out hcv).2) n (Nat.le_refl _) a b ha hb hc
      rw [hm] at this
      cases this
end
theorem goodB_congr {n : Nat} {M N : Nat → Nat → Bool} (h : ∀ a b, a < n → b < n → M a b = N a b) {a b c : Nat} (ha : a < n) (hb : b < n) (hc : c < n) : goodB n M a b c = goodB n N a b c := by
  unfold goodB
  rw [h a c ha hc, h b c hb hc]
  congr 1
  rw [Bool.eq_iff_iff, List.all_eq_true, List.all_eq_true]
  refine forall_congr' fun d => ?_
  refine forall_congr' fun hd => ?_
  simp only [List.mem_range] at hd
  rw [h a d ha hd, h b d hb hd, h c d hc hd]
theorem find_congr {α : Type} {p q : α → Bool} : ∀ {l : List α}, (∀ x ∈ l, p x = q x) → l.find? p = l.find? q
  | [], _ => rfl
  | x :: l, h => by
    simp only [List.find?_cons]
    rw [h x (by simp), find_congr fun y hy => h y (by simp [hy])]
theorem bndO_congr {n : Nat} {M N : Nat → Nat → Bool} (h : ∀ a b, a < n → b < n → M a b = N a b) {a b : Nat} (ha : a < n) (hb : b < n) : bndO n M a b = bndO n N a b := by
  unfold bndO
  exact find_congr fun c hc => goodB_congr h ha hb (by simpa using hc)
theorem okRow_congr {n : Nat} {M N : Nat → Nat → Bool} (h : ∀ a b, a < n → b < n → M a b = N a b) {a : Nat} (ha : a < n) : okRow n M a = okRow n N a := by
  unfold okRow
  rw [Bool.eq_iff_iff, List.all_eq_true, List.all_eq_true]
  refine forall_congr' fun b => ?_
  refine forall_congr' fun hb => ?_
  simp only [List.mem_range] at hb
  rw [bndO_congr h ha hb, bndO_congr (M := flp M) (N := flp N) (fun x y hx hy => h y x hy hx) ha hb]
theorem badRow_congr {n : Nat} {M N : Nat → Nat → Bool} (h : ∀ a b, a < n → b < n → M a b = N a b) : badRow n M = badRow n N := by
  unfold badRow
  rw [find_congr fun a ha => by rw [okRow_congr h (by simpa using ha)]]
theorem antiB_congr {n : Nat} {M N : Nat → Nat → Bool} (h : ∀ a b, a < n → b < n → M a b = N a b) : antiB n M = antiB n N := by
  unfold antiB
  rw [Bool.eq_iff_iff, List.all_eq_true, List.all_eq_true]
  refine forall_congr' fun a => ?_
  refine forall_congr' fun ha => ?_
  simp only [List.mem_range] at ha
  rw [List.all_eq_true, List.all_eq_true]
  refine forall_congr' fun b => ?_
  refine forall_congr' fun hb => ?_
  simp only [List.mem_range] at hb
  rw [h a b ha (by omega), h b a (by omega) ha]
theorem new_again {names : List ByteArray} {order : List (Int × Int)} (h : newC names order = 0) : newC names (coversL names.length (closeM names.length order) names.length) = 0 := by
  obtain ⟨h1, h2, h3, h4, h5⟩ := new_out h
  have hlat := lat_of h
  have hc : ∀ a b, a < names.length → b < names.length → closeM names.length (coversL names.length (closeM names.length order) names.length) a b = closeM names.length order a b := fun a b ha hb => hlat.again ha hb
  have hbad : badRow names.length (closeM names.length order) = names.length := badRow_none h5
  unfold newC
  rw [if_neg (by omega), if_neg (by rw [h2]; simp), if_neg, if_neg, if_neg]
  · rw [badRow_congr hc, hbad]; simp
  · rw [antiB_congr hc, h4]; simp
  · have : ordOk names.length (coversL names.length (closeM names.length order) names.length) = true := by
      unfold ordOk
      rw [List.all_eq_true]
      intro p hp
      obtain ⟨a, b, ha, hb, _, rfl⟩ := coversL_mem.1 hp
      simp [inB, ha, hb]
    rw [this]; simp

/-! ## the longest chain -/
def mxF (n : Nat) (M : Nat → Nat → Bool) (f : Nat → Nat) (a k : Nat) : Nat := (List.range k).foldl (fun m b => if coverB n M a b = true then max m (f b) else m) 0
theorem mxF_succ (n : Nat) (M : Nat → Nat → Bool) (f : Nat → Nat) (a k : Nat) : mxF n M f a (k + 1) = if coverB n M a k = true then max (mxF n M f a k) (f k) else mxF n M f a k := by
  unfold mxF
  rw [List.range_succ, List.foldl_append]
  rfl
theorem mxF_congr {n : Nat} {M : Nat → Nat → Bool} {f g : Nat → Nat} {a : Nat} : ∀ k, (∀ b, b < k → coverB n M a b = true → f b = g b) → mxF n M f a k = mxF n M g a k
  | 0, _ => rfl
  | k + 1, h => by
    rw [mxF_succ, mxF_succ, mxF_congr k fun b hb hc => h b (by omega) hc]
    split
    · rename_i hc; rw [h k (by omega) hc]
    · rfl
theorem mxF_ge {n : Nat} {M : Nat → Nat → Bool} {f : Nat → Nat} {a b : Nat} : ∀ k, b < k → coverB n M a b = true → f b ≤ mxF n M f a k
  | k + 1, hb, hc => by
    rw [mxF_succ]
    by_cases e : b = k
    · subst e; rw [if_pos hc]; exact Nat.le_max_right _ _
    · have := mxF_ge (n := n) (M := M) (f := f) (a := a) k (by omega) hc
      split
      · exact Nat.le_trans this (Nat.le_max_left _ _)
      · exact this
theorem mxF_le {n : Nat} {M : Nat → Nat → Bool} {f : Nat → Nat} {a x : Nat} : ∀ k, (∀ b, b < k → coverB n M a b = true → f b ≤ x) → mxF n M f a k ≤ x
  | 0, _ => by simp [mxF]
  | k + 1, h => by
    rw [mxF_succ]
    have := mxF_le k fun b hb hc => h b (by omega) hc
    split
    · rename_i hc
      exact Nat.max_le.2 ⟨this, h k (by omega) hc⟩
    · exact this
def htF (n : Nat) (M : Nat → Nat → Bool) : Nat → Nat → Nat
  | 0, _ => 1
  | k + 1, a => mxF n M (htF n M k) a n + 1
theorem htF_le (n : Nat) (M : Nat → Nat → Bool) : ∀ k a, htF n M k a ≤ k + 1
  | 0, _ => Nat.le_refl _
  | k + 1, a => by
    have := mxF_le (n := n) (M := M) (f := htF n M k) (a := a) (x := k + 1) n fun b _ _ => htF_le n M k b
    simp only [htF]
    omega
section
variable {n : Nat} {M : Nat → Nat → Bool}
theorem Lat.ht_stable (h : Lat n M) : ∀ k a, a < n → upN n M a ≤ k → htF n M k a = htF n M (k + 1) a
  | 0, a, ha, hk => by
    have : mxF n M (htF n M 0) a n = 0 := by
      refine Nat.le_zero.1 (mxF_le n fun b hb hc => ?_)
      obtain ⟨e1, e2⟩ := coverB_out hc
      have := h.up_lt ha hb e1 e2
      omega
    simp only [htF] at *
    rw [this]
  | k + 1, a, ha, hk => by
    show mxF n M (htF n M k) a n + 1 = mxF n M (htF n M (k + 1)) a n + 1
    rw [mxF_congr n fun b hb hc => ?_]
    obtain ⟨e1, e2⟩ := coverB_out hc
    have := h.up_lt ha hb e1 e2
    exact Lat.ht_stable h k b hb (by omega)
/-- the length of a longest chain from 'a' up -/
def ht (n : Nat) (M : Nat → Nat → Bool) (a : Nat) : Nat := htF n M n a
theorem upN_le (n : Nat) (M : Nat → Nat → Bool) (a : Nat) : upN n M a ≤ n := by
  unfold upN
  exact Nat.le_trans (List.length_filter_le _ _) (by simp)
theorem Lat.ht_eq (h : Lat n M) {a : Nat} (ha : a < n) : ht n M a = mxF n M (ht n M) a n + 1 := by
  unfold ht
  exact h.ht_stable n a ha (upN_le n M a)
theorem ht_le (n : Nat) (M : Nat → Nat → Bool) (a : Nat) : ht n M a ≤ n + 1 := htF_le n M n a
theorem Lat.ht_anti (h : Lat n M) : ∀ k a b, upN n M a ≤ k → a < n → b < n → M a b = true → ht n M b ≤ ht n M a
  | 0, a, b, hk, ha, hb, hab => by
    by_cases e : a = b
    · subst e; exact Nat.le_refl _
    · have := h.up_lt ha hb e hab; omega
  | k + 1, a, b, hk, ha, hb, hab => by
    by_cases e : a = b
    · subst e; exact Nat.le_refl _
    · obtain ⟨c, hc, h1, h2⟩ := h.cover ha n b (by omega) hb e hab
      obtain ⟨e1, e2⟩ := coverB_out h1
      have hlt := h.up_lt ha hc e1 e2
      have ih := Lat.ht_anti h k c b (by omega) hc hb h2
      have := mxF_ge (f := ht n M) n hc h1
      rw [h.ht_eq ha]
      omega
def hmF (n : Nat) (M : Nat → Nat → Bool) (k : Nat) : Nat := (List.range k).foldl (fun m a => max m (ht n M a)) 0
theorem hmF_succ (n : Nat) (M : Nat → Nat → Bool) (k : Nat) : hmF n M (k + 1) = max (hmF n M k) (ht n M k) := by simp [hmF, List.range_succ]
theorem Lat.height (h : Lat n M) {bot : Nat} (hb : bot < n) (hl : ∀ i, i < n → M bot i = true) : hmF n M n = ht n M bot := by
  have hle : ∀ k, k ≤ n → hmF n M k ≤ ht n M bot := by
    intro k
    induction k with
    | zero => intro _; simp [hmF]
    | succ k ih =>
      intro hk
      rw [hmF_succ]
      exact Nat.max_le.2 ⟨ih (by omega), h.ht_anti _ bot k (Nat.le_refl _) hb (by omega) (hl k (by omega))⟩
  have hge : ∀ k, bot < k → ht n M bot ≤ hmF n M k := by
    intro k
    induction k with
    | zero => intro h; omega
    | succ k ih =>
      intro hk
      rw [hmF_succ]
      by_cases e : bot = k
      · subst e; exact Nat.le_max_right _ _
      · exact Nat.le_trans (ih (by omega)) (Nat.le_max_left _ _)
  exact Nat.le_antisymm (hle n (Nat.le_refl _)) (hge n hb)
end
end Go.Proofs.Ytkechegbfjggcaa
