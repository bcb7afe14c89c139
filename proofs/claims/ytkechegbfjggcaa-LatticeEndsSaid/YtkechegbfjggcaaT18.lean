/- T18: contracts of functions of the package, used by the proof of the claimed statement. Conditions: as each theorem states. -/
import Derived.Test.YtkechegbfjggcaaT14
set_option linter.unusedSimpArgs false
set_option linter.unusedVariables false
namespace Go.Proofs.Ytkechegbfjggcaa
open Go Go.Hl

/-! ## the closure is transitive and reflexive -/
theorem fwB_eq (M : Nat → Nat → Bool) (m a : Nat) : ∀ (k x y : Nat), fwB M m a k x y = if x = a ∧ y < k then (M x y || (M x m && M m y)) else M x y
  | 0, x, y => by simp [fwB]
  | k + 1, x, y => by
    rw [fwB_succ]
    unfold stM up
    rw [fwB_eq M m a k, fwB_eq M m a k, fwB_eq M m a k, fwB_eq M m a k]
    by_cases hx : x = a ∧ y = k
    · obtain ⟨rfl, rfl⟩ := hx
      simp only [and_self, if_true, Nat.lt_irrefl, and_false, if_false, Nat.lt_succ_self, true_and]
      by_cases hm : m < y
      · simp only [hm, if_true]
        cases M x m <;> simp
      · simp only [hm, if_false]
    · rw [if_neg hx]
      by_cases h2 : x = a ∧ y < k
      · rw [if_pos h2, if_pos ⟨h2.1, by omega⟩]
      · rw [if_neg h2, if_neg (by omega)]
theorem fwA_eq (n : Nat) (M : Nat → Nat → Bool) (m : Nat) : ∀ (k x y : Nat), fwA n M m k x y = if x < k ∧ y < n then (M x y || (M x m && M m y)) else M x y
  | 0, x, y => by simp [fwA]
  | k + 1, x, y => by
    rw [fwA_succ, fwB_eq, fwA_eq n M m k, fwA_eq n M m k, fwA_eq n M m k]
    by_cases hx : x = k ∧ y < n
    · obtain ⟨rfl, hy⟩ := hx
      simp only [hy, and_self, if_true, Nat.lt_irrefl, false_and, if_false, Nat.lt_succ_self, and_true]
      by_cases hm : m < x
      · simp only [hm, if_true]
        cases M x y <;> cases M x m <;> cases M m y <;> cases M m m <;> rfl
      · simp only [hm, if_false]
    · rw [if_neg hx]
      by_cases h2 : x < k ∧ y < n
      · rw [if_pos h2, if_pos ⟨by omega, h2.2⟩]
      · rw [if_neg h2, if_neg (by omega)]
theorem fwM_trans (n : Nat) (M : Nat → Nat → Bool) : ∀ (k : Nat), k ≤ n → ∀ a b c : Nat, a < n → b < n → c < k → fwM n M k a c = true → fwM n M k c b = true → fwM n M k a b = true
  | 0, _, a, b, c, _, _, hc, _, _ => absurd hc (by omega)
  | k + 1, hk, a, b, c, ha, hb, hc, h1, h2 => by
    have ih := fwM_trans n M k (by omega)
    rw [fwM_succ] at h1 h2 ⊢
    rw [fwA_eq] at h1 h2 ⊢
    rw [if_pos ⟨ha, by omega⟩] at h1
    rw [if_pos ⟨by omega, hb⟩] at h2
    rw [if_pos ⟨ha, hb⟩]
    generalize fwM n M k = N at *
    simp only [Bool.or_eq_true, Bool.and_eq_true] at h1 h2 ⊢
    by_cases e : c = k
    · subst e
      have e1 : N a c = true := h1.elim id (·.1)
      have e2 : N c b = true := h2.elim id (·.2)
      exact .inr ⟨e1, e2⟩
    · have hck : c < k := by omega
      rcases h1 with h1 | ⟨h1, h1'⟩
      · rcases h2 with h2 | ⟨h2, h2'⟩
        · exact .inl (ih a b c ha hb hck h1 h2)
        · exact .inr ⟨ih a k c ha (by omega) hck h1 h2, h2'⟩
      · rcases h2 with h2 | ⟨h2, h2'⟩
        · exact .inr ⟨h1, ih k b c (by omega) hb hck h1' h2⟩
        · exact .inr ⟨h1, h2'⟩
theorem fwM_mono (n : Nat) (M : Nat → Nat → Bool) : ∀ (k a b : Nat), M a b = true → fwM n M k a b = true
  | 0, a, b, h => by simpa [fwM] using h
  | k + 1, a, b, h => by
    rw [fwM_succ, fwA_eq, fwM_mono n M k a b h]
    split <;> simp
theorem up_mono {M : Nat → Nat → Bool} {x y a b : Nat} (h : M a b = true) : up M x y true a b = true := by
  unfold up
  split
  · rfl
  · exact h
theorem foldl_up_mono {a b : Nat} : ∀ (l : List (Int × Int)) (M : Nat → Nat → Bool), M a b = true → l.foldl (fun M p => up M p.1.toNat p.2.toNat true) M a b = true
  | [], M, h => h
  | p :: l, M, h => foldl_up_mono l _ (up_mono h)
theorem pairs_in {a b : Nat} : ∀ (l : List (Int × Int)) (M : Nat → Nat → Bool) (p : Int × Int), p ∈ l → p.1.toNat = a → p.2.toNat = b → l.foldl (fun M p => up M p.1.toNat p.2.toNat true) M a b = true
  | q :: l, M, p, h, h1, h2 => by
    rcases List.mem_cons.1 h with rfl | h
    · exact foldl_up_mono l _ (by show up M p.1.toNat p.2.toNat true a b = true; unfold up; rw [if_pos ⟨h1.symm, h2.symm⟩])
    · exact pairs_in l _ p h h1 h2
theorem close_refl (n : Nat) (order : List (Int × Int)) (a : Nat) : closeM n order a a = true := fwM_mono n _ n a a (foldl_up_mono order eqM (by simp [eqM]))
theorem close_pair {n : Nat} {order : List (Int × Int)} {p : Int × Int} (h : p ∈ order) : closeM n order p.1.toNat p.2.toNat = true := fwM_mono n _ n _ _ (pairs_in order eqM p h rfl rfl)
theorem close_trans {n : Nat} {order : List (Int × Int)} {a b c : Nat} (ha : a < n) (hb : b < n) (hc : c < n) (h1 : closeM n order a c = true) (h2 : closeM n order c b = true) : closeM n order a b = true :=
  fwM_trans n _ n (Nat.le_refl _) a b c ha hb hc h1 h2

/-! ## lattices -/
structure Lat (n : Nat) (M : Nat → Nat → Bool) : Prop where
  refl : ∀ a, a < n → M a a = true
  trans : ∀ a b c, a < n → b < n → c < n → M a b = true → M b c = true → M a c = true
  anti : ∀ a b, a < n → b < n → M a b = true → M b a = true → a = b
  join : ∀ a b, a < n → b < n → (bndO n M a b).isSome = true
  meet : ∀ a b, a < n → b < n → (bndO n (flp M) a b).isSome = true

theorem Lat.flp {n : Nat} {M : Nat → Nat → Bool} (h : Lat n M) : Lat n (flp M) :=
  ⟨h.refl, fun a b c ha hb hc h1 h2 => h.trans c b a hc hb ha h2 h1, fun a b ha hb h1 h2 => h.anti a b ha hb h2 h1, h.meet, h.join⟩
theorem lat_of {names : List ByteArray} {order : List (Int × Int)} (h : newC names order = 0) : Lat names.length (closeM names.length order) := by
  obtain ⟨_, _, _, h4, h5⟩ := new_out h
  refine ⟨fun a _ => close_refl _ _ a, fun a b c ha hb hc h1 h2 => close_trans ha hc hb h1 h2, fun a b ha hb h1 h2 => ?_, fun a b ha hb => ?_, fun a b ha hb => ?_⟩
  · by_cases e : a = b
    · exact e
    · have := anti_no ha hb e h1 h2
      rw [h4] at this
      cases this
  · have := h5 a ha
    unfold okRow at this
    rw [List.all_eq_true] at this
    have := this b (by simpa using hb)
    simp only [Bool.and_eq_true] at this
    exact this.1
  · have := h5 a ha
    unfold okRow at this
    rw [List.all_eq_true] at this
    have := this b (by simpa using hb)
    simp only [Bool.and_eq_true] at this
    exact this.2

def bndN (n : Nat) (R : Nat → Nat → Bool) (a b : Nat) : Nat := (bndO n R a b).getD 0
theorem bndI_eq (n : Nat) (R : Nat → Nat → Bool) (a b : Nat) : bndI n R a b = (bndN n R a b : Nat) := rfl
section
variable {n : Nat} {M : Nat → Nat → Bool}
theorem Lat.lub (h : Lat n M) {a b : Nat} (ha : a < n) (hb : b < n) : bndN n M a b < n ∧ M a (bndN n M a b) = true ∧ M b (bndN n M a b) = true ∧ ∀ d, d < n → M a d = true → M b d = true → M (bndN n M a b) d = true := by
  have hj := h.join a b ha hb
  unfold bndN
  cases hc : bndO n M a b with
  | none => rw [hc] at hj; cases hj
  | some c =>
    unfold bndO at hc
    have h1 := List.mem_of_find?_eq_some hc
    have h2 := List.find?_some hc
    simp only [List.mem_range] at h1
    unfold goodB at h2
    simp only [Bool.and_eq_true, List.all_eq_true, List.mem_range] at h2
    refine ⟨h1, h2.1.1, h2.1.2, fun d hd ha hb => ?_⟩
    have := h2.2 d hd
    simp only [ha, hb, Bool.true_and, Bool.not_not, Option.getD_some] at this
    exact this
theorem Lat.lub_eq (h : Lat n M) {a b c : Nat} (ha : a < n) (hb : b < n) (hc : c < n) (h1 : M a c = true) (h2 : M b c = true) (h3 : ∀ d, d < n → M a d = true → M b d = true → M c d = true) : bndN n M a b = c := by
  obtain ⟨k1, k2, k3, k4⟩ := h.lub ha hb
  exact h.anti _ _ k1 hc (k4 c hc h1 h2) (h3 _ k1 k2 k3)
theorem Lat.comm (h : Lat n M) {a b : Nat} (ha : a < n) (hb : b < n) : bndN n M a b = bndN n M b a := by
  obtain ⟨k1, k2, k3, k4⟩ := h.lub hb ha
  exact h.lub_eq ha hb k1 k3 k2 fun d hd h1 h2 => k4 d hd h2 h1
theorem Lat.idem (h : Lat n M) {a : Nat} (ha : a < n) : bndN n M a a = a := h.lub_eq ha ha ha (h.refl a ha) (h.refl a ha) fun _ _ h1 _ => h1
theorem Lat.assoc (h : Lat n M) {a b c : Nat} (ha : a < n) (hb : b < n) (hc : c < n) : bndN n M (bndN n M a b) c = bndN n M a (bndN n M b c) := by
  obtain ⟨k1, k2, k3, k4⟩ := h.lub ha hb
  obtain ⟨l1, l2, l3, l4⟩ := h.lub hb hc
  obtain ⟨m1, m2, m3, m4⟩ := h.lub ha l1
  refine h.lub_eq k1 hc m1 (k4 _ m1 m2 (h.trans _ _ _ hb l1 m1 l2 m3)) (h.trans _ _ _ hc l1 m1 l3 m3) fun d hd h1 h2 => ?_
  exact m4 d hd (h.trans _ _ _ ha k1 hd k2 h1) (l4 d hd (h.trans _ _ _ hb k1 hd k3 h1) h2)
theorem Lat.absorb (h : Lat n M) {a b : Nat} (ha : a < n) (hb : b < n) : bndN n M a (bndN n (Go.Proofs.Ytkechegbfjggcaa.flp M) a b) = a := by
  obtain ⟨k1, k2, k3, k4⟩ := h.flp.lub ha hb
  exact h.lub_eq ha k1 ha (h.refl a ha) k2 fun _ _ h1 _ => h1
theorem Lat.below (h : Lat n M) {a b : Nat} (ha : a < n) (hb : b < n) : M a b = decide (bndN n M a b = b) := by
  obtain ⟨k1, k2, k3, k4⟩ := h.lub ha hb
  cases hm : M a b with
  | true => exact (decide_eq_true (h.lub_eq ha hb hb hm (h.refl b hb) fun _ _ _ h2 => h2)).symm
  | false =>
    refine (decide_eq_false fun e => ?_).symm
    rw [e, hm] at k2
    cases k2
/-- the join of all -/
def topF (n : Nat) (M : Nat → Nat → Bool) (k : Nat) : Nat := (List.range k).foldl (fun t i => bndN n M t i) 0
theorem topF_succ (n : Nat) (M : Nat → Nat → Bool) (k : Nat) : topF n M (k + 1) = bndN n M (topF n M k) k := by simp [topF, List.range_succ]
theorem Lat.top (h : Lat n M) (hn : 0 < n) : ∀ k, k ≤ n → topF n M k < n ∧ ∀ i, i < k → M i (topF n M k) = true
  | 0, _ => ⟨by simpa [topF] using hn, fun i hi => absurd hi (by omega)⟩
  | k + 1, hk => by
    obtain ⟨i1, i2⟩ := Lat.top h hn k (by omega)
    obtain ⟨k1, k2, k3, k4⟩ := h.lub i1 (show k < n by omega)
    rw [topF_succ]
    refine ⟨k1, fun i hi => ?_⟩
    by_cases e : i = k
    · subst e; exact k3
    · exact h.trans _ _ _ (by omega) i1 k1 (i2 i (by omega)) k2
end
end Go.Proofs.Ytkechegbfjggcaa
