/- Part 9: contracts of functions of the program and of the reference, and plain facts about what they compute; used by the proof of the claimed statement. Conditions: as each theorem states. -/
import Derived.Test.YtfjidddhehckoaaGreatS6
import Derived.Test.YtfjidddhehckoaaGreatS8
import Derived.Test.YtfjidddhehckoaaGreatS1
import Derived.Test.YtfjidddhehckoaaGreatS7
set_option linter.unusedSimpArgs false
set_option linter.unusedVariables false
set_option linter.unnecessarySimpa false
set_option maxRecDepth 100000
set_option maxHeartbeats 2000000
namespace Go.Proofs.YtfjidddhehckoaaGreat
open Go Go.Hl
def LX : List St → Int
 | [] => 0
 | .mk d c _ n (.mk o tn _) a b _ :: l => (if d = 3 then c + mx (LX a) (LX b) else if d = 4 then (if o ≠ 0 then n * (c + LX a) else if tn ≠ 0 then n * (c + LX a) else onceI n c) else c) + LX l
theorem LX_BT : ∀ l : List St, okL l = true → 0 ≤ LX l ∧ LX l ≤ BT l
 | [], _ => by simp [LX, BT]
 | .mk d c v n (.mk o tn ks) a b bs :: l, h => by
   simp only [okL, okS, Bool.and_eq_true, Bool.or_eq_true, decide_eq_true_eq] at h;have ha := LX_BT a h.1.2.2.1;have hb := LX_BT b h.1.2.2.2;have hl := LX_BT l h.2;have hc := h.1.1.1;have hn : d = 4 → 0 ≤ n := fun h4 => by omega
   clear h;simp only [LX, BT];by_cases h3 : d = 3
   · rw [if_pos h3, if_neg (by omega), if_pos h3];unfold mx
     (repeat' split) <;> omega
   rw [if_neg h3];by_cases h4 : d = 4
   · have hn := hn h4;rw [if_pos h4, if_pos h4];have ho := once_le hn hc (x := BT a) (by omega);have h1 := Int.mul_le_mul_of_nonneg_left (show c + LX a ≤ c + BT a by omega) hn;have h2 := Int.mul_nonneg hn (show 0 ≤ c + LX a by omega);split
     · omega
     split <;> omega
   rw [if_neg h4, if_neg h4, if_neg h3];omega
theorem LX_cut : ∀ (l : List St) (p : Int × Int), okL l = true → 0 ≤ p.2 → 0 ≤ (spL l p).2 ∧ mn (spL l p).2 67108865 = mn (p.2 + LX l) 67108865
 | [], p, _, hp => by simp [spL, LX, hp]
 | .mk d c v n (.mk o tn ks) a b bs :: l, p, h, hp => by
   have hbt := LX_BT a (by simp only [okL, okS, Bool.and_eq_true, Bool.or_eq_true, decide_eq_true_eq] at h; exact h.1.2.2.1);have hbu := LX_BT b (by simp only [okL, okS, Bool.and_eq_true, Bool.or_eq_true, decide_eq_true_eq] at h; exact h.1.2.2.2);have hbl := LX_BT l (by simp only [okL, Bool.and_eq_true] at h; exact h.2);simp only [okL, okS, Bool.and_eq_true, Bool.or_eq_true, decide_eq_true_eq] at h;have ha := LX_cut a (0, 0) h.1.2.2.1 (Int.le_refl 0);have hb := LX_cut b (0, 0) h.1.2.2.2 (Int.le_refl 0);have il := fun q => LX_cut l q h.2;have hc := h.1.1.1;have hc2 := h.1.1.2.1;have hn : d = 4 → 0 ≤ n ∧ n ≤ 4096 := fun h4 => by omega
   clear h;simp only [spL, spS, LX, held_id hc (show c ≤ 67108865 by omega)];generalize (spL b (0, 0)).2 = B at *;generalize (spL b (0, 0)).1 = B2 at *;generalize (spL a (0, 0)).2 = A at *;generalize (spL a (0, 0)).1 = A2 at *;simp only [Int.zero_add] at ha hb;generalize LX a = xa at *;generalize LX b = xb at *;generalize LX l = xl at *;generalize BT a = ya at *;generalize BT b = yb at *;generalize BT l = yl at *
   have key : ∀ (X Y : Int) (q : Int), 0 ≤ X → 0 ≤ Y → mn X 67108865 = mn Y 67108865 → 0 ≤ (spL l (q, mn (p.2 + X) 67108865)).2 ∧ mn (spL l (q, mn (p.2 + X) 67108865)).2 67108865 = mn (p.2 + (Y + xl)) 67108865 := by
    intro X Y q hX hY he;have := il (q, mn (p.2 + X) 67108865) (by simp only [mn]; split <;> omega);refine ⟨this.1, ?_⟩;rw [this.2];simp only [mn] at he ⊢
    (repeat' split at he) <;> (repeat' split) <;> omega
   by_cases h3 : d = 3
   · simp only [if_pos h3]
     have e : mn (c + mx A B) 67108865 = mn (c + mx xa xb) 67108865 := by
      obtain ⟨a0, a1⟩ := ha;obtain ⟨b0, b1⟩ := hb;clear key il;simp only [mn, mx] at *
      (repeat' split at a1) <;> (repeat' split at b1) <;> (repeat' split) <;> omega
     exact key _ _ _ (by unfold mx; split <;> omega) (by unfold mx; split <;> omega) e
   simp only [if_neg h3];by_cases h4 : d = 4
   · obtain ⟨hn0, hn1⟩ := hn h4;simp only [if_pos h4, held_id hn0 hn1];have ho := once_le hn0 hc (x := xa) (by omega);have hm := Int.mul_nonneg hn0 (show 0 ≤ c + A by omega);have hm' := Int.mul_nonneg hn0 (show 0 ≤ c + xa by omega);have e := mul_cut (C := 67108865) hn0 ha.1 (show 0 ≤ xa by omega) hc (Int.le_refl 0) ha.2;simp only [Int.zero_add] at e;by_cases h5 : o ≠ 0
     · simp only [if_pos h5];exact key _ _ _ hm hm' e
     simp only [if_neg h5];by_cases h6 : tn ≠ 0
     · simp only [if_pos h6];exact key _ _ _ hm hm' e
     simp only [if_neg h6];exact key _ _ _ ho.1 ho.1 rfl
   simp only [if_neg h4];exact key _ _ _ hc hc rfl
theorem LX_sp {l : List St} (h : okL l = true) (hb : BT l ≤ 67108864) : (spL l (0, 0)).2 = LX l := by
 have h1 := LX_BT l h;have h2 := LX_cut l (0, 0) h (Int.le_refl 0);simp only [Int.zero_add, mn] at h2;obtain ⟨h3, h4⟩ := h2
 (repeat' split at h4) <;> omega
section
variable {c A lo hi : Int} {t : Tm} {body : Sta → Sta}
theorem rnd_sp1 (hc : 0 ≤ c) (h0 : 0 ≤ lo) (h1 : hi ≤ A) (hA : 0 ≤ A) (hh : 0 ≤ hi) (hb : ∀ s : Sta, 0 ≤ s.time → s.time + A ≤ 1000000000000 → s.time + lo ≤ (body s).time ∧ (body s).time ≤ s.time + hi) :
  ∀ (k : Nat) (s : Sta), 0 ≤ s.time → s.time + k * (c + A) ≤ 1000000000000 → s.time + onceI k c ≤ (rndF c t body k s).time ∧ (rndF c t body k s).time ≤ s.time + k * (c + hi)
 | 0, s, _, _ => by simp [rndF, onceI]
 | k + 1, s, ht, hm => by
   simp only [rndF];have e1 : ((k + 1 : Nat) : Int) * (c + A) = k * (c + A) + (c + A) := by rw [show ((k + 1 : Nat) : Int) = (k : Int) + 1 by omega, Int.add_mul, Int.one_mul]
   have e2 : ((k + 1 : Nat) : Int) * (c + hi) = k * (c + hi) + (c + hi) := by rw [show ((k + 1 : Nat) : Int) = (k : Int) + 1 by omega, Int.add_mul, Int.one_mul]
   have ho : onceI ((k + 1 : Nat) : Int) c = c := by unfold onceI; rw [if_pos (by omega)]
   have hk := Int.mul_nonneg (Int.natCast_nonneg k) (show 0 ≤ c + A by omega);have hk2 := Int.mul_nonneg (Int.natCast_nonneg k) (show 0 ≤ c + hi by omega);have ih := rnd_sp1 hc h0 h1 hA hh hb k (body (tick s c));rw [e1] at hm;rw [e2, ho];have hon : 0 ≤ onceI (k : Int) c := by unfold onceI; split <;> omega
   have hle : (k : Int) * (c + hi) ≤ k * (c + A) := Int.mul_le_mul_of_nonneg_left (by omega) (Int.natCast_nonneg k);obtain ⟨K, hK⟩ : ∃ K, (k : Int) * (c + A) = K := ⟨_, rfl⟩;obtain ⟨K2, hK2⟩ : ∃ K, (k : Int) * (c + hi) = K := ⟨_, rfl⟩;rw [hK] at hm hk ih hle;rw [hK2] at hk2 ih hle ⊢;have t1 := tick_time (s := s) (c := c) ht hc (by omega);split
   · omega
   have t2 := hb (tick s c) (by omega) (by omega);have := ih (by omega) (by omega);omega
theorem rnd_sp2 (hc : 0 ≤ c) (h0 : 0 ≤ lo) (hl : lo ≤ A) (hA : 0 ≤ A) (hn : ∀ vs, vT vs t ≠ 0) (hb : ∀ s : Sta, 0 ≤ s.time → s.time + A ≤ 1000000000000 → s.time + lo ≤ (body s).time ∧ (body s).time ≤ s.time + A) :
  ∀ (k : Nat) (s : Sta), 0 ≤ s.time → s.time + k * (c + A) ≤ 1000000000000 → s.time + k * (c + lo) ≤ (rndF c t body k s).time
 | 0, s, _, _ => by simp [rndF]
 | k + 1, s, ht, hm => by
   simp only [rndF, if_neg (hn _)];have e1 : ((k + 1 : Nat) : Int) * (c + A) = k * (c + A) + (c + A) := by rw [show ((k + 1 : Nat) : Int) = (k : Int) + 1 by omega, Int.add_mul, Int.one_mul]
   have e2 : ((k + 1 : Nat) : Int) * (c + lo) = k * (c + lo) + (c + lo) := by rw [show ((k + 1 : Nat) : Int) = (k : Int) + 1 by omega, Int.add_mul, Int.one_mul]
   have hk := Int.mul_nonneg (Int.natCast_nonneg k) (show 0 ≤ c + A by omega);have ih := rnd_sp2 hc h0 hl hA hn hb k (body (tick s c));rw [e1] at hm;rw [e2];obtain ⟨K, hK⟩ : ∃ K, (k : Int) * (c + A) = K := ⟨_, rfl⟩;obtain ⟨K2, hK2⟩ : ∃ K, (k : Int) * (c + lo) = K := ⟨_, rfl⟩;rw [hK] at hm hk ih;rw [hK2] at ih ⊢;have t1 := tick_time (s := s) (c := c) ht hc (by omega);have t2 := hb (tick s c) (by omega) (by omega);have := ih (by omega) (by omega);omega
end
theorem sp_time (vars : List Vr) (hv : List Int) : ∀ l : List St, noS l = true → okL l = true → ∀ s : Sta, 0 ≤ s.time → s.time + BT l ≤ 1000000000000 → s.time + SX l ≤ (stepsF vars hv l s).time ∧ (stepsF vars hv l s).time ≤ s.time + LX l
 | [], _, _, s, h0, h1 => by simp [stepsF, SX, LX]
 | .mk d c v n (.mk o tn ks) a b bs :: l, hS, hok, s, h0, h1 => by
   simp only [noS, Bool.and_eq_true, decide_eq_true_eq] at hS;have hsl := SX_BT l (by simp only [okL, Bool.and_eq_true] at hok; exact hok.2);have hll := LX_BT l (by simp only [okL, Bool.and_eq_true] at hok; exact hok.2);simp only [okL, okS, Bool.and_eq_true, Bool.or_eq_true, decide_eq_true_eq] at hok;have ia := sp_time vars hv a hS.2.1 hok.1.2.2.1;have ib := sp_time vars hv b hS.2.2.1 hok.1.2.2.2;have il := sp_time vars hv l hS.2.2.2 hok.2;have sa := SX_BT a hok.1.2.2.1;have la := LX_BT a hok.1.2.2.1;have sb := SX_BT b hok.1.2.2.2;have lb := LX_BT b hok.1.2.2.2;have hc := hok.1.1.1;have hn : d = 4 → 0 ≤ n ∧ n ≤ 4096 := fun h4 => by omega
   have hd6 := hS.1;clear hok hS;simp only [stepsF, SX, LX, BT] at h1 ⊢
   have key : ∀ (s1 : Sta) (x y z : Int), 0 ≤ x → y ≤ z → s.time + (z + BT l) ≤ 1000000000000 → s.time + x ≤ s1.time → s1.time ≤ s.time + y → s.time + (x + SX l) ≤ (stepsF vars hv l s1).time ∧ (stepsF vars hv l s1).time ≤ s.time + (y + LX l) := by
    intro s1 x y z hx hyz hz h2 h3;have := il s1 (by omega) (by omega);omega
   by_cases h4 : d = 4
   · obtain ⟨hn0, hn1⟩ := hn h4;have h3 : ¬ d = 3 := by omega
     simp only [if_pos h4, if_neg h3] at h1 ⊢;have hnn : ((n.toNat : Nat) : Int) = n := by omega
     have hb' : ∀ s : Sta, 0 ≤ s.time → s.time + BT a ≤ 1000000000000 → s.time + SX a ≤ (stepsF vars hv a s).time ∧ (stepsF vars hv a s).time ≤ s.time + LX a := ia;have hm0 := Int.mul_nonneg hn0 (show 0 ≤ c + BT a by omega);have hml := Int.mul_le_mul_of_nonneg_left (show c + LX a ≤ c + BT a by omega) hn0;have hms := Int.mul_nonneg hn0 (show 0 ≤ c + SX a by omega);have ho := once_le hn0 hc (x := BT a) (by omega);have r1 := rnd_sp1 (t := .mk o tn ks) (A := BT a) hc sa.1 la.2 (by omega) la.1 hb' n.toNat s h0 (by rw [hnn]; omega);rw [hnn] at r1;by_cases h5 : o ≠ 0
     · simp only [if_pos h5];exact key _ _ _ _ ho.1 hml h1 r1.1 r1.2
     simp only [if_neg h5];have h5 : o = 0 := Decidable.not_not.1 h5;subst h5;by_cases h6 : tn ≠ 0
     · simp only [if_pos h6];have r2 := rnd_sp2 (t := .mk 0 tn ks) (body := stepsF vars hv a) (A := BT a) hc sa.1 sa.2 (by omega) (fun vs => by rw [vT_lit]; exact h6) (fun s x y => by have := hb' s x y; omega) n.toNat s h0 (by rw [hnn]; omega);rw [hnn] at r2;exact key _ _ _ _ hms hml h1 r2 r1.2
     simp only [if_neg h6];have h6 : tn = 0 := Decidable.not_not.1 h6;have r3 := rnd_once (t := .mk 0 tn ks) (body := stepsF vars hv a) hc (fun vs => by rw [vT_lit]; exact h6) n s h0 hn0 (by omega);exact key _ _ _ _ ho.1 ho.2 h1 (by omega) (by omega)
   by_cases h3 : d = 3
   · simp only [if_neg h4, if_pos h3] at h1 ⊢;have hmx : BT a ≤ mx (BT a) (BT b) ∧ BT b ≤ mx (BT a) (BT b) := by unfold mx; split <;> omega
     have t1 := tick_time (s := s) (c := c) h0 hc (by omega);have hmn : mn (SX a) (SX b) ≤ SX a ∧ mn (SX a) (SX b) ≤ SX b ∧ 0 ≤ mn (SX a) (SX b) := by unfold mn; split <;> omega
     have hml : LX a ≤ mx (LX a) (LX b) ∧ LX b ≤ mx (LX a) (LX b) ∧ mx (LX a) (LX b) ≤ mx (BT a) (BT b) := by unfold mx; (repeat' split) <;> omega
     split
     · have := ib (tick s c) (by omega) (by omega);exact key _ _ _ _ (by omega) (by omega) h1 (by omega) (by omega)
     have := ia (tick s c) (by omega) (by omega);exact key _ _ _ _ (by omega) (by omega) h1 (by omega) (by omega)
   simp only [if_neg h4, if_neg h3] at h1 ⊢;have t1 := tick_time (s := s) (c := c) h0 hc (by omega);have t2 := leaf_time (vars := vars) (hv := hv) (d := d) (v := v) (n := n) (t := .mk o tn ks) (bs := bs) (s := tick s c) hd6;exact key _ _ _ _ hc (Int.le_refl _) h1 (by omega) (by omega)
theorem even_time {vars : List Vr} {hv : List Int} {l : List St} (hS : noS l = true) (hok : okL l = true) (hb : BT l ≤ 67108864) (he : evenB l = true) {s : Sta} (h0 : 0 ≤ s.time) (h1 : s.time + BT l ≤ 1000000000000) : (stepsF vars hv l s).time = s.time + SX l := by
 have h2 := sp_time vars hv l hS hok s h0 h1;unfold evenB at he;rw [decide_eq_true_eq, SX_sp hok hb, LX_sp hok hb] at he;omega
end Go.Proofs.YtfjidddhehckoaaGreat

namespace Go.Proofs.YtfjidddhehckoaaGreat
open Go Go.Hl
def hasP (s p : ByteArray) : Bool := decide (p.size ≤ s.size) && decide (s.extract 0 p.size = p)
def cutP (s p : ByteArray) : ByteArray × Bool := if hasP s p = true then (s.extract p.size s.size, true) else (s, false)
theorem hasP_con (s p : ByteArray) (d : Nat) : Con Tryz.prog 197 true [sv s, sv p] (.v (lb (hasP s p))) none d := by
 obtain ⟨res, hres⟩ : ∃ r, hasP s p = r := ⟨_, rfl⟩;rw [hres];unfold hasP at hres;refine con_of_HTA Tryz.func197 ?_;simp only [Tryz.f197];refine HT_sA ?_;rcases Classical.em (p.size ≤ s.size) with hle | hle
 · have h0 : (0 : Nat) ≤ p.size := Nat.zero_le _;refine HT_sA ?_;exact HT_rA
 have hz : ¬ ((p.size : Int) ≤ s.size) := by omega
 refine HT_sA ?_;exact HT_rA
theorem cutL_con (s p : ByteArray) (d : Nat) : Con Tryz.prog 181 true [sv s, sv p] (.tup [sv (cutP s p).1, lb (cutP s p).2]) none d := by
 have cc := hasP_con s p;obtain ⟨res, hres⟩ : ∃ r, cutP s p = r := ⟨_, rfl⟩;rw [hres];unfold cutP at hres
 have hle : hasP s p = true → p.size ≤ s.size := by
  intro h;simp only [hasP, Bool.and_eq_true, decide_eq_true_eq] at h;exact h.1
 obtain ⟨b, hb⟩ : ∃ b, hasP s p = b := ⟨_, rfl⟩;rw [hb] at cc hres hle;refine con_of_HTA Tryz.func181 ?_;simp only [Tryz.f181];refine HT_sA ?_;refine HT_seq <| HT_seq <| (HT_runcA [⟨true, .v (lb b), none⟩] ?_ ?_)
 · first | exact cc _ | exact trivial | simpa [*] using cc _
 refine (HT_cs rfl (fun h2 => ?_) fun h2 => ?_)
 · (try simp only[BN]at h2);have hbf : b = false := by simpa using h2
   subst hbf;rw [if_neg (by decide)] at hres;subst hres;refine HT_sA ?_;exact HT_rA
 (try simp only[BN]at h2);have hbf : b = true := by simpa using h2
 subst hbf;rw [if_pos rfl] at hres;subst hres;have hle := hle rfl;refine HT_sA ?_;exact HT_rA
theorem cutS_con (s p : ByteArray) (d : Nat) : Con Tryz.prog 149 true [sv s, sv p] (.tup [sv (cutP s p).1, lb (cutP s p).2]) none d := by
 have cc := cutL_con s p;obtain ⟨⟨r, b⟩, hres⟩ : ∃ r, cutP s p = r := ⟨_, rfl⟩;rw [hres] at cc ⊢;refine con_of_HTA Tryz.func149 ?_;simp only [Tryz.f149];refine HT_sA ?_;refine HT_scA [⟨true, .tup [sv r, lb b], none⟩] ?_ ?_
 · first | exact cc _ | exact trivial | simpa [*] using cc _
 exact HT_rA
def covB (label v : ByteArray) : Bool := hasP v label && (decide (v.size = label.size) || decide (v[label.size]? = some 46))
theorem cov_con (label v : ByteArray) (d : Nat) : Con Tryz.prog 100 true [sv label, sv v] (.v (lb (covB label v))) none d := by
 have cc := cutS_con v label;obtain ⟨res, hres⟩ : ∃ r, covB label v = r := ⟨_, rfl⟩;rw [hres];unfold covB at hres;unfold cutP at cc;cases hp : hasP v label with
 | false =>
   rw [hp] at cc hres;simp only [Bool.false_eq_true, if_false] at cc;simp only [Bool.false_and] at hres;subst hres;rcases Nat.eq_zero_or_pos v.size with h0 | h0
   · have he : v = ⟨#[]⟩ := by rw [size_pos]; exact h0
     subst he;refine con_of_HTA Tryz.func100 ?_;simp only [Tryz.f100];refine HT_sA ?_;refine HT_scA [⟨true, .tup [sv ⟨#[]⟩, lb false], none⟩] ?_ ?_
     · first | exact cc _ | exact trivial | simpa [*] using cc _
     refine HT_sA ?_;exact HT_rA
   have hne : ¬ v = ⟨#[]⟩ := by rw [size_pos]; omega
   obtain ⟨b0, hb0⟩ := get_bytes h0;clear hp h0;refine con_of_HTA Tryz.func100 ?_;simp only [Tryz.f100];refine HT_sA ?_;refine HT_scA [⟨true, .tup [sv v, lb false], none⟩] ?_ ?_
   · first | exact cc _ | exact trivial | simpa [*] using cc _
   refine HT_sA ?_;exact HT_rA
 | true =>
   rw [hp] at cc hres
   have hle : label.size ≤ v.size := by
    simp only [hasP, Bool.and_eq_true, decide_eq_true_eq] at hp;exact hp.1
   simp only [if_true] at cc;simp only [Bool.true_and] at hres;obtain ⟨R, hR⟩ : ∃ R, v.extract label.size v.size = R := ⟨_, rfl⟩;have hsz : R.size = v.size - label.size := by rw [← hR]; simp
   rw [hR] at cc;rcases Nat.lt_or_ge label.size v.size with hlt | hge
   · obtain ⟨b, hb⟩ := get_bytes hlt
     have hR0 : R[0]? = some b := by
      rw [← hb, ← hR, getElem?_pos (v.extract label.size v.size) 0 (by simp; omega), getElem?_pos v label.size hlt, ByteArray.getElem_extract];simp
     have hne : ¬ R = ⟨#[]⟩ := by
      rw [size_pos]; omega
     rw [hb, show decide (v.size = label.size) = false by simpa using (by omega : ¬ v.size = label.size)] at hres
     have e : decide ((b.toNat : Int) = 46) = res := by
      rw [← hres, Bool.false_or];refine decide_eq_decide.2 ⟨fun h => ?_, fun h => ?_⟩
      · have : b.toNat = (46 : UInt8).toNat := by
         show b.toNat = 46;omega
        rw [UInt8.toNat_inj.1 this]
      cases h; rfl
     clear hres hb hR hsz hp hle hlt;refine con_of_HTA Tryz.func100 ?_;simp only [Tryz.f100];refine HT_sA ?_;refine HT_scA [⟨true, .tup [sv R, lb true], none⟩] ?_ ?_
     · first | exact cc _ | exact trivial | simpa [*] using cc _
     refine HT_sA ?_;exact HT_rA
   have he : R = ⟨#[]⟩ := by rw [size_pos]; omega
   subst he;have he2 : v.size = label.size := by omega
   rw [decide_eq_true he2] at hres;simp only [Bool.true_or] at hres;subst hres;clear hR hsz he2 hp hle hge;refine con_of_HTA Tryz.func100 ?_;simp only [Tryz.f100];refine HT_sA ?_;refine HT_scA [⟨true, .tup [sv ⟨#[]⟩, lb true], none⟩] ?_ ?_
   · first | exact cc _ | exact trivial | simpa [*] using cc _
   refine HT_sA ?_;exact HT_rA
def wordB (b : UInt8) : Bool := (((decide (97 ≤ (b.toNat : Int)) && decide ((b.toNat : Int) ≤ 122)) || (decide (48 ≤ (b.toNat : Int)) && decide ((b.toNat : Int) ≤ 57))) || decide ((b.toNat : Int) = 46)) || decide ((b.toNat : Int) = 95)
theorem word_con (b : UInt8) (d : Nat) : Con Tryz.prog 198 true [.one (.c (.lit (.int .u8 b.toNat)))] (.v (lb (wordB b))) none d := by
 unfold wordB;refine con_of_HTA Tryz.func198 ?_;simp only [Tryz.f198];refine HT_sA ?_;refine HT_sA ?_;exact HT_rA
theorem namePo_con (s : ByteArray) (d : Nat) : Con Tryz.prog 182 true [sv s] (.v (lb (nameB s))) none d := by
 rcases Nat.eq_zero_or_pos s.size with h0 | h0
 · have hz : nameB s = false := by unfold nameB; simp [h0]
   have he : s = ⟨#[]⟩ := by rw [size_pos]; exact h0
   rw [hz];subst he;clear hz h0;refine con_of_HTA Tryz.func182 ?_;simp only [Tryz.f182];refine HT_sA ?_;refine HT_seq <| HT_seq <| HT_runA ?_;refine (HT_cs rfl (fun h2 => ?_) fun h2 => ?_)
   · (try simp only[BN]at h2);refine HT_sA ?_;exact HT_rA
   exact absurd h2 (by simp)
 have hne : ¬ s = ⟨#[]⟩ := by rw [size_pos]; omega
 have hb0 : s[0]? = some (s[0]'h0) := getElem?_pos s 0 h0;refine con_of_HTA Tryz.func182 ?_;simp only [Tryz.f182];refine HT_sA ?_;refine HT_seq <| HT_seq <| HT_runA ?_;refine (HT_cs rfl (fun h2 => ?_) fun h2 => ?_)
 · try simp only[BN]at h2
   have hz : nameB s = false := by
    by_cases h40 : s.size ≤ 40
    · refine nameB_bad h0 ?_;unfold chOk;rw [hb0];simp only [Bool.or_eq_false_iff, Bool.and_eq_false_iff, decide_eq_false_iff_not];omega
    unfold nameB;simp [h40]
   refine HT_sA ?_;exact HT_rA
 (try simp only[BN]at h2);have h40 : s.size ≤ 40 := by omega
 have hb97 : 97 ≤ ((s[0]'h0).toNat : Int) ∧ ((s[0]'h0).toNat : Int) ≤ 122 := by omega
 refine HT_seq <| HT_seq <| HT_runA ?_;refine HT_block <| (HT_loopU [0, 22] (fun (x : Nat) => [(23, .v (li x))]) (fun x => []) (fun x => x ≤ s.size ∧ ∀ j : Nat, j < x → chOk s j = true) (fun x => s.size - x) (0 : Nat) ⟨Nat.zero_le _, fun j hj => absurd hj (Nat.not_lt_zero j)⟩ ?_ ?_)
 · exact le_mkA (fun n => n) []
 rintro k ⟨hk, hall⟩;simp only [upS, keepS, insS]
 try simp only [keepS, KN, Nat.reduceBEq, if_true, if_false, ins, Nat.reduceLT]
 refine HT_sA ?_;refine HT_seq <| (HT_cond rfl (fun h8 => HT_skip ?_) (fun h8 => ?_))
 · (try simp only[BN]at h8);have hlt : k < s.size := by omega
   obtain ⟨b, hb⟩ := get_bytes hlt;have hw := wrap1 hlt (by omega);have hk1 : k + 1 ≤ s.size := hlt;have cw := word_con b;clear hlt h8;refine HT_seq <| HT_block <| HT_seq <| HT_runA ?_;refine HT_scA [⟨true, .v (lb (wordB b)), none⟩] ?_ ?_
   · first | exact cw _ | exact trivial | simpa [*] using cw _
   refine (HT_cs rfl (fun h11 => ?_) fun h11 => ?_)
   · (try simp only[BN]at h11);have hwb : wordB b = false := by simpa using h11
     have hbad : chOk s k = false := by
      unfold chOk;rw [hb];unfold wordB at hwb;simp only [Bool.or_eq_false_iff, Bool.and_eq_false_iff, decide_eq_false_iff_not] at hwb ⊢;omega
     have hz := nameB_bad hk1 hbad;refine HT_sA ?_;exact HT_rA
   (try simp only[BN]at h11);have hwb : wordB b = true := by simpa using h11
   have hgood : chOk s k = true := by
    by_cases hk0 : k = 0
    · subst hk0;unfold chOk;rw [hb0];simp only [Bool.or_eq_true, Bool.and_eq_true, decide_eq_true_eq];omega
    unfold chOk;rw [hb];unfold wordB at hwb;simp only [Bool.or_eq_true, Bool.and_eq_true, decide_eq_true_eq] at hwb ⊢;omega
   refine HT_runA ?_;exact ⟨k + 1, ⟨by omega, fun j hj => (Nat.lt_succ_iff_lt_or_eq.1 hj).elim (hall j) (fun e => e ▸ hgood)⟩, by omega, le_mkA (fun n => n) []⟩
 (try simp only[BN]at h8);have hz := nameB_good h0 h40 (fun j hj => hall j (by omega));refine (HT_exit ?_);refine HT_sA ?_;exact HT_rA
end Go.Proofs.YtfjidddhehckoaaGreat

namespace Go.Proofs.YtfjidddhehckoaaGreat
open Go Go.Hl
structure Lb where
 name : ByteArray
 level : Int
structure Po where
 levels : List ByteArray
 order : List (Int × Int)
 inputs : List Lb
 hatches : List Lb
 observer : Int
 timed : Bool
def Lb.enc (x : Lb) : List CD := [sC x.name, iC x.level]
def encLs (l : List Lb) : List (List CD) := l.map Lb.enc
def encNs (l : List ByteArray) : List (List CD) := l.map fun s => [sC s]
def encPr (l : List (Int × Int)) : List (List CD) := l.map fun p => [iC p.1, iC p.2]
def Po.enc (p : Po) : List CD := [.sl 1 (encNs p.levels), .sl 2 (encPr p.order), .sl 2 (encLs p.inputs), .sl 2 (encLs p.hatches), iC p.observer, bC p.timed]
attribute [simp] Lb.enc Po.enc
abbrev aPo (p : Po) : TV := .agg (p.enc.map CV.c)
abbrev lLb (l : List Lb) : TV := .one (.c (.sl 2 (encLs l)))
@[simp] theorem len_encL (l : List Lb) : (encLs l).length = l.length := by simp [encLs]
theorem get_encL {l : List Lb} {k : Nat} {x : Lb} (h : l[k]? = some x) : (encLs l)[k]? = some x.enc := by simp [encLs, h]
def labC (n : Nat) : List ByteArray → List Lb → Int
 | _, [] => 0
 | seen, x :: l => if nameB x.name = false then 7 else if Lt.hasN seen x.name = true then 8 else if x.level < 0 ∨ (n : Int) ≤ x.level then 3 else labC n (seen ++ [x.name]) l
def polC (p : Po) : Int :=
 if Lt.newC p.levels p.order ≠ 0 then Lt.newC p.levels p.order else if 64 < p.inputs.length ∨ 64 < p.hatches.length then 4 else
 if labC p.levels.length [] p.inputs ≠ 0 then labC p.levels.length [] p.inputs else if labC p.levels.length [] p.hatches ≠ 0 then labC p.levels.length [] p.hatches else
 if p.observer < 0 ∨ (p.levels.length : Int) ≤ p.observer then 3 else 0
def bestF (v : Vr) : List Lb → Int × Int → Int × Int
 | [], r => r
 | x :: l, r => bestF v l (if v.kind ≠ 0 ∧ covB x.name v.name = true ∧ r.2 < (x.name.size : Int) then (x.level, (x.name.size : Int)) else r)
def usB (vars : List Vr) (x : Lb) : Bool := vars.any fun v => decide (v.kind ≠ 0) && covB x.name v.name
def hatI (hats : List Ht) (s : ByteArray) : Option Nat := hats.findIdx? fun h => decide (h.name = s)
def htF (hats : List Ht) : List Int → List Lb → Option (List Int)
 | out, [] => some out
 | out, x :: l => match hatI hats x.name with
   | none => none
   | some i => htF hats (out.set i x.level) l
mutual
def relS (hv : List Int) : St → Bool
 | .mk d _ _ n _ a b _ => !(decide (d = 5) && decide ((hv[n.toNat]?).getD 0 < 0)) && (relL hv a && relL hv b)
def relL (hv : List Int) : List St → Bool
 | [] => true
 | s :: l => relS hv s && relL hv l
end
end Go.Proofs.YtfjidddhehckoaaGreat

namespace Go.Proofs.YtfjidddhehckoaaGreat
open Go Go.Hl
def seenM (l : List ByteArray) : List (Value × CD) := l.map fun s => (.string s, bC true)
theorem seenM_app (l : List ByteArray) (s : ByteArray) : seenM (l ++ [s]) = seenM l ++ [(.string s, bC true)] := by simp [seenM]
theorem find_seen (s : ByteArray) : ∀ l : List ByteArray, findM .string (.string s) (seenM l) = some (if Lt.hasN l s = true then some (bC true) else none)
 | [] => by simp [seenM, findM, Lt.hasN]
 | x :: l => by
   have ih := find_seen s l;by_cases e : s = x
   · subst e;simp [seenM, findM, Lt.same_str, Lt.hasN]
   have e' : ¬ x = s := fun h => e h.symm;simp only [seenM, List.map_cons, findM, Lt.same_str, decide_eq_false e, Lt.hasN, List.any_cons, decide_eq_false e', Bool.false_or] at ih ⊢;exact ih
theorem lab_con (n : Nat) (l : List Lb) (hl : l.length ≤ 1000000) (d : Nat) : Con Tryz.prog 151 true [lLb l, li n] (.v (li (labC n [] l))) none d := by
 obtain ⟨res, hres⟩ : ∃ r, labC n [] l = r := ⟨_, rfl⟩;rw [hres];refine con_of_HTA Tryz.func151 ?_;simp only [Tryz.f151];refine HT_sA ?_;refine HT_sA ?_;refine HT_seq <| HT_seq <| HT_runA ?_;have hz : seenM [] = [] := rfl;refine HT_block <| (HT_loopU [1, 5, 9, 10] (fun (x : Nat × List ByteArray) => [(11, .v (li x.1))]) (fun x => [(8, .mp (seenM x.2))]) (fun x => x.1 ≤ l.length ∧ labC n x.2 (l.drop x.1) = res) (fun x => l.length - x.1) (0, []) ⟨Nat.zero_le _, hres⟩ ?_ ?_)
 · exact le_mkA (fun n => n) []
 rintro ⟨k, seen⟩ ⟨hk, hJ⟩;simp only [upS, keepS, insS]
 try simp only [keepS, KN, Nat.reduceBEq, if_true, if_false, ins, Nat.reduceLT]
 simp only at hk hJ;clear hres;refine HT_sA ?_;refine HT_seq <| (HT_cond rfl (fun h5 => HT_skip ?_) (fun h5 => ?_))
 · (try simp only[BN]at h5);have hlt : k < l.length := by omega
   obtain ⟨x, he, hd⟩ := at_lt hlt;have hw1 := wrap1 hlt (by omega);have hk1 : k + 1 ≤ l.length := hlt;rw [hd] at hJ;simp only [labC] at hJ;have he' := get_encL he;obtain ⟨nm, lv⟩ := x;have cn := namePo_con nm;have hfs := find_seen nm seen;simp only [Lb.enc] at he' hJ cn hfs;clear hlt h5 hd he;refine HT_seq <| HT_block <| HT_seq <| HT_runA ?_;refine HT_seq <| HT_block <| HT_seq <| (HT_runcA [⟨true, .v (lb (nameB nm)), none⟩] ?_ ?_)
   · first | exact cn _ | exact trivial | simpa [*] using cn _
   refine (HT_cond rfl (fun h8 => ?_) (fun h8 => ?_))
   · (try simp only[BN]at h8);have hnb : nameB nm = false := by simpa using h8
     rw [if_pos hnb] at hJ;subst hJ;refine HT_sA ?_;exact HT_rA
   (try simp only[BN]at h8);have hnb : nameB nm = true := by simpa using h8
   rw [if_neg (by rw [hnb]; decide)] at hJ;rcases Bool.eq_false_or_eq_true (Lt.hasN seen nm) with hsn | hsn
   · rw [if_pos hsn] at hfs hJ;subst hJ;refine HT_sA ?_;refine (HT_cond rfl (fun h12 => ?_) (fun h12 => ?_))
     · (try simp only[BN]at h12);refine HT_sA ?_;exact HT_rA
     exact absurd h12 (by simp)
   rw [if_neg (by rw [hsn]; decide)] at hfs hJ;refine HT_sA ?_;refine (HT_cond rfl (fun h12 => ?_) (fun h12 => ?_))
   · exact absurd h12 (by simp)
   (try simp only[BN]at h12);refine HT_sA ?_;refine (HT_cs rfl (fun h16 => ?_) fun h16 => ?_)
   · (try simp only[BN]at h16);rw [if_pos (by simpa using h16)] at hJ;subst hJ;refine HT_sA ?_;exact HT_rA
   (try simp only[BN]at h16);rw [if_neg (by simpa using h16)] at hJ;have hap := seenM_app seen nm;refine HT_runA ?_;refine HT_runA ?_;exact ⟨(k + 1, seen ++ [nm]), ⟨hk1, hJ⟩, by simp only; omega, le_mkA (fun n => n) []⟩
 (try simp only[BN]at h5);have hkl : k = l.length := by omega
 rw [hkl, List.drop_length] at hJ;simp only [labC] at hJ;subst hJ;refine (HT_exit ?_);refine HT_sA ?_;exact HT_rA
end Go.Proofs.YtfjidddhehckoaaGreat

namespace Go.Proofs.YtfjidddhehckoaaGreat
open Go Go.Hl
abbrev nsP (l : List ByteArray) : TV := .one (.c (.sl 1 (encNs l)))
abbrev orP (l : List (Int × Int)) : TV := .one (.c (.sl 2 (encPr l)))
theorem newP_con (names : List ByteArray) (order : List (Int × Int)) (hlen : order.length ≤ 200) (d : Nat) :
  Con Tryz.prog 67 false [nsP names, orP order] (.tup [Lt.newR names order, li (Lt.newC names order)]) none d := Lt.new_con names order hlen d
def smP (p : Po) : Prop := p.order.length ≤ 200 ∧ p.inputs.length ≤ 1000000 ∧ p.hatches.length ≤ 1000000 ∧ p.levels.length ≤ 1000000
theorem polC_con (p : Po) (hs : smP p) (d : Nat) : Con Tryz.prog 102 true [aPo p] (.v (li (polC p))) none d := by
 obtain ⟨hs1, hs2, hs3, hs4⟩ := hs;have cn := newP_con p.levels p.order hs1;have c1 := lab_con p.levels.length p.inputs hs2;have c2 := lab_con p.levels.length p.hatches hs3;obtain ⟨res, hres⟩ : ∃ r, polC p = r := ⟨_, rfl⟩;rw [hres];unfold polC at hres
 obtain ⟨N, hN⟩ : ∃ x, Lt.newR p.levels p.order = .one (.c x) := by
  unfold Lt.newR;split
  · exact ⟨_, rfl⟩
  exact ⟨_, rfl⟩
 obtain ⟨C, hC⟩ : ∃ x, Lt.newC p.levels p.order = x := ⟨_, rfl⟩;obtain ⟨A, hA⟩ : ∃ x, labC p.levels.length [] p.inputs = x := ⟨_, rfl⟩;obtain ⟨B, hB⟩ : ∃ x, labC p.levels.length [] p.hatches = x := ⟨_, rfl⟩;rw [hN, hC] at cn;rw [hA] at c1;rw [hB] at c2;rw [hC, hA, hB] at hres;obtain ⟨ls, os, is, hs, ob, tm⟩ := p;simp only at hres cn c1 c2;have hln : (encNs ls).length = ls.length := by simp [encNs]
 clear hN hC hA hB;refine con_of_HTA Tryz.func102 ?_;simp only [Tryz.f102];simp only [aPo, Po.enc, List.map_cons, List.map_nil];refine HT_sA ?_;refine HT_seq <| HT_seq <| (HT_runcA [⟨false, .tup [.one (.c N), li C], none⟩] ?_ ?_)
 · first | exact cn _ | exact trivial | simpa [*] using cn _
 refine HT_sA ?_;refine (HT_cs rfl (fun h3 => ?_) fun h3 => ?_)
 · (try simp only[BN]at h3);rw [if_pos (by simpa using h3)] at hres;subst hres;refine HT_sA ?_;exact HT_rA
 (try simp only[BN]at h3);rw [if_neg (by simpa using h3)] at hres;refine HT_seq <| HT_seq <| HT_runA ?_;refine (HT_cs rfl (fun h7 => ?_) fun h7 => ?_)
 · (try simp only[BN]at h7);rw [if_pos (by omega)] at hres;subst hres;refine HT_sA ?_;exact HT_rA
 (try simp only[BN]at h7);rw [if_neg (by omega)] at hres;refine HT_seq <| HT_seq <| (HT_runcA [⟨true, .v (li A), none⟩] ?_ ?_)
 · first | exact c1 _ | exact trivial | simpa [*] using c1 _
 refine HT_sA ?_;refine (HT_cs rfl (fun h12 => ?_) fun h12 => ?_)
 · (try simp only[BN]at h12);rw [if_pos (by simpa using h12)] at hres;subst hres;refine HT_sA ?_;exact HT_rA
 (try simp only[BN]at h12);rw [if_neg (by simpa using h12)] at hres;refine HT_seq <| HT_seq <| (HT_runcA [⟨true, .v (li B), none⟩] ?_ ?_)
 · first | exact c2 _ | exact trivial | simpa [*] using c2 _
 refine HT_sA ?_;refine (HT_cs rfl (fun h17 => ?_) fun h17 => ?_)
 · (try simp only[BN]at h17);rw [if_pos (by simpa using h17)] at hres;subst hres;refine HT_sA ?_;exact HT_rA
 (try simp only[BN]at h17);rw [if_neg (by simpa using h17)] at hres;refine HT_seq <| HT_seq <| HT_runA ?_;refine (HT_cs rfl (fun h21 => ?_) fun h21 => ?_)
 · (try simp only[BN]at h21);rw [if_pos (by simpa [hln] using h21)] at hres;subst hres;refine HT_sA ?_;exact HT_rA
 (try simp only[BN]at h21);rw [if_neg (by simpa [hln] using h21)] at hres;subst hres;refine HT_sA ?_;exact HT_rA
def ordR (p : Po) : TV := if polC p = 0 then .one (.c (Lt.latO p.levels p.order)) else .one (.c (.lit (.pointer none)))
theorem polC_new {p : Po} (h : polC p = 0) : Lt.newC p.levels p.order = 0 := by
 unfold polC at h;split at h
 · rename_i h1; exact absurd h h1
 rename_i h1; exact Decidable.not_not.1 h1
theorem ord_con (p : Po) (hs : smP p) (d : Nat) : Con Tryz.prog 97 false [aPo p] (.v (ordR p)) none d := by
 have cn := newP_con p.levels p.order hs.1;have cc := polC_con p hs
 have hnr : polC p = 0 → Lt.newR p.levels p.order = .one (.c (Lt.latO p.levels p.order)) := fun h => by
  unfold Lt.newR;rw [if_pos (polC_new h)]
 unfold ordR;obtain ⟨C, hC⟩ : ∃ x, polC p = x := ⟨_, rfl⟩;obtain ⟨D, hD⟩ : ∃ x, Lt.newC p.levels p.order = x := ⟨_, rfl⟩;obtain ⟨L, hL⟩ : ∃ x, Lt.latO p.levels p.order = x := ⟨_, rfl⟩;rw [hC] at cc hnr;rw [hD] at cn;rw [hL] at hnr;rw [hC, hL];obtain ⟨ls, os, is, hs, ob, tm⟩ := p;simp only at cc cn hnr;clear hC hD hL;refine con_of_HTA Tryz.func97 ?_;simp only [Tryz.f97];simp only [aPo, Po.enc, List.map_cons, List.map_nil] at cc ⊢;refine HT_sA ?_;refine HT_seq <| HT_seq <| (HT_runcA [⟨true, .v (li C), none⟩] ?_ ?_)
 · first | exact cc _ | exact trivial | simpa [*] using cc _
 refine (HT_cs rfl (fun h2 => ?_) fun h2 => ?_)
 · (try simp only[BN]at h2);rw [if_neg (by simpa using h2)];refine HT_sA ?_;exact HT_rA
 (try simp only[BN]at h2);have hc0 : C = 0 := by simpa using h2
 rw [if_pos hc0];rw [hnr hc0] at cn;refine HT_scA [⟨false, .tup [.one (.c L), li D], none⟩] ?_ ?_
 · first | exact cn _ | exact trivial | simpa [*] using cn _
 refine HT_sA ?_;exact HT_rA
end Go.Proofs.YtfjidddhehckoaaGreat

namespace Go.Proofs.YtfjidddhehckoaaGreat
open Go Go.Hl
theorem cnt_le {p q : Nat → Bool} : ∀ l : List Nat, (∀ x ∈ l, p x = true → q x = true) → l.countP p ≤ l.countP q
 | [], _ => Nat.le_refl _
 | x :: l, h => by
   have ih := cnt_le l fun y hy => h y (List.mem_cons_of_mem _ hy);have hx := h x (List.mem_cons_self ..);rw [List.countP_cons, List.countP_cons];cases hp : p x
   · cases q x <;> simp <;> omega
   rw [hx hp]; simp; omega
theorem cnt_lt {p q : Nat → Bool} : ∀ (l : List Nat) (z : Nat), (∀ x ∈ l, p x = true → q x = true) → z ∈ l → p z = false → q z = true → l.countP p < l.countP q
 | x :: l, z, h, hz, h1, h2 => by
   rw [List.countP_cons, List.countP_cons];rcases List.mem_cons.1 hz with rfl | hz
   · have := cnt_le l fun y hy => h y (List.mem_cons_of_mem _ hy);rw [h1, h2]; simp; omega
   have ih := cnt_lt l z (fun y hy => h y (List.mem_cons_of_mem _ hy)) hz h1 h2;have hx := h x (List.mem_cons_self ..);cases hp : p x
   · cases q x <;> simp <;> omega
   rw [hx hp]; simp; omega
def hgN (n : Nat) (M : Nat → Nat → Bool) (x : Int) : Nat := (List.range n).countP fun y => !M y x.toNat
def muV (n : Nat) (M : Nat → Nat → Bool) (l : List Int) : Nat := (l.map (hgN n M)).sum
theorem hgN_le (n : Nat) (M : Nat → Nat → Bool) (x : Int) : hgN n M x ≤ n := by
 unfold hgN;have := List.countP_le_length (p := fun y => !M y x.toNat) (l := List.range n);simpa using this
theorem muV_le (n : Nat) (M : Nat → Nat → Bool) : ∀ l : List Int, muV n M l ≤ n * l.length
 | [] => by simp [muV]
 | x :: l => by
   have h1 := hgN_le n M x;have h2 := muV_le n M l;simp only [muV, List.map_cons, List.sum_cons, List.length_cons, Nat.mul_succ] at h2 ⊢;omega
theorem J_up {e : En} (hM : Lt.Lat e.n e.M) {a b : Int} (ha : okI e.n a) (hb : okI e.n b) : okI e.n (e.J a b) ∧ e.M a.toNat (e.J a b).toNat = true ∧ e.M b.toNat (e.J a b).toNat = true ∧
  ∀ d : Nat, d < e.n → e.M a.toNat d = true → e.M b.toNat d = true → e.M (e.J a b).toNat d = true := by
 obtain ⟨a1, a2⟩ := ha;obtain ⟨b1, b2⟩ := hb
 have hj : e.J a b = (Lt.bndN e.n e.M a.toNat b.toNat : Nat) := by
  unfold En.J Lt.jmV;rw [if_pos (by simp [Lt.inB]; omega)];rfl
 obtain ⟨h1, h2, h3, h4⟩ := hM.lub (a := a.toNat) (b := b.toNat) (by omega) (by omega);rw [hj];exact ⟨⟨by omega, by omega⟩, h2, h3, h4⟩
theorem hg_J {e : En} (hM : Lt.Lat e.n e.M) {a b : Int} (ha : okI e.n a) (hb : okI e.n b) : hgN e.n e.M (e.J a b) ≤ hgN e.n e.M a ∧ (e.J a b ≠ a → hgN e.n e.M (e.J a b) < hgN e.n e.M a) := by
 obtain ⟨⟨j1, j2⟩, h2, _, _⟩ := J_up hM ha hb;obtain ⟨a1, a2⟩ := ha
 have hsub : ∀ x ∈ List.range e.n, (!e.M x (e.J a b).toNat) = true → (!e.M x a.toNat) = true := by
  intro x hx h;simp only [List.mem_range] at hx;cases hxa : e.M x a.toNat
  · rfl
  rw [hM.trans x a.toNat (e.J a b).toNat hx (by omega) (by omega) hxa h2] at h;cases h
 refine ⟨cnt_le _ hsub, fun hne => ?_⟩;refine cnt_lt _ (e.J a b).toNat hsub (by simp only [List.mem_range]; omega) ?_ ?_
 · rw [hM.refl _ (by omega)]; rfl
 cases hja : e.M (e.J a b).toNat a.toNat
 · rfl
 have := hM.anti _ _ (by omega) (by omega) h2 hja;exact absurd (by omega) hne
theorem mu_mg {e : En} (hM : Lt.Lat e.n e.M) : ∀ {a b : List Int}, b.length = a.length → okV e.n a → okV e.n b → muV e.n e.M (mgF e.J a b) ≤ muV e.n e.M a ∧ (mgF e.J a b ≠ a → muV e.n e.M (mgF e.J a b) < muV e.n e.M a)
 | [], [], _, _, _ => ⟨Nat.le_refl _, fun h => absurd rfl h⟩
 | x :: a, y :: b, hl, ha, hb => by
   obtain ⟨h1, h2⟩ := hg_J hM (ha x (List.mem_cons_self ..)) (hb y (List.mem_cons_self ..));obtain ⟨h3, h4⟩ := mu_mg hM (a := a) (b := b) (by simpa using hl) (fun z hz => ha z (List.mem_cons_of_mem _ hz)) (fun z hz => hb z (List.mem_cons_of_mem _ hz));simp only [mgF, muV, List.zipWith_cons_cons, List.map_cons, List.sum_cons] at h3 h4 ⊢;refine ⟨by omega, fun hne => ?_⟩;by_cases hx : e.J x y = x
   · have : List.zipWith e.J a b ≠ a := fun h => hne (by rw [hx, h]);have := h4 this;omega
   have := h2 hx;omega
end Go.Proofs.YtfjidddhehckoaaGreat

namespace Go.Proofs.YtfjidddhehckoaaGreat
open Go Go.Hl
def Po.n (p : Po) : Nat := p.levels.length
def Po.M (p : Po) : Nat → Nat → Bool := Lt.closeM p.levels.length p.order
def Po.bot (p : Po) : Int := (Lt.topF p.n (Lt.flp p.M) p.n : Nat)
def Po.top (p : Po) : Int := (Lt.topF p.n p.M p.n : Nat)
def levV (p : Po) (v : Vr) : Int := (bestF v p.inputs (if v.kind = 1 then p.top else p.bot, -1)).1
def pinF (f : Fl) (p : Po) : List Int × Int :=
 if polC p ≠ 0 ∨ codeC f ≠ 0 then ([], 1) else if p.inputs.all (usB f.vars) = true then (f.vars.map (levV p), 0) else ([], 7)
def phtF (f : Fl) (p : Po) : List Int × Int :=
 if polC p ≠ 0 ∨ codeC f ≠ 0 then ([], 1) else match htF f.hats (List.replicate f.hats.length (-1)) p.hatches with
  | none => ([], 7)
  | some l => (l, 0)
def envF (f : Fl) (p : Po) : En := ⟨p.n, p.M, (phtF f p).1, p.observer⟩
def fuF (f : Fl) (p : Po) : Nat := p.n * f.vars.length + 1
def askC (f : Fl) (p : Po) : Int :=
 if (pinF f p).2 ≠ 0 then (pinF f p).2 else if (phtF f p).2 ≠ 0 then (phtF f p).2 else if relL (phtF f p).1 f.body = true then 0 else 12
def t0F (p : Po) : Tp := ⟨p.bot, [], 0, false, [], []⟩
def tyR (f : Fl) (p : Po) : List Int × Tp := tyL (envF f p) (fuF f p) f.body p.bot (pinF f p).1 (t0F p)
end Go.Proofs.YtfjidddhehckoaaGreat

namespace Go.Proofs.YtfjidddhehckoaaGreat.Lt
open Go Go.Hl
def T27 (l : List CD) (n t k : Nat) : HS := ⟨22, [(0, .v (.one (.c (.ptr l)))), (3, .v (li t)), (6, .v (li n)), (7, .v (li k))], []⟩
theorem top_con (names : List ByteArray) (M : Nat → Nat → Bool) (hlat : Lat names.length M) (hn : 0 < names.length ∧ names.length ≤ 12) (ix bl mt : CD) (d : Nat) :
  Con Tryz.prog 99 true [.one (.c (latD names ix bl (matI names.length (bndI names.length M)) mt))] (.v (li (topF names.length M names.length : Nat))) none d := by
 have hs := fun d => size_con names ix bl (matI names.length (bndI names.length M)) mt d;have ht := hlat.top hn.1;unfold latD at *;refine con_of_HTA Tryz.func99 ?_;simp only [Tryz.f99];refine HT_seq (HT_run (by simp [regsOf, nsC, li, i64]; rfl) ?_);refine HT_seq (HT_run (by simp; rfl) ?_);refine HT_seq (HT_seq (HT_runc [⟨true, .v (li names.length), none⟩] (by simp [li, i64]; first | exact ⟨rfl, Iff.rfl⟩ | rfl) ?_ ?_))
 · simpa only [nsC, li, i64, and_true] using hs _
 refine HT_block (HT_loop (fun k => T27 [nsC names, ix, bl, matI names.length (bndI names.length M), mt] names.length (topF names.length M k) k) (fun k => k ≤ names.length) (fun k => names.length - k) 0 (Nat.zero_le _) ?_ ?_)
 · exact le_mk (fun n => n) [] rfl (by simp [T27, li, i64, nsC, topF]) (by simp [T27]) (by simp [T27])
 rintro k hk;obtain ⟨t1, _⟩ := ht k hk;have hsuc := topF_succ names.length M k;generalize hteq : topF names.length M k = t at *;simp only [T27];refine HT_seq (HT_run (by simp [li, i64]; rfl) ?_);refine HT_seq (HT_cond rfl (fun h => HT_skip ?_) (fun h => HT_exit ?_))
 · have hlt : k < names.length := by simpa using h
   have hw : IntKind.i64.wrap ((k : Int) + 1) = (k : Int) + 1 := wrap_in (by omega) (by omega);refine HT_seq (HT_block (HT_seq (HT_run (by simp; rfl) ?_)));refine HT_run (by simp [matI, t1, rowI_get hlt, i64]; rfl) ?_;refine HT_run (by simp [hw]; rfl) ?_;refine ⟨k + 1, hlt, by omega, ?_⟩;rw [hsuc];exact le_mk (fun n => n) [] rfl (by simp [T27, li, i64, nsC, matI, hw, bndI_eq]) (by simp [T27]) (by simp [T27])
 have hkn : k = names.length := by simp at h; omega
 subst hkn;refine HT_seq (HT_run (by simp; rfl) ?_);exact HT_ret ⟨.inr rfl, _, le_refl _, ⟨_, rfl, by simp [resR, li, i64, hteq]⟩, by simp, fun _ => ⟨rfl, by simp⟩⟩
def T28 (l : List CD) (n t k : Nat) : HS := ⟨22, [(0, .v (.one (.c (.ptr l)))), (3, .v (li t)), (6, .v (li n)), (7, .v (li k))], []⟩
theorem bot_con (names : List ByteArray) (M : Nat → Nat → Bool) (hlat : Lat names.length M) (hn : 0 < names.length ∧ names.length ≤ 12) (ix bl jn : CD) (d : Nat) :
  Con Tryz.prog 68 true [.one (.c (latD names ix bl jn (matI names.length (bndI names.length (flp M)))))] (.v (li (topF names.length (flp M) names.length : Nat))) none d := by
 have hs := fun d => size_con names ix bl jn (matI names.length (bndI names.length (flp M))) d;have ht := hlat.flp.top hn.1;unfold latD at *;refine con_of_HTA Tryz.func68 ?_;simp only [Tryz.f68];refine HT_seq (HT_run (by simp [regsOf, nsC, li, i64]; rfl) ?_);refine HT_seq (HT_run (by simp; rfl) ?_);refine HT_seq (HT_seq (HT_runc [⟨true, .v (li names.length), none⟩] (by simp [li, i64]; first | exact ⟨rfl, Iff.rfl⟩ | rfl) ?_ ?_))
 · simpa only [nsC, li, i64, and_true] using hs _
 refine HT_block (HT_loop (fun k => T28 [nsC names, ix, bl, jn, matI names.length (bndI names.length (flp M))] names.length (topF names.length (flp M) k) k) (fun k => k ≤ names.length) (fun k => names.length - k) 0 (Nat.zero_le _) ?_ ?_)
 · exact le_mk (fun n => n) [] rfl (by simp [T28, li, i64, nsC, topF]) (by simp [T28]) (by simp [T28])
 rintro k hk;obtain ⟨t1, _⟩ := ht k hk;have hsuc := topF_succ names.length (flp M) k;generalize hteq : topF names.length (flp M) k = t at *;simp only [T28];refine HT_seq (HT_run (by simp [li, i64]; rfl) ?_);refine HT_seq (HT_cond rfl (fun h => HT_skip ?_) (fun h => HT_exit ?_))
 · have hlt : k < names.length := by simpa using h
   have hw : IntKind.i64.wrap ((k : Int) + 1) = (k : Int) + 1 := wrap_in (by omega) (by omega);refine HT_seq (HT_block (HT_seq (HT_run (by simp; rfl) ?_)));refine HT_run (by simp [matI, t1, rowI_get hlt, i64]; rfl) ?_;refine HT_run (by simp [hw]; rfl) ?_;refine ⟨k + 1, hlt, by omega, ?_⟩;rw [hsuc];exact le_mk (fun n => n) [] rfl (by simp [T28, li, i64, nsC, matI, hw, bndI_eq]) (by simp [T28]) (by simp [T28])
 have hkn : k = names.length := by simp at h; omega
 subst hkn;refine HT_seq (HT_run (by simp; rfl) ?_);exact HT_ret ⟨.inr rfl, _, le_refl _, ⟨_, rfl, by simp [resR, li, i64, hteq]⟩, by simp, fun _ => ⟨rfl, by simp⟩⟩
def rbF (M : Nat → Nat → Bool) (k : Nat) : Nat := (List.range k).foldl (fun r i => if M i r = true then i else r) 0
theorem rbF_succ (M : Nat → Nat → Bool) (k : Nat) : rbF M (k + 1) = if M k (rbF M k) = true then k else rbF M k := by unfold rbF; rw [List.range_succ, List.foldl_append]; rfl
theorem rbF_lt {n : Nat} {M : Nat → Nat → Bool} (hn : 0 < n) : ∀ k, k ≤ n → rbF M k < n
 | 0, _ => by simpa [rbF] using hn
 | k + 1, hk => by
   rw [rbF_succ];split
   · omega
   exact rbF_lt hn k (by omega)
theorem Lat.rbF {n : Nat} {M : Nat → Nat → Bool} (h : Lat n M) (hn : 0 < n) : rbF M n = topF n (Go.Proofs.YtfjidddhehckoaaGreat.Lt.flp M) n := by
 obtain ⟨b1, b2⟩ := h.flp.top hn n (Nat.le_refl _);generalize topF n (Go.Proofs.YtfjidddhehckoaaGreat.Lt.flp M) n = bot at *
 have key : ∀ k, k ≤ n → bot < k → Go.Proofs.YtfjidddhehckoaaGreat.Lt.rbF M k = bot := by
  intro k
  induction k with
  | zero => intro _ h; omega
  | succ k ih =>
    intro hk hb;rw [rbF_succ];have hr := rbF_lt (M := M) hn k (by omega);by_cases e : bot = k
    · subst e;rw [if_pos (show M bot _ = true from b2 _ hr)]
    rw [ih (by omega) (by omega)];by_cases hm : M k bot = true
    · exact absurd (h.anti _ _ (by omega) b1 hm (b2 k (by omega))) (by omega)
    rw [if_neg hm]
 exact key n (Nat.le_refl _) b1
def RB (names : List ByteArray) (M : Nat → Nat → Bool) (r k : Nat) : HS := ⟨22, [(1, .v (.one (.at_ 1001 0))), (3, .v (li r)), (4, .v (li k))], [(1001, .box [.c (nsC names), .c (matB names.length M)])]⟩
theorem refbot_con (names : List ByteArray) (M : Nat → Nat → Bool) (hn : 0 < names.length ∧ names.length ≤ 12) (d : Nat) : Con Tryz.prog 23 true [latT names M] (.v (li (rbF M names.length : Nat))) none d := by
 have hrl := fun k hk => rbF_lt (M := M) hn.1 k hk;refine con_of_HTA Tryz.func23 ?_;simp only [Tryz.f23];refine HT_seq (HT_run (by simp [regsOf, latT, nsC]; rfl) ?_);refine HT_seq (HT_run (by simp; rfl) ?_);refine HT_seq (HT_seq (HT_run (by simp; rfl) ?_));refine HT_block (HT_loop (fun k => RB names M (rbF M k) k) (fun k => k ≤ names.length) (fun k => names.length - k) 0 (Nat.zero_le _) ?_ ?_)
 · exact le_mk (fun n => 1) [] rfl (by simp [RB, li, i64, rbF]) (by simp [RB, nsC]) (by simp [RB])
 rintro k hk;have t1 := hrl k hk;have hsuc := rbF_succ M k;generalize hteq : rbF M k = t at *;simp only [RB];refine HT_seq (HT_seq (HT_run (by simp [li, i64, nsC]; rfl) ?_));refine HT_cond rfl (fun h => HT_skip ?_) (fun h => HT_exit ?_)
 · have hlt : k < names.length := by simpa using h
   have hw : IntKind.i64.wrap ((k : Int) + 1) = (k : Int) + 1 := wrap_in (by omega) (by omega);refine HT_seq (HT_block (HT_seq (HT_run (by simp [matB, hlt, rowB_get t1, bC]; rfl) ?_)));refine HT_cond rfl (fun h => ?_) (fun h => HT_skip ?_)
   · have h' : M k t = true := h;refine HT_run (by simp; rfl) ?_;refine HT_run (by simp [hw]; rfl) ?_;refine ⟨k + 1, hlt, by omega, ?_⟩;rw [hsuc, if_pos h'];exact le_mk (fun n => n) [] rfl (by simp [RB, li, i64, hw]) (by simp [RB, nsC, matB]) (by simp [RB])
   have h' : M k t = false := h;refine HT_run (by simp [hw]; rfl) ?_;refine ⟨k + 1, hlt, by omega, ?_⟩;rw [hsuc, if_neg (by rw [h']; simp)];exact le_mk (fun n => n) [] rfl (by simp [RB, li, i64, hw]) (by simp [RB, nsC, matB]) (by simp [RB])
 have hkn : k = names.length := by simp at h; omega
 subst hkn;refine HT_seq (HT_run (by simp; rfl) ?_);exact HT_ret ⟨.inr rfl, _, le_refl _, ⟨_, rfl, by simp [resR, li, i64, hteq]⟩, by simp, fun _ => ⟨rfl, by simp⟩⟩
end Go.Proofs.YtfjidddhehckoaaGreat.Lt

namespace Go.Proofs.YtfjidddhehckoaaGreat
open Go Go.Hl
def encBs (l : List Bool) : List (List CD) := l.map fun b => [bC b]
@[simp] theorem len_encBs (l : List Bool) : (encBs l).length = l.length := by simp [encBs]
theorem get_encBs {l : List Bool} {k : Nat} {b : Bool} (h : l[k]? = some b) : (encBs l)[k]? = some [bC b] := by simp [encBs, h]
@[simp] theorem encBs_get (l : List Bool) (i : Nat) (h : i < (encBs l).length) : (encBs l)[i]'h = [bC (l[i]'(by simpa using h))] := by simp [encBs]
theorem set_encBs (l : List Bool) (k : Nat) (b : Bool) : (encBs l).set k [bC b] = encBs (l.set k b) := by simp [encBs, List.map_set]
theorem rep_encBs (is : List Lb) : List.replicate is.length [bC false] = encBs (is.map (usB [])) := by
 have : ∀ l : List Lb, l.map (usB []) = List.replicate l.length false := fun l => by
  induction l with
  | nil => rfl
  | cons x l ih => rw [List.map_cons, List.length_cons, List.replicate_succ, ih]; rfl
 rw [this];simp [encBs]
abbrev lBs (l : List Bool) : TV := .one (.c (.sl 1 (encBs l)))
def fiB (l : List Bool) : Int := match l.findIdx? (fun b => !b) with | some i => (i : Int) | none => -1
theorem idxB_con (l : List Bool) (hl : l.length ≤ 1000000000) (d : Nat) : Con Tryz.prog 150 true [lBs l, lb false] (.v (li (fiB l))) none d := by
 obtain ⟨res, hres⟩ : ∃ r, fiB l = r := ⟨_, rfl⟩;rw [hres]
 have hstep : ∀ k : Nat, (∀ j : Nat, j < k → ∀ v, l[j]? = some v → v = true) → l[k]? = some false → res = k := by
  intro k hno hv;have hk : k < l.length := (List.getElem?_eq_some_iff.1 hv).1
  have : l.findIdx? (fun b => !b) = some k := by
   rw [List.findIdx?_eq_some_iff_getElem];refine ⟨hk, ?_, fun j hj => ?_⟩
   · rw [(List.getElem?_eq_some_iff.1 hv).2]; rfl
   rw [hno j hj (l[j]'(by omega)) (by simp)]; decide
  rw [← hres];unfold fiB;rw [this]
 have hnone : (∀ j : Nat, j < l.length → ∀ v, l[j]? = some v → v = true) → res = -1 := by
  intro hno
  have : l.findIdx? (fun b => !b) = none := by
   rw [List.findIdx?_eq_none_iff];intro v hv;obtain ⟨j, hj⟩ := List.mem_iff_getElem?.1 hv;rw [hno j (List.getElem?_eq_some_iff.1 hj).1 v hj]; rfl
  rw [← hres];unfold fiB;rw [this]
 clear hres;refine con_of_HTA Tryz.func150 ?_;simp only [Tryz.f150];refine HT_sA ?_;refine HT_seq <| HT_seq <| HT_runA ?_;refine HT_block <| (HT_loopU [0, 1, 7] (fun (x : Nat) => [(8, .v (li x))]) (fun x => []) (fun x => x ≤ l.length ∧ ∀ j : Nat, j < x → ∀ v, l[j]? = some v → v = true) (fun x => l.length - x) (0 : Nat) ⟨Nat.zero_le _, fun j hj => absurd hj (Nat.not_lt_zero j)⟩ ?_ ?_)
 · exact le_mkA (fun n => n) []
 rintro k ⟨hk, hJ⟩;simp only [upS, keepS, insS]
 try simp only [keepS, KN, Nat.reduceBEq, if_true, if_false, ins, Nat.reduceLT]
 refine HT_sA ?_;refine HT_seq <| (HT_cond rfl (fun h4 => HT_skip ?_) (fun h4 => ?_))
 · (try simp only[BN]at h4);have hlt : k < l.length := by omega
   obtain ⟨v, he, hd⟩ := at_lt hlt;have hw1 := wrap1 hlt (by omega);have hk1 : k + 1 ≤ l.length := hlt;have he' := get_encBs he;have hs := fun e : v = false => hstep k hJ (by rw [he, e]);clear hlt h4 hstep hnone;refine HT_seq <| HT_block <| HT_seq <| HT_runA ?_;refine HT_sA ?_;refine (HT_cs rfl (fun h7 => ?_) fun h7 => ?_)
   · (try simp only[BN]at h7);have hs := hs (by cases v <;> simp_all);subst hs;refine HT_sA ?_;exact HT_rA
   (try simp only[BN]at h7);have hv : v = true := by cases v <;> simp_all
   refine HT_runA ?_;exact ⟨k + 1, ⟨hk1, fun j hj w hw => (Nat.lt_succ_iff_lt_or_eq.1 hj).elim (fun h => hJ j h w hw) (fun e => by subst e; rw [he] at hw; cases hw; exact hv)⟩, by omega, le_mkA (fun n => n) []⟩
 (try simp only[BN]at h4);have hs := hnone fun j hj => hJ j (by omega);subst hs;refine (HT_exit ?_);refine HT_sA ?_;exact HT_rA
theorem fiB_iff (l : List Bool) : 0 ≤ fiB l ↔ ¬ l.all id = true := by
 unfold fiB;cases h : l.findIdx? (fun b => !b) with
 | none =>
   rw [List.findIdx?_eq_none_iff] at h;simp only [List.all_eq_true, id];constructor
   · intro h; omega
   intro h1;refine absurd (fun x hx => ?_) h1;have := h x hx;simpa using this
 | some i =>
   rw [List.findIdx?_eq_some_iff_getElem] at h;obtain ⟨hi, hpi, _⟩ := h;simp only [List.all_eq_true, id];refine ⟨fun _ h => ?_, fun _ => by omega⟩;rw [h _ (List.getElem_mem hi)] at hpi;cases hpi
theorem conB_con (l : List Bool) (hl : l.length ≤ 1000000000) (d : Nat) : Con Tryz.prog 101 true [lBs l, lb false] (.v (lb (!l.all id))) none d := by
 have hr := idxB_con l hl
 have hd : decide (0 ≤ fiB l) = !l.all id := by
  rw [Bool.eq_iff_iff, decide_eq_true_eq, fiB_iff];cases l.all id <;> simp
 obtain ⟨r, hR⟩ : ∃ r, fiB l = r := ⟨_, rfl⟩;rw [hR] at hr hd;rw [← hd];clear hd hR;refine con_of_HTA Tryz.func101 ?_;simp only [Tryz.f101];refine HT_sA ?_;refine HT_scA [⟨true, .v (li r), none⟩] ?_ ?_
 · first | exact hr _ | exact trivial | simpa [*] using hr _
 exact HT_rA
theorem pol_new {p : Po} (h : polC p = 0) : Lt.Lat p.n p.M ∧ 0 < p.n ∧ p.n ≤ 12 := by
 have hn := polC_new h;have h1 := Lt.new_out hn;exact ⟨Lt.lat_of hn, by have := h1.1; unfold Po.n; omega, by have := h1.1; unfold Po.n; omega⟩
theorem botP_con (p : Po) (h : polC p = 0) (d : Nat) : Con Tryz.prog 68 true [.one (.c (Lt.latO p.levels p.order))] (.v (li p.bot)) none d :=
 Lt.bot_con p.levels p.M (pol_new h).1 (pol_new h).2 _ _ _ d
theorem topP_con (p : Po) (h : polC p = 0) (d : Nat) : Con Tryz.prog 99 true [.one (.c (Lt.latO p.levels p.order))] (.v (li p.top)) none d :=
 Lt.top_con p.levels p.M (pol_new h).1 (pol_new h).2 _ _ _ d
def mixF {α : Type} (f g : α → Bool) (l : List α) (i : Nat) : List Bool := (l.take i).map g ++ (l.drop i).map f
theorem mix_len {α : Type} (f g : α → Bool) (l : List α) (i : Nat) : (mixF f g l i).length = l.length := by
 simp only [mixF, List.length_append, List.length_map, List.length_take, List.length_drop]; omega
theorem mix_set {α : Type} (f g : α → Bool) : ∀ (l : List α) (i : Nat) (x : α), l[i]? = some x → mixF f g l (i + 1) = (mixF f g l i).set i (g x)
 | [], i, x, h => by simp at h
 | y :: l, 0, x, h => by
   simp only [List.getElem?_cons_zero, Option.some.injEq] at h;subst h;simp [mixF]
 | y :: l, i + 1, x, h => by
   have ih := mix_set f g l i x (by simpa using h);simp only [mixF, List.take_succ_cons, List.map_cons, List.drop_succ_cons, List.cons_append, List.set_cons_succ] at ih ⊢;rw [ih]
theorem mix_same {α : Type} (f g : α → Bool) : ∀ (l : List α) (i : Nat) (x : α), l[i]? = some x → g x = f x → mixF f g l (i + 1) = mixF f g l i
 | [], i, x, h, _ => by simp at h
 | y :: l, 0, x, h, e => by
   simp only [List.getElem?_cons_zero, Option.some.injEq] at h;subst h;simp [mixF, e]
 | y :: l, i + 1, x, h, e => by
   have ih := mix_same f g l i x (by simpa using h) e;simp only [mixF, List.take_succ_cons, List.map_cons, List.drop_succ_cons, List.cons_append] at ih ⊢;rw [ih]
theorem mix_zero {α : Type} (f g : α → Bool) (l : List α) : mixF f g l 0 = l.map f := by simp [mixF]
theorem mix_all {α : Type} (f g : α → Bool) (l : List α) : mixF f g l l.length = l.map g := by simp [mixF]
theorem usB_snoc {vars : List Vr} {k : Nat} {v : Vr} (h : vars[k]? = some v) (x : Lb) : usB (vars.take (k + 1)) x = (usB (vars.take k) x || (decide (v.kind ≠ 0) && covB x.name v.name)) := by
 unfold usB;rw [List.take_add_one, h];simp
theorem polIn_con (f : Fl) (p : Po) (hs : smP p) (hv : f.vars.length ≤ 1000000) (hh : f.hats.length ≤ 1000000) (hn : nodesS f.body + nodesH f.hats ≤ 900000000) (hb : bndL f.body = true) (d : Nat) :
  Con Tryz.prog 64 false [aF f, aPo p] (.tup [lI (pinF f p).1, li (pinF f p).2]) none d := by
 have co := ord_con p hs;have cf := checkP_con f hv hh hn hb;have cb := botP_con p;have ct := topP_con p;have hins := hs.2.1;obtain ⟨res, hres⟩ : ∃ r, pinF f p = r := ⟨_, rfl⟩;rw [hres];unfold pinF at hres;unfold ordR at co;obtain ⟨C, hC⟩ : ∃ x, polC p = x := ⟨_, rfl⟩;obtain ⟨D, hD⟩ : ∃ x, codeC f = x := ⟨_, rfl⟩;obtain ⟨L, hL⟩ : ∃ x, Lt.latO p.levels p.order = x := ⟨_, rfl⟩;have hLp : ∃ cs, L = .ptr cs := ⟨_, hL.symm⟩;obtain ⟨cs, hLp⟩ := hLp;rw [hC, hL] at co;rw [hC] at cb ct hres;rw [hL] at cb ct;rw [hD] at cf hres;subst hLp;obtain ⟨vars, hats, body⟩ := f;obtain ⟨ls, os, is, hts, ob, tm⟩ := p;simp only at hres hv hins;clear hC hD hL hs hh hn hb;refine con_of_HTA Tryz.func64 ?_;simp only [Tryz.f64];simp only [aF, Fl.enc, aPo, Po.enc, List.map_cons, List.map_nil] at co cf ⊢;refine HT_sA ?_;rcases Classical.em (C = 0) with hc0 | hc0
 · subst hc0;simp only [if_true] at co;have cb := cb rfl;have ct := ct rfl;refine HT_scA [⟨false, .v (.one (.c (.ptr cs))), none⟩] ?_ ?_
   · first | exact co _ | exact trivial | simpa [*] using co _
   refine HT_seq <| HT_seq <| (HT_runcA [⟨true, .v (li D), none⟩] ?_ ?_)
   · first | exact cf _ | exact trivial | simpa [*] using cf _
   refine (HT_cs rfl (fun h3 => ?_) fun h3 => ?_)
   · (try simp only[BN]at h3);rw [if_pos (.inr (by simpa using h3))] at hres;subst hres;refine HT_sA ?_;exact HT_ret ⟨.inr rfl, _, le_one 4 1 rfl, ⟨⟨_, by simp; rfl, by simp [resR]⟩, by simp, fun h => by cases h⟩⟩
   (try simp only[BN]at h3);have hd0 : D = 0 := by simpa using h3
   subst hd0;rw [if_neg (by simp)] at hres;have hrep := rep_encBs is;have hmk : is.length ≤ maxLen ∧ (is.length : Int) ≤ 281474976710656 := ⟨by unfold maxLen; omega, by omega⟩;refine HT_sA ?_;refine HT_sA ?_;refine HT_seq <| HT_seq <| HT_runA ?_;refine HT_block <| (HT_loopU [3, 6, 7, 29, 30] (fun (x : Nat) => [(8, .v (.one (.own 900001))), (31, .v (li x))]) (fun x => [(3, .box [.c (.sl 1 (encNs ls)), .c (.sl 2 (encPr os)), .c (.sl 2 (encLs is)), .c (.sl 2 (encLs hts)), .c (iC ob), .c (bC tm)]), (27, .row 4 1 (encBs (is.map (usB (vars.take x))))), (900001, .row 3 1 (encIs ((vars.map (levV ⟨ls, os, is, hts, ob, tm⟩)).take x)))]) (fun x => x ≤ vars.length) (fun x => vars.length - x) (0 : Nat) (Nat.zero_le _) ?_ ?_)
   · exact le_mkA (fun n => n) [900001]
   rintro k hk;simp only [upS, keepS, insS]
   try simp only [keepS, KN, Nat.reduceBEq, if_true, if_false, ins, Nat.reduceLT]
   refine HT_sA ?_;refine HT_seq <| (HT_cond rfl (fun h11 => HT_skip ?_) (fun h11 => ?_))
   · (try simp only[BN]at h11);have hlt : k < vars.length := by omega
     obtain ⟨v, he, hd⟩ := at_lt hlt;have hw1 := wrap1 hlt (by omega);have hk1 : k + 1 ≤ vars.length := hlt;have hus := fun x => usB_snoc he x;obtain ⟨nm, kd, lo, hi, ini⟩ := v;have hmz := mix_zero (usB (vars.take k)) (usB (vars.take (k + 1))) is;have hma := mix_all (usB (vars.take k)) (usB (vars.take (k + 1))) is;obtain ⟨best, hbest⟩ : ∃ x, levV ⟨ls, os, is, hts, ob, tm⟩ ⟨nm, kd, lo, hi, ini⟩ = x := ⟨_, rfl⟩
     have hsn : encIs ((vars.map (levV ⟨ls, os, is, hts, ob, tm⟩)).take (k + 1)) = encIs ((vars.map (levV ⟨ls, os, is, hts, ob, tm⟩)).take k) ++ [[iC best]] := by
      rw [List.take_add_one, List.getElem?_map, he, ← hbest];simp [encIs]
     obtain ⟨O, hO⟩ : ∃ x, (vars.map (levV ⟨ls, os, is, hts, ob, tm⟩)).take k = x := ⟨_, rfl⟩;have hOl : O.length = k := by rw [← hO, List.length_take, List.length_map]; omega
     have hroom : room (k + 1) 8 := room_of (by omega) (by omega);rw [hO] at hsn;unfold levV at hbest;obtain ⟨BOT, hBOT⟩ : ∃ x, Po.bot ⟨ls, os, is, hts, ob, tm⟩ = x := ⟨_, rfl⟩;obtain ⟨TOP, hTOP⟩ : ∃ x, Po.top ⟨ls, os, is, hts, ob, tm⟩ = x := ⟨_, rfl⟩;rw [hBOT] at cb;rw [hTOP] at ct;simp only [hBOT, hTOP] at hbest;clear hlt h11 hd cf co hBOT hTOP;refine HT_seq <| HT_block <| HT_seq <| HT_runA ?_;refine HT_scA [⟨true, .v (li BOT), none⟩] ?_ ?_
     · first | exact cb _ | exact trivial | simpa [*] using cb _
     refine (HT_cutU [3, 6, 7, 8, 10, 12, 29, 30, 31] (fun z => [(11, .v (li z))]) (fun z => [(3, .box [.c (.sl 1 (encNs ls)), .c (.sl 2 (encPr os)), .c (.sl 2 (encLs is)), .c (.sl 2 (encLs hts)), .c (iC ob), .c (bC tm)]), (10, .box [.c (sC nm), .c (iC kd), .c (iC lo), .c (iC hi), .c (iC ini)]), (27, .row 4 1 (encBs (is.map (usB (vars.take k))))), (900001, .row 3 1 (encIs O))]) (fun z => z = if kd = 1 then TOP else BOT) ?_ ?_)
     ·
      refine HT_sA ?_;refine (HT_cs rfl (fun h16 => ?_) fun h16 => ?_)
      · (try simp only[BN]at h16);have hk1' : kd = 1 := by simpa using h16
        refine (HT_runcA [⟨true, .v (li TOP), none⟩] ?_ ?_)
        · first | exact ct _ | exact trivial | simpa [*] using ct _
        exact ⟨TOP, by rw [if_pos hk1'], le_mkA (fun n => n) []⟩
      (try simp only[BN]at h16);have hk1' : ¬ kd = 1 := by simpa using h16
      exact ⟨BOT, by rw [if_neg hk1'], le_mkA (fun n => n) []⟩
     rintro z0 hz0;simp only [upS, keepS, insS]
     try simp only [keepS, KN, Nat.reduceBEq, if_true, if_false, ins, Nat.reduceLT]
     rw [← hz0] at hbest;clear cb ct hz0;refine HT_seq <| HT_seq <| HT_runA ?_;refine HT_block <| (HT_loopU [3, 6, 7, 8, 10, 29, 30, 31, 43, 44] (fun (x : Nat × Int × Int) => [(11, .v (li x.2.1)), (12, .v (li x.2.2)), (45, .v (li x.1))]) (fun x => [(3, .box [.c (.sl 1 (encNs ls)), .c (.sl 2 (encPr os)), .c (.sl 2 (encLs is)), .c (.sl 2 (encLs hts)), .c (iC ob), .c (bC tm)]), (10, .box [.c (sC nm), .c (iC kd), .c (iC lo), .c (iC hi), .c (iC ini)]), (27, .row 4 1 (encBs (mixF (usB (vars.take k)) (usB (vars.take (k + 1))) is x.1))), (900001, .row 3 1 (encIs O))]) (fun x => x.1 ≤ is.length ∧ (bestF ⟨nm, kd, lo, hi, ini⟩ (is.drop x.1) (x.2.1, x.2.2)).1 = best) (fun x => is.length - x.1) (0, z0, -1) ⟨Nat.zero_le _, by simpa using hbest⟩ ?_ ?_)
     · exact le_mkA (fun n => n) []
     rintro ⟨i, lv, lo2⟩ ⟨hi1, hJ⟩;simp only [upS, keepS, insS]
     try simp only [keepS, KN, Nat.reduceBEq, if_true, if_false, ins, Nat.reduceLT]
     simp only at hi1 hJ;clear hbest hmz;refine HT_sA ?_;refine HT_seq <| (HT_cond rfl (fun h23 => HT_skip ?_) (fun h23 => ?_))
     · (try simp only[BN]at h23);have hlt : i < is.length := by omega
       obtain ⟨x, hx, hxd⟩ := at_lt hlt;have hw2 := wrap1 hlt (by omega);have hi2 : i + 1 ≤ is.length := hlt;have hx' := get_encL hx;rw [hxd] at hJ;simp only [bestF] at hJ;have hms := mix_set (usB (vars.take k)) (usB (vars.take (k + 1))) is i x hx;have hmm := mix_same (usB (vars.take k)) (usB (vars.take (k + 1))) is i x hx;have hml := mix_len (usB (vars.take k)) (usB (vars.take (k + 1))) is i;obtain ⟨MX, hMX⟩ : ∃ x, mixF (usB (vars.take k)) (usB (vars.take (k + 1))) is i = x := ⟨_, rfl⟩;rw [hMX] at hms hmm hml;rw [hus] at hms hmm;have hlm : i < MX.length := by omega
       obtain ⟨xn, xl⟩ := x;have cc := cov_con xn nm;simp only [Lb.enc] at hx' hJ hms hmm cc;obtain ⟨Cv, hCV⟩ : ∃ x, covB xn nm = x := ⟨_, rfl⟩;rw [hCV] at hJ hms hmm cc;clear hlt hml hxd h23 hCV hma hsn hus;refine HT_seq <| HT_block <| HT_seq <| HT_runA ?_;refine HT_seq <| HT_seq <| (HT_runcA [⟨true, .v (lb Cv), none⟩] ?_ ?_)
       · first | exact cc _ | exact trivial | simpa [*] using cc _
       refine (HT_cs rfl (fun h26 => ?_) fun h26 => ?_)
       · try simp only[BN]at h26
         have hno : ¬ (kd ≠ 0 ∧ Cv = true) := by
          rintro ⟨a, b⟩;rcases h26 with h | h
          · exact a (by simpa using h)
          rw [b] at h; simp at h
         rw [if_neg (fun h => hno ⟨h.1, h.2.1⟩)] at hJ
         have hmm := hmm (by
          have : (decide (kd ≠ 0) && Cv) = false := by
           rw [Bool.and_eq_false_iff, decide_eq_false_iff_not];by_cases hk0 : kd = 0
           · exact .inl (fun h => h hk0)
           exact .inr (by cases Cv with
            | false => rfl
            | true => exact absurd ⟨hk0, rfl⟩ hno)
          rw [this, Bool.or_false])
         refine (HT_exit ?_);refine HT_runA ?_;exact ⟨(i + 1, lv, lo2), ⟨hi2, hJ⟩, by simp only; omega, le_mkA (fun n => n) []⟩
       (try simp only[BN]at h26);have hyes : kd ≠ 0 ∧ Cv = true := by simpa using h26
       have hms : mixF (usB (vars.take k)) (usB (vars.take (k + 1))) is (i + 1) = MX.set i true := by
        rw [hms, decide_eq_true hyes.1, hyes.2]; simp
       have hse : (encBs MX).set i [CD.lit (Value.bool true)] = encBs (MX.set i true) := set_encBs MX i true;refine HT_sA ?_;refine HT_sA ?_;refine (HT_cs rfl (fun h31 => ?_) fun h31 => ?_)
       · (try simp only[BN]at h31);rw [if_pos ⟨hyes.1, hyes.2, by simpa using h31⟩] at hJ;refine (HT_drun (by kernel_rfl) (by kernel_rfl) (by rfl) (by simp [*]; rfl) ?_);refine HT_runA ?_;exact ⟨(i + 1, xl, (xn.size : Int)), ⟨hi2, hJ⟩, by simp only; omega, le_mkA (fun n => n) []⟩
       (try simp only[BN]at h31);rw [if_neg (fun h => by have := h.2.2; simp at h31; omega)] at hJ;refine HT_runA ?_;exact ⟨(i + 1, lv, lo2), ⟨hi2, hJ⟩, by simp only; omega, le_mkA (fun n => n) []⟩
     (try simp only[BN]at h23);have hil : i = is.length := by omega
     rw [hil, List.drop_length] at hJ;simp only [bestF] at hJ;subst hJ;refine (HT_exit ?_);refine HT_runA ?_;refine HT_runA ?_;exact ⟨k + 1, hk1, by omega, le_mkA (fun n => if n = 900001 then 78 else n) []⟩
   (try simp only[BN]at h11);have hkl : k = vars.length := by omega
   subst hkl;have ccb := conB_con (is.map (usB (vars.take vars.length))) (by simpa using (by omega : is.length ≤ 1000000000));rw [List.take_length] at ccb ⊢;have htk : (vars.map (levV ⟨ls, os, is, hts, ob, tm⟩)).take vars.length = vars.map (levV ⟨ls, os, is, hts, ob, tm⟩) := List.take_of_length_le (by simp);have hal : (is.map (usB vars)).all id = is.all (usB vars) := by simp [List.all_map]
   rw [hal] at ccb;refine (HT_exit ?_);refine HT_seq <| HT_seq <| (HT_runcA [⟨true, .v (lb (!is.all (usB vars))), none⟩] ?_ ?_)
   · first | exact ccb _ | exact trivial | simpa [*] using ccb _
   refine (HT_cs rfl (fun h41 => ?_) fun h41 => ?_)
   · (try simp only[BN]at h41);rw [if_neg (by simpa using h41)] at hres;subst hres;refine HT_sA ?_;exact HT_ret ⟨.inr rfl, _, le_one 4 1 rfl, ⟨⟨_, by simp; rfl, by simp [resR]⟩, by simp, fun h => by cases h⟩⟩
   (try simp only[BN]at h41);rw [if_pos (by simpa using h41)] at hres;subst hres;refine HT_sA ?_;exact HT_ret ⟨.inr rfl, _, le_frz 900001 rfl, ⟨⟨_, by simp; rfl, by simp [resR]⟩, by simp, fun h => by cases h⟩⟩
 rw [if_neg hc0] at co;rw [if_pos (.inl hc0)] at hres;subst hres;refine HT_scA [⟨false, .v (.one (.c (.lit (.pointer none)))), none⟩] ?_ ?_
 · first | exact co _ | exact trivial | simpa [*] using co _
 refine HT_seq <| HT_seq <| (HT_runcS [none] (by simp [*]; first | exact ⟨rfl, trivial⟩ | exact ⟨rfl, Iff.rfl⟩ | rfl) ?_ ?_)
 · trivial
 refine (HT_cs rfl (fun h3 => ?_) fun h3 => ?_)
 · (try simp only[BN]at h3);refine HT_sA ?_;exact HT_ret ⟨.inr rfl, _, le_one 4 1 rfl, ⟨⟨_, by simp; rfl, by simp [resR]⟩, by simp, fun h => by cases h⟩⟩
 exact absurd h3 (by simp)
end Go.Proofs.YtfjidddhehckoaaGreat
