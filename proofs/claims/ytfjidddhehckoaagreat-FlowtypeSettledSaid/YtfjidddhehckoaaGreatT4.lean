/- Part 4: contracts of functions of the program and of the reference, and plain facts about what they compute; used by the proof of the claimed statement. Conditions: as each theorem states. -/
import Derived.Test.YtfjidddhehckoaaGreatT3
set_option linter.unusedSimpArgs false
set_option linter.unusedVariables false
set_option linter.unnecessarySimpa false
set_option maxRecDepth 100000
set_option maxHeartbeats 2000000
namespace Go.Proofs.YtfjidddhehckoaaGreat
open Go Go.Hl
@[simp] theorem take_encV (l : List Vr) (i : Nat) : (encVs l).take i = encVs (l.take i) := by simp [encVs]
@[simp] theorem encV_snoc (l : List Vr) (v : Vr) : encVs (l ++ [v]) = encVs l ++ [v.enc] := by simp [encVs]
theorem take_snoc {α : Type} {l : List α} {k : Nat} {x : α} (h : l[k]? = some x) : l.take (k + 1) = l.take k ++ [x] := by
 rw [List.take_add_one, h]; rfl
theorem nameR_con (s : ByteArray) (d : Nat) : Con Tryz.prog 49 true [sv s] (.v (lb (nameB s))) none d := by
 refine con_of_HT Tryz.func49 rfl (by kernel_rfl) (Nat.le_of_ble_eq_true rfl) ?_
 simp only [Tryz.f49]
 refine HT_seq <| HT_runA ?_
 refine HT_seq <| HT_seq <| HT_runA ?_
 refine (HT_cond rfl (fun h2 => ?_) (fun h2 => HT_skip ?_))
 · try simp only [BN] at h2
   have hz : nameB s = false := by
    unfold nameB
    rw [Bool.and_eq_false_iff, Bool.and_eq_false_iff]
    simp only [decide_eq_false_iff_not]
    omega
   refine HT_seq <| HT_runA ?_
   exact HT_retA fun h => ⟨.inr rfl, h⟩
 · try simp only [BN] at h2
   have h1 : 1 ≤ s.size := by omega
   have h40 : s.size ≤ 40 := by omega
   refine HT_seq <| HT_seq <| HT_runA ?_
   refine HT_block <| (HT_loopU [0] (fun (x : Nat) => [(3, .v (li x))]) (fun (x : Nat) => []) (fun (x : Nat) => x ≤ s.size ∧ ∀ j : Nat, j < x → chOk s j = true) (fun (x : Nat) => s.size - x) (0 : Nat) ⟨Nat.zero_le _, fun j hj => absurd hj (Nat.not_lt_zero j)⟩ ?_ ?_)
   · exact le_mkA (fun n => n) []
   rintro k ⟨hk, hall⟩
   simp only [upS, keepS, insS]
   try simp only [keepS, KN, Nat.reduceBEq, if_true, if_false, ins, Nat.reduceLT]
   refine HT_seq <| HT_seq <| HT_runA ?_
   refine (HT_cond rfl (fun h8 => HT_skip ?_) (fun h8 => ?_))
   · try simp only [BN] at h8
     have hlt : k < s.size := by omega
     obtain ⟨b, hb⟩ := get_bytes hlt
     have hw := wrap1 hlt (by omega)
     have hk1 : k + 1 ≤ s.size := hlt
     clear hlt h8
     refine HT_seq <| HT_block <| HT_seq <| HT_runA ?_
     refine HT_seq <| HT_runA ?_
     refine HT_seq <| HT_runA ?_
     refine HT_seq <| HT_runA ?_
     refine (HT_cond rfl (fun h13 => ?_) (fun h13 => HT_skip ?_))
     · try simp only [BN] at h13
       have hbad : chOk s k = false := by
        unfold chOk
        rw [hb]
        simp only [Bool.or_eq_false_iff, Bool.and_eq_false_iff, decide_eq_false_iff_not]
        omega
       have hz := nameB_bad hk1 hbad
       refine HT_seq <| HT_runA ?_
       exact HT_retA fun h => ⟨.inr rfl, h⟩
     · try simp only [BN] at h13
       have hgood : chOk s k = true := by
        unfold chOk
        rw [hb]
        simp only [Bool.or_eq_true, Bool.and_eq_true, decide_eq_true_eq]
        omega
       refine HT_runA ?_
       exact ⟨k + 1, ⟨by omega, fun j hj => (Nat.lt_succ_iff_lt_or_eq.1 hj).elim (hall j) (fun e => e ▸ hgood)⟩, by omega, le_mkA (fun n => n) []⟩
   · try simp only [BN] at h8
     have hz := nameB_good h1 h40 (fun j hj => hall j (by omega))
     refine (HT_exit ?_)
     refine HT_seq <| HT_runA ?_
     exact HT_retA fun h => ⟨.inr rfl, h⟩
def sz (v : Vr) : Int := v.high - v.low + 1
def prV : List Vr → Int → Int
 | [], n => n
 | v :: l, n => if 4096 < n * sz v then 4097 else prV l (n * sz v)
def spc (vars : List Vr) (kind : Int) : Int := prV (vars.filter fun v => decide (v.kind = kind)) 1
def goodV' (vars : List Vr) : Prop := ∀ v ∈ vars, v.low ≤ v.high ∧ -1048576 ≤ v.low ∧ v.high ≤ 1048576
theorem sz_in {vars : List Vr} (h : goodV' vars) {v : Vr} (hv : v ∈ vars) : 1 ≤ sz v ∧ sz v ≤ 2097153 := by
 have := h v hv
 unfold sz
 omega
theorem mul_in {n s : Int} (h1 : 1 ≤ n ∧ n ≤ 4096) (h2 : 1 ≤ s ∧ s ≤ 2097153) : 1 ≤ n * s ∧ n * s ≤ 8589938688 := by
 have h3 : n.natAbs * s.natAbs ≤ 4096 * 2097153 := Nat.mul_le_mul (by omega) (by omega)
 have h4 : 1 * 1 ≤ n.natAbs * s.natAbs := Nat.mul_le_mul (by omega) (by omega)
 rw [← Int.natAbs_mul] at h3 h4
 have h5 : 0 ≤ n * s := Int.mul_nonneg (by omega) (by omega)
 omega
theorem prV_in {vars : List Vr} (h : goodV' vars) : ∀ (l : List Vr) (n : Int), (∀ v ∈ l, v ∈ vars) → 1 ≤ n ∧ n ≤ 4096 → 1 ≤ prV l n ∧ prV l n ≤ 4097
 | [], n, _, hn => by simp only [prV]; omega
 | v :: l, n, hl, hn => by
   simp only [prV]
   have := mul_in hn (sz_in h (hl v (by simp)))
   split
   · omega
   · exact prV_in h l _ (fun w hw => hl w (List.mem_cons_of_mem _ hw)) (by omega)
theorem spaceR_con (vars : List Vr) (kind : Int) (hv : goodV' vars) (hl : vars.length ≤ 1000000000) (d : Nat) : Con Tryz.prog 88 true [lV vars, li kind] (.v (li (spc vars kind))) none d := by
 obtain ⟨res, hres⟩ : ∃ r, spc vars kind = r := ⟨_, rfl⟩
 rw [hres]
 unfold spc at hres
 refine con_of_HT Tryz.func88 rfl (by kernel_rfl) (Nat.le_of_ble_eq_true rfl) ?_
 simp only [Tryz.f88]
 refine HT_seq <| HT_runA ?_
 refine HT_seq <| HT_runA ?_
 refine HT_seq <| HT_seq <| HT_runA ?_
 refine HT_block <| (HT_loopU [0, 1] (fun (x : Nat × Int) => [(5, .v (li x.2)), (6, .v (li x.1))]) (fun (x : Nat × Int) => []) (fun (x : Nat × Int) => x.1 ≤ vars.length ∧ prV ((vars.drop x.1).filter fun v => decide (v.kind = kind)) x.2 = res ∧ 1 ≤ x.2 ∧ x.2 ≤ 4096) (fun (x : Nat × Int) => vars.length - x.1) (0, 1) ⟨Nat.zero_le _, hres, by decide, by decide⟩ ?_ ?_)
 · exact le_mkA (fun n => n) []
 rintro ⟨k, n⟩ ⟨hk, hJ, hn1, hn2⟩
 simp only [upS, keepS, insS]
 try simp only [keepS, KN, Nat.reduceBEq, if_true, if_false, ins, Nat.reduceLT]
 simp only at hk hJ hn1 hn2
 clear hres
 refine HT_seq <| HT_seq <| HT_runA ?_
 refine (HT_cond rfl (fun h5 => HT_skip ?_) (fun h5 => ?_))
 · try simp only [BN] at h5
   have hlt : k < vars.length := by omega
   obtain ⟨v, he, hd⟩ := at_lt hlt
   have hw1 := wrap1 hlt (by omega)
   have hk1 : k + 1 ≤ vars.length := hlt
   have hmem : v ∈ vars := List.mem_of_getElem? he
   have hs := sz_in hv hmem
   have hm := mul_in ⟨hn1, hn2⟩ hs
   have hb := hv v hmem
   have hw2 : IntKind.i64.wrap (v.high - v.low) = v.high - v.low := wrap_in (by omega) (by omega)
   have hw3 : IntKind.i64.wrap (v.high - v.low + 1) = sz v := by rw [wrap_in (by omega) (by omega)]; rfl
   have hw4 : IntKind.i64.wrap (n * sz v) = n * sz v := wrap_in (by omega) (by omega)
   rw [hd] at hJ
   clear hlt h5 hv
   refine HT_seq <| HT_block <| HT_seq <| HT_seq <| HT_runA ?_
   refine (HT_cond rfl (fun h7 => ?_) (fun h7 => HT_skip ?_))
   · try simp only [BN] at h7
     rw [List.filter_cons_of_neg (by simpa using h7)] at hJ
     refine (HT_exit ?_)
     refine HT_runA ?_
     exact ⟨(k + 1, n), ⟨hk1, hJ, hn1, hn2⟩, by simp only; omega, le_mkA (fun n => n) []⟩
   · try simp only [BN] at h7
     rw [List.filter_cons_of_pos (by simpa using h7)] at hJ
     simp only [prV] at hJ
     refine HT_seq <| (HT_drun (by kernel_rfl) (by kernel_rfl) (by rfl) (by simp [*]; rfl) ?_)
     refine HT_seq <| HT_runA ?_
     refine (HT_cond rfl (fun h12 => ?_) (fun h12 => HT_skip ?_))
     · try simp only [BN] at h12
       rw [if_pos h12] at hJ
       subst hJ
       refine HT_seq <| HT_runA ?_
       exact HT_retA fun h => ⟨.inr rfl, h⟩
     · try simp only [BN] at h12
       rw [if_neg h12] at hJ
       refine HT_runA ?_
       exact ⟨(k + 1, n * sz v), ⟨hk1, hJ, hm.1, by simp only; omega⟩, by simp only; omega, le_mkA (fun n => n) []⟩
 · try simp only [BN] at h5
   have hkl : k = vars.length := by omega
   rw [hkl, List.drop_length] at hJ
   simp only [List.filter_nil, prV] at hJ
   refine (HT_exit ?_)
   refine HT_seq <| HT_runA ?_
   exact (HT_retE (fun h => ⟨.inr rfl, h⟩) _ (by simp [*]; rfl) (by subst hJ; rfl) (by simp))
theorem sizeD_con (v : Vr) (hv : -1048576 ≤ v.low ∧ v.low ≤ v.high ∧ v.high ≤ 1048576) (d : Nat) : Con Tryz.prog 199 true [aV v] (.v (li (sz v))) none d := by
 have hw2 : IntKind.i64.wrap (v.high - v.low) = v.high - v.low := wrap_in (by omega) (by omega)
 have hw3 : IntKind.i64.wrap (v.high - v.low + 1) = sz v := by rw [wrap_in (by omega) (by omega)]; rfl
 refine con_of_HT Tryz.func199 rfl (by kernel_rfl) (Nat.le_of_ble_eq_true rfl) ?_
 simp only [Tryz.f199]
 refine HT_seq <| HT_runA ?_
 refine HT_seq <| HT_runA ?_
 exact HT_retA fun h => ⟨.inr rfl, h⟩
def chR (vars : List Vr) (kind : Int) : RV := if spc vars kind ≤ 4096 then .tup [.one (.c (.sl 5 (encVs (vars.filter fun v => decide (v.kind = kind))))), li (spc vars kind), li 0] else .tup [.one (.c (.lit nilS)), li 0, li 4]
theorem chosen_con (vars : List Vr) (kind : Int) (hkd : 1 ≤ kind ∧ kind ≤ 3) (hv : goodV' vars) (hl : vars.length ≤ 1000000) (d : Nat) : Con Tryz.prog 189 false [lV vars, li kind] (chR vars kind) none d := by
 obtain ⟨S, hS⟩ : ∃ S, vars.filter (fun v => decide (v.kind = kind)) = S := ⟨_, rfl⟩
 obtain ⟨res, hres⟩ : ∃ r, spc vars kind = r := ⟨_, rfl⟩
 unfold chR
 rw [hres, hS]
 unfold spc at hres
 rw [hS] at hres
 refine con_of_HT Tryz.func189 rfl (by kernel_rfl) (Nat.le_of_ble_eq_true rfl) ?_
 simp only [Tryz.f189]
 refine HT_seq <| HT_runA ?_
 refine (HT_cutU [0, 1] (fun (z : Unit) => []) (fun (z : Unit) => []) (fun (z : Unit) => True) ?_ ?_)
 ·
  refine HT_seq <| HT_runA ?_
  refine HT_block <| (HT_cutU [0, 1] (fun (z : Bool) => [(14, .v (lb z))]) (fun (z : Bool) => []) (fun (z : Bool) => z = true) ?_ ?_)
  ·
   refine HT_seq <| HT_runA ?_
   refine (HT_cond rfl (fun h5 => HT_skip ?_) (fun h5 => ?_))
   · try simp only [BN] at h5
     exact ⟨true, rfl, le_mkA (fun n => n) []⟩
   · try simp only [BN] at h5
     refine HT_seq <| HT_runA ?_
     refine (HT_cond rfl (fun h8 => HT_skip ?_) (fun h8 => ?_))
     · try simp only [BN] at h8
       exact ⟨true, rfl, le_mkA (fun n => n) []⟩
     · try simp only [BN] at h8
       refine HT_seq <| HT_runA ?_
       refine (HT_cond rfl (fun h11 => HT_skip ?_) (fun h11 => ?_))
       · try simp only [BN] at h11
         exact ⟨true, rfl, le_mkA (fun n => n) []⟩
       · try simp only [BN] at h11
         refine HT_runA ?_
         have hz : decide (kind = 3) = true := by rw [decide_eq_true_eq]; omega
         exact ⟨true, rfl, le_mkA (fun n => n) []⟩
  rintro _ rfl
  simp only [upS, keepS, insS]
  try simp only [keepS, KN, Nat.reduceBEq, if_true, if_false, ins, Nat.reduceLT]
  refine (HT_cond rfl (fun h15 => HT_skip ?_) (fun h15 => ?_))
  · try simp only [BN] at h15
    exact ⟨(), trivial, le_mkA (fun n => n) []⟩
  · exact absurd h15 (by simp)
 rintro z hz
 simp only [upS, keepS, insS]
 try simp only [keepS, KN, Nat.reduceBEq, if_true, if_false, ins, Nat.reduceLT]
 refine HT_seq <| HT_runA ?_
 refine HT_seq <| HT_seq <| HT_runA ?_
 refine HT_block <| (HT_loopU [1, 19, 20] (fun (x : Nat × List Vr) => [(7, .v (.one (.own 1007))), (21, .v (li x.1))]) (fun (x : Nat × List Vr) => [(1007, .row 88 5 (encVs x.2))]) (fun (x : Nat × List Vr) => x.1 ≤ vars.length ∧ x.2 = (vars.take x.1).filter fun v => decide (v.kind = kind)) (fun (x : Nat × List Vr) => vars.length - x.1) (0, []) ⟨Nat.zero_le _, by simp⟩ ?_ ?_)
 · exact le_mk (fun n => n) [1007] rfl (by simp [upS, keepS]) (by simp [upS, encVs]) (by simp [upS])
 rintro ⟨k, acc⟩ ⟨hk, hJ⟩
 simp only [upS, keepS, insS]
 try simp only [keepS, KN, Nat.reduceBEq, if_true, if_false, ins, Nat.reduceLT]
 simp only at hk hJ
 replace hJ := hJ.symm
 refine HT_seq <| HT_runA ?_
 refine HT_seq <| (HT_cond rfl (fun h23 => HT_skip ?_) (fun h23 => ?_))
 · try simp only [BN] at h23
   have hlt : k < vars.length := by omega
   obtain ⟨v, he, hd⟩ := at_lt hlt
   have hw1 := wrap1 hlt (by omega)
   have hk1 : k + 1 ≤ vars.length := hlt
   have hmem : v ∈ vars := List.mem_of_getElem? he
   have hb := hv v hmem
   have ht := take_snoc he
   generalize hT : (vars.take k).filter (fun v => decide (v.kind = kind)) = T at hJ
   have hal : acc.length ≤ k := by
    rw [← hJ, ← hT]
    exact Nat.le_trans (List.length_filter_le _ _) (by rw [List.length_take]; omega)
   have hroom : room (acc.length + 1) 48 := room_of (by omega) (by omega)
   clear hlt h23 hv
   refine HT_seq <| HT_block <| HT_seq <| HT_runA ?_
   refine HT_seq <| HT_seq <| HT_runA ?_
   refine (HT_cond rfl (fun h26 => ?_) (fun h26 => HT_skip ?_))
   · try simp only [BN] at h26
     have hf : (vars.take (k + 1)).filter (fun v => decide (v.kind = kind)) = acc := by rw [ht, List.filter_append, hT, hJ, List.filter_cons_of_neg (by simpa using h26)]; simp
     clear hS
     refine (HT_exit ?_)
     refine HT_runA ?_
     exact ⟨(k + 1, acc), ⟨hk1, hf.symm⟩, by simp only; omega, le_mkA (fun n => n) []⟩
   · try simp only [BN] at h26
     have hf : (vars.take (k + 1)).filter (fun v => decide (v.kind = kind)) = acc ++ [v] := by rw [ht, List.filter_append, hT, hJ, List.filter_cons_of_pos (by simpa using h26)]; simp
     clear hS
     refine HT_seq <| HT_seq <| HT_runA ?_
     refine (HT_cond rfl (fun h30 => ?_) (fun h30 => HT_skip ?_))
     · exfalso
       simp only [Bool.or_eq_true, decide_eq_true_eq] at h30
       omega
     · try simp only [BN] at h30
       refine HT_runA ?_
       refine HT_runA ?_
       exact ⟨(k + 1, acc ++ [v]), ⟨hk1, hf.symm⟩, by simp only; omega, le_mkA (fun n => if n = 1007 then 47 else n) []⟩
 · try simp only [BN] at h23
   have hkl : k = vars.length := by omega
   rw [hkl, List.take_length, hS] at hJ
   subst hJ
   have hSl : S.length ≤ 1000000 := by rw [← hS]; exact Nat.le_trans (List.length_filter_le _ _) hl
   have hSv : ∀ v ∈ S, v.low ≤ v.high ∧ -1048576 ≤ v.low ∧ v.high ≤ 1048576 := fun v h => hv v (by rw [← hS] at h; exact (List.mem_filter.1 h).1)
   clear hS hv hk hl h23 hkl
   refine (HT_exit ?_)
   refine HT_seq <| HT_runA ?_
   refine HT_seq <| HT_seq <| HT_runA ?_
   refine HT_block <| (HT_loopU [7, 49, 50] (fun (x : Nat × Int) => [(10, .v (li x.2)), (51, .v (li x.1))]) (fun (x : Nat × Int) => [(1007, .row 88 5 (encVs S))]) (fun (x : Nat × Int) => x.1 ≤ S.length ∧ prV (S.drop x.1) x.2 = res ∧ 1 ≤ x.2 ∧ x.2 ≤ 4096) (fun (x : Nat × Int) => S.length - x.1) (0, 1) ⟨Nat.zero_le _, hres, by decide, by decide⟩ ?_ ?_)
   · exact le_mkA (fun n => n) []
   rintro ⟨k2, n⟩ ⟨hk2, hJ, hn1, hn2⟩
   simp only [upS, keepS, insS]
   try simp only [keepS, KN, Nat.reduceBEq, if_true, if_false, ins, Nat.reduceLT]
   simp only at hk2 hJ hn1 hn2
   clear hres
   refine HT_seq <| HT_runA ?_
   refine HT_seq <| (HT_cond rfl (fun h40 => HT_skip ?_) (fun h40 => ?_))
   · try simp only [BN] at h40
     have hlt : k2 < S.length := by omega
     obtain ⟨v, he, hd⟩ := at_lt hlt
     have hw1 := wrap1 hlt (by omega)
     have hk1 : k2 + 1 ≤ S.length := hlt
     have hb := hSv v (List.mem_of_getElem? he)
     have hs : 1 ≤ sz v ∧ sz v ≤ 2097153 := by unfold sz; omega
     have hm := mul_in ⟨hn1, hn2⟩ hs
     have hw4 : IntKind.i64.wrap (n * sz v) = n * sz v := wrap_in (by omega) (by omega)
     rw [hd] at hJ
     simp only [prV] at hJ
     clear hlt h40
     refine HT_seq <| HT_block <| HT_seq <| HT_runA ?_
     refine HT_seq <| (HT_runcA [⟨true, .v (li (sz v)), none⟩] ?_ ?_)
     · first | exact sizeD_con v ⟨hb.2.1, hb.1, hb.2.2⟩ _ | exact trivial | simpa [*] using sizeD_con v ⟨hb.2.1, hb.1, hb.2.2⟩ _
     refine HT_seq <| HT_runA ?_
     refine (HT_cond rfl (fun h44 => ?_) (fun h44 => HT_skip ?_))
     · try simp only [BN] at h44
       rw [if_pos h44] at hJ
       subst hJ
       refine HT_seq <| HT_runA ?_
       exact HT_ret ⟨.inr rfl, _, le_refl _, ⟨⟨_, by simp; rfl, by simp [resR]⟩, by simp, fun h => by cases h⟩⟩
     · try simp only [BN] at h44
       rw [if_neg h44] at hJ
       refine HT_runA ?_
       exact ⟨(k2 + 1, n * sz v), ⟨hk1, hJ, hm.1, by simp only; omega⟩, by simp only; omega, le_mkA (fun n => n) []⟩
   · try simp only [BN] at h40
     have hkl : k2 = S.length := by omega
     rw [hkl, List.drop_length] at hJ
     simp only [prV] at hJ
     subst hJ
     refine (HT_exit ?_)
     refine HT_seq <| HT_runA ?_
     exact HT_ret ⟨.inr rfl, _, le_frz 1007 rfl, ⟨⟨_, by simp; rfl, by simp [resR, hn2]⟩, by simp, fun h => by cases h⟩⟩
theorem spaceP_con (vars : List Vr) (kind : Int) (hkd : 1 ≤ kind ∧ kind ≤ 3) (hv : goodV' vars) (hl : vars.length ≤ 1000000) (d : Nat) : Con Tryz.prog 175 true [lV vars, li kind]
  (.tup [li (if spc vars kind ≤ 4096 then spc vars kind else 0), li (if spc vars kind ≤ 4096 then 0 else 4)]) none d := by
 have c := chosen_con vars kind hkd hv hl
 unfold chR at c
 obtain ⟨res, hres⟩ : ∃ r, spc vars kind = r := ⟨_, rfl⟩
 rw [hres] at c ⊢
 clear hres
 by_cases h : res ≤ 4096
 · rw [if_pos h] at c
   rw [if_pos h, if_pos h]
   refine con_of_HT Tryz.func175 rfl (by kernel_rfl) (Nat.le_of_ble_eq_true rfl) ?_
   simp only [Tryz.f175]
   refine HT_seq <| HT_runA ?_
   refine HT_seq <| (HT_runcA [⟨false, .tup [.one (.c (.sl 5 (encVs (vars.filter fun v => decide (v.kind = kind))))), li res, li 0], none⟩] ?_ ?_)
   · first | exact c _ | exact trivial | simpa [*] using c _
   refine HT_seq <| HT_runA ?_
   exact HT_retA fun h => ⟨.inr rfl, h⟩
 · rw [if_neg h] at c
   rw [if_neg h, if_neg h]
   refine con_of_HT Tryz.func175 rfl (by kernel_rfl) (Nat.le_of_ble_eq_true rfl) ?_
   simp only [Tryz.f175]
   refine HT_seq <| HT_runA ?_
   refine HT_seq <| (HT_runcA [⟨false, .tup [.one (.c (.lit nilS)), li 0, li 4], none⟩] ?_ ?_)
   · first | exact c _ | exact trivial | simpa [*] using c _
   refine HT_seq <| HT_runA ?_
   exact HT_retA fun h => ⟨.inr rfl, h⟩
end Go.Proofs.YtfjidddhehckoaaGreat

namespace Go.Proofs.YtfjidddhehckoaaGreat
open Go Go.Hl
theorem idxV_con (l : List Vr) (g : FuncId) (cap : List CD) (p : Vr → Bool) (hl : l.length ≤ 1000000000) (hp : ∀ v ∈ l, ∀ d, Con Tryz.prog g true (aV v :: cap.map fun c => .one (.c c)) (.v (lb (p v))) none d) (d : Nat) :
  ∃ r : Int, (∀ d, Con Tryz.prog 188 true [lV l, .one (.c (.fn g cap))] (.v (li r)) none d) ∧ (0 ≤ r ↔ l.any p = true) := by
 let rec_ : List Vr → Int → Int := fun l k => match l.findIdx? p with
  | some i => k + i
  | none => -1
 refine ⟨(match l.findIdx? p with | some i => (i : Int) | none => -1), fun d => ?_, ?_⟩
 · have hstep : ∀ k : Nat, (∀ j : Nat, j < k → ∀ v, l[j]? = some v → p v = false) → ∀ v, l[k]? = some v → p v = true → l.findIdx? p = some k := by
    intro k hno v hv hpv
    rw [List.findIdx?_eq_some_iff_getElem]
    have hk : k < l.length := (List.getElem?_eq_some_iff.1 hv).1
    refine ⟨hk, ?_, fun j hj => ?_⟩
    · simp only [List.getElem?_eq_getElem hk, Option.some.injEq] at hv
      rw [hv]; exact hpv
    · have := hno j hj l[j] (by simp)
      simp [this]
   have hnone : (∀ j : Nat, j < l.length → ∀ v, l[j]? = some v → p v = false) → l.findIdx? p = none := by
    intro hno
    rw [List.findIdx?_eq_none_iff]
    intro v hv
    obtain ⟨j, hj⟩ := List.mem_iff_getElem?.1 hv
    exact hno j (List.getElem?_eq_some_iff.1 hj).1 v hj
   clear rec_
   refine con_of_HT Tryz.func188 rfl (by kernel_rfl) (Nat.le_of_ble_eq_true rfl) ?_
   simp only [Tryz.f188]
   refine HT_seq <| HT_runA ?_
   refine HT_seq <| HT_seq <| HT_runA ?_
   refine HT_block <| (HT_loopU [0, 1, 7] (fun (x : Nat) => [(8, .v (li x))]) (fun (x : Nat) => []) (fun (x : Nat) => x ≤ l.length ∧ ∀ j : Nat, j < x → ∀ v, l[j]? = some v → p v = false) (fun (x : Nat) => l.length - x) (0 : Nat) ⟨Nat.zero_le _, fun j hj => absurd hj (Nat.not_lt_zero j)⟩ ?_ ?_)
   · exact le_mkA (fun n => n) []
   rintro k ⟨hk, hJ⟩
   simp only [upS, keepS, insS]
   try simp only [keepS, KN, Nat.reduceBEq, if_true, if_false, ins, Nat.reduceLT]
   refine HT_seq <| HT_runA ?_
   refine HT_seq <| (HT_cond rfl (fun h4 => HT_skip ?_) (fun h4 => ?_))
   · try simp only [BN] at h4
     have hlt : k < l.length := by omega
     obtain ⟨v, he, hd⟩ := at_lt hlt
     have hw1 := wrap1 hlt (by omega)
     have hk1 : k + 1 ≤ l.length := hlt
     have hpv := hp v (List.mem_of_getElem? he)
     have hs := hstep k hJ v he
     clear hlt h4 hstep hnone hp
     refine HT_seq <| HT_block <| HT_seq <| HT_runA ?_
     refine HT_seq <| (HT_runcA [⟨true, .v (lb (p v)), none⟩] ?_ ?_)
     · first | exact hpv _ | exact trivial | simpa [*] using hpv _
     refine (HT_cond rfl (fun h7 => ?_) (fun h7 => HT_skip ?_))
     · try simp only [BN] at h7
       rw [hs h7]
       refine HT_seq <| HT_runA ?_
       exact HT_retA fun h => ⟨.inr rfl, h⟩
     · try simp only [BN] at h7
       refine HT_runA ?_
       exact ⟨k + 1, ⟨hk1, fun j hj w hw => (Nat.lt_succ_iff_lt_or_eq.1 hj).elim (fun h => hJ j h w hw) (fun e => by subst e; rw [he] at hw; cases hw; exact h7)⟩, by omega, le_mkA (fun n => n) []⟩
   · try simp only [BN] at h4
     rw [hnone fun j hj => hJ j (by omega)]
     refine (HT_exit ?_)
     refine HT_seq <| HT_runA ?_
     exact HT_retA fun h => ⟨.inr rfl, h⟩
 · rw [List.any_eq]
   cases h : l.findIdx? p with
   | none =>
     rw [List.findIdx?_eq_none_iff] at h
     simp only [decide_eq_true_eq]
     constructor
     · intro h; omega
     · rintro ⟨v, hv, hpv⟩
       have := h v hv
       rw [hpv] at this
       cases this
   | some i =>
     rw [List.findIdx?_eq_some_iff_getElem] at h
     obtain ⟨hi, hpi, _⟩ := h
     simp only [decide_eq_true_eq]
     exact ⟨fun _ => ⟨l[i], List.getElem_mem _, hpi⟩, fun _ => by omega⟩
theorem conV_con (l : List Vr) (g : FuncId) (cap : List CD) (p : Vr → Bool) (hl : l.length ≤ 1000000000) (hp : ∀ v ∈ l, ∀ d, Con Tryz.prog g true (aV v :: cap.map fun c => .one (.c c)) (.v (lb (p v))) none d) (d : Nat) :
  Con Tryz.prog 173 true [lV l, .one (.c (.fn g cap))] (.v (lb (l.any p))) none d := by
 obtain ⟨r, hr, hi⟩ := idxV_con l g cap p hl hp 0
 have hd : decide (0 ≤ r) = l.any p := by rw [Bool.eq_iff_iff, decide_eq_true_eq]; exact hi
 clear hi hp
 refine con_of_HT Tryz.func173 rfl (by kernel_rfl) (Nat.le_of_ble_eq_true rfl) ?_
 simp only [Tryz.f173]
 refine HT_seq <| HT_runA ?_
 refine HT_seq <| (HT_runcA [⟨true, .v (li r), none⟩] ?_ ?_)
 · first | exact hr _ | exact trivial | simpa [*] using hr _
 exact HT_retA fun h => ⟨.inr rfl, h⟩
theorem sameV_con (w v : Vr) (d : Nat) : Con Tryz.prog 171 true [aV w, .one (.c (.ptr v.enc))] (.v (lb (decide (w.name = v.name)))) none d := by
 refine con_of_HT Tryz.func171 rfl (by kernel_rfl) (Nat.le_of_ble_eq_true rfl) ?_
 simp only [Tryz.f171]
 refine HT_seq <| HT_runA ?_
 refine HT_seq <| HT_runA ?_
 exact HT_retA fun h => ⟨.inr rfl, h⟩
end Go.Proofs.YtfjidddhehckoaaGreat

namespace Go.Proofs.YtfjidddhehckoaaGreat
open Go Go.Hl
def kindBad (v : Vr) : Prop := boundedB v.low v.high = false ∨ (v.kind ≠ 0 ∧ v.init ≠ 0) ∨ (v.kind = 0 ∧ (v.init < v.low ∨ v.high < v.init))
instance (v : Vr) : Decidable (kindBad v) := by unfold kindBad; exact inferInstance
def vcode (seen : List Vr) (v : Vr) : Int :=
 if nameB v.name = false then 7 else if (seen.any fun w => decide (w.name = v.name)) = true then 8 else if v.kind < 0 ∨ 3 < v.kind then 1 else if kindBad v then 3 else 0
def vcs : List Vr → List Vr → Int
 | _, [] => 0
 | seen, v :: l => if vcode seen v = 0 then vcs (seen ++ [v]) l else vcode seen v
def badK (vars : List Vr) (kind : Int) : Bool := decide (4096 < spc vars kind) || (decide (kind = 3) && decide (256 < spc vars kind))
def varsC (vars : List Vr) : Int := if vcs [] vars = 0 then (if ([1, 2, 3].any (badK vars)) = true then 4 else 0) else vcs [] vars
theorem vcs_good : ∀ (l seen : List Vr), vcs seen l = 0 → goodV l
 | [], _, _, v, hv => by cases hv
 | w :: l, seen, h, v, hv => by
   simp only [vcs] at h
   split at h
   · rename_i h0
     rcases List.mem_cons.1 hv with rfl | hv
     · unfold vcode at h0
       split at h0
       · cases h0
       · split at h0
         · cases h0
         · split at h0
           · cases h0
           · split at h0
             · cases h0
             · rename_i hk
               unfold kindBad at hk
               have hb : boundedB v.low v.high = true := by
                cases hb : boundedB v.low v.high with
                | true => rfl
                | false => exact absurd (.inl hb) hk
               simp only [boundedB, Bool.and_eq_true, decide_eq_true_eq] at hb
               omega
     · exact vcs_good l _ h v hv
   · rename_i h0
     exact absurd h h0
def spRes (vars : List Vr) : List Int → Int
 | [] => 0
 | k :: l => if badK vars k = true then 4 else spRes vars l
theorem spRes_any (vars : List Vr) : ∀ l : List Int, spRes vars l = if l.any (badK vars) = true then 4 else 0
 | [] => by simp [spRes]
 | k :: l => by
   simp only [spRes, List.any_cons, spRes_any vars l]
   by_cases hb : badK vars k = true
   · simp [hb]
   · simp only [Bool.not_eq_true] at hb
     simp [hb]
theorem varsP_con (vars : List Vr) (hl : vars.length ≤ 1000000) (d : Nat) : Con Tryz.prog 146 true [lV vars] (.v (li (varsC vars))) none d := by
 obtain ⟨res, hres⟩ : ∃ r, varsC vars = r := ⟨_, rfl⟩
 rw [hres]
 obtain ⟨cd, hcd⟩ : ∃ r, vcs [] vars = r := ⟨_, rfl⟩
 have hgood : cd = 0 → goodV' vars := fun h => vcs_good vars [] (hcd.trans h)
 unfold varsC at hres
 rw [hcd] at hres
 refine con_of_HT Tryz.func146 rfl (by kernel_rfl) (Nat.le_of_ble_eq_true rfl) ?_
 simp only [Tryz.f146]
 refine HT_seq <| HT_runA ?_
 refine HT_seq <| HT_seq <| HT_runA ?_
 refine HT_block <| (HT_loopU [0, 10, 11] (fun (x : Nat) => [(12, .v (li x))]) (fun (x : Nat) => []) (fun (x : Nat) => x ≤ vars.length ∧ vcs (vars.take x) (vars.drop x) = cd) (fun (x : Nat) => vars.length - x) (0 : Nat) ⟨Nat.zero_le _, hcd⟩ ?_ ?_)
 · exact le_mkA (fun n => n) []
 rintro k ⟨hk, hJ⟩
 simp only [upS, keepS, insS]
 try simp only [keepS, KN, Nat.reduceBEq, if_true, if_false, ins, Nat.reduceLT]
 clear hcd
 refine HT_seq <| HT_runA ?_
 refine HT_seq <| (HT_cond rfl (fun h4 => HT_skip ?_) (fun h4 => ?_))
 · try simp only [BN] at h4
   have hlt : k < vars.length := by omega
   obtain ⟨v, he, hd⟩ := at_lt hlt
   have hw1 := wrap1 hlt (by omega)
   have hk1 : k + 1 ≤ vars.length := hlt
   have hkl : (vars.take k).length ≤ 1000000000 := by rw [List.length_take]; omega
   rw [hd] at hJ
   simp only [vcs] at hJ
   rw [← take_snoc he] at hJ
   clear hlt h4 hgood
   refine HT_seq <| HT_block <| HT_seq <| HT_runA ?_
   refine HT_seq <| HT_runA ?_
   refine HT_block <| HT_seq <| (HT_runcA [⟨true, .v (lb (nameB v.name)), none⟩] ?_ ?_)
   · first | exact nameP_con _ _ | exact trivial | simpa [*] using nameP_con _ _
   refine (HT_cond rfl (fun h8 => ?_) (fun h8 => ?_))
   · try simp only [BN] at h8
     have hc : vcode (vars.take k) v = 7 := by unfold vcode; rw [if_pos h8]
     rw [hc, if_neg (by decide)] at hJ
     subst hJ
     rw [if_neg (by decide)] at hres
     subst hres
     refine HT_seq <| HT_runA ?_
     exact HT_retA fun h => ⟨.inr rfl, h⟩
   · try simp only [BN] at h8
     refine HT_seq <| (HT_runcA [⟨true, .v (lb ((vars.take k).any fun w => decide (w.name = v.name))), none⟩] ?_ ?_)
     · first | exact conV_con (vars.take k) 171 [.ptr v.enc] (fun w => decide (w.name = v.name)) hkl (fun w _ d => sameV_con w v d) _ | exact trivial | simpa [*] using conV_con (vars.take k) 171 [.ptr v.enc] (fun w => decide (w.name = v.name)) hkl (fun w _ d => sameV_con w v d) _
     refine (HT_cond rfl (fun h12 => ?_) (fun h12 => ?_))
     · try simp only [BN] at h12
       have hc : vcode (vars.take k) v = 8 := by unfold vcode; rw [if_neg (by simp [h8]), if_pos h12]
       rw [hc, if_neg (by decide)] at hJ
       subst hJ
       rw [if_neg (by decide)] at hres
       subst hres
       refine HT_seq <| HT_runA ?_
       exact HT_retA fun h => ⟨.inr rfl, h⟩
     · try simp only [BN] at h12
       refine HT_seq <| HT_runA ?_
       refine (HT_cond rfl (fun h16 => ?_) (fun h16 => ?_))
       · try simp only [BN] at h16
         have hc : vcode (vars.take k) v = 1 := by unfold vcode; rw [if_neg (by simp [h8]), if_neg (by simp [h12]), if_pos h16]
         rw [hc, if_neg (by decide)] at hJ
         subst hJ
         rw [if_neg (by decide)] at hres
         subst hres
         refine HT_seq <| HT_runA ?_
         exact HT_retA fun h => ⟨.inr rfl, h⟩
       · try simp only [BN] at h16
         have hc : vcode (vars.take k) v = if kindBad v then 3 else 0 := by unfold vcode; rw [if_neg (by simp [h8]), if_neg (by simp [h12]), if_neg (by omega)]
         refine (HT_cutU [0, 10, 11, 12] (fun (z : Bool) => [(38, .v (lb z))]) (fun (z : Bool) => []) (fun (z : Bool) => z = decide (kindBad v)) ?_ ?_)
         ·
          refine HT_seq <| (HT_runcA [⟨true, .v (lb (boundedB v.low v.high)), none⟩] ?_ ?_)
          · first | exact boundedP_con _ _ _ | exact trivial | simpa [*] using boundedP_con _ _ _
          refine (HT_cond rfl (fun h21 => HT_skip ?_) (fun h21 => ?_))
          · try simp only [BN] at h21
            exact ⟨true, (decide_eq_true (.inl (by simpa using h21))).symm, le_mkA (fun n => n) []⟩
          · try simp only [BN] at h21
            refine HT_seq <| HT_runA ?_
            refine (HT_cond rfl (fun h24 => HT_skip ?_) (fun h24 => ?_))
            · try simp only [BN] at h24
              exact ⟨true, (decide_eq_true (.inr (.inl (by simpa using h24)))).symm, le_mkA (fun n => n) []⟩
            · try simp only [BN] at h24
              have hz : decide (kindBad v) = (decide (v.kind = 0) && (decide (v.init < v.low) || decide (v.high < v.init))) := by
               rw [Bool.eq_iff_iff, decide_eq_true_eq]
               unfold kindBad
               simp only [decide_eq_true_eq, Bool.and_eq_true, Bool.or_eq_true]
               have h21' : boundedB v.low v.high = true := by simpa using h21
               rw [h21']
               constructor
               · rintro (h | h | h)
                 · cases h
                 · exfalso; omega
                 · exact h
               · exact fun h => .inr (.inr h)
              clear h21 h24
              refine HT_runA ?_
              exact ⟨(decide (v.kind = 0) && (decide (v.init < v.low) || decide (v.high < v.init))), hz.symm, le_mkA (fun n => n) []⟩
         rintro _ rfl
         simp only [upS, keepS, insS]
         try simp only [keepS, KN, Nat.reduceBEq, if_true, if_false, ins, Nat.reduceLT]
         refine (HT_cond rfl (fun h28 => ?_) (fun h28 => HT_skip ?_))
         · try simp only [BN] at h28
           rw [if_pos h28] at hc
           rw [hc, if_neg (by decide)] at hJ
           subst hJ
           rw [if_neg (by decide)] at hres
           subst hres
           refine HT_seq <| HT_runA ?_
           exact HT_retA fun h => ⟨.inr rfl, h⟩
         · try simp only [BN] at h28
           rw [if_neg h28] at hc
           rw [hc, if_pos rfl] at hJ
           refine HT_runA ?_
           exact ⟨k + 1, ⟨hk1, hJ⟩, by omega, le_mkA (fun n => n) []⟩
 · try simp only [BN] at h4
   have hkl : k = vars.length := by omega
   rw [hkl, List.drop_length] at hJ
   simp only [vcs] at hJ
   have hv := hgood hJ.symm
   rw [if_pos hJ.symm, ← spRes_any] at hres
   clear hgood hJ hkl hk h4
   obtain ⟨L, hL⟩ : ∃ L : List Int, L = [1, 2, 3] := ⟨_, rfl⟩
   have hL3 : L.length = 3 := by rw [hL]; rfl
   have hLi : ∀ k ∈ L, 1 ≤ k ∧ k ≤ 3 := by rw [hL]; decide
   rw [← hL] at hres
   refine (HT_exit ?_)
   refine HT_seq <| HT_seq <| HT_runA ?_
   refine HT_block <| (HT_loopU [0, 71, 72] (fun (x : Nat) => [(73, .v (li x))]) (fun (x : Nat) => [(71, .row 86 1 (encIs L))]) (fun (x : Nat) => x ≤ 3 ∧ spRes vars (L.drop x) = res) (fun (x : Nat) => 3 - x) (0 : Nat) ⟨Nat.zero_le _, hres⟩ ?_ ?_)
   · exact le_mk (fun n => n) [] rfl (by simp [*, upS, keepS]) (by simp [upS, encIs, hL]) (by simp [upS])
   rintro k2 ⟨hk2, hJ2⟩
   simp only [upS, keepS, insS]
   try simp only [keepS, KN, Nat.reduceBEq, if_true, if_false, ins, Nat.reduceLT]
   clear hres hL
   refine HT_seq <| HT_runA ?_
   refine HT_seq <| (HT_cond rfl (fun h36 => HT_skip ?_) (fun h36 => ?_))
   · try simp only [BN] at h36
     have hlt : k2 < L.length := by omega
     obtain ⟨kd, he, hd⟩ := at_lt hlt
     have hw1 := wrap1 hlt (by omega)
     have hk1 : k2 + 1 ≤ 3 := by omega
     have hkd := hLi kd (List.mem_of_getElem? he)
     have hsp := prV_in hv (vars.filter fun v => decide (v.kind = kd)) 1 (fun v h => (List.mem_filter.1 h).1) (by decide)
     have hsp' : 1 ≤ spc vars kd ∧ spc vars kd ≤ 4097 := hsp
     have c := spaceP_con vars kd hkd hv hl
     rw [hd] at hJ2
     simp only [spRes] at hJ2
     obtain ⟨sv, hsv⟩ : ∃ s, spc vars kd = s := ⟨_, rfl⟩
     have hbk : badK vars kd = (decide (4096 < sv) || (decide (kd = 3) && decide (256 < sv))) := by unfold badK; rw [hsv]
     rw [hsv] at c hsp'
     clear hlt h36 hsp hsv hLi hv
     refine HT_seq <| HT_block <| HT_seq <| HT_runA ?_
     refine HT_seq <| (HT_runcA [⟨true, .tup [li (if sv ≤ 4096 then sv else 0), li (if sv ≤ 4096 then 0 else 4)], none⟩] ?_ ?_)
     · first | exact c _ | exact trivial | simpa [*] using c _
     refine HT_seq <| HT_runA ?_
     refine (HT_cond rfl (fun h40 => ?_) (fun h40 => HT_skip ?_))
     · try simp only [BN] at h40
       have hb : badK vars kd = true := by
        rw [hbk]
        by_cases h : sv ≤ 4096
        · simp [h] at h40
          simp [h40]
        · simp; omega
       rw [if_pos hb] at hJ2
       subst hJ2
       refine HT_seq <| HT_runA ?_
       exact HT_retA fun h => ⟨.inr rfl, h⟩
     · try simp only [BN] at h40
       have hb : badK vars kd = false := by
        rw [hbk]
        by_cases h : sv ≤ 4096
        · simp [h] at h40
          simp
          omega
        · simp [h] at h40
       rw [hb, if_neg (by decide)] at hJ2
       refine HT_runA ?_
       exact ⟨k2 + 1, ⟨hk1, hJ2⟩, by omega, le_mkA (fun n => n) []⟩
   · try simp only [BN] at h36
     have hkl : k2 = L.length := by omega
     rw [hkl, List.drop_length] at hJ2
     simp only [spRes] at hJ2
     subst hJ2
     refine (HT_exit ?_)
     refine HT_seq <| HT_runA ?_
     exact HT_retA fun h => ⟨.inr rfl, h⟩
end Go.Proofs.YtfjidddhehckoaaGreat

namespace Go.Proofs.YtfjidddhehckoaaGreat
open Go Go.Hl
theorem St.lists {P : List St → Prop} (h : ∀ l, (∀ s ∈ l, P s.then_ ∧ P s.else_) → P l) : ∀ l, P l := by
 have key : ∀ s : St, P s.then_ ∧ P s.else_ := by
  intro s
  induction s using St.ind with
  | h d c v n t a b bs iha ihb => exact ⟨h a iha, h b ihb⟩
 exact fun l => h l fun s _ => key s
theorem nodesS_mem {l : List St} {s : St} (hs : s ∈ l) : 1 + s.term.nodes + nodesS s.then_ + nodesS s.else_ ≤ nodesS l := by
 induction l with
 | nil => cases hs
 | cons x l ih =>
   simp only [nodesS]
   rcases List.mem_cons.1 hs with rfl | h
   · obtain ⟨d, c, v, n, t, a, b, bs⟩ := s
     simp only [St.nodes, St.term, St.then_, St.else_]
     omega
   · have := ih h; omega
def heldI (n lo hi : Int) : Int := if n < lo then lo else if hi < n then hi else n
theorem clamp_con (n lo hi : Int) (h : lo ≤ hi) (d : Nat) : Con Tryz.prog 185 true [li n, li lo, li hi] (.v (li (heldI n lo hi))) none d := by
 have hz : heldI n lo hi = if hi < (if n < lo then lo else n) then hi else (if n < lo then lo else n) := by
  unfold heldI
  (repeat' split) <;> omega
 refine con_of_HT Tryz.func185 rfl (by kernel_rfl) (Nat.le_of_ble_eq_true rfl) ?_
 simp only [Tryz.f185]
 refine HT_seq <| HT_runA ?_
 refine HT_seq <| HT_runA ?_
 exact HT_retA fun h => ⟨.inr rfl, h⟩
theorem held_in {n lo hi : Int} (h : lo ≤ hi) : lo ≤ heldI n lo hi ∧ heldI n lo hi ≤ hi := by
 unfold heldI
 (repeat' split) <;> omega
def onceI (m c : Int) : Int := if 0 < m then c else 0
mutual
def spS : St → Int × Int
 | .mk d c _ n (.mk o tn _) a b _ =>
   if d = 3 then (heldI c 0 67108865 + mn (spL a (0, 0)).1 (spL b (0, 0)).1, heldI c 0 67108865 + mx (spL a (0, 0)).2 (spL b (0, 0)).2)
   else if d = 4 then
    (if o ≠ 0 then (onceI (heldI n 0 4096) (heldI c 0 67108865), heldI n 0 4096 * (heldI c 0 67108865 + (spL a (0, 0)).2))
     else if tn ≠ 0 then (heldI n 0 4096 * (heldI c 0 67108865 + (spL a (0, 0)).1), heldI n 0 4096 * (heldI c 0 67108865 + (spL a (0, 0)).2))
     else (onceI (heldI n 0 4096) (heldI c 0 67108865), onceI (heldI n 0 4096) (heldI c 0 67108865)))
   else (heldI c 0 67108865, heldI c 0 67108865)
def spL : List St → Int × Int → Int × Int
 | [], p => p
 | s :: l, p => spL l (mn (p.1 + (spS s).1) 67108865, mn (p.2 + (spS s).2) 67108865)
end
theorem mulT {m z : Int} (hm : 0 ≤ m ∧ m ≤ 4096) (hz : 0 ≤ z ∧ z ≤ 134217730) : 0 ≤ m * z ∧ m * z ≤ 549755822080 := by
 have h1 : m.natAbs * z.natAbs ≤ 4096 * 134217730 := Nat.mul_le_mul (by omega) (by omega)
 rw [← Int.natAbs_mul] at h1
 have h2 := Int.mul_nonneg hm.1 hz.1
 omega
def inT (p : Int × Int) : Prop := 0 ≤ p.1 ∧ p.1 ≤ 67108865 ∧ 0 ≤ p.2 ∧ p.2 ≤ 67108865
def inU (p : Int × Int) : Prop := 0 ≤ p.1 ∧ p.1 ≤ 549755822080 ∧ 0 ≤ p.2 ∧ p.2 ≤ 549755822080
theorem inT0 : inT (0, 0) := ⟨by decide, by decide, by decide, by decide⟩
theorem once_in {m c : Int} (hc : 0 ≤ c ∧ c ≤ 67108865) : 0 ≤ onceI m c ∧ onceI m c ≤ 67108865 := by
 unfold onceI
 split <;> omega
theorem mn_in {a : Int} (h : 0 ≤ a) : 0 ≤ mn a 67108865 ∧ mn a 67108865 ≤ 67108865 := by
 unfold mn
 split <;> omega
mutual
theorem spS_in : ∀ s : St, inU (spS s)
 | .mk d c v n (.mk o tn ks) a b bs => by
   have ha := spL_in a (0, 0) inT0
   have hb := spL_in b (0, 0) inT0
   have hc := held_in (n := c) (lo := 0) (hi := 67108865) (by decide)
   have hn := held_in (n := n) (lo := 0) (hi := 4096) (by decide)
   have ho := once_in (m := heldI n 0 4096) hc
   unfold inT at ha hb
   have h1 := mulT hn (z := heldI c 0 67108865 + (spL a (0, 0)).1) (by omega)
   have h2 := mulT hn (z := heldI c 0 67108865 + (spL a (0, 0)).2) (by omega)
   unfold inU
   simp only [spS]
   split
   · simp only [mn, mx]
     (repeat' split) <;> omega
   · split
     · split
       · simp only; omega
       · split
         · simp only; omega
         · simp only; omega
     · simp only; omega
theorem spL_in : ∀ (l : List St) (p : Int × Int), inT p → inT (spL l p)
 | [], p, h => h
 | s :: l, p, h => by
   have hs := spS_in s
   simp only [spL]
   refine spL_in l _ ?_
   unfold inT inU at *
   have h1 := mn_in (a := p.1 + (spS s).1) (by omega)
   have h2 := mn_in (a := p.2 + (spS s).2) (by omega)
   simp only
   omega
end
theorem spanP_con (l : List St) : nodesS l ≤ 1000000000 → ∀ d : Nat, Con Tryz.prog 159 true [lS l] (.tup [li (spL l (0, 0)).1, li (spL l (0, 0)).2]) none d := by
 revert l
 apply St.lists
 intro l ih hn d
 have hlen := len_nodesS l
 obtain ⟨res, hres⟩ : ∃ r, spL l (0, 0) = r := ⟨_, rfl⟩
 rw [hres]
 refine con_of_HT Tryz.func159 rfl (by kernel_rfl) (Nat.le_of_ble_eq_true rfl) ?_
 simp only [Tryz.f159]
 refine HT_seq <| HT_runA ?_
 refine HT_seq <| HT_seq <| HT_runA ?_
 refine HT_block <| (HT_loopU [17, 18] (fun (x : Nat × Int × Int) => [(2, .v (li x.2.1)), (3, .v (li x.2.2)), (19, .v (li x.1))]) (fun (x : Nat × Int × Int) => []) (fun (x : Nat × Int × Int) => x.1 ≤ l.length ∧ spL (l.drop x.1) x.2 = res ∧ inT x.2) (fun (x : Nat × Int × Int) => l.length - x.1) (0, 0, 0) ⟨Nat.zero_le _, hres, inT0⟩ ?_ ?_)
 · exact le_mkA (fun n => n) []
 rintro ⟨k, m, q⟩ ⟨hk, hJ, hin⟩
 simp only [upS, keepS, insS]
 try simp only [keepS, KN, Nat.reduceBEq, if_true, if_false, ins, Nat.reduceLT]
 simp only at hk hJ
 unfold inT at hin
 simp only at hin
 clear hres
 refine HT_seq <| HT_runA ?_
 refine HT_seq <| (HT_cond rfl (fun h4 => HT_skip ?_) (fun h4 => ?_))
 · try simp only [BN] at h4
   have hlt : k < l.length := by omega
   obtain ⟨s, he, hd⟩ := at_lt hlt
   have hmem : s ∈ l := List.mem_of_getElem? he
   have hnm := nodesS_mem hmem
   have iha := fun h => (ih s hmem).1 h
   have ihb := fun h => (ih s hmem).2 h
   have hw1 := wrap1 hlt (by omega)
   have hk1 : k + 1 ≤ l.length := hlt
   rw [hd] at hJ
   simp only [spL] at hJ
   have hsin := spS_in s
   obtain ⟨pq, hpq⟩ : ∃ pq, spS s = pq := ⟨_, rfl⟩
   rw [hpq] at hJ hsin
   obtain ⟨sd, sc, sv, sn, ⟨so, stn, sks⟩, sa, sb, sbs⟩ := s
   simp only [St.then_, St.else_, St.term] at iha ihb hnm
   have ca := iha (by omega)
   have cb := ihb (by omega)
   have he' := get_encS he
   simp only [St.enc, Tm.enc, List.cons_append, List.nil_append] at he'
   simp only [spS] at hpq
   have hxa := spL_in sa (0, 0) inT0
   have hxb := spL_in sb (0, 0) inT0
   obtain ⟨xa, hxa'⟩ : ∃ x, spL sa (0, 0) = x := ⟨_, rfl⟩
   obtain ⟨xb, hxb'⟩ : ∃ x, spL sb (0, 0) = x := ⟨_, rfl⟩
   have hci := held_in (n := sc) (lo := 0) (hi := 67108865) (by decide)
   have hni := held_in (n := sn) (lo := 0) (hi := 4096) (by decide)
   obtain ⟨cc, hcc⟩ : ∃ x, heldI sc 0 67108865 = x := ⟨_, rfl⟩
   obtain ⟨nn, hnn⟩ : ∃ x, heldI sn 0 4096 = x := ⟨_, rfl⟩
   have c1 := clamp_con sc 0 67108865 (by decide)
   have c2 := clamp_con sn 0 4096 (by decide)
   rw [hxa'] at ca hxa hpq
   rw [hxb'] at cb hxb hpq
   rw [hcc] at c1 hci hpq
   rw [hnn] at c2 hni hpq
   unfold inT at hxa hxb
   unfold inU at hsin
   clear hlt h4 iha ihb ih hxa' hxb' hcc hnn hmem hnm hd he
   refine HT_seq <| HT_block <| HT_seq <| HT_runA ?_
   refine HT_seq <| (HT_drunc [⟨true, .v (li cc), none⟩, ⟨true, .v (li nn), none⟩] (by kernel_rfl) (by kernel_rfl) (by rfl) (by simp [*]; first | exact ⟨rfl, Iff.rfl⟩ | exact ⟨rfl, trivial⟩ | rfl) ?_ ?_)
   · first | exact ⟨c1 _, c2 _⟩ | exact trivial | (repeat' first | exact trivial | exact c1 _ | exact c2 _ | apply And.intro)
   refine HT_seq <| HT_runA ?_
   refine (HT_cutU [2, 3, 17, 18, 19] (fun (z : Unit) => [(8, .v (li pq.1)), (9, .v (li pq.2))]) (fun (z : Unit) => []) (fun (z : Unit) => True) ?_ ?_)
   ·
    refine HT_seq <| HT_runA ?_
    refine HT_block <| HT_seq <| HT_runA ?_
    refine (HT_cond rfl (fun h11 => ?_) (fun h11 => ?_))
    · try simp only [BN] at h11
      rw [if_pos h11] at hpq
      subst hpq
      have hmn : (if xb.1 < xa.1 then xb.1 else xa.1) = mn xa.1 xb.1 := rfl
      have hmx : (if xa.2 < xb.2 then xb.2 else xa.2) = mx xa.2 xb.2 := rfl
      have hw2 : IntKind.i64.wrap (cc + mn xa.1 xb.1) = cc + mn xa.1 xb.1 := wrap_in (by simp only at hsin; omega) (by simp only at hsin; omega)
      have hw3 : IntKind.i64.wrap (cc + mx xa.2 xb.2) = cc + mx xa.2 xb.2 := wrap_in (by simp only at hsin; omega) (by simp only at hsin; omega)
      clear hsin
      refine HT_seq <| (HT_runcA [⟨true, .tup [li xa.1, li xa.2], none⟩] ?_ ?_)
      · first | exact ca _ | exact trivial | simpa [*] using ca _
      refine HT_seq <| (HT_runcA [⟨true, .tup [li xb.1, li xb.2], none⟩] ?_ ?_)
      · first | exact cb _ | exact trivial | simpa [*] using cb _
      refine HT_runA ?_
      exact ⟨(), trivial, le_mkA (fun n => n) []⟩
    · try simp only [BN] at h11
      rw [if_neg h11] at hpq
      refine HT_seq <| HT_runA ?_
      refine (HT_cond rfl (fun h17 => ?_) (fun h17 => HT_skip ?_))
      · try simp only [BN] at h17
        rw [if_pos h17] at hpq
        have hon : IntKind.i64.wrap ((if 1 < nn then 1 else nn) * cc) = onceI nn cc := by
         have : (if 1 < nn then 1 else nn) * cc = onceI nn cc := by
          unfold onceI
          by_cases h : 0 < nn
          · rw [if_pos h]
            have : (if 1 < nn then 1 else nn) = 1 := by split <;> omega
            rw [this, Int.one_mul]
          · rw [if_neg h]
            have : (if 1 < nn then 1 else nn) = 0 := by split <;> omega
            rw [this, Int.zero_mul]
         rw [this]
         have := once_in (m := nn) hci
         exact wrap_in (by omega) (by omega)
        have hm1 := mulT hni (z := cc + xa.1) (by omega)
        have hm2 := mulT hni (z := cc + xa.2) (by omega)
        have hw2 : IntKind.i64.wrap (cc + xa.1) = cc + xa.1 := wrap_in (by omega) (by omega)
        have hw3 : IntKind.i64.wrap (cc + xa.2) = cc + xa.2 := wrap_in (by omega) (by omega)
        have hw4 : IntKind.i64.wrap (nn * (cc + xa.1)) = nn * (cc + xa.1) := wrap_in (by omega) (by omega)
        have hw5 : IntKind.i64.wrap (nn * (cc + xa.2)) = nn * (cc + xa.2) := wrap_in (by omega) (by omega)
        clear hm1 hm2
        refine HT_seq <| (HT_runcA [⟨true, .tup [li xa.1, li xa.2], none⟩] ?_ ?_)
        · first | exact ca _ | exact trivial | simpa [*] using ca _
        refine HT_seq <| HT_runA ?_
        refine HT_block <| HT_seq <| HT_runA ?_
        refine (HT_cond rfl (fun h21 => ?_) (fun h21 => ?_))
        · try simp only [BN] at h21
          rw [if_pos h21] at hpq
          subst hpq
          refine HT_runA ?_
          exact ⟨(), trivial, le_mkA (fun n => n) []⟩
        · try simp only [BN] at h21
          rw [if_neg (fun h => h h21)] at hpq
          refine HT_seq <| HT_runA ?_
          refine (HT_cond rfl (fun h25 => ?_) (fun h25 => ?_))
          · try simp only [BN] at h25
            rw [if_pos h25] at hpq
            subst hpq
            refine HT_runA ?_
            exact ⟨(), trivial, le_mkA (fun n => n) []⟩
          · try simp only [BN] at h25
            rw [if_neg (fun h => h h25)] at hpq
            subst hpq
            refine HT_runA ?_
            exact ⟨(), trivial, le_mkA (fun n => n) []⟩
      · try simp only [BN] at h17
        rw [if_neg h17] at hpq
        subst hpq
        exact ⟨(), trivial, le_mkA (fun n => n) []⟩
   rintro z hz
   simp only [upS, keepS, insS]
   try simp only [keepS, KN, Nat.reduceBEq, if_true, if_false, ins, Nat.reduceLT]
   clear hpq ca cb c1 c2 hci hni hxa hxb
   have hw2 : IntKind.i64.wrap (m + pq.1) = m + pq.1 := wrap_in (by omega) (by omega)
   have hw3 : IntKind.i64.wrap (q + pq.2) = q + pq.2 := wrap_in (by omega) (by omega)
   have hm1 := mn_in (a := m + pq.1) (by omega)
   have hm2 := mn_in (a := q + pq.2) (by omega)
   have hmn1 : (if 67108865 < m + pq.1 then 67108865 else m + pq.1) = mn (m + pq.1) 67108865 := rfl
   have hmn2 : (if 67108865 < q + pq.2 then 67108865 else q + pq.2) = mn (q + pq.2) 67108865 := rfl
   refine HT_runA ?_
   refine HT_runA ?_
   exact ⟨(k + 1, mn (m + pq.1) 67108865, mn (q + pq.2) 67108865), ⟨hk1, hJ, hm1.1, hm1.2, hm2.1, hm2.2⟩, by simp only; omega, le_mkA (fun n => n) []⟩
 · try simp only [BN] at h4
   have hkl : k = l.length := by omega
   rw [hkl, List.drop_length] at hJ
   simp only [spL] at hJ
   subst hJ
   refine (HT_exit ?_)
   refine HT_seq <| HT_runA ?_
   exact HT_retA fun h => ⟨.inr rfl, h⟩
end Go.Proofs.YtfjidddhehckoaaGreat

namespace Go.Proofs.YtfjidddhehckoaaGreat
open Go Go.Hl
structure B3 where
 s : Int
 o : Int
 t : Int
def bd1 (d c n : Int) (x y : B3) : B3 :=
 if d = 4 then ⟨1 + n * (1 + x.s), n * x.o, n * (c + x.t)⟩
 else if d = 3 then ⟨1 + mx x.s y.s, mx x.o y.o, c + mx x.t y.t⟩
 else if d = 1 then ⟨1, 1, c⟩ else ⟨1, 0, c⟩
def add3 (C : B3) (x y : B3) : B3 := ⟨mn (x.s + y.s) C.s, mn (x.o + y.o) C.o, mn (x.t + y.t) C.t⟩
mutual
def bdS (C : B3) : St → B3
 | .mk d c _ n _ a b _ => bd1 d c n (bdL C a ⟨0, 0, 0⟩) (bdL C b ⟨0, 0, 0⟩)
def bdL (C : B3) : List St → B3 → B3
 | [], p => p
 | s :: l, p => bdL C l (add3 C p (bdS C s))
end
mutual
def okS : St → Bool
 | .mk d c _ n _ a b _ => (decide (0 ≤ c) && (decide (c ≤ 67108864) && (decide (d ≠ 4) || (decide (0 ≤ n) && decide (n ≤ 4096))))) && ((decide (d = 3) || (decide (d = 4) || (a.isEmpty && b.isEmpty))) && (okL a && okL b))
def okL : List St → Bool
 | [] => true
 | s :: l => okS s && okL l
end
def CP : B3 := ⟨1099511627776, 1099511627776, 1099511627776⟩
def CR : B3 := ⟨4097, 9, 67108865⟩
def in3 (C p : B3) : Prop := 0 ≤ p.s ∧ p.s ≤ C.s ∧ 0 ≤ p.o ∧ p.o ≤ C.o ∧ 0 ≤ p.t ∧ p.t ≤ C.t
def nn3 (p : B3) : Prop := 0 ≤ p.s ∧ 0 ≤ p.o ∧ 0 ≤ p.t
theorem mulN {n z : Int} (hn : 0 ≤ n ∧ n ≤ 4096) (hz : 0 ≤ z ∧ z ≤ 1099578736641) : 0 ≤ n * z ∧ n * z ≤ 4503874505281536 := by
 have h1 : n.natAbs * z.natAbs ≤ 4096 * 1099578736641 := Nat.mul_le_mul (by omega) (by omega)
 rw [← Int.natAbs_mul] at h1
 have h2 := Int.mul_nonneg hn.1 hz.1
 omega
theorem bd1_nn {d c n : Int} {x y : B3} (hc : 0 ≤ c) (hn : d = 4 → 0 ≤ n) (hx : nn3 x) (hy : nn3 y) : nn3 (bd1 d c n x y) := by
 unfold nn3 at *
 unfold bd1
 split
 · rename_i h4
   have h0 := hn h4
   refine ⟨?_, Int.mul_nonneg h0 hx.2.1, Int.mul_nonneg h0 (by omega)⟩
   have := Int.mul_nonneg h0 (show (0 : Int) ≤ 1 + x.s by omega)
   simp only
   omega
 · split
   · simp only [mx]
     refine ⟨?_, ?_, ?_⟩ <;> split <;> omega
   · split <;> simp only <;> omega
theorem add3_in {C p q : B3} (hC : nn3 C) (hp : nn3 p) (hq : nn3 q) : in3 C (add3 C p q) := by
 unfold in3 add3 nn3 at *
 simp only [mn]
 refine ⟨?_, ?_, ?_, ?_, ?_, ?_⟩ <;> split <;> omega
theorem in3_nn {C p : B3} (h : in3 C p) : nn3 p := ⟨h.1, h.2.2.1, h.2.2.2.2.1⟩
theorem in3_0 {C : B3} (hC : nn3 C) : in3 C ⟨0, 0, 0⟩ := ⟨Int.le_refl _, hC.1, Int.le_refl _, hC.2.1, Int.le_refl _, hC.2.2⟩
mutual
theorem bdS_nn {C : B3} (hC : nn3 C) : ∀ s : St, okS s = true → nn3 (bdS C s)
 | .mk d c v n t a b bs, h => by
   simp only [okS, Bool.and_eq_true, Bool.or_eq_true, decide_eq_true_eq] at h
   simp only [bdS]
   exact bd1_nn h.1.1 (fun h4 => by omega) (in3_nn (bdL_in hC a _ h.2.2.1 (in3_0 hC))) (in3_nn (bdL_in hC b _ h.2.2.2 (in3_0 hC)))
theorem bdL_in {C : B3} (hC : nn3 C) : ∀ (l : List St) (p : B3), okL l = true → in3 C p → in3 C (bdL C l p)
 | [], p, _, h => h
 | s :: l, p, h, hp => by
   simp only [okL, Bool.and_eq_true] at h
   simp only [bdL]
   exact bdL_in hC l _ h.2 (add3_in hC (in3_nn hp) (bdS_nn hC s h.1))
end
def cut3 (C p : B3) : B3 := ⟨mn p.s C.s, mn p.o C.o, mn p.t C.t⟩
theorem mul_cut {n a b k k' C : Int} (hn : 0 ≤ n) (ha : 0 ≤ a) (hb : 0 ≤ b) (hk : 0 ≤ k) (hk' : 0 ≤ k') (h : mn a C = mn b C) : mn (k' + n * (k + a)) C = mn (k' + n * (k + b)) C := by
 by_cases hac : a < C
 · have : a = b := by
    unfold mn at h
    (repeat' split at h) <;> omega
   rw [this]
 · have hbc : C ≤ b := by
    unfold mn at h
    (repeat' split at h) <;> omega
   rcases Int.lt_or_le 0 n with h0 | h0
   · have h1 := Int.mul_le_mul_of_nonneg_right (show (1 : Int) ≤ n by omega) (show 0 ≤ k + a by omega)
     have h2 := Int.mul_le_mul_of_nonneg_right (show (1 : Int) ≤ n by omega) (show 0 ≤ k + b by omega)
     unfold mn
     (repeat' split) <;> omega
   · have : n = 0 := by omega
     subst this
     simp
theorem bd1_cut {C x x' y y' : B3} {d c n : Int} (hc : 0 ≤ c) (hn : d = 4 → 0 ≤ n) (hx : nn3 x) (hx' : nn3 x') (hy : nn3 y) (hy' : nn3 y') (h1 : cut3 C x = cut3 C x') (h2 : cut3 C y = cut3 C y') : cut3 C (bd1 d c n x y) = cut3 C (bd1 d c n x' y') := by
 unfold cut3 at *
 unfold nn3 at *
 simp only [B3.mk.injEq] at h1 h2 ⊢
 unfold bd1
 split
 · rename_i h4
   have h0 := hn h4
   have e1 := mul_cut h0 hx.1 hx'.1 (show (0 : Int) ≤ 1 by decide) (show (0 : Int) ≤ 1 by decide) h1.1
   have e2 := mul_cut h0 hx.2.1 hx'.2.1 (Int.le_refl 0) (Int.le_refl 0) h1.2.1
   have e3 := mul_cut h0 hx.2.2 hx'.2.2 hc (Int.le_refl 0) h1.2.2
   simp only [Int.zero_add] at e2 e3
   exact ⟨e1, e2, e3⟩
 · obtain ⟨a1, a2, a3⟩ := h1
   obtain ⟨b1, b2, b3⟩ := h2
   split
   · simp only [mx]
     refine ⟨?_, ?_, ?_⟩
     · clear a2 a3 b2 b3; unfold mn at *; (repeat' split at a1) <;> (repeat' split at b1) <;> (repeat' split) <;> omega
     · clear a1 a3 b1 b3; unfold mn at *; (repeat' split at a2) <;> (repeat' split at b2) <;> (repeat' split) <;> omega
     · clear a1 a2 b1 b2; unfold mn at *; (repeat' split at a3) <;> (repeat' split at b3) <;> (repeat' split) <;> omega
   · split <;> exact ⟨rfl, rfl, rfl⟩
theorem add3_cut {C D p p' x x' : B3} (hC : nn3 C) (hD : C.s ≤ D.s ∧ C.o ≤ D.o ∧ C.t ≤ D.t) (hp : nn3 p) (hp' : nn3 p') (hx : nn3 x) (hx' : nn3 x') (h1 : cut3 C p = cut3 C p') (h2 : cut3 C x = cut3 C x') : cut3 C (add3 D p x) = cut3 C (add3 C p' x') := by
 unfold cut3 at *
 unfold nn3 at *
 simp only [B3.mk.injEq, add3] at h1 h2 ⊢
 obtain ⟨a1, a2, a3⟩ := h1
 obtain ⟨b1, b2, b3⟩ := h2
 obtain ⟨d1, d2, d3⟩ := hD
 obtain ⟨p1, p2, p3⟩ := hp
 obtain ⟨q1, q2, q3⟩ := hp'
 obtain ⟨r1, r2, r3⟩ := hx
 obtain ⟨s1, s2, s3⟩ := hx'
 obtain ⟨c1, c2, c3⟩ := hC
 refine ⟨?_, ?_, ?_⟩
 · clear a2 a3 b2 b3; unfold mn at *; (repeat' split at a1) <;> (repeat' split at b1) <;> (repeat' split) <;> omega
 · clear a1 a3 b1 b3; unfold mn at *; (repeat' split at a2) <;> (repeat' split at b2) <;> (repeat' split) <;> omega
 · clear a1 a2 b1 b2; unfold mn at *; (repeat' split at a3) <;> (repeat' split at b3) <;> (repeat' split) <;> omega
mutual
theorem bdS_cut {C D : B3} (hC : nn3 C) (hDn : nn3 D) (hD : C.s ≤ D.s ∧ C.o ≤ D.o ∧ C.t ≤ D.t) : ∀ s : St, okS s = true → cut3 C (bdS D s) = cut3 C (bdS C s)
 | .mk d c v n t a b bs, h => by
   simp only [okS, Bool.and_eq_true, Bool.or_eq_true, decide_eq_true_eq] at h
   simp only [bdS]
   have ha := in3_nn (bdL_in hDn a _ h.2.2.1 (in3_0 hDn))
   have hb := in3_nn (bdL_in hDn b _ h.2.2.2 (in3_0 hDn))
   have ha' := in3_nn (bdL_in hC a _ h.2.2.1 (in3_0 hC))
   have hb' := in3_nn (bdL_in hC b _ h.2.2.2 (in3_0 hC))
   have h0 : nn3 ⟨0, 0, 0⟩ := ⟨Int.le_refl _, Int.le_refl _, Int.le_refl _⟩
   exact bd1_cut h.1.1 (fun h4 => by omega) ha ha' hb hb' (bdL_cut hC hDn hD a _ _ h.2.2.1 (in3_0 hDn) (in3_0 hC) rfl) (bdL_cut hC hDn hD b _ _ h.2.2.2 (in3_0 hDn) (in3_0 hC) rfl)
theorem bdL_cut {C D : B3} (hC : nn3 C) (hDn : nn3 D) (hD : C.s ≤ D.s ∧ C.o ≤ D.o ∧ C.t ≤ D.t) : ∀ (l : List St) (p q : B3), okL l = true → in3 D p → in3 C q → cut3 C p = cut3 C q → cut3 C (bdL D l p) = cut3 C (bdL C l q)
 | [], p, q, _, _, _, h => h
 | s :: l, p, q, h, hp, hq, hpq => by
   simp only [okL, Bool.and_eq_true] at h
   simp only [bdL]
   exact bdL_cut hC hDn hD l _ _ h.2 (add3_in hDn (in3_nn hp) (bdS_nn hDn s h.1)) (add3_in hC (in3_nn hq) (bdS_nn hC s h.1))
    (add3_cut hC hD (in3_nn hp) (in3_nn hq) (bdS_nn hDn s h.1) (bdS_nn hC s h.1) hpq (bdS_cut hC hDn hD s h.1))
end
theorem nnCP : nn3 CP := by unfold nn3 CP; decide
theorem nnCR : nn3 CR := by unfold nn3 CR; decide
theorem bd_cmp {l : List St} (h : okL l = true) : (4096 < (bdL CP l ⟨0, 0, 0⟩).s ↔ 4096 < (bdL CR l ⟨0, 0, 0⟩).s) ∧ (8 < (bdL CP l ⟨0, 0, 0⟩).o ↔ 8 < (bdL CR l ⟨0, 0, 0⟩).o) ∧ (67108864 < (bdL CP l ⟨0, 0, 0⟩).t ↔ 67108864 < (bdL CR l ⟨0, 0, 0⟩).t) := by
 have := bdL_cut nnCR nnCP (by decide) l _ _ h (in3_0 nnCP) (in3_0 nnCR) rfl
 unfold cut3 at this
 simp only [B3.mk.injEq] at this
 obtain ⟨h1, h2, h3⟩ := this
 generalize bdL CP l ⟨0, 0, 0⟩ = p at *
 generalize bdL CR l ⟨0, 0, 0⟩ = q at *
 unfold CR at h1 h2 h3
 refine ⟨?_, ?_, ?_⟩
 · clear h2 h3; unfold mn at *; simp only at h1; (repeat' split at h1) <;> omega
 · clear h1 h3; unfold mn at *; simp only at h2; (repeat' split at h2) <;> omega
 · clear h1 h2; unfold mn at *; simp only at h3; (repeat' split at h3) <;> omega
end Go.Proofs.YtfjidddhehckoaaGreat
