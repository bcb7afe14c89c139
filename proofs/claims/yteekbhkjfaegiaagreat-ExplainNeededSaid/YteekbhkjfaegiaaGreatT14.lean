/- Part 14: contracts of functions of the program and of the reference, and plain facts about what they compute; used by the proof of the claimed statement. Conditions: as each theorem states. -/
import Derived.Test.YteekbhkjfaegiaaGreatT13
import Derived.Test.YteekbhkjfaegiaaGreatT9
set_option linter.unusedSimpArgs false
set_option linter.unusedVariables false
set_option linter.unnecessarySimpa false
set_option maxRecDepth 100000
set_option maxHeartbeats 2000000
namespace Go.Proofs.YteekbhkjfaegiaaGreat
open Go Go.Hl

/-! ## ranks and vectors, by the program and by the reference -/
def rkL : List Vr → List Int → Int → Int × Int
  | v :: l, x :: xs, n => if x < v.low ∨ v.high < x then (0, 3) else rkL l xs (wr (wr (wr (n * sz v) + x) - v.low))
  | _, _, n => (n, 0)
def rkF (vars : List Vr) (kind : Int) (xs : List Int) : Int × Int := if xs.length ≠ (ofK vars kind).length then (0, 2) else rkL (ofK vars kind) xs 0
theorem chosenG_con (vars : List Vr) (kind : Int) (hkd : 1 ≤ kind ∧ kind ≤ 3) (hv : goodV' vars) (hl : vars.length ≤ 1000000) (hs : spc vars kind ≤ 4096) (d : Nat) :
    Con Tryz.prog 87 false [lV vars, li kind] (.tup [lV (ofK vars kind), li (spc vars kind), li 0]) none d := by
  have := chosen_con vars kind hkd hv hl d
  unfold chR at this
  rw [if_pos hs] at this
  exact this
theorem spaceD_con (vars : List Vr) (kind : Int) (hkd : 1 ≤ kind ∧ kind ≤ 3) (hv : goodV' vars) (hl : vars.length ≤ 1000000) (hs : spc vars kind ≤ 4096) (d : Nat) :
    Con Tryz.prog 59 true [lV vars, li kind] (.tup [li (spc vars kind), li 0]) none d := by
  have cc := chosenG_con vars kind hkd hv hl hs
  obtain ⟨S, hS⟩ : ∃ S, ofK vars kind = S := ⟨_, rfl⟩
  obtain ⟨n, hn⟩ : ∃ S, spc vars kind = S := ⟨_, rfl⟩
  rw [hS, hn] at cc
  rw [hn]
  clear hS hn hs hv
  refine con_of_HT Tryz.func59 rfl (by kernel_rfl) (Nat.le_of_ble_eq_true rfl) ?_
  simp only [Tryz.f59]
  refine HT_seq <| HT_runA ?_
  refine HT_seq <| (HT_runc [⟨false, .tup [lV S, li n, li 0], none⟩] (by simp [*]; first | exact ⟨rfl, Iff.rfl⟩ | exact ⟨rfl, trivial⟩ | rfl) ?_ ?_)
  · first | exact cc _ | exact trivial | simpa [*] using cc _
  refine HT_seq <| HT_runA ?_
  exact HT_retA fun h => ⟨.inr rfl, h⟩
theorem rankR_con (vars : List Vr) (kind : Int) (xs : List Int) (hkd : 1 ≤ kind ∧ kind ≤ 3) (hv : goodV' vars) (hl : vars.length ≤ 1000000) (hs : spc vars kind ≤ 4096) (d : Nat) :
    Con Tryz.prog 30 true [lV vars, li kind, lI xs] (.tup [li (rkF vars kind xs).1, li (rkF vars kind xs).2]) none d := by
  have co := of13_con vars kind hl
  have cs := space13_con vars kind hkd hv hl hs
  have hg := ofK_good hv kind
  have hn := ofK_len vars kind
  unfold rkF
  obtain ⟨S, hS⟩ : ∃ S, ofK vars kind = S := ⟨_, rfl⟩
  obtain ⟨n0, hn0⟩ : ∃ S, spc vars kind = S := ⟨_, rfl⟩
  rw [hS] at co hg hn ⊢
  rw [hn0] at cs
  clear hS hn0 hs hv
  obtain ⟨res, hres⟩ : ∃ r, (if xs.length ≠ S.length then ((0 : Int), (2 : Int)) else rkL S xs 0) = r := ⟨_, rfl⟩
  rw [hres]
  refine con_of_HT Tryz.func30 rfl (by kernel_rfl) (Nat.le_of_ble_eq_true rfl) ?_
  simp only [Tryz.f30]
  refine HT_seq <| HT_runA ?_
  refine HT_seq <| (HT_runc [⟨true, .tup [li n0, li 0], none⟩] (by simp [*]; first | exact ⟨rfl, Iff.rfl⟩ | exact ⟨rfl, trivial⟩ | rfl) ?_ ?_)
  · first | exact cs _ | exact trivial | simpa [*] using cs _
  refine HT_seq <| HT_seq <| HT_runA ?_
  refine (HT_cond rfl (fun h3 => ?_) (fun h3 => HT_skip ?_))
  · exact absurd h3 (by simp)
  · try simp only [BN] at h3
    refine HT_seq <| (HT_runc [⟨false, .v (lV S), none⟩] (by simp [*]; first | exact ⟨rfl, Iff.rfl⟩ | exact ⟨rfl, trivial⟩ | rfl) ?_ ?_)
    · first | exact co _ | exact trivial | simpa [*] using co _
    refine HT_seq <| HT_seq <| HT_runA ?_
    refine (HT_cond rfl (fun h8 => ?_) (fun h8 => HT_skip ?_))
    · try simp only [BN] at h8
      rw [if_pos (by omega)] at hres
      subst hres
      refine HT_seq <| HT_runA ?_
      exact HT_retA fun h => ⟨.inr rfl, h⟩
    · try simp only [BN] at h8
      have hle : xs.length = S.length := by omega
      rw [if_neg (by omega)] at hres
      clear h8 cs co
      refine HT_seq <| HT_runA ?_
      refine HT_seq <| HT_seq <| HT_runA ?_
      refine HT_block <| (HT_loopU [2, 10] (fun (z : Nat × Int) => [(11, .v (li z.2)), (12, .v (li z.1))]) (fun (z : Nat × Int) => []) (fun (z : Nat × Int) => z.1 ≤ S.length ∧ rkL (S.drop z.1) (xs.drop z.1) z.2 = res) (fun (z : Nat × Int) => S.length - z.1) (0, 0) ⟨Nat.zero_le _, hres⟩ ?_ ?_)
      · exact le_mk (fun n => n) [] rfl (by simp [*, upS, keepS]) (by simp [*, upS]) (by simp [upS])
      rintro ⟨k, n⟩ ⟨hk, hJ⟩
      simp only [upS, keepS, insS]
      try simp only [keepS, KN, Nat.reduceBEq, if_true, if_false, ins, Nat.reduceLT]
      simp only at hk hJ
      clear hres
      refine HT_seq <| HT_seq <| HT_runA ?_
      refine (HT_cond rfl (fun h15 => HT_skip ?_) (fun h15 => ?_))
      · try simp only [BN] at h15
        have hlt : k < S.length := by omega
        obtain ⟨v, he, hd⟩ := at_lt hlt
        obtain ⟨x, hex, hdx⟩ := at_lt (show k < xs.length by omega)
        have hw1 := wrap1 hlt (by omega)
        have hk1 : k + 1 ≤ S.length := hlt
        have hb := hg v (List.mem_of_getElem? he)
        have hw2 : IntKind.i64.wrap (v.high - v.low) = v.high - v.low := wrap_in (by omega) (by omega)
        have hw3 : IntKind.i64.wrap (v.high - v.low + 1) = sz v := by rw [wrap_in (by omega) (by omega)]; rfl
        rw [hd, hdx] at hJ
        simp only [rkL, wr] at hJ
        clear hlt h15 hg
        refine HT_seq <| HT_block <| HT_seq <| HT_seq <| (HT_drun (by kernel_rfl) (by kernel_rfl) (by rfl) (by simp [*]; rfl) ?_)
        refine (HT_cond rfl (fun h17 => ?_) (fun h17 => HT_skip ?_))
        · try simp only [BN] at h17
          rw [if_pos (by simpa using h17)] at hJ
          subst hJ
          refine HT_seq <| HT_runA ?_
          exact HT_retA fun h => ⟨.inr rfl, h⟩
        · try simp only [BN] at h17
          rw [if_neg (by simpa using h17)] at hJ
          refine (HT_drun (by kernel_rfl) (by kernel_rfl) (by rfl) (by simp [*]; rfl) ?_)
          refine HT_runA ?_
          exact ⟨(k + 1, IntKind.i64.wrap (IntKind.i64.wrap (IntKind.i64.wrap (n * sz v) + x) - v.low)), ⟨hk1, hJ⟩, by simp only; omega, le_mk (fun n => n) [] rfl (by simp [upS, keepS, *]) (by simp [*, upS]) (by simp [upS])⟩
      · try simp only [BN] at h15
        have hkl : k = S.length := by omega
        rw [hkl, List.drop_length] at hJ
        simp only [rkL] at hJ
        subst hJ
        refine (HT_exit ?_)
        refine HT_seq <| HT_runA ?_
        exact HT_retA fun h => ⟨.inr rfl, h⟩
theorem rankD_con (vars : List Vr) (kind : Int) (xs : List Int) (hkd : 1 ≤ kind ∧ kind ≤ 3) (hv : goodV' vars) (hl : vars.length ≤ 1000000) (hs : spc vars kind ≤ 4096) (d : Nat) :
    Con Tryz.prog 55 true [lV vars, li kind, lI xs] (.tup [li (rkF vars kind xs).1, li (rkF vars kind xs).2]) none d := by
  have cc := chosenG_con vars kind hkd hv hl hs
  have hg := ofK_good hv kind
  have hn := ofK_len vars kind
  unfold rkF
  obtain ⟨S, hS⟩ : ∃ S, ofK vars kind = S := ⟨_, rfl⟩
  obtain ⟨n0, hn0⟩ : ∃ S, spc vars kind = S := ⟨_, rfl⟩
  rw [hS] at cc hg hn ⊢
  rw [hn0] at cc
  clear hS hn0 hs hv
  obtain ⟨res, hres⟩ : ∃ r, (if xs.length ≠ S.length then ((0 : Int), (2 : Int)) else rkL S xs 0) = r := ⟨_, rfl⟩
  rw [hres]
  refine con_of_HT Tryz.func55 rfl (by kernel_rfl) (Nat.le_of_ble_eq_true rfl) ?_
  simp only [Tryz.f55]
  refine HT_seq <| HT_runA ?_
  refine HT_seq <| (HT_runc [⟨false, .tup [lV S, li n0, li 0], none⟩] (by simp [*]; first | exact ⟨rfl, Iff.rfl⟩ | exact ⟨rfl, trivial⟩ | rfl) ?_ ?_)
  · first | exact cc _ | exact trivial | simpa [*] using cc _
  refine HT_seq <| HT_block <| HT_seq <| HT_runA ?_
  refine (HT_cond rfl (fun h3 => ?_) (fun h3 => ?_))
  · exact absurd h3 (by simp)
  · try simp only [BN] at h3
    refine HT_seq <| HT_runA ?_
    refine (HT_cond rfl (fun h7 => ?_) (fun h7 => HT_skip ?_))
    · try simp only [BN] at h7
      rw [if_pos (by omega)] at hres
      subst hres
      refine HT_seq <| HT_runA ?_
      exact HT_retA fun h => ⟨.inr rfl, h⟩
    · try simp only [BN] at h7
      have hle : xs.length = S.length := by omega
      rw [if_neg (by omega)] at hres
      clear h7 cc
      refine HT_seq <| HT_runA ?_
      refine HT_seq <| HT_seq <| HT_runA ?_
      refine HT_block <| (HT_loopU [2, 31, 32] (fun (z : Nat × Int) => [(11, .v (li z.2)), (33, .v (li z.1))]) (fun (z : Nat × Int) => []) (fun (z : Nat × Int) => z.1 ≤ S.length ∧ rkL (S.drop z.1) (xs.drop z.1) z.2 = res) (fun (z : Nat × Int) => S.length - z.1) (0, 0) ⟨Nat.zero_le _, hres⟩ ?_ ?_)
      · exact le_mk (fun n => n) [] rfl (by simp [*, upS, keepS]) (by simp [*, upS]) (by simp [upS])
      rintro ⟨k, n⟩ ⟨hk, hJ⟩
      simp only [upS, keepS, insS]
      try simp only [keepS, KN, Nat.reduceBEq, if_true, if_false, ins, Nat.reduceLT]
      simp only at hk hJ
      clear hres
      refine HT_seq <| HT_runA ?_
      refine HT_seq <| (HT_cond rfl (fun h14 => HT_skip ?_) (fun h14 => ?_))
      · try simp only [BN] at h14
        have hlt : k < S.length := by omega
        obtain ⟨v, he, hd⟩ := at_lt hlt
        obtain ⟨x, hex, hdx⟩ := at_lt (show k < xs.length by omega)
        have hw1 := wrap1 hlt (by omega)
        have hk1 : k + 1 ≤ S.length := hlt
        have hb := hg v (List.mem_of_getElem? he)
        have csz := sizeD_con v ⟨hb.2.1, hb.1, hb.2.2⟩
        have hsz := sz_in hg (List.mem_of_getElem? he)
        rw [hd, hdx] at hJ
        simp only [rkL, wr] at hJ
        obtain ⟨s, hse⟩ : ∃ s, sz v = s := ⟨_, rfl⟩
        rw [hse] at csz hJ hsz
        obtain ⟨nm, kd, lo, hi, ini⟩ := v
        simp only [aV, Vr.enc, List.map_cons, List.map_nil] at csz hJ
        clear hlt h14 hg hse
        refine HT_seq <| HT_block <| HT_seq <| HT_runA ?_
        refine HT_seq <| HT_seq <| (HT_drunH [(40, 2000000), (42, 13), (48, 2000000), (50, 13)] (by kernel_rfl) (by kernel_rfl) (by rfl) (by simp [evsH, hokB, hintOf, *]; rfl) ?_)
        refine (HT_cond rfl (fun h17 => ?_) (fun h17 => HT_skip ?_))
        · try simp only [BN] at h17
          rw [if_pos (by simpa using h17)] at hJ
          subst hJ
          refine HT_seq <| HT_runA ?_
          exact HT_retA fun h => ⟨.inr rfl, h⟩
        · try simp only [BN] at h17
          rw [if_neg (by simpa using h17)] at hJ
          refine (HT_druncH [(60, 2000000), (63, 13)] [⟨true, .v (li s), none⟩] (by kernel_rfl) (by kernel_rfl) (by rfl) (by simp [evcH, hokB, hintOf, *]; first | exact ⟨rfl, Iff.rfl⟩ | exact ⟨rfl, trivial⟩ | rfl) ?_ ?_)
          · first | exact csz _ | exact trivial | simpa [*] using csz _
          refine HT_runA ?_
          exact ⟨(k + 1, IntKind.i64.wrap (IntKind.i64.wrap (IntKind.i64.wrap (n * s) + x) - lo)), ⟨hk1, hJ⟩, by simp only; omega, le_mk (fun n => n) [] rfl (by simp [upS, keepS, *]) (by simp [*, upS]) (by simp [upS])⟩
      · try simp only [BN] at h14
        have hkl : k = S.length := by omega
        rw [hkl, List.drop_length] at hJ
        simp only [rkL] at hJ
        subst hJ
        refine (HT_exit ?_)
        refine HT_seq <| HT_runA ?_
        exact HT_retA fun h => ⟨.inr rfl, h⟩
theorem set_rep (x : Nat) (y : Int) (l : List Int) : (List.replicate (x + 1) (0 : Int) ++ l).set x y = List.replicate x 0 ++ y :: l := by
  induction x with
  | zero => rfl
  | succ x ih =>
    rw [List.replicate_succ, List.cons_append, List.set_cons_succ, ih, List.replicate_succ, List.cons_append]
theorem unrankD_con (vars : List Vr) (kind : Int) (hkd : 1 ≤ kind ∧ kind ≤ 3) (hv : goodV' vars) (hl : vars.length ≤ 1000000) (hs : spc vars kind ≤ 4096) (r : Int) (h0 : 0 ≤ r) (h1 : r < spc vars kind) (d : Nat) :
    Con Tryz.prog 89 false [lV vars, li kind, li r] (.tup [lI (uL (ofK vars kind) r), li 0]) none d := by
  have cc := chosenG_con vars kind hkd hv hl hs
  have hg := ofK_good hv kind
  have hn := ofK_len vars kind
  obtain ⟨n0, hn0⟩ : ∃ n, spc vars kind = n := ⟨_, rfl⟩
  rw [hn0] at cc h1 hs
  obtain ⟨S, hS⟩ : ∃ S, ofK vars kind = S := ⟨_, rfl⟩
  rw [hS] at hg hn cc ⊢
  clear hS hn0 hv
  have hml : S.length ≤ maxLen := by unfold maxLen; omega
  have hml2 : 8 * (S.length : Int) ≤ 281474976710656 := by omega
  have hrep : ∀ n : Nat, encIs (List.replicate n (0 : Int)) = List.replicate n [iC 0] := fun n => by simp [encIs]
  refine con_of_HT Tryz.func89 rfl (by kernel_rfl) (Nat.le_of_ble_eq_true rfl) ?_
  simp only [Tryz.f89]
  refine HT_seq <| HT_runA ?_
  refine HT_seq <| (HT_runc [⟨false, .tup [lV S, li n0, li 0], none⟩] (by simp [*]; first | exact ⟨rfl, Iff.rfl⟩ | exact ⟨rfl, trivial⟩ | rfl) ?_ ?_)
  · first | exact cc _ | exact trivial | simpa [*] using cc _
  refine HT_seq <| HT_block <| HT_seq <| HT_runA ?_
  refine (HT_cond rfl (fun h3 => ?_) (fun h3 => ?_))
  · exact absurd h3 (by simp)
  · try simp only [BN] at h3
    refine HT_seq <| HT_runA ?_
    refine (HT_cond rfl (fun h7 => ?_) (fun h7 => HT_skip ?_))
    · exfalso
      simp at h7
      omega
    · try simp only [BN] at h7
      refine HT_seq <| HT_runA ?_
      have hwl : IntKind.i64.wrap ((S.length : Int) - 1) = (S.length : Int) - 1 := wrap_in (by omega) (by omega)
      refine HT_seq <| HT_seq <| HT_runA ?_
      refine HT_block <| (HT_loopU [8, 11] (fun (z : Nat × Int × List Int) => [(2, .v (li z.2.1)), (12, .v (li ((z.1 : Int) - 1)))]) (fun (z : Nat × Int × List Int) => [(35, .row 3 1 (encIs z.2.2))]) (fun (z : Nat × Int × List Int) => z.1 ≤ S.length ∧ r / pdL (S.drop z.1) = z.2.1 ∧ List.replicate z.1 0 ++ uL (S.drop z.1) r = z.2.2) (fun (z : Nat × Int × List Int) => z.1) (S.length, r, List.replicate S.length 0) ⟨Nat.le_refl _, by simp [pdL], by simp [uL]⟩ ?_ ?_)
      · exact le_mk (fun n => n) [] rfl (by simp [*, upS, keepS]) (by simp [*, upS]) (by simp [upS])
      rintro ⟨k, q, acc⟩ ⟨hk, hJ, hA⟩
      simp only [upS, keepS, insS]
      try simp only [keepS, KN, Nat.reduceBEq, if_true, if_false, ins, Nat.reduceLT]
      simp only at hk hJ hA
      clear cc
      refine HT_seq <| HT_seq <| HT_runA ?_
      refine (HT_cond rfl (fun h14 => HT_skip ?_) (fun h14 => ?_))
      · try simp only [BN] at h14
        obtain ⟨m, rfl⟩ : ∃ m, k = m + 1 := ⟨k - 1, by omega⟩
        have hkm : ((m + 1 : Nat) : Int) - 1 = m := by omega
        obtain ⟨v, he, hd⟩ := at_lt (show m < S.length by omega)
        have hmem : v ∈ S := List.mem_of_getElem? he
        have hsz := sz_in hg hmem
        have hb := hg v hmem
        have csz := sizeD_con v ⟨hb.2.1, hb.1, hb.2.2⟩
        have hpp := pdL_pos (S.drop (m + 1)) fun u hu => hg u (List.mem_of_mem_drop hu)
        have hq0 : 0 ≤ q := by rw [← hJ]; exact Int.ediv_nonneg (by omega) (by omega)
        have hq1 : q ≤ r := by rw [← hJ]; exact Int.ediv_le_self _ (by omega)
        have hm0 : 0 ≤ q % sz v := Int.emod_nonneg _ (by omega)
        have hm1 : q % sz v < sz v := Int.emod_lt_of_pos _ (by omega)
        have t1 : q.tmod (sz v) = q % sz v := Int.tmod_eq_emod_of_nonneg hq0
        have t2 : q.tdiv (sz v) = q / sz v := Int.tdiv_eq_ediv_of_nonneg hq0
        have hszv : sz v = v.high - v.low + 1 := rfl
        have w1 : IntKind.i64.wrap (v.low + q % sz v) = v.low + q % sz v := wrap_in (by omega) (by omega)
        have hd0 : 0 ≤ q / sz v := Int.ediv_nonneg hq0 (by omega)
        have hd1 : q / sz v ≤ q := Int.ediv_le_self _ hq0
        have w2 : IntKind.i64.wrap (q / sz v) = q / sz v := wrap_in (by omega) (by omega)
        have w3 : IntKind.i64.wrap ((m : Int) - 1) = (m : Int) - 1 := wrap_in (by omega) (by omega)
        have s0 : ¬ sz v = 0 := by omega
        have hnew : r / pdL (S.drop m) = q / sz v := by
          rw [hd, pdL, ← hJ, Int.ediv_ediv_of_nonneg (by omega), Int.mul_comm]
        have hset : encIs (acc.set m (v.low + q % sz v)) = (encIs acc).set m [iC (v.low + q % sz v)] := encI_set _ _ _
        have hacc : acc.set m (v.low + q % sz v) = List.replicate m 0 ++ uL (S.drop m) r := by
          rw [← hA, set_rep, hd, uL, hJ]
        have hgl : m < acc.length := by rw [← hA]; simp; omega
        obtain ⟨y, hy⟩ := get_I hgl
        have hm2 : (0 : Int) ≤ (m : Int) := by omega
        have hk2 : m ≤ S.length := by omega
        obtain ⟨s, hse⟩ : ∃ s, sz v = s := ⟨_, rfl⟩
        rw [hse] at csz t1 t2 w1 w2 s0 hnew hset hacc
        obtain ⟨nm, kd, lo, hi, ini⟩ := v
        simp only [aV, Vr.enc, List.map_cons, List.map_nil] at csz w1 hset hacc
        obtain ⟨A2, hA2⟩ : ∃ A2, acc.set m (lo + q % s) = A2 := ⟨_, rfl⟩
        rw [hA2] at hset hacc
        replace hacc := hacc.symm
        clear h14 hA hd hgl hm0 hm1 hd0 hd1 hq0 hq1 hpp hsz hb hse hszv hJ hA2
        refine HT_seq <| HT_block <| HT_seq <| (HT_runc [⟨true, .v (li s), none⟩] (by simp [*]; first | exact ⟨rfl, Iff.rfl⟩ | exact ⟨rfl, trivial⟩ | rfl) ?_ ?_)
        · first | exact csz _ | exact trivial | simpa [*] using csz _
        refine HT_seq <| (HT_drunH [(53, 2000000), (52, 2000000)] (by kernel_rfl) (by kernel_rfl) (by rfl) (by simp [evsH, hokB, hintOf, *]; rfl) ?_)
        refine HT_runA ?_
        refine HT_runA ?_
        exact ⟨(m, q / s, A2), ⟨hk2, hnew, hacc⟩, by simp only; omega, le_mk (fun n => n) [] rfl (by simp [upS, keepS, *]) (by simp [*, upS]) (by simp [upS])⟩
      · try simp only [BN] at h14
        have hk0 : k = 0 := by omega
        subst hk0
        simp only [List.replicate_zero, List.nil_append, List.drop_zero] at hA
        subst hA
        refine (HT_exit ?_)
        refine HT_seq <| HT_runA ?_
        exact HT_ret ⟨.inr rfl, _, le_frz 35 rfl, ⟨⟨_, by simp; rfl, by simp [resR]⟩, by simp, fun h => by cases h⟩⟩
end Go.Proofs.YteekbhkjfaegiaaGreat

namespace Go.Proofs.YteekbhkjfaegiaaGreat
open Go Go.Hl

/-! ## observations -/
structure Vw where
  pub : List Int
  timed : Bool
abbrev aW (v : Vw) : TV := .agg [.c (.sl 1 (encIs v.pub)), .c (bC v.timed)]
theorem inpD_con (vars : List Vr) (hv : goodV' vars) (hl : vars.length ≤ 1000000) (hs : ∀ k, 1 ≤ k → k ≤ 3 → spc vars k ≤ 4096) (a b c : Int) (ha : 0 ≤ a ∧ a < spc vars 1) (hb : 0 ≤ b ∧ b < spc vars 2) (hc : 0 ≤ c ∧ c < spc vars 3) (d : Nat) :
    Con Tryz.prog 56 false [lV vars, li a, li b, li c] (.tup [aI ⟨uL (ofK vars 1) a, uL (ofK vars 2) b, uL (ofK vars 3) c⟩, li 0]) none d := by
  have c1 := unrankD_con vars 1 (by decide) hv hl (hs 1 (by decide) (by decide)) a ha.1 ha.2
  have c2 := unrankD_con vars 2 (by decide) hv hl (hs 2 (by decide) (by decide)) b hb.1 hb.2
  have c3 := unrankD_con vars 3 (by decide) hv hl (hs 3 (by decide) (by decide)) c hc.1 hc.2
  obtain ⟨A, hA⟩ : ∃ l, uL (ofK vars 1) a = l := ⟨_, rfl⟩
  obtain ⟨B, hB⟩ : ∃ l, uL (ofK vars 2) b = l := ⟨_, rfl⟩
  obtain ⟨C, hC⟩ : ∃ l, uL (ofK vars 3) c = l := ⟨_, rfl⟩
  rw [hA] at c1 ⊢
  rw [hB] at c2 ⊢
  rw [hC] at c3 ⊢
  clear hA hB hC hv hs
  refine con_of_HT Tryz.func56 rfl (by kernel_rfl) (Nat.le_of_ble_eq_true rfl) ?_
  simp only [Tryz.f56]
  refine HT_seq <| HT_runA ?_
  refine HT_seq <| HT_seq <| (HT_runc [⟨false, .tup [lI A, li 0], none⟩] (by simp [*]; first | exact ⟨rfl, Iff.rfl⟩ | exact ⟨rfl, trivial⟩ | rfl) ?_ ?_)
  · first | exact c1 _ | exact trivial | simpa [*] using c1 _
  refine HT_seq <| HT_runA ?_
  refine (HT_cond rfl (fun h3 => ?_) (fun h3 => HT_skip ?_))
  · exact absurd h3 (by simp)
  · try simp only [BN] at h3
    refine HT_seq <| HT_seq <| (HT_runc [⟨false, .tup [lI B, li 0], none⟩] (by simp [*]; first | exact ⟨rfl, Iff.rfl⟩ | exact ⟨rfl, trivial⟩ | rfl) ?_ ?_)
    · first | exact c2 _ | exact trivial | simpa [*] using c2 _
    refine HT_seq <| HT_runA ?_
    refine (HT_cond rfl (fun h8 => ?_) (fun h8 => HT_skip ?_))
    · exact absurd h8 (by simp)
    · try simp only [BN] at h8
      refine HT_seq <| HT_seq <| (HT_runc [⟨false, .tup [lI C, li 0], none⟩] (by simp [*]; first | exact ⟨rfl, Iff.rfl⟩ | exact ⟨rfl, trivial⟩ | rfl) ?_ ?_)
      · first | exact c3 _ | exact trivial | simpa [*] using c3 _
      refine HT_seq <| HT_runA ?_
      refine (HT_cond rfl (fun h13 => ?_) (fun h13 => HT_skip ?_))
      · exact absurd h13 (by simp)
      · try simp only [BN] at h13
        refine HT_seq <| HT_runA ?_
        exact HT_ret ⟨.inr rfl, _, le_refl _, ⟨⟨_, by simp; rfl, by simp [resR]⟩, by simp, fun h => by cases h⟩⟩
def seenO (o : Obs) (t : Bool) : Obs := if t = true then o else ⟨o.outs, 0⟩
theorem seenR_con (o : Obs) (t : Bool) (d : Nat) : Con Tryz.prog 34 false [aO o, lb t] (.v (aO (seenO o t))) none d := by
  obtain ⟨os, tm⟩ := o
  obtain ⟨res, hres⟩ : ∃ r, seenO ⟨os, tm⟩ t = r := ⟨_, rfl⟩
  rw [hres]
  unfold seenO at hres
  refine con_of_HT Tryz.func34 rfl (by kernel_rfl) (Nat.le_of_ble_eq_true rfl) ?_
  simp only [Tryz.f34]
  simp only [aO]
  refine HT_seq <| HT_runA ?_
  refine HT_seq <| HT_seq <| HT_runA ?_
  refine (HT_cond rfl (fun h2 => ?_) (fun h2 => HT_skip ?_))
  · try simp only [BN] at h2
    rw [if_pos h2] at hres
    subst hres
    refine HT_seq <| HT_runA ?_
    exact HT_ret ⟨.inr rfl, _, le_refl _, ⟨⟨_, by simp; rfl, by simp [resR]⟩, by simp, fun h => by cases h⟩⟩
  · try simp only [BN] at h2
    rw [if_neg (by simpa using h2)] at hres
    subst hres
    refine HT_seq <| HT_runA ?_
    exact HT_ret ⟨.inr rfl, _, le_refl _, ⟨⟨_, by simp; rfl, by simp [resR]⟩, by simp, fun h => by cases h⟩⟩
theorem seenP_con (o : Obs) (t : Bool) (hl : o.outs.length ≤ 1000000000) (d : Nat) : Con Tryz.prog 58 false [aO o, lb t] (.v (aO (seenO o t))) none d := by
  obtain ⟨os, tm⟩ := o
  have ccl := cloneI_con os hl
  obtain ⟨res, hres⟩ : ∃ r, seenO ⟨os, tm⟩ t = r := ⟨_, rfl⟩
  rw [hres]
  unfold seenO at hres
  refine con_of_HT Tryz.func58 rfl (by kernel_rfl) (Nat.le_of_ble_eq_true rfl) ?_
  simp only [Tryz.f58]
  simp only [aO]
  refine HT_seq <| HT_runA ?_
  refine HT_seq <| (HT_runc [⟨false, .v (lI os), none⟩] (by simp [*]; first | exact ⟨rfl, Iff.rfl⟩ | exact ⟨rfl, trivial⟩ | rfl) ?_ ?_)
  · first | exact ccl _ | exact trivial | simpa [*] using ccl _
  refine HT_seq <| HT_seq <| HT_runA ?_
  refine (HT_cond rfl (fun h3 => ?_) (fun h3 => HT_skip ?_))
  · try simp only [BN] at h3
    rw [if_pos h3] at hres
    subst hres
    refine HT_runA ?_
    refine HT_seq <| HT_runA ?_
    exact HT_ret ⟨.inr rfl, _, le_refl _, ⟨⟨_, by simp; rfl, by simp [resR]⟩, by simp, fun h => by cases h⟩⟩
  · try simp only [BN] at h3
    rw [if_neg (by simpa using h3)] at hres
    subst hres
    refine HT_seq <| HT_runA ?_
    exact HT_ret ⟨.inr rfl, _, le_refl _, ⟨⟨_, by simp; rfl, by simp [resR]⟩, by simp, fun h => by cases h⟩⟩
def cmpI (a b : Int) : Int := if a < b then -1 else if b < a then 1 else 0
theorem nan_con (a : Int) (d : Nat) : Con Tryz.prog 115 true [li a] (.v (lb false)) none d := by
  refine con_of_HT Tryz.func115 rfl (by kernel_rfl) (Nat.le_of_ble_eq_true rfl) ?_
  simp only [Tryz.f115]
  refine HT_seq <| HT_runA ?_
  refine HT_seq <| HT_runA ?_
  exact HT_retA fun h => ⟨.inr rfl, h⟩
theorem cmpI_con (a b : Int) (d : Nat) : Con Tryz.prog 93 true [li a, li b] (.v (li (cmpI a b))) none d := by
  obtain ⟨res, hres⟩ : ∃ r, cmpI a b = r := ⟨_, rfl⟩
  rw [hres]
  unfold cmpI at hres
  refine con_of_HT Tryz.func93 rfl (by kernel_rfl) (Nat.le_of_ble_eq_true rfl) ?_
  simp only [Tryz.f93]
  refine HT_seq <| HT_runA ?_
  refine HT_seq <| (HT_runc [⟨true, .v (lb false), none⟩] (by simp [*]; first | exact ⟨rfl, Iff.rfl⟩ | exact ⟨rfl, trivial⟩ | rfl) ?_ ?_)
  · first | exact nan_con _ _ | exact trivial | simpa [*] using nan_con _ _
  refine HT_seq <| (HT_runc [⟨true, .v (lb false), none⟩] (by simp [*]; first | exact ⟨rfl, Iff.rfl⟩ | exact ⟨rfl, trivial⟩ | rfl) ?_ ?_)
  · first | exact nan_con _ _ | exact trivial | simpa [*] using nan_con _ _
  refine HT_seq <| HT_seq <| HT_runA ?_
  refine (HT_cond rfl (fun h4 => ?_) (fun h4 => HT_skip ?_))
  · exact absurd h4 (by simp)
  · try simp only [BN] at h4
    refine HT_seq <| HT_seq <| HT_runA ?_
    refine (HT_cond rfl (fun h12 => ?_) (fun h12 => HT_skip ?_))
    · exact absurd h12 (by simp)
    · try simp only [BN] at h12
      refine HT_seq <| HT_seq <| HT_runA ?_
      refine (HT_cond rfl (fun h16 => ?_) (fun h16 => HT_skip ?_))
      · try simp only [BN] at h16
        rw [if_pos (by simpa using h16)] at hres
        subst hres
        refine HT_seq <| HT_runA ?_
        exact HT_retA fun h => ⟨.inr rfl, h⟩
      · try simp only [BN] at h16
        rw [if_neg (by simpa using h16)] at hres
        refine HT_seq <| HT_seq <| HT_runA ?_
        refine (HT_cond rfl (fun h20 => ?_) (fun h20 => HT_skip ?_))
        · try simp only [BN] at h20
          rw [if_pos (by simpa using h20)] at hres
          subst hres
          refine HT_seq <| HT_runA ?_
          exact HT_retA fun h => ⟨.inr rfl, h⟩
        · try simp only [BN] at h20
          rw [if_neg (by simpa using h20)] at hres
          subst hres
          refine HT_seq <| HT_runA ?_
          exact HT_retA fun h => ⟨.inr rfl, h⟩
def cmpL : List Int → List Int → Int
  | [], [] => 0
  | [], _ :: _ => -1
  | _ :: _, [] => 1
  | x :: a, y :: b => if cmpI x y ≠ 0 then cmpI x y else cmpL a b
theorem cmpI_eq {a b : Int} : cmpI a b = 0 ↔ a = b := by
  unfold cmpI
  (repeat' split) <;> omega
theorem cmpL_eq : ∀ a b : List Int, cmpL a b = 0 ↔ a = b
  | [], [] => by simp [cmpL]
  | [], _ :: _ => by simp [cmpL]
  | _ :: _, [] => by simp [cmpL]
  | x :: a, y :: b => by
    simp only [cmpL, List.cons.injEq]
    have h := @cmpI_eq x y
    split
    · rename_i hc
      exact ⟨fun h0 => absurd h0 hc, fun h0 => absurd (h.2 h0.1) hc⟩
    · rename_i hc
      have : cmpI x y = 0 := by simpa using hc
      rw [cmpL_eq a b]
      exact ⟨fun h0 => ⟨h.1 this, h0⟩, fun h0 => h0.2⟩
theorem cmpL_con (a b : List Int) (ha : a.length ≤ 1000000000) (hb : b.length ≤ 1000000000) (d : Nat) : Con Tryz.prog 60 true [lI a, lI b] (.v (li (cmpL a b))) none d := by
  obtain ⟨res, hres⟩ : ∃ r, cmpL a b = r := ⟨_, rfl⟩
  rw [hres]
  refine con_of_HT Tryz.func60 rfl (by kernel_rfl) (Nat.le_of_ble_eq_true rfl) ?_
  simp only [Tryz.f60]
  refine HT_seq <| HT_runA ?_
  refine HT_seq <| HT_seq <| HT_runA ?_
  refine HT_block <| (HT_loopU [0, 1, 9, 10] (fun (z : Nat) => [(11, .v (li z))]) (fun (z : Nat) => []) (fun (z : Nat) => z ≤ a.length ∧ z ≤ b.length ∧ cmpL (a.drop z) (b.drop z) = res) (fun (z : Nat) => a.length - z) (0 : Nat) ⟨Nat.zero_le _, Nat.zero_le _, hres⟩ ?_ ?_)
  · exact le_mk (fun n => n) [] rfl (by simp [*, upS, keepS]) (by simp [*, upS]) (by simp [upS])
  rintro k ⟨hk, hkb, hJ⟩
  simp only [upS, keepS, insS]
  try simp only [keepS, KN, Nat.reduceBEq, if_true, if_false, ins, Nat.reduceLT]
  clear hres
  refine HT_seq <| HT_runA ?_
  refine HT_seq <| (HT_cond rfl (fun h4 => HT_skip ?_) (fun h4 => ?_))
  · try simp only [BN] at h4
    have hlt : k < a.length := by omega
    obtain ⟨x, he, hd⟩ := at_lt hlt
    have hw1 := wrap1 hlt (by omega)
    have hk1 : k + 1 ≤ a.length := hlt
    rw [hd] at hJ
    clear hlt h4 hd
    refine HT_seq <| HT_block <| HT_seq <| HT_runA ?_
    refine HT_seq <| HT_seq <| HT_runA ?_
    refine (HT_cond rfl (fun h7 => ?_) (fun h7 => HT_skip ?_))
    · try simp only [BN] at h7
      have hbl : b.length ≤ k := by omega
      rw [List.drop_eq_nil_of_le hbl] at hJ
      simp only [cmpL] at hJ
      subst hJ
      refine HT_seq <| HT_runA ?_
      exact HT_retA fun h => ⟨.inr rfl, h⟩
    · try simp only [BN] at h7
      have hbl : k < b.length := by omega
      obtain ⟨y, hey, hdy⟩ := at_lt hbl
      have hkb1 : k + 1 ≤ b.length := hbl
      rw [hdy] at hJ
      simp only [cmpL] at hJ
      have cc := cmpI_con x y
      obtain ⟨c, hc⟩ : ∃ c, cmpI x y = c := ⟨_, rfl⟩
      rw [hc] at cc hJ
      clear hbl h7 hdy hc hkb
      refine HT_seq <| HT_runA ?_
      refine HT_seq <| (HT_runc [⟨true, .v (li c), none⟩] (by simp [*]; first | exact ⟨rfl, Iff.rfl⟩ | exact ⟨rfl, trivial⟩ | rfl) ?_ ?_)
      · first | exact cc _ | exact trivial | simpa [*] using cc _
      refine HT_seq <| HT_runA ?_
      refine (HT_cond rfl (fun h13 => ?_) (fun h13 => HT_skip ?_))
      · try simp only [BN] at h13
        rw [if_pos (by simpa using h13)] at hJ
        subst hJ
        refine HT_seq <| HT_runA ?_
        exact HT_retA fun h => ⟨.inr rfl, h⟩
      · try simp only [BN] at h13
        rw [if_neg (by simpa using h13)] at hJ
        refine HT_runA ?_
        exact ⟨k + 1, ⟨hk1, hkb1, hJ⟩, by omega, le_mk (fun n => n) [] rfl (by simp [upS, keepS, *]) (by simp [*, upS]) (by simp [upS])⟩
  · try simp only [BN] at h4
    have hkl : k = a.length := by omega
    rw [hkl, List.drop_length] at hJ
    clear h4
    refine (HT_exit ?_)
    refine HT_seq <| HT_seq <| HT_runA ?_
    refine (HT_cond rfl (fun h19 => ?_) (fun h19 => HT_skip ?_))
    · try simp only [BN] at h19
      obtain ⟨y, hey, hdy⟩ := at_lt (show a.length < b.length by omega)
      rw [hdy] at hJ
      simp only [cmpL] at hJ
      subst hJ
      refine HT_seq <| HT_runA ?_
      exact HT_retA fun h => ⟨.inr rfl, h⟩
    · try simp only [BN] at h19
      rw [List.drop_eq_nil_of_le (by omega)] at hJ
      simp only [cmpL] at hJ
      subst hJ
      refine HT_seq <| HT_runA ?_
      exact HT_retA fun h => ⟨.inr rfl, h⟩
def cmpO (a b : Obs) : Int := if cmpL a.outs b.outs ≠ 0 then cmpL a.outs b.outs else cmpI a.time b.time
theorem cmpO_eq (a b : Obs) : cmpO a b = 0 ↔ a = b := by
  obtain ⟨ao, at_⟩ := a
  obtain ⟨bo, bt⟩ := b
  unfold cmpO
  simp only [Obs.mk.injEq]
  have h := cmpL_eq ao bo
  split
  · rename_i hc
    exact ⟨fun h0 => absurd h0 hc, fun h0 => absurd (h.2 h0.1) hc⟩
  · rename_i hc
    have : cmpL ao bo = 0 := by simpa using hc
    rw [cmpI_eq]
    exact ⟨fun h0 => ⟨h.1 this, h0⟩, fun h0 => h0.2⟩
theorem cmpO_con (a b : Obs) (ha : a.outs.length ≤ 1000000000) (hb : b.outs.length ≤ 1000000000) (d : Nat) : Con Tryz.prog 28 true [aO a, aO b] (.v (li (cmpO a b))) none d := by
  obtain ⟨ao, at_⟩ := a
  obtain ⟨bo, bt⟩ := b
  simp only at ha hb
  have cc := cmpL_con ao bo ha hb
  obtain ⟨res, hres⟩ : ∃ r, cmpO ⟨ao, at_⟩ ⟨bo, bt⟩ = r := ⟨_, rfl⟩
  rw [hres]
  unfold cmpO cmpI at hres
  simp only at hres
  obtain ⟨c, hc⟩ : ∃ c, cmpL ao bo = c := ⟨_, rfl⟩
  rw [hc] at cc hres
  clear hc ha hb
  refine con_of_HT Tryz.func28 rfl (by kernel_rfl) (Nat.le_of_ble_eq_true rfl) ?_
  simp only [Tryz.f28]
  simp only [aO]
  refine HT_seq <| HT_runA ?_
  refine HT_seq <| HT_seq <| (HT_runc [⟨true, .v (li c), none⟩] (by simp [*]; first | exact ⟨rfl, Iff.rfl⟩ | exact ⟨rfl, trivial⟩ | rfl) ?_ ?_)
  · first | exact cc _ | exact trivial | simpa [*] using cc _
  refine HT_seq <| HT_runA ?_
  refine (HT_cond rfl (fun h3 => ?_) (fun h3 => HT_skip ?_))
  · try simp only [BN] at h3
    rw [if_pos h3] at hres
    subst hres
    refine HT_seq <| HT_runA ?_
    exact HT_retA fun h => ⟨.inr rfl, h⟩
  · try simp only [BN] at h3
    rw [if_neg (by simpa using h3)] at hres
    refine HT_seq <| HT_block <| HT_seq <| HT_runA ?_
    refine (HT_cond rfl (fun h7 => ?_) (fun h7 => ?_))
    · try simp only [BN] at h7
      rw [if_pos (by simpa using h7)] at hres
      subst hres
      refine HT_seq <| HT_runA ?_
      exact HT_retA fun h => ⟨.inr rfl, h⟩
    · try simp only [BN] at h7
      rw [if_neg (by simpa using h7)] at hres
      refine HT_seq <| HT_runA ?_
      refine (HT_cond rfl (fun h11 => ?_) (fun h11 => HT_skip ?_))
      · try simp only [BN] at h11
        rw [if_pos (by simpa using h11)] at hres
        subst hres
        refine HT_seq <| HT_runA ?_
        exact HT_retA fun h => ⟨.inr rfl, h⟩
      · try simp only [BN] at h11
        rw [if_neg (by simpa using h11)] at hres
        subst hres
        refine HT_seq <| HT_runA ?_
        exact HT_retA fun h => ⟨.inr rfl, h⟩
theorem eqG (a b : List Int) (h : a.length = b.length) (hall : ∀ k : Nat, k < a.length → a[k]? = b[k]?) : a = b := by
  apply List.ext_getElem?
  intro k
  by_cases hk : k < a.length
  · exact hall k hk
  · rw [List.getElem?_eq_none (by omega), List.getElem?_eq_none (by omega)]
theorem eqIg_con (a b : List Int) (ha : a.length ≤ 1000000000) (hb : b.length ≤ 1000000000) (d : Nat) : Con Tryz.prog 31 true [lI a, lI b] (.v (lb (decide (a = b)))) none d := by
  obtain ⟨res, hres⟩ : ∃ r, decide (a = b) = r := ⟨_, rfl⟩
  rw [hres]
  refine con_of_HT Tryz.func31 rfl (by kernel_rfl) (Nat.le_of_ble_eq_true rfl) ?_
  simp only [Tryz.f31]
  refine HT_seq <| HT_runA ?_
  refine HT_seq <| HT_seq <| HT_runA ?_
  refine (HT_cond rfl (fun h2 => ?_) (fun h2 => HT_skip ?_))
  · try simp only [BN] at h2
    have hz : res = false := by
      rw [← hres, decide_eq_false_iff_not]
      intro h
      subst h
      simp at h2
    subst hz
    refine HT_seq <| HT_runA ?_
    exact HT_retA fun h => ⟨.inr rfl, h⟩
  · try simp only [BN] at h2
    have hle : a.length = b.length := by omega
    clear h2
    refine HT_seq <| HT_seq <| HT_runA ?_
    refine HT_block <| (HT_loopU [0, 1] (fun (z : Nat) => [(5, .v (li z))]) (fun (z : Nat) => []) (fun (z : Nat) => z ≤ a.length ∧ ∀ k : Nat, k < z → a[k]? = b[k]?) (fun (z : Nat) => a.length - z) (0 : Nat) ⟨Nat.zero_le _, fun k hk => absurd hk (Nat.not_lt_zero k)⟩ ?_ ?_)
    · exact le_mk (fun n => n) [] rfl (by simp [*, upS, keepS]) (by simp [*, upS]) (by simp [upS])
    rintro k ⟨hk, hall⟩
    simp only [upS, keepS, insS]
    try simp only [keepS, KN, Nat.reduceBEq, if_true, if_false, ins, Nat.reduceLT]
    refine HT_seq <| HT_seq <| HT_runA ?_
    refine (HT_cond rfl (fun h8 => HT_skip ?_) (fun h8 => ?_))
    · try simp only [BN] at h8
      have hlt : k < a.length := by omega
      obtain ⟨x, he, _⟩ := at_lt hlt
      obtain ⟨y, hey, _⟩ := at_lt (show k < b.length by omega)
      have hw1 := wrap1 hlt (by omega)
      have hk1 : k + 1 ≤ a.length := hlt
      clear hlt h8
      refine HT_seq <| HT_block <| HT_seq <| (HT_drun (by kernel_rfl) (by kernel_rfl) (by rfl) (by simp [*]; rfl) ?_)
      refine (HT_cond rfl (fun h10 => ?_) (fun h10 => HT_skip ?_))
      · try simp only [BN] at h10
        have hz : res = false := by
          rw [← hres, decide_eq_false_iff_not]
          intro h
          subst h
          rw [he] at hey
          cases hey
          simp at h10
        subst hz
        refine HT_seq <| HT_runA ?_
        exact HT_retA fun h => ⟨.inr rfl, h⟩
      · try simp only [BN] at h10
        refine HT_runA ?_
        exact ⟨k + 1, ⟨hk1, fun j hj => by
          rcases Nat.lt_or_eq_of_le (Nat.le_of_lt_succ hj) with h | h
          · exact hall j h
          · rw [h, he, hey]
            have : x = y := by simpa using h10
            rw [this]⟩, by omega, le_mk (fun n => n) [] rfl (by simp [upS, keepS, *]) (by simp [*, upS]) (by simp [upS])⟩
    · try simp only [BN] at h8
      have hz : res = true := by
        rw [← hres, decide_eq_true_eq]
        exact eqG a b hle fun j hj => hall j (by omega)
      subst hz
      refine (HT_exit ?_)
      refine HT_seq <| HT_runA ?_
      exact HT_retA fun h => ⟨.inr rfl, h⟩
theorem eqSl_con (a b : List Int) (ha : a.length ≤ 1000000000) (hb : b.length ≤ 1000000000) (d : Nat) : Con Tryz.prog 16 true [lI a, lI b] (.v (lb (decide (a = b)))) none d := by
  obtain ⟨res, hres⟩ : ∃ r, decide (a = b) = r := ⟨_, rfl⟩
  rw [hres]
  refine con_of_HT Tryz.func16 rfl (by kernel_rfl) (Nat.le_of_ble_eq_true rfl) ?_
  simp only [Tryz.f16]
  refine HT_seq <| HT_runA ?_
  refine HT_seq <| HT_seq <| HT_runA ?_
  refine (HT_cond rfl (fun h2 => ?_) (fun h2 => HT_skip ?_))
  · try simp only [BN] at h2
    have hz : res = false := by
      rw [← hres, decide_eq_false_iff_not]
      intro h
      subst h
      simp at h2
    subst hz
    refine HT_seq <| HT_runA ?_
    exact HT_retA fun h => ⟨.inr rfl, h⟩
  · try simp only [BN] at h2
    have hle : a.length = b.length := by omega
    clear h2
    refine HT_seq <| HT_seq <| HT_runA ?_
    refine HT_block <| (HT_loopU [0, 1, 12] (fun (z : Nat) => [(13, .v (li z))]) (fun (z : Nat) => []) (fun (z : Nat) => z ≤ a.length ∧ ∀ k : Nat, k < z → a[k]? = b[k]?) (fun (z : Nat) => a.length - z) (0 : Nat) ⟨Nat.zero_le _, fun k hk => absurd hk (Nat.not_lt_zero k)⟩ ?_ ?_)
    · exact le_mk (fun n => n) [] rfl (by simp [*, upS, keepS]) (by simp [*, upS]) (by simp [upS])
    rintro k ⟨hk, hall⟩
    simp only [upS, keepS, insS]
    try simp only [keepS, KN, Nat.reduceBEq, if_true, if_false, ins, Nat.reduceLT]
    refine HT_seq <| HT_runA ?_
    refine HT_seq <| (HT_cond rfl (fun h8 => HT_skip ?_) (fun h8 => ?_))
    · try simp only [BN] at h8
      have hlt : k < a.length := by omega
      obtain ⟨x, he, _⟩ := at_lt hlt
      obtain ⟨y, hey, _⟩ := at_lt (show k < b.length by omega)
      have hw1 := wrap1 hlt (by omega)
      have hk1 : k + 1 ≤ a.length := hlt
      clear hlt h8
      refine HT_seq <| HT_block <| HT_seq <| HT_runA ?_
      refine HT_seq <| (HT_drun (by kernel_rfl) (by kernel_rfl) (by rfl) (by simp [*]; rfl) ?_)
      refine (HT_cond rfl (fun h11 => ?_) (fun h11 => HT_skip ?_))
      · try simp only [BN] at h11
        have hz : res = false := by
          rw [← hres, decide_eq_false_iff_not]
          intro h
          subst h
          rw [he] at hey
          cases hey
          simp at h11
        subst hz
        refine HT_seq <| HT_runA ?_
        exact HT_retA fun h => ⟨.inr rfl, h⟩
      · try simp only [BN] at h11
        refine HT_runA ?_
        exact ⟨k + 1, ⟨hk1, fun j hj => by
          rcases Nat.lt_or_eq_of_le (Nat.le_of_lt_succ hj) with h | h
          · exact hall j h
          · rw [h, he, hey]
            have : x = y := by simpa using h11
            rw [this]⟩, by omega, le_mk (fun n => n) [] rfl (by simp [upS, keepS, *]) (by simp [*, upS]) (by simp [upS])⟩
    · try simp only [BN] at h8
      have hz : res = true := by
        rw [← hres, decide_eq_true_eq]
        exact eqG a b hle fun j hj => hall j (by omega)
      subst hz
      refine (HT_exit ?_)
      refine HT_seq <| HT_runA ?_
      exact HT_retA fun h => ⟨.inr rfl, h⟩
end Go.Proofs.YteekbhkjfaegiaaGreat

namespace Go.Proofs.YteekbhkjfaegiaaGreat
open Go Go.Hl

def Inp.enc (i : Inp) : List CD := [.sl 1 (encIs i.s), .sl 1 (encIs i.p), .sl 1 (encIs i.r)]
def encNs (l : List Inp) : List (List CD) := l.map Inp.enc
@[simp] theorem encNs_app (a b : List Inp) : encNs (a ++ b) = encNs a ++ encNs b := by simp [encNs]
@[simp] theorem encNs_len (l : List Inp) : (encNs l).length = l.length := by simp [encNs]
@[simp] theorem get_encN (l : List Inp) (i : Nat) : (encNs l)[i]? = l[i]?.map Inp.enc := by simp [encNs]
abbrev lN (l : List Inp) : TV := .one (.c (.sl 3 (encNs l)))
def inAt (vars : List Vr) (k : Nat) : Inp := inpK vars ((k : Int) / (spc vars 2 * spc vars 3)) ((k : Int) / spc vars 3 % spc vars 2) ((k : Int) % spc vars 3)
def insL (vars : List Vr) : List Inp := (List.range (spc vars 1 * spc vars 2 * spc vars 3).toNat).map (inAt vars)
theorem mul_small {a b m n : Int} (ha : 1 ≤ a ∧ a ≤ m) (hb : 1 ≤ b ∧ b ≤ n) : 1 ≤ a * b ∧ a * b ≤ m * n := by
  have h1 := Int.mul_le_mul_of_nonneg_right ha.1 (show 0 ≤ b by omega)
  have h2 := Int.mul_le_mul_of_nonneg_right ha.2 (show 0 ≤ b by omega)
  have h3 := Int.mul_le_mul_of_nonneg_left hb.2 (show 0 ≤ m by omega)
  omega
theorem spc_pos {vars : List Vr} (h : goodV' vars) (kind : Int) : 1 ≤ spc vars kind := (prV_in h _ 1 (fun v hv => (List.mem_filter.1 hv).1) (by decide)).1
/-- what an input of the list is good for -/
def inB : List Vr → List Int → Prop
  | [], [] => True
  | v :: l, x :: xs => (v.low ≤ x ∧ x ≤ v.high) ∧ inB l xs
  | _, _ => False
theorem uL_in : ∀ (l : List Vr) (r : Int), goodV' l → inB l (uL l r)
  | [], r, _ => trivial
  | v :: l, r, h => by
    have hs := (sz_in h (List.mem_cons_self : v ∈ v :: l)).1
    have h0 : 0 ≤ r / pdL l % sz v := Int.emod_nonneg _ (by omega)
    have h1 : r / pdL l % sz v < sz v := Int.emod_lt_of_pos _ (by omega)
    refine ⟨?_, uL_in l r fun w hw => h w (List.mem_cons_of_mem _ hw)⟩
    unfold sz at *
    omega
theorem inB_cons {v : Vr} {l : List Vr} {s : List Int} {a : Nat} (h : inB (v :: l) (s.drop a)) : ∃ x, s[a]? = some x ∧ a < s.length ∧ v.low ≤ x ∧ x ≤ v.high ∧ inB l (s.drop (a + 1)) := by
  rcases Nat.lt_or_ge a s.length with hlt | hge
  · obtain ⟨x, he, hd⟩ := at_lt hlt
    rw [hd] at h
    exact ⟨x, he, hlt, h.1.1, h.1.2, h.2⟩
  · rw [List.drop_eq_nil_of_le hge] at h
    exact h.elim
theorem inB_nil {s : List Int} {a : Nat} (h : inB [] (s.drop a)) (ha : a ≤ s.length) : a = s.length := by
  rcases Nat.lt_or_ge a s.length with hlt | hge
  · obtain ⟨x, he, hd⟩ := at_lt hlt
    rw [hd] at h
    exact h.elim
  · omega
theorem stL_ok (i : Inp) : ∀ (l : List Vr) (a b c : Nat) (vals : List Int), (∀ v ∈ l, v.kind ≠ 1 → v.kind ≠ 2 → v.kind ≠ 3 → v.low ≤ v.init ∧ v.init ≤ v.high) →
    inB (ofK l 1) (i.s.drop a) → inB (ofK l 2) (i.p.drop b) → inB (ofK l 3) (i.r.drop c) → a ≤ i.s.length → b ≤ i.p.length → c ≤ i.r.length → (stL i l a b c vals true).2 = 0
  | [], a, b, c, vals, _, h1, h2, h3, ha, hb, hc => by
    have e1 := inB_nil h1 ha
    have e2 := inB_nil h2 hb
    have e3 := inB_nil h3 hc
    simp [stL, e1, e2, e3]
  | v :: l, a, b, c, vals, hk, h1, h2, h3, ha, hb, hc => by
    have hk' : ∀ v ∈ l, v.kind ≠ 1 → v.kind ≠ 2 → v.kind ≠ 3 → v.low ≤ v.init ∧ v.init ≤ v.high := fun w hw => hk w (List.mem_cons_of_mem _ hw)
    simp only [stL]
    unfold ofK at h1 h2 h3
    by_cases k1 : v.kind = 1
    · rw [List.filter_cons_of_pos (by simpa using k1)] at h1
      rw [List.filter_cons_of_neg (by simp [k1])] at h2
      rw [List.filter_cons_of_neg (by simp [k1])] at h3
      obtain ⟨x, he, hlt, l1, l2, hr⟩ := inB_cons h1
      simp only [pick3, if_pos k1, he, Option.getD_some, decide_eq_true hlt, if_true, decide_eq_true l1, decide_eq_true l2, Bool.and_true]
      exact stL_ok i l _ _ _ _ hk' hr h2 h3 (by omega) hb hc
    · by_cases k2 : v.kind = 2
      · rw [List.filter_cons_of_neg (by simp [k2])] at h1
        rw [List.filter_cons_of_pos (by simpa using k2)] at h2
        rw [List.filter_cons_of_neg (by simp [k2])] at h3
        obtain ⟨x, he, hlt, l1, l2, hr⟩ := inB_cons h2
        simp only [pick3, if_neg k1, if_pos k2, he, Option.getD_some, decide_eq_true hlt, if_true, decide_eq_true l1, decide_eq_true l2, Bool.and_true]
        exact stL_ok i l _ _ _ _ hk' h1 hr h3 ha (by omega) hc
      · by_cases k3 : v.kind = 3
        · rw [List.filter_cons_of_neg (by simp [k3])] at h1
          rw [List.filter_cons_of_neg (by simp [k3])] at h2
          rw [List.filter_cons_of_pos (by simpa using k3)] at h3
          obtain ⟨x, he, hlt, l1, l2, hr⟩ := inB_cons h3
          simp only [pick3, if_neg k1, if_neg k2, if_pos k3, he, Option.getD_some, decide_eq_true hlt, if_true, decide_eq_true l1, decide_eq_true l2, Bool.and_true]
          exact stL_ok i l _ _ _ _ hk' h1 h2 hr ha hb (by omega)
        · rw [List.filter_cons_of_neg (by simpa using k1)] at h1
          rw [List.filter_cons_of_neg (by simpa using k2)] at h2
          rw [List.filter_cons_of_neg (by simpa using k3)] at h3
          obtain ⟨l1, l2⟩ := hk v List.mem_cons_self k1 k2 k3
          simp only [pick3, if_neg k1, if_neg k2, if_neg k3, if_true, decide_eq_true l1, decide_eq_true l2, Bool.and_true]
          exact stL_ok i l _ _ _ _ hk' h1 h2 h3 ha hb hc
theorem vcs_init : ∀ (l seen : List Vr), vcs seen l = 0 → ∀ v ∈ l, v.kind ≠ 1 → v.kind ≠ 2 → v.kind ≠ 3 → v.low ≤ v.init ∧ v.init ≤ v.high
  | [], _, _, v, hv => by cases hv
  | w :: l, seen, h, v, hv => by
    simp only [vcs] at h
    split at h
    · rename_i h0
      rcases List.mem_cons.1 hv with rfl | hv
      · intro k1 k2 k3
        unfold vcode at h0
        split at h0
        · cases h0
        · split at h0
          · cases h0
          · split at h0
            · cases h0
            · rename_i hkr
              split at h0
              · cases h0
              · rename_i hkb
                unfold kindBad at hkb
                have hk0 : v.kind = 0 := by omega
                omega
      · exact vcs_init l _ h v hv
    · rename_i h0
      exact absurd h h0
theorem ins_ok {vars : List Vr} (h : varsC vars = 0) {i : Inp} (hi : i ∈ insL vars) : (stL i vars 0 0 0 [] true).2 = 0 := by
  have hg := varsC_good h
  obtain ⟨k, _, rfl⟩ := List.mem_map.1 hi
  have hvc : vcs [] vars = 0 := by
    unfold varsC at h
    split at h
    · assumption
    · rename_i h0; exact absurd h h0
  refine stL_ok _ vars 0 0 0 [] (vcs_init vars [] hvc) ?_ ?_ ?_ (Nat.zero_le _) (Nat.zero_le _) (Nat.zero_le _)
  · rw [List.drop_zero]; exact uL_in _ _ (ofK_good hg 1)
  · rw [List.drop_zero]; exact uL_in _ _ (ofK_good hg 2)
  · rw [List.drop_zero]; exact uL_in _ _ (ofK_good hg 3)
theorem insL_len {vars : List Vr} (hv : goodV' vars) (hA : spc vars 1 ≤ 16) (hB : spc vars 2 ≤ 4) (hC : spc vars 3 ≤ 4) : (insL vars).length ≤ 256 := by
  have mAB := mul_small ⟨spc_pos hv 1, hA⟩ ⟨spc_pos hv 2, hB⟩
  have mN := mul_small mAB ⟨spc_pos hv 3, hC⟩
  unfold insL
  rw [List.length_map, List.length_range]
  omega
end Go.Proofs.YteekbhkjfaegiaaGreat
