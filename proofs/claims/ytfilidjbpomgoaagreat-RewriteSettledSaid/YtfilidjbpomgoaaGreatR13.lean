/- Part 13: contracts of functions of the program and of the reference, and plain facts about what they compute; used by the proof of the claimed statement. Conditions: as each theorem states. -/
import Derived.Test.YtfilidjbpomgoaaGreatR12
import Derived.Test.YtfilidjbpomgoaaGreatR11
set_option linter.unusedSimpArgs false
set_option linter.unusedVariables false
set_option linter.unnecessarySimpa false
set_option maxRecDepth 100000
set_option maxHeartbeats 2000000
namespace Go.Proofs.YtfilidjbpomgoaaGreat
open Go Go.Hl

def Inp.enc (i : Inp) : List CD := [.sl 1 (encIs i.s), .sl 1 (encIs i.p), .sl 1 (encIs i.r)]
def encNs (l : List Inp) : List (List CD) := l.map Inp.enc
@[simp] theorem encNs_app (a b : List Inp) : encNs (a ++ b) = encNs a ++ encNs b := by simp [encNs]
@[simp] theorem encNs_len (l : List Inp) : (encNs l).length = l.length := by simp [encNs]
@[simp] theorem get_encN (l : List Inp) (i : Nat) : (encNs l)[i]? = l[i]?.map Inp.enc := by simp [encNs]
abbrev lN (l : List Inp) : TV := .one (.c (.sl 3 (encNs l)))
def inAt (vars : List Vr) (k : Nat) : Inp := inpK vars ((k : Int) / (spc vars 2 * spc vars 3)) ((k : Int) / spc vars 3 % spc vars 2) ((k : Int) % spc vars 3)
def insL (vars : List Vr) : List Inp := (List.range (spc vars 1 * spc vars 2 * spc vars 3).toNat).map (inAt vars)
theorem mul_small {a b m n : Int} (ha : 1 ≤ a ∧ a ≤ m) (hb : 1 ≤ b ∧ b ≤ n) : 1 ≤ a * b ∧ a * b ≤ m * n := by
  have h1 := Int.mul_le_mul_of_nonneg_right ha.1 (show 0 ≤ b by omega)
  have h2 := Int.mul_le_mul_of_nonneg_right ha.2 (show 0 ≤ b by omega)
  have h3 := Int.mul_le_mul_of_nonneg_left hb.2 (show 0 ≤ m by omega)
  omega
theorem spc_pos {vars : List Vr} (h : goodV' vars) (kind : Int) : 1 ≤ spc vars kind := (prV_in h _ 1 (fun v hv => (List.mem_filter.1 hv).1) (by decide)).1
theorem inputs_con (f : Fl) (hv : goodV' f.vars) (hl : f.vars.length ≤ 1000000) (hA : spc f.vars 1 ≤ 16) (hB : spc f.vars 2 ≤ 4) (hC : spc f.vars 3 ≤ 4) (d : Nat) :
    Con Tryz.prog 15 false [aF f] (.v (lN (insL f.vars))) none d := by
  obtain ⟨vars, hats, body⟩ := f
  simp only at hv hl hA hB hC ⊢
  have hs : ∀ k, 1 ≤ k → k ≤ 3 → spc vars k ≤ 4096 := by
    intro k h1 h2
    have : k = 1 ∨ k = 2 ∨ k = 3 := by omega
    rcases this with rfl | rfl | rfl <;> omega
  have c1 := space13_con vars 1 (by decide) hv hl (hs 1 (by decide) (by decide))
  have c2 := space13_con vars 2 (by decide) hv hl (hs 2 (by decide) (by decide))
  have c3 := space13_con vars 3 (by decide) hv hl (hs 3 (by decide) (by decide))
  have ci := inp13_con vars hv hl hs
  have p1 := spc_pos hv 1
  have p2 := spc_pos hv 2
  have p3 := spc_pos hv 3
  unfold insL
  have hat : ∀ k, inAt vars k = inpK vars ((k : Int) / (spc vars 2 * spc vars 3)) ((k : Int) / spc vars 3 % spc vars 2) ((k : Int) % spc vars 3) := fun k => rfl
  obtain ⟨A, eA⟩ : ∃ x, spc vars 1 = x := ⟨_, rfl⟩
  obtain ⟨B, eB⟩ : ∃ x, spc vars 2 = x := ⟨_, rfl⟩
  obtain ⟨C, eC⟩ : ∃ x, spc vars 3 = x := ⟨_, rfl⟩
  obtain ⟨g, hg⟩ : ∃ g, inAt vars = g := ⟨_, rfl⟩
  rw [eA] at c1 ci p1 hA
  rw [eB] at c2 ci p2 hB hat
  rw [eC] at c3 ci p3 hC hat
  rw [eA, eB, eC, hg]
  rw [hg] at hat
  clear eA eB eC hg hs hv
  have mAB := mul_small ⟨p1, hA⟩ ⟨p2, hB⟩
  have mBC := mul_small ⟨p2, hB⟩ ⟨p3, hC⟩
  have mN := mul_small mAB ⟨p3, hC⟩
  have hass : A * B * C = A * (B * C) := Int.mul_assoc _ _ _
  obtain ⟨AB, eAB⟩ : ∃ x, A * B = x := ⟨_, rfl⟩
  rw [eAB] at mAB mN hass ⊢
  obtain ⟨BC, eBC⟩ : ∃ x, B * C = x := ⟨_, rfl⟩
  rw [eBC] at mBC hat hass
  obtain ⟨N, eN⟩ : ∃ x, AB * C = x := ⟨_, rfl⟩
  rw [eN] at mN hass ⊢
  replace hass := hass.symm
  have hn0 : encNs [] = [] := rfl
  have wAB : IntKind.i64.wrap AB = AB := wrap_in (by omega) (by omega)
  have wBC : IntKind.i64.wrap BC = BC := wrap_in (by omega) (by omega)
  have wN : IntKind.i64.wrap N = N := wrap_in (by omega) (by omega)
  have hC0 : ¬ C = 0 := by omega
  have hB0 : ¬ B = 0 := by omega
  have hBC0 : ¬ BC = 0 := by omega
  have hNn : ((N.toNat : Nat) : Int) = N := by omega
  obtain ⟨M, eM⟩ : ∃ x, N.toNat = x := ⟨_, rfl⟩
  rw [eM] at hNn ⊢
  refine con_of_HT Tryz.func15 rfl (by kernel_rfl) (Nat.le_of_ble_eq_true rfl) ?_
  simp only [Tryz.f15]
  simp only [aF, Fl.enc, List.map_cons, List.map_nil]
  refine HT_seq <| (HT_run (by simp [*]; rfl) ?_)
  refine HT_seq <| (HT_runc [⟨true, .tup [li A, li 0], none⟩] (by simp [*]; first | exact ⟨rfl, Iff.rfl⟩ | exact ⟨rfl, trivial⟩ | rfl) ?_ ?_)
  · first | exact c1 _ | exact trivial | simpa [*] using c1 _
  refine HT_seq <| (HT_runc [⟨true, .tup [li B, li 0], none⟩] (by simp [*]; first | exact ⟨rfl, Iff.rfl⟩ | exact ⟨rfl, trivial⟩ | rfl) ?_ ?_)
  · first | exact c2 _ | exact trivial | simpa [*] using c2 _
  refine HT_seq <| (HT_runc [⟨true, .tup [li C, li 0], none⟩] (by simp [*]; first | exact ⟨rfl, Iff.rfl⟩ | exact ⟨rfl, trivial⟩ | rfl) ?_ ?_)
  · first | exact c3 _ | exact trivial | simpa [*] using c3 _
  refine HT_seq <| (HT_run (by simp [*]; rfl) ?_)
  refine HT_seq <| HT_seq <| (HT_run (by simp [*]; rfl) ?_)
  refine HT_block <| (HT_loopU [1, 3, 5, 7] (fun (x : Nat) => [(9, .v (.one (.own 1009))), (10, .v (li x))]) (fun (x : Nat) => [(1, .box [.c (.sl 5 (encVs vars)), .c (.sl 6 (encHs hats)), .c (.sl 10 (encSs body))]), (1009, .row 41 3 (encNs ((List.range x).map g)))]) (fun (x : Nat) => x ≤ M) (fun (x : Nat) => M - x) (0 : Nat) (Nat.zero_le _) ?_ ?_)
  · exact le_mk (fun n => if n = 1009 then 31 else n) [] rfl (by simp [*, upS, keepS]) (by simp [*, upS]) (by simp [upS])
  rintro k hk
  simp only [upS, keepS, insS]
  try simp only [keepS, List.contains_cons, List.contains_nil, Bool.or_false, Bool.or_true, Bool.true_or, Bool.false_or, Nat.reduceBEq, BEq.rfl, beq_self_eq_true, if_true, if_false, Bool.false_eq_true, ite_true, ite_false, ins, Nat.reduceLT]
  clear c1 c2 c3
  refine HT_seq <| HT_seq <| (HT_run (by simp [*]; rfl) ?_)
  refine (HT_cond rfl (fun h8 => HT_skip ?_) (fun h8 => ?_))
  · try simp only [Bool.or_eq_true, Bool.and_eq_true, Bool.or_eq_false_iff, Bool.and_eq_false_iff, Bool.not_eq_true', Bool.not_eq_false', decide_eq_true_eq, decide_eq_false_iff_not] at h8
    have hlt : k < M := by omega
    have hw1 : IntKind.i64.wrap ((k : Int) + 1) = (k : Int) + 1 := wrap_in (by omega) (by omega)
    have hk1 : k + 1 ≤ M := hlt
    have hgk := hat k
    have t1 : (k : Int).tdiv BC = (k : Int) / BC := Int.tdiv_eq_ediv_of_nonneg (by omega)
    have t2 : (k : Int).tdiv C = (k : Int) / C := Int.tdiv_eq_ediv_of_nonneg (by omega)
    have t3 : ((k : Int) / C).tmod B = (k : Int) / C % B := Int.tmod_eq_emod_of_nonneg (Int.ediv_nonneg (by omega) (by omega))
    have t4 : (k : Int).tmod C = (k : Int) % C := Int.tmod_eq_emod_of_nonneg (by omega)
    have r1 : 0 ≤ (k : Int) / BC := Int.ediv_nonneg (by omega) (by omega)
    have r2 : (k : Int) / BC < A := Int.ediv_lt_of_lt_mul (by omega) (by omega)
    have r3 : 0 ≤ (k : Int) / C % B := Int.emod_nonneg _ (by omega)
    have r4 : (k : Int) / C % B < B := Int.emod_lt_of_pos _ (by omega)
    have r5 : 0 ≤ (k : Int) % C := Int.emod_nonneg _ (by omega)
    have r6 : (k : Int) % C < C := Int.emod_lt_of_pos _ (by omega)
    have r7 : 0 ≤ (k : Int) / C := Int.ediv_nonneg (by omega) (by omega)
    have r8 : (k : Int) / C ≤ (k : Int) := Int.ediv_le_self _ (by omega)
    have ci := ci _ _ _ ⟨r1, r2⟩ ⟨r3, r4⟩ ⟨r5, r6⟩
    obtain ⟨q, eq⟩ : ∃ x, (k : Int) / C = x := ⟨_, rfl⟩
    rw [eq] at t2 t3 r3 r4 r7 r8 ci hgk
    obtain ⟨a, ea⟩ : ∃ x, (k : Int) / BC = x := ⟨_, rfl⟩
    rw [ea] at t1 r1 r2 ci hgk
    obtain ⟨b, eb⟩ : ∃ x, q % B = x := ⟨_, rfl⟩
    rw [eb] at t3 r3 r4 ci hgk
    obtain ⟨c, ec⟩ : ∃ x, (k : Int) % C = x := ⟨_, rfl⟩
    rw [ec] at t4 r5 r6 ci hgk
    have w1 : IntKind.i64.wrap a = a := wrap_in (by omega) (by omega)
    have w2 : IntKind.i64.wrap q = q := wrap_in (by omega) (by omega)
    obtain ⟨⟨xs, xp, xr⟩, hX⟩ : ∃ x, inpK vars a b c = x := ⟨_, rfl⟩
    rw [hX] at ci hgk
    have hsn : encNs ((List.range (k + 1)).map g) = encNs ((List.range k).map g) ++ [[.sl 1 (encIs xs), .sl 1 (encIs xp), .sl 1 (encIs xr)]] := by
      rw [List.range_succ, List.map_append, encNs_app]
      simp [encNs, hgk, Inp.enc]
    have htl : ((List.range k).map g).length = k := by simp
    have hroom : room (k + 1) 72 := room_of (by omega) (by omega)
    clear hat hX h8 hlt eq ea eb ec hgk r1 r2 r3 r4 r5 r6 r7 r8
    refine HT_seq <| HT_block <| HT_seq <| (HT_drunc [⟨false, .tup [.agg [.c (.sl 1 (encIs xs)), .c (.sl 1 (encIs xp)), .c (.sl 1 (encIs xr))], li 0], none⟩] (by kernel_rfl) (by kernel_rfl) (by rfl) (by simp [*]; first | exact ⟨rfl, Iff.rfl⟩ | exact ⟨rfl, trivial⟩ | rfl) ?_ ?_)
    · first | exact ci _ | exact trivial | simpa [*] using ci _
    refine (HT_run (by simp [*]; rfl) ?_)
    refine (HT_run (by simp [*]; rfl) ?_)
    exact ⟨k + 1, hk1, by omega, le_mk (fun n => if n = 1009 then 63 else n) [] rfl (by simp [upS, keepS, *]) (by simp [*, upS]) (by simp [upS])⟩
  · try simp only [Bool.or_eq_true, Bool.and_eq_true, Bool.or_eq_false_iff, Bool.and_eq_false_iff, Bool.not_eq_true', Bool.not_eq_false', decide_eq_true_eq, decide_eq_false_iff_not] at h8
    have hkl : k = M := by omega
    subst hkl
    refine (HT_exit ?_)
    refine HT_seq <| (HT_run (by simp [*]; rfl) ?_)
    exact HT_ret ⟨.inr rfl, _, le_frz 1009 rfl, ⟨⟨_, by simp; rfl, by simp [resR]⟩, by simp, fun h => by cases h⟩⟩
/-- what an input of the list is good for -/
def inB : List Vr → List Int → Prop
  | [], [] => True
  | v :: l, x :: xs => (v.low ≤ x ∧ x ≤ v.high) ∧ inB l xs
  | _, _ => False
theorem uL_in : ∀ (l : List Vr) (r : Int), goodV' l → inB l (uL l r)
  | [], r, _ => trivial
  | v :: l, r, h => by
    have hs := (sz_in h (List.mem_cons_self : v ∈ v :: l)).1
    have h0 : 0 ≤ r / pdL l % sz v := Int.emod_nonneg _ (by omega)
    have h1 : r / pdL l % sz v < sz v := Int.emod_lt_of_pos _ (by omega)
    refine ⟨?_, uL_in l r fun w hw => h w (List.mem_cons_of_mem _ hw)⟩
    unfold sz at *
    omega
theorem inB_cons {v : Vr} {l : List Vr} {s : List Int} {a : Nat} (h : inB (v :: l) (s.drop a)) : ∃ x, s[a]? = some x ∧ a < s.length ∧ v.low ≤ x ∧ x ≤ v.high ∧ inB l (s.drop (a + 1)) := by
  rcases Nat.lt_or_ge a s.length with hlt | hge
  · obtain ⟨x, he, hd⟩ := at_lt hlt
    rw [hd] at h
    exact ⟨x, he, hlt, h.1.1, h.1.2, h.2⟩
  · rw [List.drop_eq_nil_of_le hge] at h
    exact h.elim
theorem inB_nil {s : List Int} {a : Nat} (h : inB [] (s.drop a)) (ha : a ≤ s.length) : a = s.length := by
  rcases Nat.lt_or_ge a s.length with hlt | hge
  · obtain ⟨x, he, hd⟩ := at_lt hlt
    rw [hd] at h
    exact h.elim
  · omega
theorem stL_ok (i : Inp) : ∀ (l : List Vr) (a b c : Nat) (vals : List Int), (∀ v ∈ l, v.kind ≠ 1 → v.kind ≠ 2 → v.kind ≠ 3 → v.low ≤ v.init ∧ v.init ≤ v.high) →
    inB (ofK l 1) (i.s.drop a) → inB (ofK l 2) (i.p.drop b) → inB (ofK l 3) (i.r.drop c) → a ≤ i.s.length → b ≤ i.p.length → c ≤ i.r.length → (stL i l a b c vals true).2 = 0
  | [], a, b, c, vals, _, h1, h2, h3, ha, hb, hc => by
    have e1 := inB_nil h1 ha
    have e2 := inB_nil h2 hb
    have e3 := inB_nil h3 hc
    simp [stL, e1, e2, e3]
  | v :: l, a, b, c, vals, hk, h1, h2, h3, ha, hb, hc => by
    have hk' : ∀ v ∈ l, v.kind ≠ 1 → v.kind ≠ 2 → v.kind ≠ 3 → v.low ≤ v.init ∧ v.init ≤ v.high := fun w hw => hk w (List.mem_cons_of_mem _ hw)
    simp only [stL]
    unfold ofK at h1 h2 h3
    by_cases k1 : v.kind = 1
    · rw [List.filter_cons_of_pos (by simpa using k1)] at h1
      rw [List.filter_cons_of_neg (by simp [k1])] at h2
      rw [List.filter_cons_of_neg (by simp [k1])] at h3
      obtain ⟨x, he, hlt, l1, l2, hr⟩ := inB_cons h1
      simp only [pick3, if_pos k1, he, Option.getD_some, decide_eq_true hlt, if_true, decide_eq_true l1, decide_eq_true l2, Bool.and_true]
      exact stL_ok i l _ _ _ _ hk' hr h2 h3 (by omega) hb hc
    · by_cases k2 : v.kind = 2
      · rw [List.filter_cons_of_neg (by simp [k2])] at h1
        rw [List.filter_cons_of_pos (by simpa using k2)] at h2
        rw [List.filter_cons_of_neg (by simp [k2])] at h3
        obtain ⟨x, he, hlt, l1, l2, hr⟩ := inB_cons h2
        simp only [pick3, if_neg k1, if_pos k2, he, Option.getD_some, decide_eq_true hlt, if_true, decide_eq_true l1, decide_eq_true l2, Bool.and_true]
        exact stL_ok i l _ _ _ _ hk' h1 hr h3 ha (by omega) hc
      · by_cases k3 : v.kind = 3
        · rw [List.filter_cons_of_neg (by simp [k3])] at h1
          rw [List.filter_cons_of_neg (by simp [k3])] at h2
          rw [List.filter_cons_of_pos (by simpa using k3)] at h3
          obtain ⟨x, he, hlt, l1, l2, hr⟩ := inB_cons h3
          simp only [pick3, if_neg k1, if_neg k2, if_pos k3, he, Option.getD_some, decide_eq_true hlt, if_true, decide_eq_true l1, decide_eq_true l2, Bool.and_true]
          exact stL_ok i l _ _ _ _ hk' h1 h2 hr ha hb (by omega)
        · rw [List.filter_cons_of_neg (by simpa using k1)] at h1
          rw [List.filter_cons_of_neg (by simpa using k2)] at h2
          rw [List.filter_cons_of_neg (by simpa using k3)] at h3
          obtain ⟨l1, l2⟩ := hk v List.mem_cons_self k1 k2 k3
          simp only [pick3, if_neg k1, if_neg k2, if_neg k3, if_true, decide_eq_true l1, decide_eq_true l2, Bool.and_true]
          exact stL_ok i l _ _ _ _ hk' h1 h2 h3 ha hb hc
theorem vcs_init : ∀ (l seen : List Vr), vcs seen l = 0 → ∀ v ∈ l, v.kind ≠ 1 → v.kind ≠ 2 → v.kind ≠ 3 → v.low ≤ v.init ∧ v.init ≤ v.high
  | [], _, _, v, hv => by cases hv
  | w :: l, seen, h, v, hv => by
    simp only [vcs] at h
    split at h
    · rename_i h0
      rcases List.mem_cons.1 hv with rfl | hv
      · intro k1 k2 k3
        unfold vcode at h0
        split at h0
        · cases h0
        · split at h0
          · cases h0
          · split at h0
            · cases h0
            · rename_i hkr
              split at h0
              · cases h0
              · rename_i hkb
                unfold kindBad at hkb
                have hk0 : v.kind = 0 := by omega
                omega
      · exact vcs_init l _ h v hv
    · rename_i h0
      exact absurd h h0
theorem ins_ok {vars : List Vr} (h : varsC vars = 0) {i : Inp} (hi : i ∈ insL vars) : (stL i vars 0 0 0 [] true).2 = 0 := by
  have hg := varsC_good h
  obtain ⟨k, _, rfl⟩ := List.mem_map.1 hi
  have hvc : vcs [] vars = 0 := by
    unfold varsC at h
    split at h
    · assumption
    · rename_i h0; exact absurd h h0
  refine stL_ok _ vars 0 0 0 [] (vcs_init vars [] hvc) ?_ ?_ ?_ (Nat.zero_le _) (Nat.zero_le _) (Nat.zero_le _)
  · rw [List.drop_zero]; exact uL_in _ _ (ofK_good hg 1)
  · rw [List.drop_zero]; exact uL_in _ _ (ofK_good hg 2)
  · rw [List.drop_zero]; exact uL_in _ _ (ofK_good hg 3)
theorem insL_len {vars : List Vr} (hv : goodV' vars) (hA : spc vars 1 ≤ 16) (hB : spc vars 2 ≤ 4) (hC : spc vars 3 ≤ 4) : (insL vars).length ≤ 256 := by
  have mAB := mul_small ⟨spc_pos hv 1, hA⟩ ⟨spc_pos hv 2, hB⟩
  have mN := mul_small mAB ⟨spc_pos hv 3, hC⟩
  unfold insL
  rw [List.length_map, List.length_range]
  omega
end Go.Proofs.YtfilidjbpomgoaaGreat

namespace Go.Proofs.YtfilidjbpomgoaaGreat
open Go Go.Hl

mutual
def tL : Tm → Int → Int
  | .mk _ _ ks, left => tLs ks (left - 1)
def tLs : List Tm → Int → Int
  | [], left => left
  | t :: l, left => if 0 ≤ left then tLs l (tL t left) else left
end
def lo1 (x : Int) : Int := if x < 0 then x else -1
mutual
theorem tL_in : ∀ (t : Tm) (left : Int), lo1 (left - 1) ≤ tL t left ∧ tL t left ≤ left - 1
  | .mk _ _ ks, left => by
    simp only [tL]
    exact tLs_in ks (left - 1)
theorem tLs_in : ∀ (l : List Tm) (left : Int), lo1 left ≤ tLs l left ∧ tLs l left ≤ left
  | [], left => by
    simp only [tLs, lo1]
    split <;> omega
  | t :: l, left => by
    simp only [tLs]
    split
    · have h1 := tL_in t left
      have h2 := tLs_in l (tL t left)
      unfold lo1 at *
      refine ⟨?_, by omega⟩
      split
      · omega
      · refine Int.le_trans ?_ h2.1
        split <;> (try split at h1) <;> omega
    · unfold lo1
      split <;> omega
end
theorem tLs_neg (l : List Tm) (left : Int) (h : left < 0) : tLs l left = left := by
  cases l with
  | nil => rfl
  | cons t l => simp only [tLs]; rw [if_neg (by omega)]
mutual
theorem tL_pos : ∀ (t : Tm) (left : Int), 0 ≤ tL t left → tL t left = left - t.nodes
  | .mk _ _ ks, left => by
    simp only [tL, Tm.nodes]
    intro h
    have := tLs_pos ks (left - 1) h
    omega
theorem tLs_pos : ∀ (l : List Tm) (left : Int), 0 ≤ tLs l left → tLs l left = left - nodesT l
  | [], left => by simp [tLs, nodesT]
  | t :: l, left => by
    simp only [tLs, nodesT]
    split
    · intro h
      have h1 := tLs_pos l (tL t left) h
      have h2 := tLs_in l (tL t left)
      have h3 := tL_pos t left (by omega)
      omega
    · intro h; omega
end
def sL : List St → Int → Int
  | [], left => left
  | .mk _ _ _ _ t a b bs :: l, left =>
    if 0 ≤ left then (if tL t (left - 1) < bs.length then -1 else sL l (sL b (sL a (tL t (left - 1) - bs.length)))) else left
theorem sL_neg (l : List St) (left : Int) (h : left < 0) : sL l left = left := by
  cases l with
  | nil => simp [sL]
  | cons s l => obtain ⟨d, c, v, n, t, a, b, bs⟩ := s; simp only [sL]; rw [if_neg (by omega)]
theorem sL_in : ∀ (l : List St) (left : Int), lo1 left ≤ sL l left ∧ sL l left ≤ left
  | [], left => by
    simp only [sL, lo1]
    split <;> omega
  | .mk _ _ _ _ t a b bs :: l, left => by
    simp only [sL]
    by_cases h0 : 0 ≤ left
    · rw [if_pos h0]
      have e : lo1 left = -1 := by unfold lo1; rw [if_neg (by omega)]
      rw [e]
      split
      · omega
      · have h1 := tL_in t (left - 1)
        have ha := sL_in a (tL t (left - 1) - bs.length)
        have hb := sL_in b (sL a (tL t (left - 1) - bs.length))
        have hl := sL_in l (sL b (sL a (tL t (left - 1) - bs.length)))
        refine ⟨?_, by omega⟩
        generalize sL l (sL b (sL a (tL t (left - 1) - bs.length))) = z at *
        generalize sL b (sL a (tL t (left - 1) - bs.length)) = y at *
        generalize sL a (tL t (left - 1) - bs.length) = x at *
        generalize tL t (left - 1) = w at *
        unfold lo1 at ha hb hl
        (repeat' split at ha) <;> (repeat' split at hb) <;> (repeat' split at hl) <;> omega
    · rw [if_neg h0]
      unfold lo1
      split <;> omega
theorem sL_pos : ∀ (l : List St) (left : Int), left ≤ 1000000 → 0 ≤ sL l left → sL l left ≤ left - nodesS l ∧ bndL l = true
  | [], left, _, _ => by simp [sL, nodesS, bndL]
  | .mk _ _ _ _ t a b bs :: l, left, hle, h => by
    simp only [sL] at h ⊢
    by_cases h0 : 0 ≤ left
    · rw [if_pos h0] at h ⊢
      split at h
      · omega
      · rename_i hbs
        rw [if_neg hbs]
        have i0 := tL_in t (left - 1)
        have ia := sL_in a (tL t (left - 1) - bs.length)
        have ib := sL_in b (sL a (tL t (left - 1) - bs.length))
        have il := sL_in l (sL b (sL a (tL t (left - 1) - bs.length)))
        have p3 := sL_pos l (sL b (sL a (tL t (left - 1) - bs.length))) (by omega) h
        have p2 := sL_pos b (sL a (tL t (left - 1) - bs.length)) (by omega) (by omega)
        have p1 := sL_pos a (tL t (left - 1) - bs.length) (by omega) (by omega)
        have p0 := tL_pos t (left - 1) (by omega)
        simp only [nodesS, St.nodes, bndL, bndS, p1.2, p2.2, p3.2, Bool.and_true, decide_eq_true_eq]
        omega
    · rw [if_neg h0] at h
      omega
def hL : List Ht → Int → Int
  | [], m => m
  | h :: l, m => hL l (tL h.term m)
theorem hL_le : ∀ (l : List Ht) (m : Int), hL l m ≤ m
  | [], m => by simp [hL]
  | h :: l, m => by
    have h1 := hL_le l (tL h.term m)
    have h2 := tL_in h.term m
    simp only [hL]
    omega
theorem hL_pos : ∀ (l : List Ht) (m : Int), 0 ≤ hL l m → hL l m = m - nodesH l
  | [], m, _ => by simp [hL, nodesH]
  | h :: l, m, h0 => by
    simp only [hL, nodesH] at h0 ⊢
    have h1 := hL_pos l _ h0
    have h2 := hL_le l (tL h.term m)
    have h3 := tL_pos h.term m (by omega)
    omega
def fewB (f : Fl) (vars nodes : Int) : Bool := if vars < f.vars.length ∨ vars < f.hats.length then false else decide (0 ≤ hL f.hats (sL f.body nodes))
theorem fewB_in {f : Fl} {vars nodes : Int} (hn : nodes ≤ 1000000) (h : fewB f vars nodes = true) : f.vars.length ≤ vars ∧ f.hats.length ≤ vars ∧ nodesS f.body + nodesH f.hats ≤ nodes ∧ bndL f.body = true := by
  unfold fewB at h
  split at h
  · cases h
  · rename_i h1
    simp only [decide_eq_true_eq] at h
    have e1 := hL_pos _ _ h
    have e2 := hL_le f.hats (sL f.body nodes)
    have e3 := sL_pos f.body nodes hn (by omega)
    exact ⟨by omega, by omega, by omega, e3.2⟩

theorem tleft_con (t : Tm) : ∀ left : Int, -1000000 ≤ left → left ≤ 1000000 → ∀ d : Nat, Con Tryz.prog 26 true [aT t, li left] (.v (li (tL t left))) none d := by
  induction t using Tm.ind with
  | h o n ks ih =>
  intro left h1 h2 d
  obtain ⟨res, hres⟩ : ∃ r, tL (.mk o n ks) left = r := ⟨_, rfl⟩
  rw [hres]
  simp only [tL] at hres
  have hw0 : IntKind.i64.wrap (left - 1) = left - 1 := wrap_in (by omega) (by omega)
  refine con_of_HT Tryz.func26 rfl (by kernel_rfl) (Nat.le_of_ble_eq_true rfl) ?_
  simp only [Tryz.f26]
  simp only [aT, Tm.enc]
  refine HT_seq <| (HT_run (by simp [*]; rfl) ?_)
  refine HT_seq <| (HT_run (by simp [*]; rfl) ?_)
  refine HT_seq <| HT_seq <| (HT_run (by simp [*]; rfl) ?_)
  refine HT_block <| (HT_loopU [2] (fun (x : Nat × Int) => [(1, .v (li x.2)), (5, .v (li x.1))]) (fun (x : Nat × Int) => [(2, .box [.c (iC o), .c (iC n), .c (.sl 3 (encTs ks))])]) (fun (x : Nat × Int) => x.1 ≤ ks.length ∧ tLs (ks.drop x.1) x.2 = res ∧ -1000001 ≤ x.2 ∧ x.2 + x.1 ≤ 1000000) (fun (x : Nat × Int) => ks.length - x.1) (0, left - 1) ⟨Nat.zero_le _, by simpa using hres, by simp only; omega, by simp only; omega⟩ ?_ ?_)
  · exact le_mk (fun n => n) [] rfl (by simp [*, upS, keepS]) (by simp [*, upS]) (by simp [upS])
  rintro ⟨k, m⟩ ⟨hk, hJ, hm, hm2⟩
  simp only [upS, keepS, insS]
  try simp only [keepS, List.contains_cons, List.contains_nil, Bool.or_false, Bool.or_true, Bool.true_or, Bool.false_or, Nat.reduceBEq, BEq.rfl, beq_self_eq_true, if_true, if_false, Bool.false_eq_true, ite_true, ite_false, ins, Nat.reduceLT]
  simp only at hk hJ hm hm2
  refine HT_seq <| HT_seq <| (HT_run (by simp [*]; rfl) ?_)
  refine (HT_cond rfl (fun h5 => HT_skip ?_) (fun h5 => ?_))
  · try simp only [Bool.or_eq_true, Bool.and_eq_true, Bool.or_eq_false_iff, Bool.and_eq_false_iff, Bool.not_eq_true', Bool.not_eq_false', decide_eq_true_eq, decide_eq_false_iff_not] at h5
    have hlt : k < ks.length := by omega
    have hm0 : 0 ≤ m := by omega
    obtain ⟨⟨eo, en, ek⟩, he, hd⟩ := at_lt hlt
    have he' := get_encT he
    simp only [Tm.enc] at he'
    have hw1 : IntKind.i64.wrap ((k : Int) + 1) = (k : Int) + 1 := wrap_in (by omega) (by omega)
    rw [hd] at hJ
    simp only [tLs] at hJ
    rw [if_pos hm0] at hJ
    have hk1 : k + 1 ≤ ks.length := hlt
    have c := ih _ (List.mem_of_getElem? he) m (by omega) (by omega)
    have hti := tL_in (.mk eo en ek) m
    have hlo : -1 ≤ lo1 (m - 1) := by unfold lo1; split <;> omega
    obtain ⟨M, hM⟩ : ∃ x, tL (.mk eo en ek) m = x := ⟨_, rfl⟩
    rw [hM] at c hJ hti
    clear hlt h5 hM ih hd
    refine HT_seq <| HT_block <| (HT_runc [⟨true, .v (li M), none⟩] (by simp [*]; first | exact ⟨rfl, Iff.rfl⟩ | exact ⟨rfl, trivial⟩ | rfl) ?_ ?_)
    · first | exact c _ | exact trivial | simpa [*] using c _
    refine (HT_run (by simp [*]; rfl) ?_)
    exact ⟨(k + 1, M), ⟨hk1, hJ, by simp only; omega, by simp only; omega⟩, by simp only; omega, le_mk (fun n => n) [] rfl (by simp [upS, keepS, *]) (by simp [*, upS]) (by simp [upS])⟩
  · try simp only [Bool.or_eq_true, Bool.and_eq_true, Bool.or_eq_false_iff, Bool.and_eq_false_iff, Bool.not_eq_true', Bool.not_eq_false', decide_eq_true_eq, decide_eq_false_iff_not] at h5
    have hz : tLs (ks.drop k) m = m := by
      by_cases hm0 : m < 0
      · exact tLs_neg _ _ hm0
      · have hkl : k = ks.length := by omega
        rw [hkl, List.drop_length]
        rfl
    rw [hz] at hJ
    subst hJ
    refine (HT_exit ?_)
    refine HT_seq <| (HT_run (by simp [*]; rfl) ?_)
    exact (HT_retE (fun h => ⟨.inr rfl, h⟩) _ (by simp [*]; rfl) (by first | rfl | (simp [*]; done) | (simp only [resR]; (repeat' split) <;> first | rfl | (exfalso; omega) | simp_all)) (by simp))
theorem sleft_con (l : List St) : ∀ left : Int, -1000000 ≤ left → left ≤ 1000000 → ∀ d : Nat, Con Tryz.prog 25 true [lS l, li left] (.v (li (sL l left))) none d := by
  revert l
  apply St.lists
  intro l ih left h1 h2 d
  obtain ⟨res, hres⟩ : ∃ r, sL l left = r := ⟨_, rfl⟩
  rw [hres]
  refine con_of_HT Tryz.func25 rfl (by kernel_rfl) (Nat.le_of_ble_eq_true rfl) ?_
  simp only [Tryz.f25]
  refine HT_seq <| (HT_run (by simp [*]; rfl) ?_)
  refine HT_seq <| HT_seq <| (HT_run (by simp [*]; rfl) ?_)
  refine HT_block <| (HT_loopU [0] (fun (x : Nat × Int) => [(1, .v (li x.2)), (5, .v (li x.1))]) (fun (x : Nat × Int) => []) (fun (x : Nat × Int) => x.1 ≤ l.length ∧ sL (l.drop x.1) x.2 = res ∧ -1000001 ≤ x.2 ∧ x.2 + x.1 ≤ 1000000) (fun (x : Nat × Int) => l.length - x.1) (0, left) ⟨Nat.zero_le _, hres, by simp only; omega, by simp only; omega⟩ ?_ ?_)
  · exact le_mk (fun n => n) [] rfl (by simp [*, upS, keepS]) (by simp [*, upS]) (by simp [upS])
  rintro ⟨k, m⟩ ⟨hk, hJ, hm, hm2⟩
  simp only [upS, keepS, insS]
  try simp only [keepS, List.contains_cons, List.contains_nil, Bool.or_false, Bool.or_true, Bool.true_or, Bool.false_or, Nat.reduceBEq, BEq.rfl, beq_self_eq_true, if_true, if_false, Bool.false_eq_true, ite_true, ite_false, ins, Nat.reduceLT]
  simp only at hk hJ hm hm2
  clear hres
  refine HT_seq <| HT_seq <| (HT_run (by simp [*]; rfl) ?_)
  refine (HT_cond rfl (fun h4 => HT_skip ?_) (fun h4 => ?_))
  · try simp only [Bool.or_eq_true, Bool.and_eq_true, Bool.or_eq_false_iff, Bool.and_eq_false_iff, Bool.not_eq_true', Bool.not_eq_false', decide_eq_true_eq, decide_eq_false_iff_not] at h4
    have hlt : k < l.length := by omega
    have hm0 : 0 ≤ m := by omega
    obtain ⟨s, he, hd⟩ := at_lt hlt
    have hmem : s ∈ l := List.mem_of_getElem? he
    have iha := (ih s hmem).1
    have ihb := (ih s hmem).2
    have hw1 : IntKind.i64.wrap ((k : Int) + 1) = (k : Int) + 1 := wrap_in (by omega) (by omega)
    have hk1 : k + 1 ≤ l.length := hlt
    have he' := get_encS he
    obtain ⟨sd, sc, sv, sn, ⟨so, stn, sks⟩, sa, sb, sbs⟩ := s
    simp only [St.then_, St.else_] at iha ihb
    simp only [St.enc, Tm.enc, List.cons_append, List.nil_append] at he'
    rw [hd] at hJ
    simp only [sL] at hJ
    rw [if_pos hm0] at hJ
    have hw2 : IntKind.i64.wrap (m - 1) = m - 1 := wrap_in (by omega) (by omega)
    have c := tleft_con (.mk so stn sks) (m - 1) (by omega) (by omega)
    have hti := tL_in (.mk so stn sks) (m - 1)
    have hlo : -2 ≤ lo1 (m - 1 - 1) := by unfold lo1; split <;> omega
    obtain ⟨M, hM⟩ : ∃ x, tL (.mk so stn sks) (m - 1) = x := ⟨_, rfl⟩
    rw [hM] at c hJ hti
    simp only [aT, Tm.enc, List.map_cons, List.map_nil] at c
    clear hlt h4 hM ih hd hmem
    refine HT_seq <| HT_block <| HT_seq <| (HT_runc [⟨true, .v (li M), none⟩] (by simp [*]; first | exact ⟨rfl, Iff.rfl⟩ | exact ⟨rfl, trivial⟩ | rfl) ?_ ?_)
    · first | exact c _ | exact trivial | simpa [*] using c _
    refine HT_seq <| HT_seq <| (HT_run (by simp [*]; rfl) ?_)
    refine (HT_cond rfl (fun h7 => ?_) (fun h7 => HT_skip ?_))
    · try simp only [Bool.or_eq_true, Bool.and_eq_true, Bool.or_eq_false_iff, Bool.and_eq_false_iff, Bool.not_eq_true', Bool.not_eq_false', decide_eq_true_eq, decide_eq_false_iff_not] at h7
      rw [if_pos h7] at hJ
      subst hJ
      refine HT_seq <| (HT_run (by simp [*]; rfl) ?_)
      exact (HT_retE (fun h => ⟨.inr rfl, h⟩) _ (by simp [*]; rfl) (by first | rfl | (simp [*]; done) | (simp only [resR]; (repeat' split) <;> first | rfl | (exfalso; omega) | simp_all)) (by simp))
    · try simp only [Bool.or_eq_true, Bool.and_eq_true, Bool.or_eq_false_iff, Bool.and_eq_false_iff, Bool.not_eq_true', Bool.not_eq_false', decide_eq_true_eq, decide_eq_false_iff_not] at h7
      rw [if_neg (by omega)] at hJ
      have hw3 : IntKind.i64.wrap (M - (sbs.length : Int)) = M - (sbs.length : Int) := wrap_in (by omega) (by omega)
      have c1 := iha (M - sbs.length) (by omega) (by omega)
      have s1 := sL_in sa (M - sbs.length)
      have hl1 : -1 ≤ lo1 (M - sbs.length) := by unfold lo1; split <;> omega
      obtain ⟨M1, hM1⟩ : ∃ x, sL sa (M - sbs.length) = x := ⟨_, rfl⟩
      rw [hM1] at c1 s1 hJ
      have c2 := ihb M1 (by omega) (by omega)
      have s2 := sL_in sb M1
      have hl2 : -1 ≤ lo1 M1 := by unfold lo1; split <;> omega
      obtain ⟨M2, hM2⟩ : ∃ x, sL sb M1 = x := ⟨_, rfl⟩
      rw [hM2] at c2 s2 hJ
      clear iha ihb hM1 hM2 h7 c
      refine (HT_drunc [⟨true, .v (li M1), none⟩, ⟨true, .v (li M2), none⟩] (by kernel_rfl) (by kernel_rfl) (by rfl) (by simp [*]; first | exact ⟨rfl, Iff.rfl⟩ | exact ⟨rfl, trivial⟩ | rfl) ?_ ?_)
      · first | exact ⟨c1 _, c2 _⟩ | exact trivial | (repeat' first | exact trivial | exact c1 _ | exact c2 _ | apply And.intro)
      refine (HT_run (by simp [*]; rfl) ?_)
      exact ⟨(k + 1, M2), ⟨hk1, hJ, by simp only; omega, by simp only; omega⟩, by simp only; omega, le_mk (fun n => n) [] rfl (by simp [upS, keepS, *]) (by simp [*, upS]) (by simp [upS])⟩
  · try simp only [Bool.or_eq_true, Bool.and_eq_true, Bool.or_eq_false_iff, Bool.and_eq_false_iff, Bool.not_eq_true', Bool.not_eq_false', decide_eq_true_eq, decide_eq_false_iff_not] at h4
    have hz : sL (l.drop k) m = m := by
      by_cases hm0 : m < 0
      · exact sL_neg _ _ hm0
      · have hkl : k = l.length := by omega
        rw [hkl, List.drop_length]
        simp [sL]
    rw [hz] at hJ
    subst hJ
    refine (HT_exit ?_)
    refine HT_seq <| (HT_run (by simp [*]; rfl) ?_)
    exact (HT_retE (fun h => ⟨.inr rfl, h⟩) _ (by simp [*]; rfl) (by first | rfl | (simp [*]; done) | (simp only [resR]; (repeat' split) <;> first | rfl | (exfalso; omega) | simp_all)) (by simp))
theorem few_con (f : Fl) (vars nodes : Int) (hv : 0 ≤ vars ∧ vars ≤ 1000) (hn : 0 ≤ nodes ∧ nodes ≤ 1000) (d : Nat) : Con Tryz.prog 7 true [aF f, li vars, li nodes] (.v (lb (fewB f vars nodes))) none d := by
  obtain ⟨vs, hats, body⟩ := f
  obtain ⟨res, hres⟩ : ∃ r, fewB ⟨vs, hats, body⟩ vars nodes = r := ⟨_, rfl⟩
  rw [hres]
  unfold fewB at hres
  simp only at hres
  have cs := sleft_con body nodes (by omega) (by omega)
  have hsi := sL_in body nodes
  have hlo : -2 ≤ lo1 nodes := by unfold lo1; split <;> omega
  obtain ⟨S, hS⟩ : ∃ x, sL body nodes = x := ⟨_, rfl⟩
  rw [hS] at hres cs hsi
  clear hS
  refine con_of_HT Tryz.func7 rfl (by kernel_rfl) (Nat.le_of_ble_eq_true rfl) ?_
  simp only [Tryz.f7]
  simp only [aF, Fl.enc, List.map_cons, List.map_nil]
  refine HT_seq <| (HT_run (by simp [*]; rfl) ?_)
  refine HT_seq <| HT_seq <| (HT_run (by simp [*]; rfl) ?_)
  refine (HT_cond rfl (fun h2 => ?_) (fun h2 => HT_skip ?_))
  · try simp only [Bool.or_eq_true, Bool.and_eq_true, Bool.or_eq_false_iff, Bool.and_eq_false_iff, Bool.not_eq_true', Bool.not_eq_false', decide_eq_true_eq, decide_eq_false_iff_not] at h2
    rw [if_pos (by omega)] at hres
    subst hres
    refine HT_seq <| (HT_run (by simp [*]; rfl) ?_)
    exact (HT_retE (fun h => ⟨.inr rfl, h⟩) _ (by simp [*]; rfl) (by first | rfl | (simp [*]; done) | (simp only [resR]; (repeat' split) <;> first | rfl | (exfalso; omega) | simp_all)) (by simp))
  · try simp only [Bool.or_eq_true, Bool.and_eq_true, Bool.or_eq_false_iff, Bool.and_eq_false_iff, Bool.not_eq_true', Bool.not_eq_false', decide_eq_true_eq, decide_eq_false_iff_not] at h2
    rw [if_neg (by omega)] at hres
    obtain ⟨E, hE⟩ : ∃ x, hL hats S = x := ⟨_, rfl⟩
    rw [hE] at hres
    refine HT_seq <| (HT_runc [⟨true, .v (li S), none⟩] (by simp [*]; first | exact ⟨rfl, Iff.rfl⟩ | exact ⟨rfl, trivial⟩ | rfl) ?_ ?_)
    · first | exact cs _ | exact trivial | simpa [*] using cs _
    refine HT_seq <| HT_seq <| (HT_run (by simp [*]; rfl) ?_)
    refine HT_block <| (HT_loopU [27, 28] (fun (x : Nat × Int) => [(7, .v (li x.2)), (29, .v (li x.1))]) (fun (x : Nat × Int) => []) (fun (x : Nat × Int) => x.1 ≤ hats.length ∧ hL (hats.drop x.1) x.2 = E ∧ -2 - (x.1 : Int) ≤ x.2 ∧ x.2 ≤ 1000) (fun (x : Nat × Int) => hats.length - x.1) (0, S) ⟨Nat.zero_le _, hE, by simp only; omega, by simp only; omega⟩ ?_ ?_)
    · exact le_mk (fun n => n) [] rfl (by simp [*, upS, keepS]) (by simp [*, upS]) (by simp [upS])
    rintro ⟨k, m⟩ ⟨hk, hJ, hm, hm2⟩
    simp only [upS, keepS, insS]
    try simp only [keepS, List.contains_cons, List.contains_nil, Bool.or_false, Bool.or_true, Bool.true_or, Bool.false_or, Nat.reduceBEq, BEq.rfl, beq_self_eq_true, if_true, if_false, Bool.false_eq_true, ite_true, ite_false, ins, Nat.reduceLT]
    simp only at hk hJ hm hm2
    clear hE
    refine HT_seq <| (HT_run (by simp [*]; rfl) ?_)
    refine HT_seq <| (HT_cond rfl (fun h9 => HT_skip ?_) (fun h9 => ?_))
    · try simp only [Bool.or_eq_true, Bool.and_eq_true, Bool.or_eq_false_iff, Bool.and_eq_false_iff, Bool.not_eq_true', Bool.not_eq_false', decide_eq_true_eq, decide_eq_false_iff_not] at h9
      have hlt : k < hats.length := by omega
      obtain ⟨h, he, hd⟩ := at_lt hlt
      have hw1 : IntKind.i64.wrap ((k : Int) + 1) = (k : Int) + 1 := wrap_in (by omega) (by omega)
      have hk1 : k + 1 ≤ hats.length := hlt
      have c := tleft_con h.term m (by omega) (by omega)
      have hti := tL_in h.term m
      have hl1 : -3 - (k : Int) ≤ lo1 (m - 1) := by unfold lo1; split <;> omega
      rw [hd] at hJ
      simp only [hL] at hJ
      obtain ⟨nm, lo, hi, ⟨o, tn, ks⟩⟩ := h
      simp only at c hti hJ
      obtain ⟨M, hM⟩ : ∃ x, tL (.mk o tn ks) m = x := ⟨_, rfl⟩
      rw [hM] at c hJ hti
      simp only [aT, Tm.enc, List.map_cons, List.map_nil] at c
      clear hlt h9 hM hd
      refine HT_seq <| HT_block <| HT_seq <| (HT_run (by simp [*]; rfl) ?_)
      refine (HT_runc [⟨true, .v (li M), none⟩] (by simp [*]; first | exact ⟨rfl, Iff.rfl⟩ | exact ⟨rfl, trivial⟩ | rfl) ?_ ?_)
      · first | exact c _ | exact trivial | simpa [*] using c _
      refine (HT_run (by simp [*]; rfl) ?_)
      exact ⟨(k + 1, M), ⟨hk1, hJ, by simp only; omega, by simp only; omega⟩, by simp only; omega, le_mk (fun n => n) [] rfl (by simp [upS, keepS, *]) (by simp [*, upS]) (by simp [upS])⟩
    · try simp only [Bool.or_eq_true, Bool.and_eq_true, Bool.or_eq_false_iff, Bool.and_eq_false_iff, Bool.not_eq_true', Bool.not_eq_false', decide_eq_true_eq, decide_eq_false_iff_not] at h9
      have hkl : k = hats.length := by omega
      rw [hkl, List.drop_length] at hJ
      simp only [hL] at hJ
      subst hJ
      subst hres
      refine (HT_exit ?_)
      refine HT_seq <| (HT_run (by simp [*]; rfl) ?_)
      exact (HT_retE (fun h => ⟨.inr rfl, h⟩) _ (by simp [*]; rfl) (by first | rfl | (simp [*]; done) | (simp only [resR]; (repeat' split) <;> first | rfl | (exfalso; omega) | simp_all)) (by simp))
end Go.Proofs.YtfilidjbpomgoaaGreat

namespace Go.Proofs.YtfilidjbpomgoaaGreat
open Go Go.Hl

/-! ## valid and small -/
theorem varsC_spc {vars : List Vr} (h : varsC vars = 0) : ∀ k, 1 ≤ k → k ≤ 3 → spc vars k ≤ 4096 := by
  intro k h1 h2
  unfold varsC at h
  split at h
  · split at h
    · cases h
    · rename_i hb
      simp only [List.any_cons, List.any_nil, Bool.or_false, Bool.or_eq_true, badK, decide_eq_true_eq, not_or] at hb
      have : k = 1 ∨ k = 2 ∨ k = 3 := by omega
      rcases this with rfl | rfl | rfl <;> omega
  · rename_i h0; exact absurd h h0
def fitB (f : Fl) (a b c : Int) : Bool := fewB f 10 80 && (decide (codeC f = 0) && (((decide (spc f.vars 1 ≤ a) && decide (spc f.vars 2 ≤ b)) && decide (spc f.vars 3 ≤ c)) && decide ((bdL CR f.body ⟨0, 0, 0⟩).s ≤ 400)))
theorem fit17_con (f : Fl) (a b c : Int) (d : Nat) : Con Tryz.prog 41 true [aF f, li a, li b, li c] (.v (lb (fitB f a b c))) none d := by
  have cf := few_con f 10 80 (by decide) (by decide)
  have hin : fewB f 10 80 = true → f.vars.length ≤ 1000000 ∧ f.hats.length ≤ 1000000 ∧ nodesS f.body + nodesH f.hats ≤ 80 ∧ bndL f.body = true := by
    intro h
    have := fewB_in (nodes := 80) (by decide) h
    exact ⟨by omega, by omega, by omega, this.2.2.2⟩
  have hcc : fewB f 10 80 = true → ∀ d, Con Tryz.prog 9 true [aF f] (.v (li (codeC f))) none d := fun h => checkR_con f (hin h).1 (hin h).2.1 (by have := (hin h).2.2.1; omega) (hin h).2.2.2
  have hsp : fewB f 10 80 = true → codeC f = 0 → ∀ k, 1 ≤ k → k ≤ 3 → ∀ d, Con Tryz.prog 42 true [lV f.vars, li k] (.tup [li (spc f.vars k), li 0]) none d := fun h h0 k k1 k2 =>
    space13_con f.vars k ⟨k1, k2⟩ (varsC_good (code_split h0).2.1) (hin h).1 (varsC_spc (code_split h0).2.1 k k1 k2)
  have hbd : fewB f 10 80 = true → codeC f = 0 → ∀ d, Con Tryz.prog 19 true [lS f.body] (.tup [li (bdL CR f.body ⟨0, 0, 0⟩).s, li (bdL CR f.body ⟨0, 0, 0⟩).o, li (bdL CR f.body ⟨0, 0, 0⟩).t]) none d := fun h h0 =>
    boundsR_con f.body (by have := (hin h).2.2.1; omega) (ssC_ok _ _ (code_split h0).2.2.2.1)
  obtain ⟨res, hres⟩ : ∃ r, fitB f a b c = r := ⟨_, rfl⟩
  rw [hres]
  unfold fitB at hres
  obtain ⟨vars, hats, body⟩ := f
  simp only at hsp hbd hres
  obtain ⟨FW, hFW⟩ : ∃ x, fewB ⟨vars, hats, body⟩ 10 80 = x := ⟨_, rfl⟩
  obtain ⟨K, hK⟩ : ∃ x, codeC ⟨vars, hats, body⟩ = x := ⟨_, rfl⟩
  obtain ⟨S1, h1⟩ : ∃ x, spc vars 1 = x := ⟨_, rfl⟩
  obtain ⟨S2, h2⟩ : ∃ x, spc vars 2 = x := ⟨_, rfl⟩
  obtain ⟨S3, h3⟩ : ∃ x, spc vars 3 = x := ⟨_, rfl⟩
  have q1 := fun h h0 => hsp h h0 1 (by decide) (by decide)
  have q2 := fun h h0 => hsp h h0 2 (by decide) (by decide)
  have q3 := fun h h0 => hsp h h0 3 (by decide) (by decide)
  obtain ⟨⟨bs, bo, bt⟩, hB⟩ : ∃ x, bdL CR body ⟨0, 0, 0⟩ = x := ⟨_, rfl⟩
  rw [hFW] at cf hcc q1 q2 q3 hbd hres
  rw [hK] at hcc q1 q2 q3 hbd hres
  rw [hB] at hbd hres
  rw [h1] at q1 hres
  rw [h2] at q2 hres
  rw [h3] at q3 hres
  simp only at hbd hres
  clear hFW hK h1 h2 h3 hB hsp hin
  refine con_of_HT Tryz.func41 rfl (by kernel_rfl) (Nat.le_of_ble_eq_true rfl) ?_
  simp only [Tryz.f41]
  simp only [aF, Fl.enc, List.map_cons, List.map_nil] at cf hcc ⊢
  refine HT_seq <| (HT_run (by simp [*]; rfl) ?_)
  rcases FW with _ | _
  · clear hcc q1 q2 q3 hbd
    subst hres
    refine HT_seq <| HT_seq <| (HT_runcS [some ⟨true, .v (lb false), none⟩, none] (by simp [*]; first | exact ⟨rfl, Iff.rfl⟩ | exact ⟨rfl, trivial⟩ | rfl) ?_ ?_)
    · first | exact trivial | exact cf _ | simpa using cf _
    refine (HT_cond rfl (fun h2 => ?_) (fun h2 => HT_skip ?_))
    · try simp only [Bool.or_eq_true, Bool.and_eq_true, Bool.or_eq_false_iff, Bool.and_eq_false_iff, Bool.not_eq_true', Bool.not_eq_false', decide_eq_true_eq, decide_eq_false_iff_not] at h2
      refine HT_seq <| (HT_run (by simp [*]; rfl) ?_)
      exact (HT_retE (fun h => ⟨.inr rfl, h⟩) _ (by simp [*]; rfl) (by first | rfl | (simp [*]; done) | (simp only [resR]; (repeat' split) <;> first | rfl | (exfalso; omega) | simp_all)) (by simp))
    · exact absurd h2 (by simp)
  · have hcc := hcc rfl
    simp only [Bool.true_and] at hres
    refine HT_seq <| HT_seq <| (HT_runc [⟨true, .v (lb true), none⟩, ⟨true, .v (li K), none⟩] (by simp [*]; first | exact ⟨rfl, Iff.rfl⟩ | exact ⟨rfl, trivial⟩ | rfl) ?_ ?_)
    · first | exact ⟨cf _, hcc _⟩ | exact trivial | (repeat' first | exact trivial | exact cf _ | exact hcc _ | apply And.intro)
    refine (HT_cond rfl (fun h2 => ?_) (fun h2 => HT_skip ?_))
    · try simp only [Bool.or_eq_true, Bool.and_eq_true, Bool.or_eq_false_iff, Bool.and_eq_false_iff, Bool.not_eq_true', Bool.not_eq_false', decide_eq_true_eq, decide_eq_false_iff_not] at h2
      have hk : ¬ K = 0 := by simpa using h2
      rw [decide_eq_false hk, Bool.false_and] at hres
      subst hres
      clear q1 q2 q3 hbd
      refine HT_seq <| (HT_run (by simp [*]; rfl) ?_)
      exact (HT_retE (fun h => ⟨.inr rfl, h⟩) _ (by simp [*]; rfl) (by first | rfl | (simp [*]; done) | (simp only [resR]; (repeat' split) <;> first | rfl | (exfalso; omega) | simp_all)) (by simp))
    · try simp only [Bool.or_eq_true, Bool.and_eq_true, Bool.or_eq_false_iff, Bool.and_eq_false_iff, Bool.not_eq_true', Bool.not_eq_false', decide_eq_true_eq, decide_eq_false_iff_not] at h2
      have hk : K = 0 := by simpa using h2
      have q1 := q1 rfl hk
      have q2 := q2 rfl hk
      have q3 := q3 rfl hk
      have hbd := hbd rfl hk
      rw [decide_eq_true hk, Bool.true_and] at hres
      clear cf hcc h2 hk
      refine HT_seq <| (HT_runc [⟨true, .tup [li S1, li 0], none⟩] (by simp [*]; first | exact ⟨rfl, Iff.rfl⟩ | exact ⟨rfl, trivial⟩ | rfl) ?_ ?_)
      · first | exact q1 _ | exact trivial | simpa [*] using q1 _
      refine HT_seq <| (HT_runc [⟨true, .tup [li S2, li 0], none⟩] (by simp [*]; first | exact ⟨rfl, Iff.rfl⟩ | exact ⟨rfl, trivial⟩ | rfl) ?_ ?_)
      · first | exact q2 _ | exact trivial | simpa [*] using q2 _
      refine HT_seq <| (HT_runc [⟨true, .tup [li S3, li 0], none⟩] (by simp [*]; first | exact ⟨rfl, Iff.rfl⟩ | exact ⟨rfl, trivial⟩ | rfl) ?_ ?_)
      · first | exact q3 _ | exact trivial | simpa [*] using q3 _
      refine HT_seq <| (HT_runc [⟨true, .tup [li bs, li bo, li bt], none⟩] (by simp [*]; first | exact ⟨rfl, Iff.rfl⟩ | exact ⟨rfl, trivial⟩ | rfl) ?_ ?_)
      · first | exact hbd _ | exact trivial | simpa [*] using hbd _
      refine HT_seq <| (HT_run (by simp [*]; rfl) ?_)
      subst hres
      exact (HT_retE (fun h => ⟨.inr rfl, h⟩) _ (by simp [*]; rfl) (by first | rfl | (simp [*]; done) | (simp only [resR]; (repeat' split) <;> first | rfl | (exfalso; omega) | simp_all)) (by simp))
theorem fit_con (f : Fl) (d : Nat) : Con Tryz.prog 14 true [aF f] (.v (lb (fitB f 16 4 4))) none d := by
  have cf := fit17_con f 16 4 4
  obtain ⟨res, hres⟩ : ∃ r, fitB f 16 4 4 = r := ⟨_, rfl⟩
  rw [hres] at cf ⊢
  obtain ⟨vars, hats, body⟩ := f
  clear hres
  refine con_of_HT Tryz.func14 rfl (by kernel_rfl) (Nat.le_of_ble_eq_true rfl) ?_
  simp only [Tryz.f14]
  simp only [aF, Fl.enc, List.map_cons, List.map_nil] at cf ⊢
  refine HT_seq <| (HT_run (by simp [*]; rfl) ?_)
  refine HT_seq <| (HT_runc [⟨true, .v (lb res), none⟩] (by simp [*]; first | exact ⟨rfl, Iff.rfl⟩ | exact ⟨rfl, trivial⟩ | rfl) ?_ ?_)
  · first | exact cf _ | exact trivial | simpa [*] using cf _
  exact (HT_retE (fun h => ⟨.inr rfl, h⟩) _ (by simp [*]; rfl) (by first | rfl | (simp [*]; done) | (simp only [resR]; (repeat' split) <;> first | rfl | (exfalso; omega) | simp_all)) (by simp))
structure Fit (f : Fl) (a b c : Int) : Prop where
  hv : f.vars.length ≤ 10
  hh : f.hats.length ≤ 10
  hn : nodesS f.body + nodesH f.hats ≤ 80
  hb : bndL f.body = true
  code : codeC f = 0
  good : goodV' f.vars
  s1 : spc f.vars 1 ≤ a
  s2 : spc f.vars 2 ≤ b
  s3 : spc f.vars 3 ≤ c
theorem fit_in {f : Fl} {a b c : Int} (h : fitB f a b c = true) : Fit f a b c := by
  unfold fitB at h
  simp only [Bool.and_eq_true, decide_eq_true_eq] at h
  have hf := fewB_in (nodes := 80) (by decide) h.1
  exact ⟨by omega, by omega, by omega, hf.2.2.2, h.2.1, varsC_good (code_split h.2.1).2.1, h.2.2.1.1.1, h.2.2.1.1.2, h.2.2.1.2⟩
theorem outs_len {f : Fl} {i : Inp} (hb : bndL f.body = true) : (runF f i).1.outs.length ≤ 1000000000 := by
  unfold runF playF
  split
  · rename_i h0
    split
    · rename_i hc
      split
      · have h1 := (code_wf hb (by assumption)).2.1
        have h2 := (steps_len f.vars (hvals (stL i f.vars 0 0 0 [] true).1 f.hats) f.body ⟨(stL i f.vars 0 0 0 [] true).1, [], 0⟩).2
        simp only [List.length_nil] at h2 ⊢
        omega
      · simp [st0]
    · simp [st0]
  · simp
end Go.Proofs.YtfilidjbpomgoaaGreat

namespace Go.Proofs.YtfilidjbpomgoaaGreat
open Go Go.Hl

def evL : List St → List St
  | [] => []
  | .mk d c v n t a b bs :: l => balS (.mk d c v n t (evL a) (evL b) bs) :: evL l
theorem evL_app : ∀ (l m : List St), evL (l ++ m) = evL l ++ evL m
  | [], m => by simp [evL]
  | .mk d c v n t a b bs :: l, m => by simp [evL, evL_app l m]
theorem evL_len : ∀ l : List St, (evL l).length = l.length
  | [] => by simp [evL]
  | .mk d c v n t a b bs :: l => by simp [evL, evL_len l]
theorem nodesS_app : ∀ l m : List St, nodesS (l ++ m) = nodesS l + nodesS m
  | [], m => by simp [nodesS]
  | s :: l, m => by simp only [List.cons_append, nodesS, nodesS_app l m]; omega
theorem waitL_nodes (n : Int) : nodesS (waitL n) ≤ 2 := by
  unfold waitL
  split <;> simp [nodesS, St.nodes, Tm.nodes, nodesT]
theorem balS_nodes (s : St) : (balS s).nodes ≤ s.nodes + 4 := by
  obtain ⟨d, c, v, n, t, a, b, bs⟩ := s
  have h := waitL_nodes
  unfold balS
  simp only
  split
  · have h1 := h (posI ((spL b (0, 0)).1 - (spL a (0, 0)).1))
    have h2 := h (posI ((spL a (0, 0)).1 - (spL b (0, 0)).1))
    simp only [St.nodes, nodesS_app]
    omega
  · split
    · have h1 := h (spL a (0, 0)).1
      simp only [St.nodes, nodesS, Tm.nodes, nodesT]
      omega
    · simp only [St.nodes]; omega
theorem evL_nodes : ∀ l : List St, nodesS (evL l) ≤ 3 * nodesS l
  | [] => by simp [evL, nodesS]
  | .mk d c v n t a b bs :: l => by
    have h1 := evL_nodes a
    have h2 := evL_nodes b
    have h3 := evL_nodes l
    have h4 := balS_nodes (.mk d c v n t (evL a) (evL b) bs)
    have h5 := nodes_pos t
    simp only [evL, nodesS, St.nodes] at h4 ⊢
    omega

theorem even_con (l : List St) : nodesS l ≤ 300000 → ∀ d : Nat, d < 1000000 → Con Tryz.prog 29 false [lS l, .one (.c (.lit nilS))] (.v (.one (.own d))) (some (.row 56 10 (encSs (evL l)))) d := by
  revert l
  apply St.lists
  intro l ih hn d hd0
  have hlen := len_nodesS l
  have hev0 : evL [] = [] := by simp [evL]
  refine con_of_HT Tryz.func29 rfl (by kernel_rfl) (Nat.le_of_ble_eq_true rfl) ?_
  simp only [Tryz.f29]
  refine HT_seq <| (HT_run (by simp [*]; rfl) ?_)
  refine HT_seq <| (HT_run (by simp [*]; rfl) ?_)
  refine HT_seq <| HT_seq <| (HT_run (by simp [*]; rfl) ?_)
  refine HT_block <| (HT_loopU [1, 9, 10] (fun (x : Nat) => [(5, .v (.one (.own 1005))), (11, .v (li x))]) (fun (x : Nat) => [(1005, .row 56 10 (encSs (evL (l.take x))))]) (fun (x : Nat) => x ≤ l.length) (fun (x : Nat) => l.length - x) (0 : Nat) (Nat.zero_le _) ?_ ?_)
  · exact le_mk (fun n => n) [1005] rfl (by simp [*, upS, keepS]) (by simp [*, upS]) (by simp [upS])
  rintro k hk
  simp only [upS, keepS, insS]
  try simp only [keepS, List.contains_cons, List.contains_nil, Bool.or_false, Bool.or_true, Bool.true_or, Bool.false_or, Nat.reduceBEq, BEq.rfl, beq_self_eq_true, if_true, if_false, Bool.false_eq_true, ite_true, ite_false, ins, Nat.reduceLT]
  refine HT_seq <| (HT_run (by simp [*]; rfl) ?_)
  refine HT_seq <| (HT_cond rfl (fun h5 => HT_skip ?_) (fun h5 => ?_))
  · try simp only [Bool.or_eq_true, Bool.and_eq_true, Bool.or_eq_false_iff, Bool.and_eq_false_iff, Bool.not_eq_true', Bool.not_eq_false', decide_eq_true_eq, decide_eq_false_iff_not] at h5
    have hlt : k < l.length := by omega
    obtain ⟨s, he, hd⟩ := at_lt hlt
    have hw1 := wrap1 hlt (by omega)
    have hk1 : k + 1 ≤ l.length := hlt
    have hmem : s ∈ l := List.mem_of_getElem? he
    have hnm := nodesS_mem hmem
    have ca := (ih s hmem).1 (by omega)
    have cb := (ih s hmem).2 (by omega)
    have htl : (evL (l.take k)).length = k := by rw [evL_len, List.length_take]; omega
    have hroom : room (k + 1) 144 := room_of (by omega) (by omega)
    have hsn0 : evL (l.take (k + 1)) = evL (l.take k) ++ evL [s] := by
      rw [List.take_add_one, he, Option.toList_some, evL_app]
    have he' := get_encS he
    have hna := evL_nodes s.then_
    have hnb := evL_nodes s.else_
    obtain ⟨sd, sc, sv, sn, ⟨so, stn, sks⟩, sa, sb, sbs⟩ := s
    simp only [St.then_, St.else_, St.term] at ca cb hnm hna hnb
    simp only [St.enc, Tm.enc, List.cons_append, List.nil_append] at he'
    have cbal := balanced_con sd sc sv sn so stn sks (evL sa) (evL sb) sbs (by omega) (by omega)
    simp only [evL] at hsn0
    obtain ⟨X, hX⟩ : ∃ X, balS (.mk sd sc sv sn (.mk so stn sks) (evL sa) (evL sb) sbs) = X := ⟨_, rfl⟩
    rw [hX] at hsn0 cbal
    obtain ⟨xd, xc, xv, xn, ⟨xo, xtn, xks⟩, xa, xb, xbs⟩ := X
    simp only [aS, St.enc, Tm.enc, List.cons_append, List.nil_append, List.map_cons, List.map_nil] at cbal
    have hsn : encSs (evL (l.take (k + 1))) = encSs (evL (l.take k)) ++ [[iC xd, iC xc, iC xv, iC xn, iC xo, iC xtn, .sl 3 (encTs xks), .sl 10 (encSs xa), .sl 10 (encSs xb), .sl 1 (encIs xbs)]] := by
      rw [hsn0, encS_app]
      simp
    clear hsn0 hlt h5 ih hmem hnm he hd hna hnb hX
    refine HT_seq <| HT_block <| HT_seq <| (HT_run (by simp [*]; rfl) ?_)
    refine HT_seq <| (HT_run (by simp [*]; rfl) ?_)
    refine (HT_cutU [1, 5, 7, 9, 10, 11] (fun (z : Unit) => [(8, .v (.one (.c (.lit nilS))))]) (fun (z : Unit) => [(7, .box [.c (iC sd), .c (iC sc), .c (iC sv), .c (iC sn), .c (iC so), .c (iC stn), .c (.sl 3 (encTs sks)), .c (.sl 10 (encSs sa)), .c (.sl 10 (encSs sb)), .c (.sl 1 (encIs sbs))]), (1005, .row 56 10 (encSs (evL (l.take k))))]) (fun (z : Unit) => True) ?_ ?_)
    ·
      refine HT_seq <| (HT_runcS [none] (by simp [*]; first | exact ⟨rfl, trivial⟩ | exact ⟨rfl, Iff.rfl⟩ | rfl) ?_ ?_)
      · trivial
      refine (HT_cond rfl (fun h10 => ?_) (fun h10 => HT_skip ?_))
      · exact absurd h10 (by simp)
      · try simp only [Bool.or_eq_true, Bool.and_eq_true, Bool.or_eq_false_iff, Bool.and_eq_false_iff, Bool.not_eq_true', Bool.not_eq_false', decide_eq_true_eq, decide_eq_false_iff_not] at h10
        exact ⟨(), trivial, le_mk (fun n => n) [] rfl (by simp [upS, keepS, *]) (by simp [*, upS]) (by simp [upS])⟩
    rintro _ _
    simp only [upS, keepS, insS]
    try simp only [keepS, List.contains_cons, List.contains_nil, Bool.or_false, Bool.or_true, Bool.true_or, Bool.false_or, Nat.reduceBEq, BEq.rfl, beq_self_eq_true, if_true, if_false, Bool.false_eq_true, ite_true, ite_false, ins, Nat.reduceLT]
    refine HT_seq <| (HT_drunc [⟨false, .v (.one (.own 37)), some (.row 56 10 (encSs (evL sa)))⟩, ⟨false, .v (.one (.own 41)), some (.row 56 10 (encSs (evL sb)))⟩] (by kernel_rfl) (by kernel_rfl) (by rfl) (by simp [*]; first | exact ⟨rfl, Iff.rfl⟩ | exact ⟨rfl, trivial⟩ | rfl) ?_ ?_)
    · first | exact trivial | exact trivial | (repeat' first | exact trivial | exact ca 37 (by decide) | exact cb 41 (by decide) | apply And.intro)
    refine HT_seq <| HT_seq <| (HT_run (by simp [*]; rfl) ?_)
    refine (HT_cond rfl (fun h16 => ?_) (fun h16 => HT_skip ?_))
    · try simp only [Bool.or_eq_true, Bool.and_eq_true, Bool.or_eq_false_iff, Bool.and_eq_false_iff, Bool.not_eq_true', Bool.not_eq_false', decide_eq_true_eq, decide_eq_false_iff_not] at h16
      refine (HT_runG 1 [(1000001, .row 56 10 (encSs (evL sa))), (1000002, .row 56 10 (encSs (evL sb)))] _ (fun n => if n = 1000001 then 37 else 41) _ [] [] rfl (by simp [*]; rfl) trivial (by simp [*]; rfl) (hand_mk (by simp [Ob.isRow]) (by simp)) (by simp) cbal (by simp) (by simp [*]; rfl) trivial ?_)
      refine (HT_run (by simp [*]; rfl) ?_)
      refine (HT_run (by simp [*]; rfl) ?_)
      exact ⟨k + 1, hk1, by omega, le_mk (fun n => if n = 1005 then 51 else n) [] rfl (by simp [upS, keepS, *]) (by simp [*, upS]) (by simp [upS])⟩
    · exact absurd h16 (by simp)
  · try simp only [Bool.or_eq_true, Bool.and_eq_true, Bool.or_eq_false_iff, Bool.and_eq_false_iff, Bool.not_eq_true', Bool.not_eq_false', decide_eq_true_eq, decide_eq_false_iff_not] at h5
    have hkl : k = l.length := by omega
    subst hkl
    simp only [List.take_length]
    refine (HT_exit ?_)
    refine HT_seq <| (HT_run (by simp [*]; rfl) ?_)
    exact HT_ret ⟨.inr rfl, _, le_name 4 1005 d rfl rfl hd0, ⟨⟨_, by simp; rfl, by simp [resR]⟩, by simp, fun h => by cases h⟩⟩
end Go.Proofs.YtfilidjbpomgoaaGreat
