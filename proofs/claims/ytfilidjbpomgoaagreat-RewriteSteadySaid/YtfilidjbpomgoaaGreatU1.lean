/- Part 1: contracts of functions of the program and of the reference, and plain facts about what they compute; used by the proof of the claimed statement. Conditions: as each theorem states. -/
import Derived.Test.YtfilidjbpomgoaaGreatT14
import Derived.Test.YtfilidjbpomgoaaGreatT5
import Derived.Test.YtfilidjbpomgoaaGreatT11
set_option linter.unusedSimpArgs false
set_option linter.unusedVariables false
set_option linter.unnecessarySimpa false
set_option maxRecDepth 100000
set_option maxHeartbeats 2000000
namespace Go.Proofs.YtfilidjbpomgoaaGreat
open Go Go.Hl

/-! ## a valid program can be run -/
theorem termC_form {vars : List Vr} {inp : Bool} {t : Tm} (h : termC vars inp t = 0) : formB vars inp t = true := by
  unfold termC at h
  split at h
  · assumption
  · cases h
theorem hcs_form {vars : List Vr} : ∀ (l seen : List Ht), hcs vars seen l = 0 → ∀ h ∈ l, formB vars true h.term = true
  | [], _, _, h, hm => by cases hm
  | x :: l, seen, h0, h, hm => by
    simp only [hcs] at h0
    split at h0
    · rename_i hx
      rcases List.mem_cons.1 hm with rfl | h1
      · unfold hcode at hx
        split at hx
        · cases hx
        · split at hx
          · cases hx
          · split at hx
            · cases hx
            · exact termC_form hx
      · exact hcs_form l _ h0 h h1
    · rename_i hx
      exact absurd h0 hx
theorem ssC_split {vars : List Vr} {nh : Nat} {d c v n : Int} {t : Tm} {a b : List St} {bs : List Int} {l : List St} {top : Bool} (h : ssC vars nh (.mk d c v n t a b bs :: l) top = 0) :
    shB vars nh d v n t a.length b.length bs (top && l.isEmpty) = true ∧ numB d c n bs = true ∧ termC vars false t = 0 ∧ ssC vars nh a false = 0 ∧ ssC vars nh b false = 0 ∧ ssC vars nh l top = 0 := by
  simp only [ssC] at h
  split at h
  · rename_i h0
    split at h
    · rename_i ha
      split at h
      · rename_i hb
        unfold stC at h0
        split at h0
        · cases h0
        · rename_i hs
          split at h0
          · cases h0
          · rename_i hn
            exact ⟨by simpa using hs, by simpa using hn, h0, ha, hb, h⟩
      · rename_i hb; exact absurd h hb
    · rename_i ha; exact absurd h ha
  · rename_i h0; exact absurd h h0
theorem shB_local {vars : List Vr} {nh : Nat} {d v n : Int} {t : Tm} {la lb_ : Nat} {bs : List Int} {last : Bool} (h : shB vars nh d v n t la lb_ bs last = true) (hd : d = 0 ∨ d = 5) : localB vars v = true ∧ (d = 5 → 0 ≤ n ∧ n < nh) := by
  unfold shB at h
  rcases hd with rfl | rfl
  · simp only [if_true, Bool.and_eq_true] at h
    exact ⟨h.1.1.2, fun h => by cases h⟩
  · simp only [show ¬ (5 : Int) = 0 by decide, show ¬ (5 : Int) = 1 by decide, show ¬ (5 : Int) = 2 by decide, show ¬ (5 : Int) = 3 by decide, show ¬ (5 : Int) = 4 by decide, if_true, if_false, Bool.and_eq_true, decide_eq_true_eq] at h
    exact ⟨h.1.1.1.1.2, fun _ => ⟨h.1.1.1.2, h.1.1.2⟩⟩
theorem numB_in {d c n : Int} {bs : List Int} (h : numB d c n bs = true) : 0 ≤ c ∧ (d = 4 → 0 ≤ n ∧ n ≤ 4096) := by
  unfold numB at h
  simp only [Bool.and_eq_true, Bool.not_eq_true', Bool.or_eq_false_iff, Bool.and_eq_false_iff, decide_eq_false_iff_not] at h
  refine ⟨by omega, fun h4 => ?_⟩
  rcases h.1.2 with h1 | h1
  · exact absurd h4 h1
  · omega
theorem ssC_wf {vars : List Vr} {nh : Nat} : ∀ (l : List St) (top : Bool), ssC vars nh l top = 0 → bndL l = true → wfL vars nh l = true
  | [], _, _, _ => by simp [wfL]
  | .mk d c v n t a b bs :: l, top, h, hb => by
    obtain ⟨hs, hn, ht, ha, hb', hl⟩ := ssC_split h
    simp only [bndL, bndS, Bool.and_eq_true, decide_eq_true_eq] at hb
    have ia := ssC_wf a false ha hb.1.2.1
    have ib := ssC_wf b false hb' hb.1.2.2
    have il := ssC_wf l top hl hb.2
    have hn4 := (numB_in hn).2
    simp only [wfL, wfS, ia, ib, il, termC_form ht, Bool.and_true, Bool.true_and, Bool.and_eq_true, Bool.or_eq_true, decide_eq_true_eq]
    refine ⟨?_, ?_, ?_, hb.1.1⟩
    · by_cases hd : d = 0 ∨ d = 5
      · exact .inr (shB_local hs hd).1
      · exact .inl ⟨fun h => hd (.inl h), fun h => hd (.inr h)⟩
    · by_cases hd : d = 5
      · exact .inr ((shB_local hs (.inr hd)).2 hd)
      · exact .inl hd
    · by_cases hd : d = 4
      · exact .inr (hn4 hd).2
      · exact .inl hd
/-- the outputs of valid steps, cut at a number -/
theorem oU_cut : ∀ (l : List St) (p : B3), okL l = true → 0 ≤ p.o → mn (bdL CR l p).o 9 = mn (p.o + (oUL l : Int)) 9
  | [], p, _, _ => by simp [bdL, oUL]
  | .mk d c v n t a b bs :: l, p, h, hp => by
    simp only [okL, okS, Bool.and_eq_true, Bool.or_eq_true, decide_eq_true_eq] at h
    have ha := oU_cut a ⟨0, 0, 0⟩ h.1.2.2.1 (Int.le_refl 0)
    have hb := oU_cut b ⟨0, 0, 0⟩ h.1.2.2.2 (Int.le_refl 0)
    have na := in3_nn (bdL_in nnCR a _ h.1.2.2.1 (in3_0 nnCR))
    have nb := in3_nn (bdL_in nnCR b _ h.1.2.2.2 (in3_0 nnCR))
    simp only [bdL, bdS, oUL, oUS]
    generalize bdL CR a ⟨0, 0, 0⟩ = A at *
    generalize bdL CR b ⟨0, 0, 0⟩ = B at *
    simp only [Int.zero_add] at ha hb
    have key : 0 ≤ (bd1 d c n A B).o ∧ mn (bd1 d c n A B).o 9 = mn (((if d = 4 then n.toNat * oUL a else if d = 3 then max (oUL a) (oUL b) else if d = 1 then 1 else 0 : Nat)) : Int) 9 := by
      unfold nn3 at na nb
      unfold bd1
      by_cases h4 : d = 4
      · have hn : 0 ≤ n := by omega
        rw [if_pos h4, if_pos h4]
        refine ⟨Int.mul_nonneg hn na.2.1, ?_⟩
        have e := mul_cut (C := 9) hn na.2.1 (Int.natCast_nonneg (oUL a)) (Int.le_refl 0) (Int.le_refl 0) ha
        simp only [Int.zero_add] at e
        rw [e, Int.natCast_mul, Int.toNat_of_nonneg hn]
      · rw [if_neg h4, if_neg h4]
        by_cases h3 : d = 3
        · rw [if_pos h3, if_pos h3]
          simp only [mx, mn] at ha hb ⊢
          have e : ((max (oUL a) (oUL b) : Nat) : Int) = max (oUL a : Int) (oUL b : Int) := by omega
          rw [e]
          refine ⟨by split <;> omega, ?_⟩
          (repeat' split at ha) <;> (repeat' split at hb) <;> (repeat' split) <;> omega
        · rw [if_neg h3, if_neg h3]
          split <;> exact ⟨by simp only; omega, rfl⟩
    obtain ⟨k0, k1⟩ := key
    generalize (bd1 d c n A B) = X at *
    generalize (if d = 4 then n.toNat * oUL a else if d = 3 then max (oUL a) (oUL b) else if d = 1 then 1 else 0 : Nat) = K at *
    have e : 0 ≤ (add3 CR p X).o ∧ mn (add3 CR p X).o 9 = mn (p.o + K) 9 := by
      simp only [add3, CR]
      simp only [mn] at k1 ⊢
      refine ⟨by split <;> omega, ?_⟩
      (repeat' split at k1) <;> (repeat' split) <;> omega
    have il := oU_cut l (add3 CR p X) h.2 e.1
    rw [il]
    have e2 := e.2
    generalize (add3 CR p X).o = Y at *
    simp only [mn] at e2 ⊢
    rw [Int.natCast_add]
    (repeat' split at e2) <;> (repeat' split) <;> omega
theorem code_split {f : Fl} (h : codeC f = 0) : sizesB f = true ∧ varsC f.vars = 0 ∧ hcs f.vars [] f.hats = 0 ∧ ssC f.vars f.hats.length f.body true = 0 ∧ overL f.body = false := by
  unfold codeC at h
  split at h
  · cases h
  · rename_i hs
    split at h
    · rename_i hv
      split at h
      · rename_i hh
        split at h
        · rename_i hb
          split at h
          · cases h
          · rename_i ho
            exact ⟨by simpa using hs, hv, hh, hb, by simpa using ho⟩
        · rename_i hb; exact absurd h hb
      · rename_i hh; exact absurd h hh
    · rename_i hv; exact absurd h hv
theorem over_split {l : List St} (h : overL l = false) : (bdL CR l ⟨0, 0, 0⟩).s ≤ 4096 ∧ (bdL CR l ⟨0, 0, 0⟩).o ≤ 8 ∧ (bdL CR l ⟨0, 0, 0⟩).t ≤ 67108864 := by
  unfold overL at h
  simp only [Bool.or_eq_false_iff, decide_eq_false_iff_not, Int.not_lt] at h
  exact ⟨h.1, h.2.1, h.2.2⟩
theorem code_wf {f : Fl} (hb : bndL f.body = true) (h : codeC f = 0) : wfL f.vars f.hats.length f.body = true ∧ oUL f.body ≤ 2000000 ∧ ∀ h ∈ f.hats, formB f.vars true h.term = true := by
  obtain ⟨_, _, hh, hs, ho⟩ := code_split h
  have h8 := (over_split ho).2.1
  have hc := oU_cut f.body ⟨0, 0, 0⟩ (ssC_ok _ _ hs) (Int.le_refl 0)
  refine ⟨ssC_wf _ _ hs hb, ?_, hcs_form _ _ hh⟩
  simp only [Int.zero_add, mn] at hc
  (repeat' split at hc) <;> omega
theorem runG_con (f : Fl) (i : Inp) (hv : f.vars.length ≤ 1000000) (hh : f.hats.length ≤ 1000000) (hn : nodesS f.body + nodesH f.hats ≤ 1000000) (hb : bndL f.body = true) (d : Nat) :
    Con Tryz.prog 16 false [aF f, aI i] (.tup [aO (runF f i).1, li (runF f i).2]) none d :=
  run_con f i hv hh hn hb (code_wf hb) d
end Go.Proofs.YtfilidjbpomgoaaGreat

namespace Go.Proofs.YtfilidjbpomgoaaGreat
open Go Go.Hl

/-! ## the vectors of inputs -/
def ofK (vars : List Vr) (kind : Int) : List Vr := vars.filter fun v => decide (v.kind = kind)
def pdL : List Vr → Int
  | [] => 1
  | v :: l => sz v * pdL l
def uL : List Vr → Int → List Int
  | [], _ => []
  | v :: l, r => (v.low + r / pdL l % sz v) :: uL l r
theorem pdL_pos : ∀ l : List Vr, goodV' l → 1 ≤ pdL l
  | [], _ => by simp [pdL]
  | v :: l, h => by
    have h1 := pdL_pos l fun w hw => h w (List.mem_cons_of_mem _ hw)
    have h2 := (sz_in h (List.mem_cons_self : v ∈ v :: l)).1
    simp only [pdL]
    have := Int.mul_le_mul_of_nonneg_right h2 (show 0 ≤ pdL l by omega)
    omega
theorem prV_pd : ∀ (l : List Vr) (n : Int), goodV' l → 1 ≤ n → prV l n ≤ 4096 → prV l n = n * pdL l
  | [], n, _, _, _ => by simp [prV, pdL]
  | v :: l, n, h, hn, h1 => by
    simp only [prV] at h1 ⊢
    have h2 := (sz_in h (List.mem_cons_self : v ∈ v :: l)).1
    split at h1
    · omega
    · rename_i hc
      rw [if_neg hc, prV_pd l _ (fun w hw => h w (List.mem_cons_of_mem _ hw)) (by
        have := Int.mul_le_mul_of_nonneg_right hn (show 0 ≤ sz v by omega)
        omega) h1, pdL, Int.mul_assoc]
theorem ofK_good {vars : List Vr} (h : goodV' vars) (kind : Int) : goodV' (ofK vars kind) := fun v hv => h v (List.mem_filter.1 hv).1
theorem ofK_len (vars : List Vr) (kind : Int) : (ofK vars kind).length ≤ vars.length := List.length_filter_le _ _
theorem spc_pd {vars : List Vr} (h : goodV' vars) {kind : Int} (hs : spc vars kind ≤ 4096) : spc vars kind = pdL (ofK vars kind) := by
  have := prV_pd (ofK vars kind) 1 (ofK_good h kind) (Int.le_refl 1) hs
  rw [Int.one_mul] at this
  exact this
theorem uL_len : ∀ (l : List Vr) (r : Int), (uL l r).length = l.length
  | [], r => rfl
  | v :: l, r => by simp [uL, uL_len l r]

theorem of13_con (vars : List Vr) (kind : Int) (hl : vars.length ≤ 1000000) (d : Nat) : Con Tryz.prog 77 false [lV vars, li kind] (.v (lV (ofK vars kind))) none d := by
  obtain ⟨S, hS⟩ : ∃ S, ofK vars kind = S := ⟨_, rfl⟩
  rw [hS]
  unfold ofK at hS
  refine con_of_HT Tryz.func77 rfl (by kernel_rfl) (Nat.le_of_ble_eq_true rfl) ?_
  simp only [Tryz.f77]
  refine HT_seq <| (HT_run (by simp [*]; rfl) ?_)
  refine HT_seq <| (HT_run (by simp [*]; rfl) ?_)
  refine HT_seq <| HT_seq <| (HT_run (by simp [*]; rfl) ?_)
  refine HT_block <| (HT_loopU [0, 1] (fun (x : Nat × List Vr) => [(5, .v (.one (.own 1005))), (6, .v (li x.1))]) (fun (x : Nat × List Vr) => [(1005, .row 65 5 (encVs x.2))]) (fun (x : Nat × List Vr) => x.1 ≤ vars.length ∧ x.2 = (vars.take x.1).filter fun v => decide (v.kind = kind)) (fun (x : Nat × List Vr) => vars.length - x.1) (0, []) ⟨Nat.zero_le _, by simp⟩ ?_ ?_)
  · exact le_mk (fun n => if n = 1005 then 7 else n) [] rfl (by simp [*, upS, keepS]) (by simp [*, upS]) (by simp [upS])
  rintro ⟨k, acc⟩ ⟨hk, hJ⟩
  simp only [upS, keepS, insS]
  try simp only [keepS, List.contains_cons, List.contains_nil, Bool.or_false, Bool.or_true, Bool.true_or, Bool.false_or, Nat.reduceBEq, BEq.rfl, beq_self_eq_true, if_true, if_false, Bool.false_eq_true, ite_true, ite_false, ins, Nat.reduceLT]
  simp only at hk hJ
  replace hJ := hJ.symm
  refine HT_seq <| HT_seq <| (HT_run (by simp [*]; rfl) ?_)
  refine (HT_cond rfl (fun h5 => HT_skip ?_) (fun h5 => ?_))
  · try simp only [Bool.or_eq_true, Bool.and_eq_true, Bool.or_eq_false_iff, Bool.and_eq_false_iff, Bool.not_eq_true', Bool.not_eq_false', decide_eq_true_eq, decide_eq_false_iff_not] at h5
    have hlt : k < vars.length := by omega
    obtain ⟨v, he, hd⟩ := at_lt hlt
    have hw1 := wrap1 hlt (by omega)
    have hk1 : k + 1 ≤ vars.length := hlt
    have ht := take_snoc he
    generalize hT : (vars.take k).filter (fun v => decide (v.kind = kind)) = T at hJ
    have hal : acc.length ≤ k := by
      rw [← hJ, ← hT]
      exact Nat.le_trans (List.length_filter_le _ _) (by rw [List.length_take]; omega)
    have hroom : room (acc.length + 1) 48 := room_of (by omega) (by omega)
    clear hlt h5 hS
    refine HT_seq <| HT_block <| HT_seq <| (HT_run (by simp [*]; rfl) ?_)
    refine (HT_cond rfl (fun h7 => ?_) (fun h7 => HT_skip ?_))
    · try simp only [Bool.or_eq_true, Bool.and_eq_true, Bool.or_eq_false_iff, Bool.and_eq_false_iff, Bool.not_eq_true', Bool.not_eq_false', decide_eq_true_eq, decide_eq_false_iff_not] at h7
      have hf : (vars.take (k + 1)).filter (fun v => decide (v.kind = kind)) = acc ++ [v] := by rw [ht, List.filter_append, hT, hJ, List.filter_cons_of_pos (by simpa using h7)]; simp
      refine (HT_run (by simp [*]; rfl) ?_)
      refine (HT_run (by simp [*]; rfl) ?_)
      exact ⟨(k + 1, acc ++ [v]), ⟨hk1, hf.symm⟩, by simp only; omega, le_mk (fun n => if n = 1005 then 27 else n) [] rfl (by simp [upS, keepS, *]) (by simp [*, upS]) (by simp [upS])⟩
    · try simp only [Bool.or_eq_true, Bool.and_eq_true, Bool.or_eq_false_iff, Bool.and_eq_false_iff, Bool.not_eq_true', Bool.not_eq_false', decide_eq_true_eq, decide_eq_false_iff_not] at h7
      have hf : (vars.take (k + 1)).filter (fun v => decide (v.kind = kind)) = acc := by rw [ht, List.filter_append, hT, hJ, List.filter_cons_of_neg (by simpa using h7)]; simp
      refine (HT_run (by simp [*]; rfl) ?_)
      exact ⟨(k + 1, acc), ⟨hk1, hf.symm⟩, by simp only; omega, le_mk (fun n => n) [] rfl (by simp [upS, keepS, *]) (by simp [*, upS]) (by simp [upS])⟩
  · try simp only [Bool.or_eq_true, Bool.and_eq_true, Bool.or_eq_false_iff, Bool.and_eq_false_iff, Bool.not_eq_true', Bool.not_eq_false', decide_eq_true_eq, decide_eq_false_iff_not] at h5
    have hkl : k = vars.length := by omega
    rw [hkl, List.take_length, hS] at hJ
    subst hJ
    clear hS
    refine (HT_exit ?_)
    refine HT_seq <| (HT_run (by simp [*]; rfl) ?_)
    exact HT_ret ⟨.inr rfl, _, le_frz 1005 rfl, ⟨⟨_, by simp; rfl, by simp [resR]⟩, by simp, fun h => by cases h⟩⟩
theorem space13_con (vars : List Vr) (kind : Int) (hkd : 1 ≤ kind ∧ kind ≤ 3) (hv : goodV' vars) (hl : vars.length ≤ 1000000) (hs : spc vars kind ≤ 4096) (d : Nat) :
    Con Tryz.prog 42 true [lV vars, li kind] (.tup [li (spc vars kind), li 0]) none d := by
  have co := of13_con vars kind hl
  have hg := ofK_good hv kind
  have hn := ofK_len vars kind
  unfold spc at *
  change prV (ofK vars kind) 1 ≤ 4096 at hs
  change Con _ _ _ _ (.tup [li (prV (ofK vars kind) 1), li 0]) _ _
  obtain ⟨res, hres⟩ : ∃ r, prV (ofK vars kind) 1 = r := ⟨_, rfl⟩
  rw [hres] at hs ⊢
  obtain ⟨S, hS⟩ : ∃ S, ofK vars kind = S := ⟨_, rfl⟩
  rw [hS] at co hg hn hres
  clear hS hv
  refine con_of_HT Tryz.func42 rfl (by kernel_rfl) (Nat.le_of_ble_eq_true rfl) ?_
  simp only [Tryz.f42]
  refine HT_seq <| (HT_run (by simp [*]; rfl) ?_)
  refine HT_seq <| HT_seq <| (HT_run (by simp [*]; rfl) ?_)
  refine (HT_cond rfl (fun h2 => ?_) (fun h2 => HT_skip ?_))
  · exfalso
    simp at h2
    omega
  · try simp only [Bool.or_eq_true, Bool.and_eq_true, Bool.or_eq_false_iff, Bool.and_eq_false_iff, Bool.not_eq_true', Bool.not_eq_false', decide_eq_true_eq, decide_eq_false_iff_not] at h2
    refine HT_seq <| (HT_runc [⟨false, .v (lV S), none⟩] (by simp [*]; first | exact ⟨rfl, Iff.rfl⟩ | exact ⟨rfl, trivial⟩ | rfl) ?_ ?_)
    · first | exact co _ | exact trivial | simpa [*] using co _
    refine HT_seq <| HT_seq <| (HT_run (by simp [*]; rfl) ?_)
    refine HT_block <| (HT_loopU [6] (fun (x : Nat) => [(7, .v (li x))]) (fun (x : Nat) => []) (fun (x : Nat) => x ≤ S.length) (fun (x : Nat) => S.length - x) (0 : Nat) (Nat.zero_le _) ?_ ?_)
    · exact le_mk (fun n => n) [] rfl (by simp [*, upS, keepS]) (by simp [*, upS]) (by simp [upS])
    rintro k hk
    simp only [upS, keepS, insS]
    try simp only [keepS, List.contains_cons, List.contains_nil, Bool.or_false, Bool.or_true, Bool.true_or, Bool.false_or, Nat.reduceBEq, BEq.rfl, beq_self_eq_true, if_true, if_false, Bool.false_eq_true, ite_true, ite_false, ins, Nat.reduceLT]
    clear co
    refine HT_seq <| HT_seq <| (HT_run (by simp [*]; rfl) ?_)
    refine (HT_cond rfl (fun h9 => HT_skip ?_) (fun h9 => ?_))
    · try simp only [Bool.or_eq_true, Bool.and_eq_true, Bool.or_eq_false_iff, Bool.and_eq_false_iff, Bool.not_eq_true', Bool.not_eq_false', decide_eq_true_eq, decide_eq_false_iff_not] at h9
      have hlt : k < S.length := by omega
      obtain ⟨v, he, hd⟩ := at_lt hlt
      have hw1 := wrap1 hlt (by omega)
      have hk1 : k + 1 ≤ S.length := hlt
      have hb := hg v (List.mem_of_getElem? he)
      clear hlt h9 hg hres
      refine HT_seq <| HT_block <| HT_seq <| (HT_drun (by kernel_rfl) (by kernel_rfl) (by rfl) (by simp [*]; rfl) ?_)
      refine (HT_cond rfl (fun h11 => ?_) (fun h11 => HT_skip ?_))
      · exfalso
        simp at h11
        omega
      · try simp only [Bool.or_eq_true, Bool.and_eq_true, Bool.or_eq_false_iff, Bool.and_eq_false_iff, Bool.not_eq_true', Bool.not_eq_false', decide_eq_true_eq, decide_eq_false_iff_not] at h11
        refine (HT_run (by simp [*]; rfl) ?_)
        exact ⟨k + 1, hk1, by omega, le_mk (fun n => n) [] rfl (by simp [upS, keepS, *]) (by simp [*, upS]) (by simp [upS])⟩
    · try simp only [Bool.or_eq_true, Bool.and_eq_true, Bool.or_eq_false_iff, Bool.and_eq_false_iff, Bool.not_eq_true', Bool.not_eq_false', decide_eq_true_eq, decide_eq_false_iff_not] at h9
      clear h9 hk
      refine (HT_exit ?_)
      refine HT_seq <| (HT_run (by simp [*]; rfl) ?_)
      refine HT_seq <| HT_seq <| (HT_run (by simp [*]; rfl) ?_)
      refine HT_block <| (HT_loopU [6] (fun (x : Nat × Int) => [(8, .v (li x.2)), (9, .v (li x.1))]) (fun (x : Nat × Int) => []) (fun (x : Nat × Int) => x.1 ≤ S.length ∧ prV (S.drop x.1) x.2 = res ∧ 1 ≤ x.2 ∧ x.2 ≤ 4096) (fun (x : Nat × Int) => S.length - x.1) (0, 1) ⟨Nat.zero_le _, hres, by decide, by decide⟩ ?_ ?_)
      · exact le_mk (fun n => n) [] rfl (by simp [*, upS, keepS]) (by simp [*, upS]) (by simp [upS])
      rintro ⟨k, n⟩ ⟨hk, hJ, hn1, hn2⟩
      simp only [upS, keepS, insS]
      try simp only [keepS, List.contains_cons, List.contains_nil, Bool.or_false, Bool.or_true, Bool.true_or, Bool.false_or, Nat.reduceBEq, BEq.rfl, beq_self_eq_true, if_true, if_false, Bool.false_eq_true, ite_true, ite_false, ins, Nat.reduceLT]
      simp only at hk hJ hn1 hn2
      clear hres
      refine HT_seq <| HT_seq <| (HT_run (by simp [*]; rfl) ?_)
      refine (HT_cond rfl (fun h20 => HT_skip ?_) (fun h20 => ?_))
      · try simp only [Bool.or_eq_true, Bool.and_eq_true, Bool.or_eq_false_iff, Bool.and_eq_false_iff, Bool.not_eq_true', Bool.not_eq_false', decide_eq_true_eq, decide_eq_false_iff_not] at h20
        have hlt : k < S.length := by omega
        obtain ⟨v, he, hd⟩ := at_lt hlt
        have hw1 := wrap1 hlt (by omega)
        have hk1 : k + 1 ≤ S.length := hlt
        have hmem : v ∈ S := List.mem_of_getElem? he
        have hsz := sz_in hg hmem
        have hm := mul_in ⟨hn1, hn2⟩ hsz
        have hb := hg v hmem
        have hw2 : IntKind.i64.wrap (v.high - v.low) = v.high - v.low := wrap_in (by omega) (by omega)
        have hw3 : IntKind.i64.wrap (v.high - v.low + 1) = sz v := by rw [wrap_in (by omega) (by omega)]; rfl
        have hw4 : IntKind.i64.wrap (n * sz v) = n * sz v := wrap_in (by omega) (by omega)
        rw [hd] at hJ
        simp only [prV] at hJ
        clear hlt h20 hg
        refine HT_seq <| HT_block <| HT_seq <| (HT_drun (by kernel_rfl) (by kernel_rfl) (by rfl) (by simp [*]; rfl) ?_)
        refine HT_seq <| (HT_run (by simp [*]; rfl) ?_)
        refine (HT_cond rfl (fun h23 => ?_) (fun h23 => HT_skip ?_))
        · exfalso
          rw [if_pos (by simpa using h23)] at hJ
          omega
        · try simp only [Bool.or_eq_true, Bool.and_eq_true, Bool.or_eq_false_iff, Bool.and_eq_false_iff, Bool.not_eq_true', Bool.not_eq_false', decide_eq_true_eq, decide_eq_false_iff_not] at h23
          rw [if_neg (by simpa using h23)] at hJ
          refine (HT_run (by simp [*]; rfl) ?_)
          exact ⟨(k + 1, n * sz v), ⟨hk1, hJ, hm.1, by simp only; omega⟩, by simp only; omega, le_mk (fun n => n) [] rfl (by simp [upS, keepS, *]) (by simp [*, upS]) (by simp [upS])⟩
      · try simp only [Bool.or_eq_true, Bool.and_eq_true, Bool.or_eq_false_iff, Bool.and_eq_false_iff, Bool.not_eq_true', Bool.not_eq_false', decide_eq_true_eq, decide_eq_false_iff_not] at h20
        have hkl : k = S.length := by omega
        rw [hkl, List.drop_length] at hJ
        simp only [prV] at hJ
        subst hJ
        refine (HT_exit ?_)
        refine HT_seq <| (HT_run (by simp [*]; rfl) ?_)
        exact (HT_retE (fun h => ⟨.inr rfl, h⟩) _ (by simp [*]; rfl) (by first | rfl | (simp [*]; done) | (simp only [resR]; (repeat' split) <;> first | rfl | (exfalso; omega) | simp_all)) (by simp))
theorem unrank13_con (vars : List Vr) (kind : Int) (hkd : 1 ≤ kind ∧ kind ≤ 3) (hv : goodV' vars) (hl : vars.length ≤ 1000000) (hs : spc vars kind ≤ 4096) (r : Int) (h0 : 0 ≤ r) (h1 : r < spc vars kind) (d : Nat) :
    Con Tryz.prog 78 false [lV vars, li kind, li r] (.tup [lI (uL (ofK vars kind) r), li 0]) none d := by
  have co := of13_con vars kind hl
  have cs := space13_con vars kind hkd hv hl hs
  have hg := ofK_good hv kind
  have hn := ofK_len vars kind
  have hp := spc_pd hv hs
  rw [hp] at cs h1 hs
  clear hp
  obtain ⟨S, hS⟩ : ∃ S, ofK vars kind = S := ⟨_, rfl⟩
  rw [hS] at co hg hn cs h1 hs ⊢
  clear hS hv
  have hp1 := pdL_pos S hg
  obtain ⟨n0, hn0⟩ : ∃ n, pdL S = n := ⟨_, rfl⟩
  rw [hn0] at cs h1 hs hp1
  obtain ⟨res, hres⟩ : ∃ l, uL S r = l := ⟨_, rfl⟩
  rw [hres]
  refine con_of_HT Tryz.func78 rfl (by kernel_rfl) (Nat.le_of_ble_eq_true rfl) ?_
  simp only [Tryz.f78]
  refine HT_seq <| (HT_run (by simp [*]; rfl) ?_)
  refine HT_seq <| (HT_runc [⟨true, .tup [li n0, li 0], none⟩] (by simp [*]; first | exact ⟨rfl, Iff.rfl⟩ | exact ⟨rfl, trivial⟩ | rfl) ?_ ?_)
  · first | exact cs _ | exact trivial | simpa [*] using cs _
  refine HT_seq <| HT_seq <| (HT_run (by simp [*]; rfl) ?_)
  refine (HT_cond rfl (fun h3 => ?_) (fun h3 => HT_skip ?_))
  · exact absurd h3 (by simp)
  · try simp only [Bool.or_eq_true, Bool.and_eq_true, Bool.or_eq_false_iff, Bool.and_eq_false_iff, Bool.not_eq_true', Bool.not_eq_false', decide_eq_true_eq, decide_eq_false_iff_not] at h3
    refine HT_seq <| HT_seq <| (HT_run (by simp [*]; rfl) ?_)
    refine (HT_cond rfl (fun h7 => ?_) (fun h7 => HT_skip ?_))
    · exfalso
      simp at h7
      omega
    · try simp only [Bool.or_eq_true, Bool.and_eq_true, Bool.or_eq_false_iff, Bool.and_eq_false_iff, Bool.not_eq_true', Bool.not_eq_false', decide_eq_true_eq, decide_eq_false_iff_not] at h7
      refine HT_seq <| (HT_runc [⟨false, .v (lV S), none⟩] (by simp [*]; first | exact ⟨rfl, Iff.rfl⟩ | exact ⟨rfl, trivial⟩ | rfl) ?_ ?_)
      · first | exact co _ | exact trivial | simpa [*] using co _
      refine HT_seq <| (HT_run (by simp [*]; rfl) ?_)
      refine HT_seq <| HT_seq <| (HT_run (by simp [*]; rfl) ?_)
      refine HT_block <| (HT_loopU [2, 10] (fun (x : Nat × Int × List Int) => [(8, .v (li x.2.1)), (11, .v (.one (.own 1011))), (12, .v (li x.1))]) (fun (x : Nat × Int × List Int) => [(1011, .row 3 1 (encIs x.2.2))]) (fun (x : Nat × Int × List Int) => x.1 ≤ S.length ∧ pdL (S.drop x.1) = x.2.1 ∧ x.2.2 ++ uL (S.drop x.1) r = res ∧ x.2.2.length = x.1 ∧ x.2.1 ≤ 4096) (fun (x : Nat × Int × List Int) => S.length - x.1) (0, n0, []) ⟨Nat.zero_le _, hn0, hres, rfl, hs⟩ ?_ ?_)
      · exact le_mk (fun n => if n = 1011 then 33 else n) [] rfl (by simp [*, upS, keepS]) (by simp [*, upS]) (by simp [upS])
      rintro ⟨k, n, acc⟩ ⟨hk, hJ, hA, hal, hn4⟩
      simp only [upS, keepS, insS]
      try simp only [keepS, List.contains_cons, List.contains_nil, Bool.or_false, Bool.or_true, Bool.true_or, Bool.false_or, Nat.reduceBEq, BEq.rfl, beq_self_eq_true, if_true, if_false, Bool.false_eq_true, ite_true, ite_false, ins, Nat.reduceLT]
      simp only at hk hJ hA hal hn4
      clear hres hn0 cs co
      refine HT_seq <| HT_seq <| (HT_run (by simp [*]; rfl) ?_)
      refine (HT_cond rfl (fun h15 => HT_skip ?_) (fun h15 => ?_))
      · try simp only [Bool.or_eq_true, Bool.and_eq_true, Bool.or_eq_false_iff, Bool.and_eq_false_iff, Bool.not_eq_true', Bool.not_eq_false', decide_eq_true_eq, decide_eq_false_iff_not] at h15
        have hlt : k < S.length := by omega
        obtain ⟨v, he, hd⟩ := at_lt hlt
        have hw1 := wrap1 hlt (by omega)
        have hk1 : k + 1 ≤ S.length := hlt
        have hmem : v ∈ S := List.mem_of_getElem? he
        have hsz := sz_in hg hmem
        have hb := hg v hmem
        have hpp := pdL_pos (S.drop (k + 1)) fun u hu => hg u (List.mem_of_mem_drop hu)
        rw [hd] at hJ hA
        simp only [pdL, uL] at hJ hA
        obtain ⟨p, hpe⟩ : ∃ p, pdL (S.drop (k + 1)) = p := ⟨_, rfl⟩
        rw [hpe] at hJ hA hpp
        have hpd : (sz v * p).tdiv (sz v) = p := Int.mul_tdiv_cancel_left _ (by omega)
        have hple : p ≤ sz v * p := by
          have := Int.mul_le_mul_of_nonneg_right hsz.1 (show 0 ≤ p by omega)
          omega
        have hw2 : IntKind.i64.wrap (v.high - v.low) = v.high - v.low := wrap_in (by omega) (by omega)
        have hw3 : IntKind.i64.wrap (v.high - v.low + 1) = sz v := by rw [wrap_in (by omega) (by omega)]; rfl
        have t2 : r.tdiv p = r / p := Int.tdiv_eq_ediv_of_nonneg (by omega)
        obtain ⟨q, hq⟩ : ∃ q, r / p = q := ⟨_, rfl⟩
        rw [hq] at t2 hA
        have hq0 : 0 ≤ q := by rw [← hq]; exact Int.ediv_nonneg (by omega) (by omega)
        have hq1 : q ≤ r := by rw [← hq]; exact Int.ediv_le_self _ (by omega)
        have hm0 : 0 ≤ q % sz v := Int.emod_nonneg _ (by omega)
        have hm1 : q % sz v < sz v := Int.emod_lt_of_pos _ (by omega)
        have t1 : q.tmod (sz v) = q % sz v := Int.tmod_eq_emod_of_nonneg hq0
        have w0 : IntKind.i64.wrap p = p := wrap_in (by omega) (by omega)
        have w1 : IntKind.i64.wrap (v.low + q % sz v) = v.low + q % sz v := wrap_in (by omega) (by omega)
        have w2 : IntKind.i64.wrap q = q := wrap_in (by omega) (by omega)
        have s0 : ¬ sz v = 0 := by omega
        have p0 : ¬ p = 0 := by omega
        have hroom : room (k + 1) 8 := room_of (by omega) (by omega)
        have hp4 : p ≤ 4096 := by omega
        rw [← hJ]
        clear hlt h15 hg hq hd hpp hmem hJ
        refine HT_seq <| HT_block <| HT_seq <| (HT_drun (by kernel_rfl) (by kernel_rfl) (by rfl) (by simp [*]; rfl) ?_)
        refine HT_seq <| (HT_run (by simp [*]; rfl) ?_)
        refine (HT_drun (by kernel_rfl) (by kernel_rfl) (by rfl) (by simp [*]; rfl) ?_)
        refine (HT_run (by simp [*]; rfl) ?_)
        exact ⟨(k + 1, p, acc ++ [v.low + q % sz v]), ⟨hk1, hpe, by simpa using hA, by simp [hal], by simp only; omega⟩, by simp only; omega, le_mk (fun n => if n = 1011 then 68 else n) [] rfl (by simp [upS, keepS, *]) (by simp [*, upS]) (by simp [upS])⟩
      · try simp only [Bool.or_eq_true, Bool.and_eq_true, Bool.or_eq_false_iff, Bool.and_eq_false_iff, Bool.not_eq_true', Bool.not_eq_false', decide_eq_true_eq, decide_eq_false_iff_not] at h15
        have hkl : k = S.length := by omega
        rw [hkl, List.drop_length] at hA
        simp only [uL, List.append_nil] at hA
        subst hA
        refine (HT_exit ?_)
        refine HT_seq <| (HT_run (by simp [*]; rfl) ?_)
        exact HT_ret ⟨.inr rfl, _, le_frz 1011 rfl, ⟨⟨_, by simp; rfl, by simp [resR]⟩, by simp, fun h => by cases h⟩⟩
def inpK (vars : List Vr) (a b c : Int) : Inp := ⟨uL (ofK vars 1) a, uL (ofK vars 2) b, uL (ofK vars 3) c⟩
theorem inp13_con (vars : List Vr) (hv : goodV' vars) (hl : vars.length ≤ 1000000) (hs : ∀ k, 1 ≤ k → k ≤ 3 → spc vars k ≤ 4096) (a b c : Int) (ha : 0 ≤ a ∧ a < spc vars 1) (hb : 0 ≤ b ∧ b < spc vars 2) (hc : 0 ≤ c ∧ c < spc vars 3) (d : Nat) :
    Con Tryz.prog 43 false [lV vars, li a, li b, li c] (.tup [aI (inpK vars a b c), li 0]) none d := by
  have c1 := unrank13_con vars 1 (by decide) hv hl (hs 1 (by decide) (by decide)) a ha.1 ha.2
  have c2 := unrank13_con vars 2 (by decide) hv hl (hs 2 (by decide) (by decide)) b hb.1 hb.2
  have c3 := unrank13_con vars 3 (by decide) hv hl (hs 3 (by decide) (by decide)) c hc.1 hc.2
  unfold inpK
  obtain ⟨A, hA⟩ : ∃ l, uL (ofK vars 1) a = l := ⟨_, rfl⟩
  obtain ⟨B, hB⟩ : ∃ l, uL (ofK vars 2) b = l := ⟨_, rfl⟩
  obtain ⟨C, hC⟩ : ∃ l, uL (ofK vars 3) c = l := ⟨_, rfl⟩
  rw [hA] at c1 ⊢
  rw [hB] at c2 ⊢
  rw [hC] at c3 ⊢
  clear hA hB hC hv hs
  refine con_of_HT Tryz.func43 rfl (by kernel_rfl) (Nat.le_of_ble_eq_true rfl) ?_
  simp only [Tryz.f43]
  refine HT_seq <| (HT_run (by simp [*]; rfl) ?_)
  refine HT_seq <| (HT_runc [⟨false, .tup [lI A, li 0], none⟩] (by simp [*]; first | exact ⟨rfl, Iff.rfl⟩ | exact ⟨rfl, trivial⟩ | rfl) ?_ ?_)
  · first | exact c1 _ | exact trivial | simpa [*] using c1 _
  refine HT_seq <| HT_seq <| (HT_run (by simp [*]; rfl) ?_)
  refine (HT_cond rfl (fun h3 => ?_) (fun h3 => HT_skip ?_))
  · exact absurd h3 (by simp)
  · try simp only [Bool.or_eq_true, Bool.and_eq_true, Bool.or_eq_false_iff, Bool.and_eq_false_iff, Bool.not_eq_true', Bool.not_eq_false', decide_eq_true_eq, decide_eq_false_iff_not] at h3
    refine HT_seq <| (HT_runc [⟨false, .tup [lI B, li 0], none⟩] (by simp [*]; first | exact ⟨rfl, Iff.rfl⟩ | exact ⟨rfl, trivial⟩ | rfl) ?_ ?_)
    · first | exact c2 _ | exact trivial | simpa [*] using c2 _
    refine HT_seq <| HT_seq <| (HT_run (by simp [*]; rfl) ?_)
    refine (HT_cond rfl (fun h8 => ?_) (fun h8 => HT_skip ?_))
    · exact absurd h8 (by simp)
    · try simp only [Bool.or_eq_true, Bool.and_eq_true, Bool.or_eq_false_iff, Bool.and_eq_false_iff, Bool.not_eq_true', Bool.not_eq_false', decide_eq_true_eq, decide_eq_false_iff_not] at h8
      refine HT_seq <| (HT_runc [⟨false, .tup [lI C, li 0], none⟩] (by simp [*]; first | exact ⟨rfl, Iff.rfl⟩ | exact ⟨rfl, trivial⟩ | rfl) ?_ ?_)
      · first | exact c3 _ | exact trivial | simpa [*] using c3 _
      refine HT_seq <| HT_seq <| (HT_run (by simp [*]; rfl) ?_)
      refine (HT_cond rfl (fun h13 => ?_) (fun h13 => HT_skip ?_))
      · exact absurd h13 (by simp)
      · try simp only [Bool.or_eq_true, Bool.and_eq_true, Bool.or_eq_false_iff, Bool.and_eq_false_iff, Bool.not_eq_true', Bool.not_eq_false', decide_eq_true_eq, decide_eq_false_iff_not] at h13
        refine HT_seq <| (HT_run (by simp [*]; rfl) ?_)
        exact HT_ret ⟨.inr rfl, _, le_refl _, ⟨⟨_, by simp; rfl, by simp [resR]⟩, by simp, fun h => by cases h⟩⟩
end Go.Proofs.YtfilidjbpomgoaaGreat

namespace Go.Proofs.YtfilidjbpomgoaaGreat
open Go Go.Hl

def Inp.enc (i : Inp) : List CD := [.sl 1 (encIs i.s), .sl 1 (encIs i.p), .sl 1 (encIs i.r)]
def encNs (l : List Inp) : List (List CD) := l.map Inp.enc
@[simp] theorem encNs_app (a b : List Inp) : encNs (a ++ b) = encNs a ++ encNs b := by simp [encNs]
@[simp] theorem encNs_len (l : List Inp) : (encNs l).length = l.length := by simp [encNs]
@[simp] theorem get_encN (l : List Inp) (i : Nat) : (encNs l)[i]? = l[i]?.map Inp.enc := by simp [encNs]
abbrev lN (l : List Inp) : TV := .one (.c (.sl 3 (encNs l)))
def inAt (vars : List Vr) (k : Nat) : Inp := inpK vars ((k : Int) / (spc vars 2 * spc vars 3)) ((k : Int) / spc vars 3 % spc vars 2) ((k : Int) % spc vars 3)
def insL (vars : List Vr) : List Inp := (List.range (spc vars 1 * spc vars 2 * spc vars 3).toNat).map (inAt vars)
theorem mul_small {a b m n : Int} (ha : 1 ≤ a ∧ a ≤ m) (hb : 1 ≤ b ∧ b ≤ n) : 1 ≤ a * b ∧ a * b ≤ m * n := by
  have h1 := Int.mul_le_mul_of_nonneg_right ha.1 (show 0 ≤ b by omega)
  have h2 := Int.mul_le_mul_of_nonneg_right ha.2 (show 0 ≤ b by omega)
  have h3 := Int.mul_le_mul_of_nonneg_left hb.2 (show 0 ≤ m by omega)
  omega
theorem spc_pos {vars : List Vr} (h : goodV' vars) (kind : Int) : 1 ≤ spc vars kind := (prV_in h _ 1 (fun v hv => (List.mem_filter.1 hv).1) (by decide)).1
theorem inputs_con (f : Fl) (hv : goodV' f.vars) (hl : f.vars.length ≤ 1000000) (hA : spc f.vars 1 ≤ 16) (hB : spc f.vars 2 ≤ 4) (hC : spc f.vars 3 ≤ 4) (d : Nat) :
    Con Tryz.prog 15 false [aF f] (.v (lN (insL f.vars))) none d := by
  obtain ⟨vars, hats, body⟩ := f
  simp only at hv hl hA hB hC ⊢
  have hs : ∀ k, 1 ≤ k → k ≤ 3 → spc vars k ≤ 4096 := by
    intro k h1 h2
    have : k = 1 ∨ k = 2 ∨ k = 3 := by omega
    rcases this with rfl | rfl | rfl <;> omega
  have c1 := space13_con vars 1 (by decide) hv hl (hs 1 (by decide) (by decide))
  have c2 := space13_con vars 2 (by decide) hv hl (hs 2 (by decide) (by decide))
  have c3 := space13_con vars 3 (by decide) hv hl (hs 3 (by decide) (by decide))
  have ci := inp13_con vars hv hl hs
  have p1 := spc_pos hv 1
  have p2 := spc_pos hv 2
  have p3 := spc_pos hv 3
  unfold insL
  have hat : ∀ k, inAt vars k = inpK vars ((k : Int) / (spc vars 2 * spc vars 3)) ((k : Int) / spc vars 3 % spc vars 2) ((k : Int) % spc vars 3) := fun k => rfl
  obtain ⟨A, eA⟩ : ∃ x, spc vars 1 = x := ⟨_, rfl⟩
  obtain ⟨B, eB⟩ : ∃ x, spc vars 2 = x := ⟨_, rfl⟩
  obtain ⟨C, eC⟩ : ∃ x, spc vars 3 = x := ⟨_, rfl⟩
  obtain ⟨g, hg⟩ : ∃ g, inAt vars = g := ⟨_, rfl⟩
  rw [eA] at c1 ci p1 hA
  rw [eB] at c2 ci p2 hB hat
  rw [eC] at c3 ci p3 hC hat
  rw [eA, eB, eC, hg]
  rw [hg] at hat
  clear eA eB eC hg hs hv
  have mAB := mul_small ⟨p1, hA⟩ ⟨p2, hB⟩
  have mBC := mul_small ⟨p2, hB⟩ ⟨p3, hC⟩
  have mN := mul_small mAB ⟨p3, hC⟩
  have hass : A * B * C = A * (B * C) := Int.mul_assoc _ _ _
  obtain ⟨AB, eAB⟩ : ∃ x, A * B = x := ⟨_, rfl⟩
  rw [eAB] at mAB mN hass ⊢
  obtain ⟨BC, eBC⟩ : ∃ x, B * C = x := ⟨_, rfl⟩
  rw [eBC] at mBC hat hass
  obtain ⟨N, eN⟩ : ∃ x, AB * C = x := ⟨_, rfl⟩
  rw [eN] at mN hass ⊢
  replace hass := hass.symm
  have hn0 : encNs [] = [] := rfl
  have wAB : IntKind.i64.wrap AB = AB := wrap_in (by omega) (by omega)
  have wBC : IntKind.i64.wrap BC = BC := wrap_in (by omega) (by omega)
  have wN : IntKind.i64.wrap N = N := wrap_in (by omega) (by omega)
  have hC0 : ¬ C = 0 := by omega
  have hB0 : ¬ B = 0 := by omega
  have hBC0 : ¬ BC = 0 := by omega
  have hNn : ((N.toNat : Nat) : Int) = N := by omega
  obtain ⟨M, eM⟩ : ∃ x, N.toNat = x := ⟨_, rfl⟩
  rw [eM] at hNn ⊢
  refine con_of_HT Tryz.func15 rfl (by kernel_rfl) (Nat.le_of_ble_eq_true rfl) ?_
  simp only [Tryz.f15]
  simp only [aF, Fl.enc, List.map_cons, List.map_nil]
  refine HT_seq <| (HT_run (by simp [*]; rfl) ?_)
  refine HT_seq <| (HT_runc [⟨true, .tup [li A, li 0], none⟩] (by simp [*]; first | exact ⟨rfl, Iff.rfl⟩ | exact ⟨rfl, trivial⟩ | rfl) ?_ ?_)
  · first | exact c1 _ | exact trivial | simpa [*] using c1 _
  refine HT_seq <| (HT_runc [⟨true, .tup [li B, li 0], none⟩] (by simp [*]; first | exact ⟨rfl, Iff.rfl⟩ | exact ⟨rfl, trivial⟩ | rfl) ?_ ?_)
  · first | exact c2 _ | exact trivial | simpa [*] using c2 _
  refine HT_seq <| (HT_runc [⟨true, .tup [li C, li 0], none⟩] (by simp [*]; first | exact ⟨rfl, Iff.rfl⟩ | exact ⟨rfl, trivial⟩ | rfl) ?_ ?_)
  · first | exact c3 _ | exact trivial | simpa [*] using c3 _
  refine HT_seq <| (HT_run (by simp [*]; rfl) ?_)
  refine HT_seq <| HT_seq <| (HT_run (by simp [*]; rfl) ?_)
  refine HT_block <| (HT_loopU [1, 3, 5, 7] (fun (x : Nat) => [(9, .v (.one (.own 1009))), (10, .v (li x))]) (fun (x : Nat) => [(1, .box [.c (.sl 5 (encVs vars)), .c (.sl 6 (encHs hats)), .c (.sl 10 (encSs body))]), (1009, .row 41 3 (encNs ((List.range x).map g)))]) (fun (x : Nat) => x ≤ M) (fun (x : Nat) => M - x) (0 : Nat) (Nat.zero_le _) ?_ ?_)
  · exact le_mk (fun n => if n = 1009 then 31 else n) [] rfl (by simp [*, upS, keepS]) (by simp [*, upS]) (by simp [upS])
  rintro k hk
  simp only [upS, keepS, insS]
  try simp only [keepS, List.contains_cons, List.contains_nil, Bool.or_false, Bool.or_true, Bool.true_or, Bool.false_or, Nat.reduceBEq, BEq.rfl, beq_self_eq_true, if_true, if_false, Bool.false_eq_true, ite_true, ite_false, ins, Nat.reduceLT]
  clear c1 c2 c3
  refine HT_seq <| HT_seq <| (HT_run (by simp [*]; rfl) ?_)
  refine (HT_cond rfl (fun h8 => HT_skip ?_) (fun h8 => ?_))
  · try simp only [Bool.or_eq_true, Bool.and_eq_true, Bool.or_eq_false_iff, Bool.and_eq_false_iff, Bool.not_eq_true', Bool.not_eq_false', decide_eq_true_eq, decide_eq_false_iff_not] at h8
    have hlt : k < M := by omega
    have hw1 : IntKind.i64.wrap ((k : Int) + 1) = (k : Int) + 1 := wrap_in (by omega) (by omega)
    have hk1 : k + 1 ≤ M := hlt
    have hgk := hat k
    have t1 : (k : Int).tdiv BC = (k : Int) / BC := Int.tdiv_eq_ediv_of_nonneg (by omega)
    have t2 : (k : Int).tdiv C = (k : Int) / C := Int.tdiv_eq_ediv_of_nonneg (by omega)
    have t3 : ((k : Int) / C).tmod B = (k : Int) / C % B := Int.tmod_eq_emod_of_nonneg (Int.ediv_nonneg (by omega) (by omega))
    have t4 : (k : Int).tmod C = (k : Int) % C := Int.tmod_eq_emod_of_nonneg (by omega)
    have r1 : 0 ≤ (k : Int) / BC := Int.ediv_nonneg (by omega) (by omega)
    have r2 : (k : Int) / BC < A := Int.ediv_lt_of_lt_mul (by omega) (by omega)
    have r3 : 0 ≤ (k : Int) / C % B := Int.emod_nonneg _ (by omega)
    have r4 : (k : Int) / C % B < B := Int.emod_lt_of_pos _ (by omega)
    have r5 : 0 ≤ (k : Int) % C := Int.emod_nonneg _ (by omega)
    have r6 : (k : Int) % C < C := Int.emod_lt_of_pos _ (by omega)
    have r7 : 0 ≤ (k : Int) / C := Int.ediv_nonneg (by omega) (by omega)
    have r8 : (k : Int) / C ≤ (k : Int) := Int.ediv_le_self _ (by omega)
    have ci := ci _ _ _ ⟨r1, r2⟩ ⟨r3, r4⟩ ⟨r5, r6⟩
    obtain ⟨q, eq⟩ : ∃ x, (k : Int) / C = x := ⟨_, rfl⟩
    rw [eq] at t2 t3 r3 r4 r7 r8 ci hgk
    obtain ⟨a, ea⟩ : ∃ x, (k : Int) / BC = x := ⟨_, rfl⟩
    rw [ea] at t1 r1 r2 ci hgk
    obtain ⟨b, eb⟩ : ∃ x, q % B = x := ⟨_, rfl⟩
    rw [eb] at t3 r3 r4 ci hgk
    obtain ⟨c, ec⟩ : ∃ x, (k : Int) % C = x := ⟨_, rfl⟩
    rw [ec] at t4 r5 r6 ci hgk
    have w1 : IntKind.i64.wrap a = a := wrap_in (by omega) (by omega)
    have w2 : IntKind.i64.wrap q = q := wrap_in (by omega) (by omega)
    obtain ⟨⟨xs, xp, xr⟩, hX⟩ : ∃ x, inpK vars a b c = x := ⟨_, rfl⟩
    rw [hX] at ci hgk
    have hsn : encNs ((List.range (k + 1)).map g) = encNs ((List.range k).map g) ++ [[.sl 1 (encIs xs), .sl 1 (encIs xp), .sl 1 (encIs xr)]] := by
      rw [List.range_succ, List.map_append, encNs_app]
      simp [encNs, hgk, Inp.enc]
    have htl : ((List.range k).map g).length = k := by simp
    have hroom : room (k + 1) 72 := room_of (by omega) (by omega)
    clear hat hX h8 hlt eq ea eb ec hgk r1 r2 r3 r4 r5 r6 r7 r8
    refine HT_seq <| HT_block <| HT_seq <| (HT_drunc [⟨false, .tup [.agg [.c (.sl 1 (encIs xs)), .c (.sl 1 (encIs xp)), .c (.sl 1 (encIs xr))], li 0], none⟩] (by kernel_rfl) (by kernel_rfl) (by rfl) (by simp [*]; first | exact ⟨rfl, Iff.rfl⟩ | exact ⟨rfl, trivial⟩ | rfl) ?_ ?_)
    · first | exact ci _ | exact trivial | simpa [*] using ci _
    refine (HT_run (by simp [*]; rfl) ?_)
    refine (HT_run (by simp [*]; rfl) ?_)
    exact ⟨k + 1, hk1, by omega, le_mk (fun n => if n = 1009 then 63 else n) [] rfl (by simp [upS, keepS, *]) (by simp [*, upS]) (by simp [upS])⟩
  · try simp only [Bool.or_eq_true, Bool.and_eq_true, Bool.or_eq_false_iff, Bool.and_eq_false_iff, Bool.not_eq_true', Bool.not_eq_false', decide_eq_true_eq, decide_eq_false_iff_not] at h8
    have hkl : k = M := by omega
    subst hkl
    refine (HT_exit ?_)
    refine HT_seq <| (HT_run (by simp [*]; rfl) ?_)
    exact HT_ret ⟨.inr rfl, _, le_frz 1009 rfl, ⟨⟨_, by simp; rfl, by simp [resR]⟩, by simp, fun h => by cases h⟩⟩
/-- what an input of the list is good for -/
def inB : List Vr → List Int → Prop
  | [], [] => True
  | v :: l, x :: xs => (v.low ≤ x ∧ x ≤ v.high) ∧ inB l xs
  | _, _ => False
theorem uL_in : ∀ (l : List Vr) (r : Int), goodV' l → inB l (uL l r)
  | [], r, _ => trivial
  | v :: l, r, h => by
    have hs := (sz_in h (List.mem_cons_self : v ∈ v :: l)).1
    have h0 : 0 ≤ r / pdL l % sz v := Int.emod_nonneg _ (by omega)
    have h1 : r / pdL l % sz v < sz v := Int.emod_lt_of_pos _ (by omega)
    refine ⟨?_, uL_in l r fun w hw => h w (List.mem_cons_of_mem _ hw)⟩
    unfold sz at *
    omega
theorem inB_cons {v : Vr} {l : List Vr} {s : List Int} {a : Nat} (h : inB (v :: l) (s.drop a)) : ∃ x, s[a]? = some x ∧ a < s.length ∧ v.low ≤ x ∧ x ≤ v.high ∧ inB l (s.drop (a + 1)) := by
  rcases Nat.lt_or_ge a s.length with hlt | hge
  · obtain ⟨x, he, hd⟩ := at_lt hlt
    rw [hd] at h
    exact ⟨x, he, hlt, h.1.1, h.1.2, h.2⟩
  · rw [List.drop_eq_nil_of_le hge] at h
    exact h.elim
theorem inB_nil {s : List Int} {a : Nat} (h : inB [] (s.drop a)) (ha : a ≤ s.length) : a = s.length := by
  rcases Nat.lt_or_ge a s.length with hlt | hge
  · obtain ⟨x, he, hd⟩ := at_lt hlt
    rw [hd] at h
    exact h.elim
  · omega
theorem stL_ok (i : Inp) : ∀ (l : List Vr) (a b c : Nat) (vals : List Int), (∀ v ∈ l, v.kind ≠ 1 → v.kind ≠ 2 → v.kind ≠ 3 → v.low ≤ v.init ∧ v.init ≤ v.high) →
    inB (ofK l 1) (i.s.drop a) → inB (ofK l 2) (i.p.drop b) → inB (ofK l 3) (i.r.drop c) → a ≤ i.s.length → b ≤ i.p.length → c ≤ i.r.length → (stL i l a b c vals true).2 = 0
  | [], a, b, c, vals, _, h1, h2, h3, ha, hb, hc => by
    have e1 := inB_nil h1 ha
    have e2 := inB_nil h2 hb
    have e3 := inB_nil h3 hc
    simp [stL, e1, e2, e3]
  | v :: l, a, b, c, vals, hk, h1, h2, h3, ha, hb, hc => by
    have hk' : ∀ v ∈ l, v.kind ≠ 1 → v.kind ≠ 2 → v.kind ≠ 3 → v.low ≤ v.init ∧ v.init ≤ v.high := fun w hw => hk w (List.mem_cons_of_mem _ hw)
    simp only [stL]
    unfold ofK at h1 h2 h3
    by_cases k1 : v.kind = 1
    · rw [List.filter_cons_of_pos (by simpa using k1)] at h1
      rw [List.filter_cons_of_neg (by simp [k1])] at h2
      rw [List.filter_cons_of_neg (by simp [k1])] at h3
      obtain ⟨x, he, hlt, l1, l2, hr⟩ := inB_cons h1
      simp only [pick3, if_pos k1, he, Option.getD_some, decide_eq_true hlt, if_true, decide_eq_true l1, decide_eq_true l2, Bool.and_true]
      exact stL_ok i l _ _ _ _ hk' hr h2 h3 (by omega) hb hc
    · by_cases k2 : v.kind = 2
      · rw [List.filter_cons_of_neg (by simp [k2])] at h1
        rw [List.filter_cons_of_pos (by simpa using k2)] at h2
        rw [List.filter_cons_of_neg (by simp [k2])] at h3
        obtain ⟨x, he, hlt, l1, l2, hr⟩ := inB_cons h2
        simp only [pick3, if_neg k1, if_pos k2, he, Option.getD_some, decide_eq_true hlt, if_true, decide_eq_true l1, decide_eq_true l2, Bool.and_true]
        exact stL_ok i l _ _ _ _ hk' h1 hr h3 ha (by omega) hc
      · by_cases k3 : v.kind = 3
        · rw [List.filter_cons_of_neg (by simp [k3])] at h1
          rw [List.filter_cons_of_neg (by simp [k3])] at h2
          rw [List.filter_cons_of_pos (by simpa using k3)] at h3
          obtain ⟨x, he, hlt, l1, l2, hr⟩ := inB_cons h3
          simp only [pick3, if_neg k1, if_neg k2, if_pos k3, he, Option.getD_some, decide_eq_true hlt, if_true, decide_eq_true l1, decide_eq_true l2, Bool.and_true]
          exact stL_ok i l _ _ _ _ hk' h1 h2 hr ha hb (by omega)
        · rw [List.filter_cons_of_neg (by simpa using k1)] at h1
          rw [List.filter_cons_of_neg (by simpa using k2)] at h2
          rw [List.filter_cons_of_neg (by simpa using k3)] at h3
          obtain ⟨l1, l2⟩ := hk v List.mem_cons_self k1 k2 k3
          simp only [pick3, if_neg k1, if_neg k2, if_neg k3, if_true, decide_eq_true l1, decide_eq_true l2, Bool.and_true]
          exact stL_ok i l _ _ _ _ hk' h1 h2 h3 ha hb hc
theorem vcs_init : ∀ (l seen : List Vr), vcs seen l = 0 → ∀ v ∈ l, v.kind ≠ 1 → v.kind ≠ 2 → v.kind ≠ 3 → v.low ≤ v.init ∧ v.init ≤ v.high
  | [], _, _, v, hv => by cases hv
  | w :: l, seen, h, v, hv => by
    simp only [vcs] at h
    split at h
    · rename_i h0
      rcases List.mem_cons.1 hv with rfl | hv
      · intro k1 k2 k3
        unfold vcode at h0
        split at h0
        · cases h0
        · split at h0
          · cases h0
          · split at h0
            · cases h0
            · rename_i hkr
              split at h0
              · cases h0
              · rename_i hkb
                unfold kindBad at hkb
                have hk0 : v.kind = 0 := by omega
                omega
      · exact vcs_init l _ h v hv
    · rename_i h0
      exact absurd h h0
theorem ins_ok {vars : List Vr} (h : varsC vars = 0) {i : Inp} (hi : i ∈ insL vars) : (stL i vars 0 0 0 [] true).2 = 0 := by
  have hg := varsC_good h
  obtain ⟨k, _, rfl⟩ := List.mem_map.1 hi
  have hvc : vcs [] vars = 0 := by
    unfold varsC at h
    split at h
    · assumption
    · rename_i h0; exact absurd h h0
  refine stL_ok _ vars 0 0 0 [] (vcs_init vars [] hvc) ?_ ?_ ?_ (Nat.zero_le _) (Nat.zero_le _) (Nat.zero_le _)
  · rw [List.drop_zero]; exact uL_in _ _ (ofK_good hg 1)
  · rw [List.drop_zero]; exact uL_in _ _ (ofK_good hg 2)
  · rw [List.drop_zero]; exact uL_in _ _ (ofK_good hg 3)
theorem insL_len {vars : List Vr} (hv : goodV' vars) (hA : spc vars 1 ≤ 16) (hB : spc vars 2 ≤ 4) (hC : spc vars 3 ≤ 4) : (insL vars).length ≤ 256 := by
  have mAB := mul_small ⟨spc_pos hv 1, hA⟩ ⟨spc_pos hv 2, hB⟩
  have mN := mul_small mAB ⟨spc_pos hv 3, hC⟩
  unfold insL
  rw [List.length_map, List.length_range]
  omega
end Go.Proofs.YtfilidjbpomgoaaGreat

namespace Go.Proofs.YtfilidjbpomgoaaGreat
open Go Go.Hl

/-! ## valid and small -/
theorem varsC_spc {vars : List Vr} (h : varsC vars = 0) : ∀ k, 1 ≤ k → k ≤ 3 → spc vars k ≤ 4096 := by
  intro k h1 h2
  unfold varsC at h
  split at h
  · split at h
    · cases h
    · rename_i hb
      simp only [List.any_cons, List.any_nil, Bool.or_false, Bool.or_eq_true, badK, decide_eq_true_eq, not_or] at hb
      have : k = 1 ∨ k = 2 ∨ k = 3 := by omega
      rcases this with rfl | rfl | rfl <;> omega
  · rename_i h0; exact absurd h h0
def fitB (f : Fl) (a b c : Int) : Bool := fewB f 10 80 && (decide (codeC f = 0) && (((decide (spc f.vars 1 ≤ a) && decide (spc f.vars 2 ≤ b)) && decide (spc f.vars 3 ≤ c)) && decide ((bdL CR f.body ⟨0, 0, 0⟩).s ≤ 400)))
theorem fit17_con (f : Fl) (a b c : Int) (d : Nat) : Con Tryz.prog 41 true [aF f, li a, li b, li c] (.v (lb (fitB f a b c))) none d := by
  have cf := few_con f 10 80 (by decide) (by decide)
  have hin : fewB f 10 80 = true → f.vars.length ≤ 1000000 ∧ f.hats.length ≤ 1000000 ∧ nodesS f.body + nodesH f.hats ≤ 80 ∧ bndL f.body = true := by
    intro h
    have := fewB_in (nodes := 80) (by decide) h
    exact ⟨by omega, by omega, by omega, this.2.2.2⟩
  have hcc : fewB f 10 80 = true → ∀ d, Con Tryz.prog 9 true [aF f] (.v (li (codeC f))) none d := fun h => checkR_con f (hin h).1 (hin h).2.1 (by have := (hin h).2.2.1; omega) (hin h).2.2.2
  have hsp : fewB f 10 80 = true → codeC f = 0 → ∀ k, 1 ≤ k → k ≤ 3 → ∀ d, Con Tryz.prog 42 true [lV f.vars, li k] (.tup [li (spc f.vars k), li 0]) none d := fun h h0 k k1 k2 =>
    space13_con f.vars k ⟨k1, k2⟩ (varsC_good (code_split h0).2.1) (hin h).1 (varsC_spc (code_split h0).2.1 k k1 k2)
  have hbd : fewB f 10 80 = true → codeC f = 0 → ∀ d, Con Tryz.prog 19 true [lS f.body] (.tup [li (bdL CR f.body ⟨0, 0, 0⟩).s, li (bdL CR f.body ⟨0, 0, 0⟩).o, li (bdL CR f.body ⟨0, 0, 0⟩).t]) none d := fun h h0 =>
    boundsR_con f.body (by have := (hin h).2.2.1; omega) (ssC_ok _ _ (code_split h0).2.2.2.1)
  obtain ⟨res, hres⟩ : ∃ r, fitB f a b c = r := ⟨_, rfl⟩
  rw [hres]
  unfold fitB at hres
  obtain ⟨vars, hats, body⟩ := f
  simp only at hsp hbd hres
  obtain ⟨FW, hFW⟩ : ∃ x, fewB ⟨vars, hats, body⟩ 10 80 = x := ⟨_, rfl⟩
  obtain ⟨K, hK⟩ : ∃ x, codeC ⟨vars, hats, body⟩ = x := ⟨_, rfl⟩
  obtain ⟨S1, h1⟩ : ∃ x, spc vars 1 = x := ⟨_, rfl⟩
  obtain ⟨S2, h2⟩ : ∃ x, spc vars 2 = x := ⟨_, rfl⟩
  obtain ⟨S3, h3⟩ : ∃ x, spc vars 3 = x := ⟨_, rfl⟩
  have q1 := fun h h0 => hsp h h0 1 (by decide) (by decide)
  have q2 := fun h h0 => hsp h h0 2 (by decide) (by decide)
  have q3 := fun h h0 => hsp h h0 3 (by decide) (by decide)
  obtain ⟨⟨bs, bo, bt⟩, hB⟩ : ∃ x, bdL CR body ⟨0, 0, 0⟩ = x := ⟨_, rfl⟩
  rw [hFW] at cf hcc q1 q2 q3 hbd hres
  rw [hK] at hcc q1 q2 q3 hbd hres
  rw [hB] at hbd hres
  rw [h1] at q1 hres
  rw [h2] at q2 hres
  rw [h3] at q3 hres
  simp only at hbd hres
  clear hFW hK h1 h2 h3 hB hsp hin
  refine con_of_HT Tryz.func41 rfl (by kernel_rfl) (Nat.le_of_ble_eq_true rfl) ?_
  simp only [Tryz.f41]
  simp only [aF, Fl.enc, List.map_cons, List.map_nil] at cf hcc ⊢
  refine HT_seq <| (HT_run (by simp [*]; rfl) ?_)
  rcases FW with _ | _
  · clear hcc q1 q2 q3 hbd
    subst hres
    refine HT_seq <| HT_seq <| (HT_runcS [some ⟨true, .v (lb false), none⟩, none] (by simp [*]; first | exact ⟨rfl, Iff.rfl⟩ | exact ⟨rfl, trivial⟩ | rfl) ?_ ?_)
    · first | exact trivial | exact cf _ | simpa using cf _
    refine (HT_cond rfl (fun h2 => ?_) (fun h2 => HT_skip ?_))
    · try simp only [Bool.or_eq_true, Bool.and_eq_true, Bool.or_eq_false_iff, Bool.and_eq_false_iff, Bool.not_eq_true', Bool.not_eq_false', decide_eq_true_eq, decide_eq_false_iff_not] at h2
      refine HT_seq <| (HT_run (by simp [*]; rfl) ?_)
      exact (HT_retE (fun h => ⟨.inr rfl, h⟩) _ (by simp [*]; rfl) (by first | rfl | (simp [*]; done) | (simp only [resR]; (repeat' split) <;> first | rfl | (exfalso; omega) | simp_all)) (by simp))
    · exact absurd h2 (by simp)
  · have hcc := hcc rfl
    simp only [Bool.true_and] at hres
    refine HT_seq <| HT_seq <| (HT_runc [⟨true, .v (lb true), none⟩, ⟨true, .v (li K), none⟩] (by simp [*]; first | exact ⟨rfl, Iff.rfl⟩ | exact ⟨rfl, trivial⟩ | rfl) ?_ ?_)
    · first | exact ⟨cf _, hcc _⟩ | exact trivial | (repeat' first | exact trivial | exact cf _ | exact hcc _ | apply And.intro)
    refine (HT_cond rfl (fun h2 => ?_) (fun h2 => HT_skip ?_))
    · try simp only [Bool.or_eq_true, Bool.and_eq_true, Bool.or_eq_false_iff, Bool.and_eq_false_iff, Bool.not_eq_true', Bool.not_eq_false', decide_eq_true_eq, decide_eq_false_iff_not] at h2
      have hk : ¬ K = 0 := by simpa using h2
      rw [decide_eq_false hk, Bool.false_and] at hres
      subst hres
      clear q1 q2 q3 hbd
      refine HT_seq <| (HT_run (by simp [*]; rfl) ?_)
      exact (HT_retE (fun h => ⟨.inr rfl, h⟩) _ (by simp [*]; rfl) (by first | rfl | (simp [*]; done) | (simp only [resR]; (repeat' split) <;> first | rfl | (exfalso; omega) | simp_all)) (by simp))
    · try simp only [Bool.or_eq_true, Bool.and_eq_true, Bool.or_eq_false_iff, Bool.and_eq_false_iff, Bool.not_eq_true', Bool.not_eq_false', decide_eq_true_eq, decide_eq_false_iff_not] at h2
      have hk : K = 0 := by simpa using h2
      have q1 := q1 rfl hk
      have q2 := q2 rfl hk
      have q3 := q3 rfl hk
      have hbd := hbd rfl hk
      rw [decide_eq_true hk, Bool.true_and] at hres
      clear cf hcc h2 hk
      refine HT_seq <| (HT_runc [⟨true, .tup [li S1, li 0], none⟩] (by simp [*]; first | exact ⟨rfl, Iff.rfl⟩ | exact ⟨rfl, trivial⟩ | rfl) ?_ ?_)
      · first | exact q1 _ | exact trivial | simpa [*] using q1 _
      refine HT_seq <| (HT_runc [⟨true, .tup [li S2, li 0], none⟩] (by simp [*]; first | exact ⟨rfl, Iff.rfl⟩ | exact ⟨rfl, trivial⟩ | rfl) ?_ ?_)
      · first | exact q2 _ | exact trivial | simpa [*] using q2 _
      refine HT_seq <| (HT_runc [⟨true, .tup [li S3, li 0], none⟩] (by simp [*]; first | exact ⟨rfl, Iff.rfl⟩ | exact ⟨rfl, trivial⟩ | rfl) ?_ ?_)
      · first | exact q3 _ | exact trivial | simpa [*] using q3 _
      refine HT_seq <| (HT_runc [⟨true, .tup [li bs, li bo, li bt], none⟩] (by simp [*]; first | exact ⟨rfl, Iff.rfl⟩ | exact ⟨rfl, trivial⟩ | rfl) ?_ ?_)
      · first | exact hbd _ | exact trivial | simpa [*] using hbd _
      refine HT_seq <| (HT_run (by simp [*]; rfl) ?_)
      subst hres
      exact (HT_retE (fun h => ⟨.inr rfl, h⟩) _ (by simp [*]; rfl) (by first | rfl | (simp [*]; done) | (simp only [resR]; (repeat' split) <;> first | rfl | (exfalso; omega) | simp_all)) (by simp))
theorem fit_con (f : Fl) (d : Nat) : Con Tryz.prog 14 true [aF f] (.v (lb (fitB f 16 4 4))) none d := by
  have cf := fit17_con f 16 4 4
  obtain ⟨res, hres⟩ : ∃ r, fitB f 16 4 4 = r := ⟨_, rfl⟩
  rw [hres] at cf ⊢
  obtain ⟨vars, hats, body⟩ := f
  clear hres
  refine con_of_HT Tryz.func14 rfl (by kernel_rfl) (Nat.le_of_ble_eq_true rfl) ?_
  simp only [Tryz.f14]
  simp only [aF, Fl.enc, List.map_cons, List.map_nil] at cf ⊢
  refine HT_seq <| (HT_run (by simp [*]; rfl) ?_)
  refine HT_seq <| (HT_runc [⟨true, .v (lb res), none⟩] (by simp [*]; first | exact ⟨rfl, Iff.rfl⟩ | exact ⟨rfl, trivial⟩ | rfl) ?_ ?_)
  · first | exact cf _ | exact trivial | simpa [*] using cf _
  exact (HT_retE (fun h => ⟨.inr rfl, h⟩) _ (by simp [*]; rfl) (by first | rfl | (simp [*]; done) | (simp only [resR]; (repeat' split) <;> first | rfl | (exfalso; omega) | simp_all)) (by simp))
structure Fit (f : Fl) (a b c : Int) : Prop where
  hv : f.vars.length ≤ 10
  hh : f.hats.length ≤ 10
  hn : nodesS f.body + nodesH f.hats ≤ 80
  hb : bndL f.body = true
  code : codeC f = 0
  good : goodV' f.vars
  s1 : spc f.vars 1 ≤ a
  s2 : spc f.vars 2 ≤ b
  s3 : spc f.vars 3 ≤ c
theorem fit_in {f : Fl} {a b c : Int} (h : fitB f a b c = true) : Fit f a b c := by
  unfold fitB at h
  simp only [Bool.and_eq_true, decide_eq_true_eq] at h
  have hf := fewB_in (nodes := 80) (by decide) h.1
  exact ⟨by omega, by omega, by omega, hf.2.2.2, h.2.1, varsC_good (code_split h.2.1).2.1, h.2.2.1.1.1, h.2.2.1.1.2, h.2.2.1.2⟩
end Go.Proofs.YtfilidjbpomgoaaGreat
