/- Part 13: contracts of functions of the program and of the reference, and plain facts about what they compute; used by the proof of the claimed statement. Conditions: as each theorem states. -/
import Derived.Test.YteekbhkjfaegiaaGreatT9
import Derived.Test.YteekbhkjfaegiaaGreatT12
import Derived.Test.YteekbhkjfaegiaaGreatT6
set_option linter.unusedSimpArgs false
set_option linter.unusedVariables false
set_option linter.unnecessarySimpa false
set_option maxRecDepth 100000
set_option maxHeartbeats 2000000
namespace Go.Proofs.YteekbhkjfaegiaaGreat
open Go Go.Hl

/-! ## the machine at the start -/
theorem vcs_kind : ∀ (l seen : List Vr), vcs seen l = 0 → ∀ v ∈ l, (0 ≤ v.kind ∧ v.kind ≤ 3) ∧ (v.kind = 0 → v.low ≤ v.init ∧ v.init ≤ v.high)
  | [], _, _, v, hv => by cases hv
  | w :: l, seen, h, v, hv => by
    simp only [vcs] at h
    split at h
    · rename_i h0
      rcases List.mem_cons.1 hv with rfl | hv
      · unfold vcode at h0
        split at h0
        · cases h0
        · split at h0
          · cases h0
          · split at h0
            · cases h0
            · rename_i hkr
              split at h0
              · cases h0
              · rename_i hkb
                unfold kindBad at hkb
                refine ⟨by omega, fun hk0 => ?_⟩
                omega
      · exact vcs_kind l _ h v hv
    · rename_i h0
      exact absurd h h0
theorem varsC_vcs {vars : List Vr} (h : varsC vars = 0) : vcs [] vars = 0 := by
  unfold varsC at h
  split at h
  · assumption
  · rename_i h0; exact absurd h h0
theorem hcs_bnd {vars : List Vr} : ∀ (l seen : List Ht), hcs vars seen l = 0 → ∀ h ∈ l, h.low ≤ h.high
  | [], _, _, h, hm => by cases hm
  | x :: l, seen, h0, h, hm => by
    simp only [hcs] at h0
    split at h0
    · rename_i hx
      rcases List.mem_cons.1 hm with rfl | h1
      · unfold hcode at hx
        split at hx
        · cases hx
        · split at hx
          · cases hx
          · split at hx
            · cases hx
            · rename_i hb
              have hb : boundedB h.low h.high = true := by simpa using hb
              simp only [boundedB, Bool.and_eq_true, decide_eq_true_eq] at hb
              exact hb.1
      · exact hcs_bnd l _ h0 h h1
    · rename_i hx
      exact absurd h0 hx
def startR (C : Int) (res : List Int × Int) : RV := if C = 0 then (if res.2 = 0 then .tup [.one (.at_ 800000 0), li 0] else .tup [.one (.c (.lit (.pointer none))), li res.2]) else .tup [.one (.c (.lit (.pointer none))), li C]
def startO (f : Fl) (C : Int) (res : List Int × Int) : List (Nat × Ob) := if C = 0 then (if res.2 = 0 then [(800000, mB f 0 900001 900002 900003), (900001, .row 3 1 (encIs res.1)), (900002, .row 3 1 (encIs (hvals res.1 f.hats))), (900003, .row 3 1 [])] else []) else []
theorem encI_drop (l : List Int) (k : Nat) : (encIs l).drop k = encIs (l.drop k) := by simp [encIs]
theorem startP_con (f : Fl) (i : Inp) (hv : f.vars.length ≤ 1000000) (hh : f.hats.length ≤ 1000000) (hn : nodesS f.body + nodesH f.hats ≤ 900000000) (hb : bndL f.body = true) :
    ConS Tryz.prog 90 [] [aF f, aI i] (startR (codeC f) (stL i f.vars 0 0 0 [] true)) (startO f (codeC f) (stL i f.vars 0 0 0 [] true)) := by
  have cc := checkP_con f hv hh hn hb
  have hvk : codeC f = 0 → ∀ v ∈ f.vars, (0 ≤ v.kind ∧ v.kind ≤ 3) ∧ (v.kind = 0 → v.low ≤ v.init ∧ v.init ≤ v.high) := fun h => vcs_kind _ _ (varsC_vcs (code_split h).2.1)
  have hhb : codeC f = 0 → ∀ h ∈ f.hats, h.low ≤ h.high := fun h => hcs_bnd _ _ (code_split h).2.2.1
  have hhf : codeC f = 0 → ∀ h ∈ f.hats, formB f.vars true h.term = true := fun h => (code_wf hb h).2.2
  obtain ⟨C, hC⟩ : ∃ x, codeC f = x := ⟨_, rfl⟩
  rw [hC] at cc hvk hhb hhf
  rw [hC]
  obtain ⟨res, hres⟩ : ∃ r, stL i f.vars 0 0 0 [] true = r := ⟨_, rfl⟩
  rw [hres]
  have cval := fun (vs : List Int) (h : vs.length = f.vars.length) (t : Tm) (hf : formB f.vars true t = true) => valueP_con f.vars true vs h t hf
  have hsl := stL_len i f.vars 0 0 0 [] true
  rw [hres] at hsl
  obtain ⟨vars, hats, body⟩ := f
  obtain ⟨is, ip, ir⟩ := i
  simp only at hv hh hvk hhb hhf hres cval hsl
  unfold startR startO
  clear hC hn hb
  simp only [mB, aF, Fl.enc, aI, List.map_cons, List.map_nil] at cc ⊢
  refine con_s_of_HT Tryz.func90 rfl (by kernel_rfl) (Nat.le_of_ble_eq_true rfl) (pin_mk rfl) ?_
  simp only [Tryz.f90]
  refine HT_seq <| HT_runA ?_
  refine HT_seq <| HT_seq <| (HT_runc [⟨true, .v (li C), none⟩] (by simp [*]; first | exact ⟨rfl, Iff.rfl⟩ | exact ⟨rfl, trivial⟩ | rfl) ?_ ?_)
  · first | exact cc _ | exact trivial | simpa [*] using cc _
  refine HT_seq <| HT_runA ?_
  refine (HT_cond rfl (fun h3 => ?_) (fun h3 => HT_skip ?_))
  · try simp only [BN] at h3
    rw [if_neg h3, if_neg h3]
    refine HT_seq <| HT_runA ?_
    exact HT_ret ⟨.inr rfl, HT_endS (by simp; rfl) (by simp [resR]) (by simp)⟩
  · try simp only [BN] at h3
    have hc0 : C = 0 := by simpa using h3
    rw [if_pos hc0, if_pos hc0]
    have hvk := hvk hc0
    have hhb := hhb hc0
    have hhf := hhf hc0
    clear cc h3 hc0
    refine HT_seq <| HT_runA ?_
    refine HT_seq <| (HT_run (by simp [*, allTyped, fillC, placeOf]; rfl) ?_)
    refine HT_seq <| HT_runA ?_
    refine HT_seq <| HT_seq <| HT_runA ?_
    refine HT_block <| (HT_loopU [2, 7, 8, 33, 34] (fun (x : Nat × Nat × Nat × Nat × List Int × Bool) => [(9, .v (lb (!x.2.2.2.2.2))), (35, .v (li x.1))]) (fun (x : Nat × Nat × Nat × Nat × List Int × Bool) => [(2, .box [.c (.sl 5 (encVs vars)), .c (.sl 6 (encHs hats)), .c (.sl 10 (encSs body))]), (8, .box [.c (.lit nilS), .c (.sl 1 (encIs (is.drop x.2.1))), .c (.sl 1 (encIs (ip.drop x.2.2.1))), .c (.sl 1 (encIs (ir.drop x.2.2.2.1)))]), (24, .box [.c (.sl 5 (encVs vars)), .c (.sl 6 (encHs hats)), .c (.sl 10 (encSs body)), .own 900001, .c (.lit nilS), .c (.lit nilS), .c (iC 0)]), (900001, .row 3 1 (encIs x.2.2.2.2.1))]) (fun (x : Nat × Nat × Nat × Nat × List Int × Bool) => x.1 ≤ vars.length ∧ stL ⟨is, ip, ir⟩ (vars.drop x.1) x.2.1 x.2.2.1 x.2.2.2.1 x.2.2.2.2.1 x.2.2.2.2.2 = res ∧ x.2.2.2.2.1.length = x.1 ∧ x.2.1 ≤ is.length ∧ x.2.2.1 ≤ ip.length ∧ x.2.2.2.1 ≤ ir.length) (fun (x : Nat × Nat × Nat × Nat × List Int × Bool) => vars.length - x.1) (0, 0, 0, 0, [], true) ⟨Nat.zero_le _, hres, rfl, Nat.zero_le _, Nat.zero_le _, Nat.zero_le _⟩ ?_ ?_)
    · exact le_mk (fun n => n) [900001] rfl (by simp [*, upS, keepS]) (by simp [*, upS]) (by simp [upS])
    rintro ⟨k, a, b, c, vals, fits⟩ ⟨hk, hJ, hvl, ha, hb, hc⟩
    simp only [upS, keepS, insS]
    try simp only [keepS, KN, Nat.reduceBEq, if_true, if_false, ins, Nat.reduceLT]
    simp only at hk hJ hvl ha hb hc
    clear hres
    refine HT_seq <| HT_runA ?_
    refine HT_seq <| (HT_cond rfl (fun h12 => HT_skip ?_) (fun h12 => ?_))
    · try simp only [BN] at h12
      have hlt : k < vars.length := by omega
      obtain ⟨v, he, hd⟩ := at_lt hlt
      have hw1 := wrap1 hlt (by omega)
      have hk1 : k + 1 ≤ vars.length := hlt
      have hroom : room (k + 1) 8 := room_of (by omega) (by omega)
      have hvkv := hvk v (List.mem_of_getElem? he)
      rw [hd] at hJ
      obtain ⟨nm, kd, lo, hi, ini⟩ := v
      simp only [stL] at hJ
      simp only at hvkv
      clear hlt h12 hd hvk hhb hhf cval hsl
      refine HT_seq <| HT_block <| HT_seq <| HT_runA ?_
      refine HT_seq <| HT_runA ?_
      refine (HT_cutU [2, 7, 8, 33, 34, 35] (fun (z : Nat × Nat × Nat × Int × Bool) => [(9, .v (lb (!z.2.2.2.2))), (12, .v (li z.2.2.2.1))]) (fun (z : Nat × Nat × Nat × Int × Bool) => [(2, .box [.c (.sl 5 (encVs vars)), .c (.sl 6 (encHs hats)), .c (.sl 10 (encSs body))]), (8, .box [.c (.lit nilS), .c (.sl 1 (encIs (is.drop z.1))), .c (.sl 1 (encIs (ip.drop z.2.1))), .c (.sl 1 (encIs (ir.drop z.2.2.1)))]), (24, .box [.c (.sl 5 (encVs vars)), .c (.sl 6 (encHs hats)), .c (.sl 10 (encSs body)), .own 900001, .c (.lit nilS), .c (.lit nilS), .c (iC 0)]), (900001, .row 3 1 (encIs vals))]) (fun (z : Nat × Nat × Nat × Int × Bool) => stL ⟨is, ip, ir⟩ (vars.drop (k + 1)) z.1 z.2.1 z.2.2.1 (vals ++ [z.2.2.2.1]) z.2.2.2.2 = res ∧ z.1 ≤ is.length ∧ z.2.1 ≤ ip.length ∧ z.2.2.1 ≤ ir.length) ?_ ?_)
      ·
        refine HT_seq <| HT_runA ?_
        refine (HT_cond rfl (fun h17 => ?_) (fun h17 => HT_skip ?_))
        · try simp only [BN] at h17
          have hk0 : ¬ kd = 0 := by simpa using h17
          have hk3 := hvkv.1
          rcases (show kd = 1 ∨ (kd = 2 ∨ kd = 3) by omega) with hkd | hkd
          · subst hkd
            simp only [pick3] at hJ
            simp only [if_true, show ¬ (2 : Int) = 1 by decide, show ¬ (3 : Int) = 1 by decide, show ¬ (3 : Int) = 2 by decide, if_false] at hJ
            refine HT_seq <| HT_seq <| HT_runA ?_
            refine (HT_cond rfl (fun h19 => ?_) (fun h19 => HT_skip ?_))
            · try simp only [BN] at h19
              have hz : is.length ≤ a := by
                first | omega | (simp at h19; omega)
              rw [if_neg (by simp; omega)] at hJ
              subst hJ
              refine HT_seq <| HT_runA ?_
              exact HT_ret ⟨.inr rfl, HT_endS (by simp; rfl) (by simp [resR]) (by simp)⟩
            · try simp only [BN] at h19
              have hz : a < is.length := by
                first | omega | (simp at h19; omega)
              obtain ⟨x, hx, hxd⟩ := at_lt hz
              rw [hx, Option.getD_some, if_pos (by simpa using hz)] at hJ
              have hx0 : (encIs (is.drop a))[0]? = some [iC x] := by rw [hxd]; rfl
              have hx1 : ((encIs (is.drop a)).take (is.length - a)).tail = encIs (is.drop (a + 1)) := by
                rw [List.take_of_length_le (by simp), hxd]; rfl
              have hx2 : a + 1 ≤ is.length := hz
              have hx3 : 1 ≤ is.length - a := by omega
              have hbo : ((!fits || decide (x < lo)) || decide (hi < x)) = !(fits && (decide (lo ≤ x) && decide (x ≤ hi))) := by
                by_cases q1 : x < lo <;> by_cases q2 : hi < x <;> cases fits <;> simp [q1, q2] <;> omega
              clear h19 hx hxd hvkv hz
              refine HT_seq <| HT_runA ?_
              refine HT_seq <| (HT_drunH [(56, 11), (58, 11), (60, 8), (63, 8)] (by kernel_rfl) (by kernel_rfl) (by rfl) (by simp [evsH, hokB, hintOf, *]; rfl) ?_)
              refine HT_runA ?_
              exact ⟨(a + 1, b, c, x, fits && (decide (lo ≤ x) && decide (x ≤ hi))), ⟨hJ, hx2, hb, hc⟩, le_mk (fun n => n) [] rfl (by simp [upS, keepS, *]) (by simp [*, upS]) (by simp [upS])⟩
          · rcases hkd with hkd | hkd
            · subst hkd
              simp only [pick3] at hJ
              simp only [if_true, show ¬ (2 : Int) = 1 by decide, show ¬ (3 : Int) = 1 by decide, show ¬ (3 : Int) = 2 by decide, if_false] at hJ
              refine HT_seq <| HT_seq <| HT_runA ?_
              refine (HT_cond rfl (fun h19 => ?_) (fun h19 => HT_skip ?_))
              · try simp only [BN] at h19
                have hz : ip.length ≤ b := by
                  first | omega | (simp at h19; omega)
                rw [if_neg (by simp; omega)] at hJ
                subst hJ
                refine HT_seq <| HT_runA ?_
                exact HT_ret ⟨.inr rfl, HT_endS (by simp; rfl) (by simp [resR]) (by simp)⟩
              · try simp only [BN] at h19
                have hz : b < ip.length := by
                  first | omega | (simp at h19; omega)
                obtain ⟨x, hx, hxd⟩ := at_lt hz
                rw [hx, Option.getD_some, if_pos (by simpa using hz)] at hJ
                have hx0 : (encIs (ip.drop b))[0]? = some [iC x] := by rw [hxd]; rfl
                have hx1 : ((encIs (ip.drop b)).take (ip.length - b)).tail = encIs (ip.drop (b + 1)) := by
                  rw [List.take_of_length_le (by simp), hxd]; rfl
                have hx2 : b + 1 ≤ ip.length := hz
                have hx3 : 1 ≤ ip.length - b := by omega
                have hbo : ((!fits || decide (x < lo)) || decide (hi < x)) = !(fits && (decide (lo ≤ x) && decide (x ≤ hi))) := by
                  by_cases q1 : x < lo <;> by_cases q2 : hi < x <;> cases fits <;> simp [q1, q2] <;> omega
                clear h19 hx hxd hvkv hz
                refine HT_seq <| HT_runA ?_
                refine HT_seq <| (HT_drunH [(56, 11), (58, 11), (60, 8), (63, 8)] (by kernel_rfl) (by kernel_rfl) (by rfl) (by simp [evsH, hokB, hintOf, *]; rfl) ?_)
                refine HT_runA ?_
                exact ⟨(a, b + 1, c, x, fits && (decide (lo ≤ x) && decide (x ≤ hi))), ⟨hJ, ha, hx2, hc⟩, le_mk (fun n => n) [] rfl (by simp [upS, keepS, *]) (by simp [*, upS]) (by simp [upS])⟩
            · subst hkd
              simp only [pick3] at hJ
              simp only [if_true, show ¬ (2 : Int) = 1 by decide, show ¬ (3 : Int) = 1 by decide, show ¬ (3 : Int) = 2 by decide, if_false] at hJ
              refine HT_seq <| HT_seq <| HT_runA ?_
              refine (HT_cond rfl (fun h19 => ?_) (fun h19 => HT_skip ?_))
              · try simp only [BN] at h19
                have hz : ir.length ≤ c := by
                  first | omega | (simp at h19; omega)
                rw [if_neg (by simp; omega)] at hJ
                subst hJ
                refine HT_seq <| HT_runA ?_
                exact HT_ret ⟨.inr rfl, HT_endS (by simp; rfl) (by simp [resR]) (by simp)⟩
              · try simp only [BN] at h19
                have hz : c < ir.length := by
                  first | omega | (simp at h19; omega)
                obtain ⟨x, hx, hxd⟩ := at_lt hz
                rw [hx, Option.getD_some, if_pos (by simpa using hz)] at hJ
                have hx0 : (encIs (ir.drop c))[0]? = some [iC x] := by rw [hxd]; rfl
                have hx1 : ((encIs (ir.drop c)).take (ir.length - c)).tail = encIs (ir.drop (c + 1)) := by
                  rw [List.take_of_length_le (by simp), hxd]; rfl
                have hx2 : c + 1 ≤ ir.length := hz
                have hx3 : 1 ≤ ir.length - c := by omega
                have hbo : ((!fits || decide (x < lo)) || decide (hi < x)) = !(fits && (decide (lo ≤ x) && decide (x ≤ hi))) := by
                  by_cases q1 : x < lo <;> by_cases q2 : hi < x <;> cases fits <;> simp [q1, q2] <;> omega
                clear h19 hx hxd hvkv hz
                refine HT_seq <| HT_runA ?_
                refine HT_seq <| (HT_drunH [(56, 11), (58, 11), (60, 8), (63, 8)] (by kernel_rfl) (by kernel_rfl) (by rfl) (by simp [evsH, hokB, hintOf, *]; rfl) ?_)
                refine HT_runA ?_
                exact ⟨(a, b, c + 1, x, fits && (decide (lo ≤ x) && decide (x ≤ hi))), ⟨hJ, ha, hb, hx2⟩, le_mk (fun n => n) [] rfl (by simp [upS, keepS, *]) (by simp [*, upS]) (by simp [upS])⟩
        · try simp only [BN] at h17
          have hk0 : kd = 0 := by simpa using h17
          subst hk0
          obtain ⟨hl1, hl2⟩ := hvkv.2 rfl
          simp only [pick3, decide_eq_true hl1, decide_eq_true hl2, Bool.and_true, show ¬ (0 : Int) = 1 by decide, show ¬ (0 : Int) = 2 by decide, show ¬ (0 : Int) = 3 by decide, if_false, if_true] at hJ
          clear h17 hvkv hl1 hl2
          exact ⟨(a, b, c, ini, fits), ⟨hJ, ha, hb, hc⟩, le_mk (fun n => n) [] rfl (by simp [upS, keepS, *]) (by simp [*, upS]) (by simp [upS])⟩
      rintro ⟨a', b', c', n', fits'⟩ ⟨hJ', ha', hb', hc'⟩
      simp only [upS, keepS, insS]
      try simp only [keepS, KN, Nat.reduceBEq, if_true, if_false, ins, Nat.reduceLT]
      simp only at hJ' ha' hb' hc'
      clear hJ
      refine HT_runA ?_
      refine HT_runA ?_
      exact ⟨(k + 1, a', b', c', vals ++ [n'], fits'), ⟨hk1, hJ', by simp [hvl], ha', hb', hc'⟩, by simp only; omega, le_mk (fun n => if n = 900001 then 84 else n) [] rfl (by simp [upS, keepS, *]) (by simp [*, upS]) (by simp [upS])⟩
    · try simp only [BN] at h12
      have hkl : k = vars.length := by omega
      rw [hkl, List.drop_length] at hJ
      simp only [stL] at hJ
      subst hkl
      clear h12 hvk hk
      refine (HT_exit ?_)
      refine HT_seq <| HT_seq <| HT_runA ?_
      refine HT_block <| (HT_loopU [2, 7, 9, 88] (fun (x : Nat) => [(89, .v (li x))]) (fun (x : Nat) => [(2, .box [.c (.sl 5 (encVs vars)), .c (.sl 6 (encHs hats)), .c (.sl 10 (encSs body))]), (24, .box [.c (.sl 5 (encVs vars)), .c (.sl 6 (encHs hats)), .c (.sl 10 (encSs body)), .own 900001, .c (.lit nilS), .c (.lit nilS), .c (iC 0)]), (900001, .row 3 1 (encIs vals))]) (fun (x : Nat) => x ≤ 4 ∧ (2 ≤ x → a = is.length) ∧ (3 ≤ x → b = ip.length) ∧ (4 ≤ x → c = ir.length)) (fun (x : Nat) => 4 - x) (0 : Nat) ⟨by decide, by simp, by simp, by simp⟩ ?_ ?_)
      · exact le_mk (fun n => n) [] rfl (by simp [*, upS, keepS]) (by simp [*, upS]) (by simp [upS])
      rintro q ⟨hq, q1, q2, q3⟩
      simp only [upS, keepS, insS]
      try simp only [keepS, KN, Nat.reduceBEq, if_true, if_false, ins, Nat.reduceLT]
      refine HT_seq <| HT_runA ?_
      refine HT_seq <| (HT_cond rfl (fun h33 => HT_skip ?_) (fun h33 => ?_))
      · try simp only [BN] at h33
        have hq4 : q < 4 := by omega
        clear h33
        rcases (show (q = 0 ∨ q = 1) ∨ (q = 2 ∨ q = 3) by omega) with hqq | hqq
        · rcases hqq with hqq | hqq
          · subst hqq
            have hwq : IntKind.i64.wrap 1 = 1 := by decide
            refine HT_seq <| HT_block <| HT_seq <| HT_runA ?_
            refine HT_seq <| HT_runA ?_
            refine (HT_cond rfl (fun h36 => ?_) (fun h36 => HT_skip ?_))
            · exact absurd h36 (by simp)
            · try simp only [BN] at h36
              refine HT_runA ?_
              exact ⟨1, ⟨by decide, by simp, by simp, by simp⟩, by decide, le_mk (fun n => n) [] rfl (by simp [upS, keepS, *]) (by simp [*, upS]) (by simp [upS])⟩
          · subst hqq
            have hwq : IntKind.i64.wrap 2 = 2 := by decide
            refine HT_seq <| HT_block <| HT_seq <| HT_runA ?_
            refine HT_seq <| HT_runA ?_
            refine (HT_cond rfl (fun h36 => ?_) (fun h36 => HT_skip ?_))
            · try simp only [BN] at h36
              have hz : a < is.length := by
                first | omega | (simp at h36; omega)
              rw [if_neg (by first | omega | (simp only; omega))] at hJ
              subst hJ
              refine HT_seq <| HT_runA ?_
              exact HT_ret ⟨.inr rfl, HT_endS (by simp; rfl) (by simp [resR]) (by simp)⟩
            · try simp only [BN] at h36
              have hz : a = is.length := by
                first | omega | (simp at h36; omega)
              refine HT_runA ?_
              exact ⟨2, ⟨by decide, fun _ => hz, by simp, by simp⟩, by decide, le_mk (fun n => n) [] rfl (by simp [upS, keepS, *]) (by simp [*, upS]) (by simp [upS])⟩
        · rcases hqq with hqq | hqq
          · subst hqq
            have hwq : IntKind.i64.wrap 3 = 3 := by decide
            have q1 := q1 (by decide)
            refine HT_seq <| HT_block <| HT_seq <| HT_runA ?_
            refine HT_seq <| HT_runA ?_
            refine (HT_cond rfl (fun h36 => ?_) (fun h36 => HT_skip ?_))
            · try simp only [BN] at h36
              have hz : b < ip.length := by
                first | omega | (simp at h36; omega)
              rw [if_neg (by first | omega | (simp only; omega))] at hJ
              subst hJ
              refine HT_seq <| HT_runA ?_
              exact HT_ret ⟨.inr rfl, HT_endS (by simp; rfl) (by simp [resR]) (by simp)⟩
            · try simp only [BN] at h36
              have hz : b = ip.length := by
                first | omega | (simp at h36; omega)
              refine HT_runA ?_
              exact ⟨3, ⟨by decide, fun _ => q1, fun _ => hz, by simp⟩, by decide, le_mk (fun n => n) [] rfl (by simp [upS, keepS, *]) (by simp [*, upS]) (by simp [upS])⟩
          · subst hqq
            have hwq : IntKind.i64.wrap 4 = 4 := by decide
            have q1 := q1 (by decide)
            have q2 := q2 (by decide)
            refine HT_seq <| HT_block <| HT_seq <| HT_runA ?_
            refine HT_seq <| HT_runA ?_
            refine (HT_cond rfl (fun h36 => ?_) (fun h36 => HT_skip ?_))
            · try simp only [BN] at h36
              have hz : c < ir.length := by
                first | omega | (simp at h36; omega)
              rw [if_neg (by first | omega | (simp only; omega))] at hJ
              subst hJ
              refine HT_seq <| HT_runA ?_
              exact HT_ret ⟨.inr rfl, HT_endS (by simp; rfl) (by simp [resR]) (by simp)⟩
            · try simp only [BN] at h36
              have hz : c = ir.length := by
                first | omega | (simp at h36; omega)
              refine HT_runA ?_
              exact ⟨4, ⟨by decide, fun _ => q1, fun _ => q2, fun _ => hz⟩, by decide, le_mk (fun n => n) [] rfl (by simp [upS, keepS, *]) (by simp [*, upS]) (by simp [upS])⟩
      · try simp only [BN] at h33
        have hq4 : q = 4 := by omega
        rw [if_pos ⟨q1 (by omega), q2 (by omega), q3 (by omega)⟩] at hJ
        clear q1 q2 q3 hq h33 hq4
        refine (HT_exit ?_)
        refine HT_seq <| HT_seq <| HT_runA ?_
        refine (HT_cond rfl (fun h42 => ?_) (fun h42 => HT_skip ?_))
        · try simp only [BN] at h42
          have hfz : fits = false := by simpa using h42
          rw [hfz, if_neg (by simp)] at hJ
          subst hJ
          refine HT_seq <| HT_runA ?_
          exact HT_ret ⟨.inr rfl, HT_endS (by simp; rfl) (by simp [resR]) (by simp)⟩
        · try simp only [BN] at h42
          have hfz : fits = true := by simpa using h42
          rw [hfz, if_pos rfl] at hJ
          subst hJ
          simp only [if_true]
          clear hsl h42 hfz
          refine HT_seq <| HT_seq <| HT_runA ?_
          have hv0 : hvals vals [] = [] := rfl
          refine HT_block <| (HT_loopU [7, 98, 99] (fun (x : Nat) => [(100, .v (li x))]) (fun (x : Nat) => [(24, .box [.c (.sl 5 (encVs vars)), .c (.sl 6 (encHs hats)), .c (.sl 10 (encSs body)), .own 900001, .own 900002, .c (.lit nilS), .c (iC 0)]), (900001, .row 3 1 (encIs vals)), (900002, .row 3 1 (encIs (hvals vals (hats.take x))))]) (fun (x : Nat) => x ≤ hats.length) (fun (x : Nat) => hats.length - x) (0 : Nat) (Nat.zero_le _) ?_ ?_)
          · exact le_mk (fun n => n) [900002] rfl (by simp [*, upS, keepS]) (by simp [*, upS]) (by simp [upS])
          rintro k hk
          simp only [upS, keepS, insS]
          try simp only [keepS, KN, Nat.reduceBEq, if_true, if_false, ins, Nat.reduceLT]
          refine HT_seq <| HT_runA ?_
          refine HT_seq <| (HT_cond rfl (fun h48 => HT_skip ?_) (fun h48 => ?_))
          · try simp only [BN] at h48
            have hlt : k < hats.length := by omega
            obtain ⟨h, he, hd⟩ := at_lt hlt
            have hw1 := wrap1 hlt (by omega)
            have hk1 : k + 1 ≤ hats.length := hlt
            have htl : (hvals vals (hats.take k)).length = k := by unfold hvals; rw [List.length_map, List.length_take]; omega
            have hroom : room (k + 1) 8 := room_of (by omega) (by omega)
            have cv := cval vals hvl h.term (hhf h (List.mem_of_getElem? he))
            have hsn : encIs (hvals vals (hats.take (k + 1))) = encIs (hvals vals (hats.take k)) ++ [[iC (heldI (vT vals h.term) h.low h.high)]] := by
              rw [take_snoc he]
              simp [hvals, encIs]
            have hlh := hhb h (List.mem_of_getElem? he)
            obtain ⟨nm, lo, hi, ⟨o, tn, ks⟩⟩ := h
            simp only at cv hsn hlh
            obtain ⟨A, hA⟩ : ∃ x, vT vals (.mk o tn ks) = x := ⟨_, rfl⟩
            have ch := clamp_con A lo hi hlh
            obtain ⟨H, hH⟩ : ∃ x, heldI A lo hi = x := ⟨_, rfl⟩
            rw [hA, hH] at hsn
            rw [hA] at cv
            rw [hH] at ch
            simp only [aT, Tm.enc, List.map_cons, List.map_nil] at cv
            clear hlt h48 hd hA hH hhf hhb cval
            refine HT_seq <| HT_block <| HT_seq <| HT_runA ?_
            refine (HT_druncH [(107, 24), (111, 24), (113, 16), (116, 16), (118, 16), (124, 24)] [⟨true, .v (li A), none⟩, ⟨true, .v (li H), none⟩] (by kernel_rfl) (by kernel_rfl) (by rfl) (by simp [evcH, hokB, hintOf, *]; first | exact ⟨rfl, Iff.rfl⟩ | exact ⟨rfl, trivial⟩ | rfl) ?_ ?_)
            · first | exact ⟨cv _, ch _⟩ | exact trivial | (repeat' first | exact trivial | exact cv _ | exact ch _ | apply And.intro)
            refine HT_runA ?_
            exact ⟨k + 1, hk1, by omega, le_mk (fun n => if n = 900002 then 122 else n) [] rfl (by simp [upS, keepS, *]) (by simp [*, upS]) (by simp [upS])⟩
          · try simp only [BN] at h48
            have hkl : k = hats.length := by omega
            subst hkl
            simp only [List.take_length]
            refine (HT_exit ?_)
            refine HT_seq <| HT_runA ?_
            exact HT_ret ⟨.inr rfl, HT_endL (s2 := ⟨127, [(4, .v (.one (.at_ 800000 0))), (5, .v (li 0))], [(800000, .box [.c (.sl 5 (encVs vars)), .c (.sl 6 (encHs hats)), .c (.sl 10 (encSs body)), .own 900001, .own 900002, .own 900003, .c (iC 0)]), (900001, .row 3 1 (encIs vals)), (900002, .row 3 1 (encIs (hvals vals hats))), (900003, .row 3 1 [])]⟩) (le_mk (fun n => if n = 800000 then 24 else n) [900003] rfl (by simp) (by simp) (by simp)) (by simp; rfl) (by simp [resR]) (by simp)⟩
end Go.Proofs.YteekbhkjfaegiaaGreat

namespace Go.Proofs.YteekbhkjfaegiaaGreat
open Go Go.Hl

/-! ## the program's run -/
theorem runP_con (f : Fl) (i : Inp) (hv : f.vars.length ≤ 1000000) (hh : f.hats.length ≤ 1000000) (hn : nodesS f.body + nodesH f.hats ≤ 1000000) (hb : bndL f.body = true) (d : Nat) :
    Con Tryz.prog 57 false [aF f, aI i] (.tup [aO (runF f i).1, li (runF f i).2]) none d := by
  have cst := startP_con f i hv hh (by omega) hb
  obtain ⟨res, hres⟩ : ∃ r, runF f i = r := ⟨_, rfl⟩
  rw [hres]
  unfold runF playF at hres
  have hg : codeC f = 0 → ∀ w ∈ f.vars, w.low ≤ w.high := fun h w hw => (varsC_good (code_split h).2.1 w hw).1
  have hwf := fun h => code_wf hb h
  have hsl := stL_len i f.vars 0 0 0 [] true
  have crun := fun hvl (hc : codeC f = 0) h1 => mrun_con f hvl hv (hg hc) h1 f.body (by omega) (hwf hc).1
  have hou : codeC f = 0 → oUL f.body ≤ 2000000 := fun h => (hwf h).2.1
  obtain ⟨C, hC⟩ : ∃ x, codeC f = x := ⟨_, rfl⟩
  obtain ⟨⟨SV, SC⟩, hS⟩ : ∃ x, stL i f.vars 0 0 0 [] true = x := ⟨_, rfl⟩
  rw [hC] at cst hres crun hou
  rw [hS] at cst hres hsl
  simp only [startR, startO] at cst
  simp only at hres hsl cst
  clear hg hwf hC hS hb
  obtain ⟨vars, hats, body⟩ := f
  obtain ⟨is, ip, ir⟩ := i
  simp only at hv hh hn hres hsl crun cst hou
  refine con_of_HT Tryz.func57 rfl (by kernel_rfl) (Nat.le_of_ble_eq_true rfl) ?_
  simp only [Tryz.f57]
  simp only [aF, Fl.enc, aI, List.map_cons, List.map_nil] at cst ⊢
  refine HT_seq <| HT_runA ?_
  rcases Classical.em (C = 0 ∧ SC = 0) with ⟨hc0, hs0⟩ | hno
  · subst hc0 hs0
    simp only [if_true] at hres cst hsl
    simp only [List.length_nil, Nat.zero_add] at hsl
    have hsl := hsl trivial
    have hhl : (hvals SV hats).length = hats.length := by simp [hvals]
    obtain ⟨HV, hHV⟩ : ∃ x, hvals SV hats = x := ⟨_, rfl⟩
    rw [hHV] at hres cst hhl
    have cr := crun HV rfl hhl ⟨SV, [], 0⟩ hsl (by simpa using hou rfl)
    obtain ⟨⟨rv, ro, rt⟩, hR⟩ : ∃ x, stepsF vars HV body ⟨SV, [], 0⟩ = x := ⟨_, rfl⟩
    rw [hR] at cr hres
    simp only at hres
    subst hres
    simp only [mO, mB, show encIs [] = [] from rfl] at cr cst
    clear crun hou hhl hHV hR hsl
    refine HT_seq <| (HT_runsS ?_)
    refine RunsS.cutE 2 [] (by simp [*]; rfl) trivial (le_refl _) ?_
    refine RunsS.call (fun n => n) (fun n => n) (by simp; rfl) (handS_mk (by simp) (by simp) (by simp) (by simp) (by simp)) cst (by rfl) ?_
    refine RunsS.doneE [] (by simp; rfl) trivial ?_
    refine HT_seq <| HT_seq <| HT_runA ?_
    refine (HT_cond rfl (fun h3 => ?_) (fun h3 => HT_skip ?_))
    · exact absurd h3 (by simp)
    · try simp only [BN] at h3
      refine HT_seq <| (HT_runsS ?_)
      refine RunsS.cutE 3 [] (by simp [*]; rfl) trivial (le_refl _) ?_
      refine RunsS.call (fun n => if n = 1000000 then 800000 else n) (fun n => if n = 1000000 then 800000 else n + 10) (by simp; rfl) (handS_mk (by simp) (by simp) (by simp) (by simp) (by simp)) cr (by rfl) ?_
      refine RunsS.doneE [] (by simp; rfl) trivial ?_
      refine HT_seq <| (HT_drunH [(24, 800000), (28, 800000), (4, 4)] (by kernel_rfl) (by kernel_rfl) (by rfl) (by simp [evsH, hokB, hintOf, *]; rfl) ?_)
      exact HT_ret ⟨.inr rfl, _, le_frz 900013 rfl, ⟨⟨_, by simp; rfl, by simp [resR]⟩, by simp, fun h => by cases h⟩⟩
  · obtain ⟨e, he, hr, hrr⟩ : ∃ e : Int, e ≠ 0 ∧ (⟨⟨[], 0⟩, e⟩ : Obs × Int) = res ∧ ConS Tryz.prog 90 [] [.agg [.c (.sl 5 (encVs vars)), .c (.sl 6 (encHs hats)), .c (.sl 10 (encSs body))], .agg [.c (.sl 1 (encIs is)), .c (.sl 1 (encIs ip)), .c (.sl 1 (encIs ir))]] (.tup [.one (.c (.lit (.pointer none))), li e]) [] := by
      by_cases hc : C = 0
      · have hs : ¬ SC = 0 := fun h => hno ⟨hc, h⟩
        refine ⟨SC, hs, ?_, ?_⟩
        · rw [if_pos hc, if_neg hs] at hres
          simp only [if_neg hs] at hres
          exact hres
        · rw [if_pos hc, if_pos hc, if_neg hs, if_neg hs] at cst
          exact cst
      · refine ⟨C, hc, ?_, ?_⟩
        · rw [if_neg hc] at hres
          simp only [if_neg hc] at hres
          exact hres
        · rw [if_neg hc, if_neg hc] at cst
          exact cst
    subst hr
    clear hres cst crun hou hsl hno
    refine HT_seq <| (HT_runsS ?_)
    refine RunsS.cutE 2 [] (by simp [*]; rfl) trivial (le_refl _) ?_
    refine RunsS.call (fun n => n) (fun n => n) (by simp; rfl) (handS_mk (by simp) (by simp) (by simp) (by simp) (by simp)) hrr (by rfl) ?_
    refine RunsS.doneE [] (by simp; rfl) trivial ?_
    refine HT_seq <| HT_seq <| HT_runA ?_
    refine (HT_cond rfl (fun h3 => ?_) (fun h3 => HT_skip ?_))
    · try simp only [BN] at h3
      refine HT_seq <| HT_runA ?_
      refine HT_le (le_box 4 [.c (.sl 1 []), .c (iC 0)] rfl (by (repeat' (first | exact LWk.nil | apply LWk.cons | exact CWk.refl _ | exact CWk.nil _)))) ?_
      exact HT_ret ⟨.inr rfl, _, le_refl _, ⟨⟨_, by simp; rfl, by simp [resR]⟩, by simp, fun h => by cases h⟩⟩
    · exact absurd h3 (by simpa using he)
end Go.Proofs.YteekbhkjfaegiaaGreat

namespace Go.Proofs.YteekbhkjfaegiaaGreat
open Go Go.Hl

/-! ## the vectors of inputs -/
def ofK (vars : List Vr) (kind : Int) : List Vr := vars.filter fun v => decide (v.kind = kind)
def pdL : List Vr → Int
  | [] => 1
  | v :: l => sz v * pdL l
def uL : List Vr → Int → List Int
  | [], _ => []
  | v :: l, r => (v.low + r / pdL l % sz v) :: uL l r
theorem pdL_pos : ∀ l : List Vr, goodV' l → 1 ≤ pdL l
  | [], _ => by simp [pdL]
  | v :: l, h => by
    have h1 := pdL_pos l fun w hw => h w (List.mem_cons_of_mem _ hw)
    have h2 := (sz_in h (List.mem_cons_self : v ∈ v :: l)).1
    simp only [pdL]
    have := Int.mul_le_mul_of_nonneg_right h2 (show 0 ≤ pdL l by omega)
    omega
theorem prV_pd : ∀ (l : List Vr) (n : Int), goodV' l → 1 ≤ n → prV l n ≤ 4096 → prV l n = n * pdL l
  | [], n, _, _, _ => by simp [prV, pdL]
  | v :: l, n, h, hn, h1 => by
    simp only [prV] at h1 ⊢
    have h2 := (sz_in h (List.mem_cons_self : v ∈ v :: l)).1
    split at h1
    · omega
    · rename_i hc
      rw [if_neg hc, prV_pd l _ (fun w hw => h w (List.mem_cons_of_mem _ hw)) (by
        have := Int.mul_le_mul_of_nonneg_right hn (show 0 ≤ sz v by omega)
        omega) h1, pdL, Int.mul_assoc]
theorem ofK_good {vars : List Vr} (h : goodV' vars) (kind : Int) : goodV' (ofK vars kind) := fun v hv => h v (List.mem_filter.1 hv).1
theorem ofK_len (vars : List Vr) (kind : Int) : (ofK vars kind).length ≤ vars.length := List.length_filter_le _ _
theorem spc_pd {vars : List Vr} (h : goodV' vars) {kind : Int} (hs : spc vars kind ≤ 4096) : spc vars kind = pdL (ofK vars kind) := by
  have := prV_pd (ofK vars kind) 1 (ofK_good h kind) (Int.le_refl 1) hs
  rw [Int.one_mul] at this
  exact this
theorem uL_len : ∀ (l : List Vr) (r : Int), (uL l r).length = l.length
  | [], r => rfl
  | v :: l, r => by simp [uL, uL_len l r]

theorem of13_con (vars : List Vr) (kind : Int) (hl : vars.length ≤ 1000000) (d : Nat) : Con Tryz.prog 29 false [lV vars, li kind] (.v (lV (ofK vars kind))) none d := by
  obtain ⟨S, hS⟩ : ∃ S, ofK vars kind = S := ⟨_, rfl⟩
  rw [hS]
  unfold ofK at hS
  refine con_of_HT Tryz.func29 rfl (by kernel_rfl) (Nat.le_of_ble_eq_true rfl) ?_
  simp only [Tryz.f29]
  refine HT_seq <| HT_runA ?_
  refine HT_seq <| HT_runA ?_
  refine HT_seq <| HT_seq <| HT_runA ?_
  refine HT_block <| (HT_loopU [0, 1] (fun (x : Nat × List Vr) => [(5, .v (.one (.own 1005))), (6, .v (li x.1))]) (fun (x : Nat × List Vr) => [(1005, .row 62 5 (encVs x.2))]) (fun (x : Nat × List Vr) => x.1 ≤ vars.length ∧ x.2 = (vars.take x.1).filter fun v => decide (v.kind = kind)) (fun (x : Nat × List Vr) => vars.length - x.1) (0, []) ⟨Nat.zero_le _, by simp⟩ ?_ ?_)
  · exact le_mk (fun n => if n = 1005 then 7 else n) [] rfl (by simp [*, upS, keepS]) (by simp [*, upS]) (by simp [upS])
  rintro ⟨k, acc⟩ ⟨hk, hJ⟩
  simp only [upS, keepS, insS]
  try simp only [keepS, KN, Nat.reduceBEq, if_true, if_false, ins, Nat.reduceLT]
  simp only at hk hJ
  replace hJ := hJ.symm
  refine HT_seq <| HT_seq <| HT_runA ?_
  refine (HT_cond rfl (fun h5 => HT_skip ?_) (fun h5 => ?_))
  · try simp only [BN] at h5
    have hlt : k < vars.length := by omega
    obtain ⟨v, he, hd⟩ := at_lt hlt
    have hw1 := wrap1 hlt (by omega)
    have hk1 : k + 1 ≤ vars.length := hlt
    have ht := take_snoc he
    generalize hT : (vars.take k).filter (fun v => decide (v.kind = kind)) = T at hJ
    have hal : acc.length ≤ k := by
      rw [← hJ, ← hT]
      exact Nat.le_trans (List.length_filter_le _ _) (by rw [List.length_take]; omega)
    have hroom : room (acc.length + 1) 48 := room_of (by omega) (by omega)
    clear hlt h5 hS
    refine HT_seq <| HT_block <| HT_seq <| HT_runA ?_
    refine (HT_cond rfl (fun h7 => ?_) (fun h7 => HT_skip ?_))
    · try simp only [BN] at h7
      have hf : (vars.take (k + 1)).filter (fun v => decide (v.kind = kind)) = acc ++ [v] := by rw [ht, List.filter_append, hT, hJ, List.filter_cons_of_pos (by simpa using h7)]; simp
      refine HT_runA ?_
      refine HT_runA ?_
      exact ⟨(k + 1, acc ++ [v]), ⟨hk1, hf.symm⟩, by simp only; omega, le_mk (fun n => if n = 1005 then 27 else n) [] rfl (by simp [upS, keepS, *]) (by simp [*, upS]) (by simp [upS])⟩
    · try simp only [BN] at h7
      have hf : (vars.take (k + 1)).filter (fun v => decide (v.kind = kind)) = acc := by rw [ht, List.filter_append, hT, hJ, List.filter_cons_of_neg (by simpa using h7)]; simp
      refine HT_runA ?_
      exact ⟨(k + 1, acc), ⟨hk1, hf.symm⟩, by simp only; omega, le_mk (fun n => n) [] rfl (by simp [upS, keepS, *]) (by simp [*, upS]) (by simp [upS])⟩
  · try simp only [BN] at h5
    have hkl : k = vars.length := by omega
    rw [hkl, List.take_length, hS] at hJ
    subst hJ
    clear hS
    refine (HT_exit ?_)
    refine HT_seq <| HT_runA ?_
    exact HT_ret ⟨.inr rfl, _, le_frz 1005 rfl, ⟨⟨_, by simp; rfl, by simp [resR]⟩, by simp, fun h => by cases h⟩⟩
theorem space13_con (vars : List Vr) (kind : Int) (hkd : 1 ≤ kind ∧ kind ≤ 3) (hv : goodV' vars) (hl : vars.length ≤ 1000000) (hs : spc vars kind ≤ 4096) (d : Nat) :
    Con Tryz.prog 14 true [lV vars, li kind] (.tup [li (spc vars kind), li 0]) none d := by
  have co := of13_con vars kind hl
  have hg := ofK_good hv kind
  have hn := ofK_len vars kind
  unfold spc at *
  change prV (ofK vars kind) 1 ≤ 4096 at hs
  change Con _ _ _ _ (.tup [li (prV (ofK vars kind) 1), li 0]) _ _
  obtain ⟨res, hres⟩ : ∃ r, prV (ofK vars kind) 1 = r := ⟨_, rfl⟩
  rw [hres] at hs ⊢
  obtain ⟨S, hS⟩ : ∃ S, ofK vars kind = S := ⟨_, rfl⟩
  rw [hS] at co hg hn hres
  clear hS hv
  refine con_of_HT Tryz.func14 rfl (by kernel_rfl) (Nat.le_of_ble_eq_true rfl) ?_
  simp only [Tryz.f14]
  refine HT_seq <| HT_runA ?_
  refine HT_seq <| HT_seq <| HT_runA ?_
  refine (HT_cond rfl (fun h2 => ?_) (fun h2 => HT_skip ?_))
  · exfalso
    simp at h2
    omega
  · try simp only [BN] at h2
    refine HT_seq <| (HT_runc [⟨false, .v (lV S), none⟩] (by simp [*]; first | exact ⟨rfl, Iff.rfl⟩ | exact ⟨rfl, trivial⟩ | rfl) ?_ ?_)
    · first | exact co _ | exact trivial | simpa [*] using co _
    refine HT_seq <| HT_seq <| HT_runA ?_
    refine HT_block <| (HT_loopU [6] (fun (x : Nat) => [(7, .v (li x))]) (fun (x : Nat) => []) (fun (x : Nat) => x ≤ S.length) (fun (x : Nat) => S.length - x) (0 : Nat) (Nat.zero_le _) ?_ ?_)
    · exact le_mk (fun n => n) [] rfl (by simp [*, upS, keepS]) (by simp [*, upS]) (by simp [upS])
    rintro k hk
    simp only [upS, keepS, insS]
    try simp only [keepS, KN, Nat.reduceBEq, if_true, if_false, ins, Nat.reduceLT]
    clear co
    refine HT_seq <| HT_seq <| HT_runA ?_
    refine (HT_cond rfl (fun h9 => HT_skip ?_) (fun h9 => ?_))
    · try simp only [BN] at h9
      have hlt : k < S.length := by omega
      obtain ⟨v, he, hd⟩ := at_lt hlt
      have hw1 := wrap1 hlt (by omega)
      have hk1 : k + 1 ≤ S.length := hlt
      have hb := hg v (List.mem_of_getElem? he)
      clear hlt h9 hg hres
      refine HT_seq <| HT_block <| HT_seq <| (HT_drun (by kernel_rfl) (by kernel_rfl) (by rfl) (by simp [*]; rfl) ?_)
      refine (HT_cond rfl (fun h11 => ?_) (fun h11 => HT_skip ?_))
      · exfalso
        simp at h11
        omega
      · try simp only [BN] at h11
        refine HT_runA ?_
        exact ⟨k + 1, hk1, by omega, le_mk (fun n => n) [] rfl (by simp [upS, keepS, *]) (by simp [*, upS]) (by simp [upS])⟩
    · try simp only [BN] at h9
      clear h9 hk
      refine (HT_exit ?_)
      refine HT_seq <| HT_runA ?_
      refine HT_seq <| HT_seq <| HT_runA ?_
      refine HT_block <| (HT_loopU [6] (fun (x : Nat × Int) => [(8, .v (li x.2)), (9, .v (li x.1))]) (fun (x : Nat × Int) => []) (fun (x : Nat × Int) => x.1 ≤ S.length ∧ prV (S.drop x.1) x.2 = res ∧ 1 ≤ x.2 ∧ x.2 ≤ 4096) (fun (x : Nat × Int) => S.length - x.1) (0, 1) ⟨Nat.zero_le _, hres, by decide, by decide⟩ ?_ ?_)
      · exact le_mk (fun n => n) [] rfl (by simp [*, upS, keepS]) (by simp [*, upS]) (by simp [upS])
      rintro ⟨k, n⟩ ⟨hk, hJ, hn1, hn2⟩
      simp only [upS, keepS, insS]
      try simp only [keepS, KN, Nat.reduceBEq, if_true, if_false, ins, Nat.reduceLT]
      simp only at hk hJ hn1 hn2
      clear hres
      refine HT_seq <| HT_seq <| HT_runA ?_
      refine (HT_cond rfl (fun h20 => HT_skip ?_) (fun h20 => ?_))
      · try simp only [BN] at h20
        have hlt : k < S.length := by omega
        obtain ⟨v, he, hd⟩ := at_lt hlt
        have hw1 := wrap1 hlt (by omega)
        have hk1 : k + 1 ≤ S.length := hlt
        have hmem : v ∈ S := List.mem_of_getElem? he
        have hsz := sz_in hg hmem
        have hm := mul_in ⟨hn1, hn2⟩ hsz
        have hb := hg v hmem
        have hw2 : IntKind.i64.wrap (v.high - v.low) = v.high - v.low := wrap_in (by omega) (by omega)
        have hw3 : IntKind.i64.wrap (v.high - v.low + 1) = sz v := by rw [wrap_in (by omega) (by omega)]; rfl
        have hw4 : IntKind.i64.wrap (n * sz v) = n * sz v := wrap_in (by omega) (by omega)
        rw [hd] at hJ
        simp only [prV] at hJ
        clear hlt h20 hg
        refine HT_seq <| HT_block <| HT_seq <| (HT_drun (by kernel_rfl) (by kernel_rfl) (by rfl) (by simp [*]; rfl) ?_)
        refine HT_seq <| HT_runA ?_
        refine (HT_cond rfl (fun h23 => ?_) (fun h23 => HT_skip ?_))
        · exfalso
          rw [if_pos (by simpa using h23)] at hJ
          omega
        · try simp only [BN] at h23
          rw [if_neg (by simpa using h23)] at hJ
          refine HT_runA ?_
          exact ⟨(k + 1, n * sz v), ⟨hk1, hJ, hm.1, by simp only; omega⟩, by simp only; omega, le_mk (fun n => n) [] rfl (by simp [upS, keepS, *]) (by simp [*, upS]) (by simp [upS])⟩
      · try simp only [BN] at h20
        have hkl : k = S.length := by omega
        rw [hkl, List.drop_length] at hJ
        simp only [prV] at hJ
        subst hJ
        refine (HT_exit ?_)
        refine HT_seq <| HT_runA ?_
        exact HT_retA fun h => ⟨.inr rfl, h⟩
theorem unrank13_con (vars : List Vr) (kind : Int) (hkd : 1 ≤ kind ∧ kind ≤ 3) (hv : goodV' vars) (hl : vars.length ≤ 1000000) (hs : spc vars kind ≤ 4096) (r : Int) (h0 : 0 ≤ r) (h1 : r < spc vars kind) (d : Nat) :
    Con Tryz.prog 32 false [lV vars, li kind, li r] (.tup [lI (uL (ofK vars kind) r), li 0]) none d := by
  have co := of13_con vars kind hl
  have cs := space13_con vars kind hkd hv hl hs
  have hg := ofK_good hv kind
  have hn := ofK_len vars kind
  have hp := spc_pd hv hs
  rw [hp] at cs h1 hs
  clear hp
  obtain ⟨S, hS⟩ : ∃ S, ofK vars kind = S := ⟨_, rfl⟩
  rw [hS] at co hg hn cs h1 hs ⊢
  clear hS hv
  have hp1 := pdL_pos S hg
  obtain ⟨n0, hn0⟩ : ∃ n, pdL S = n := ⟨_, rfl⟩
  rw [hn0] at cs h1 hs hp1
  obtain ⟨res, hres⟩ : ∃ l, uL S r = l := ⟨_, rfl⟩
  rw [hres]
  refine con_of_HT Tryz.func32 rfl (by kernel_rfl) (Nat.le_of_ble_eq_true rfl) ?_
  simp only [Tryz.f32]
  refine HT_seq <| HT_runA ?_
  refine HT_seq <| (HT_runc [⟨true, .tup [li n0, li 0], none⟩] (by simp [*]; first | exact ⟨rfl, Iff.rfl⟩ | exact ⟨rfl, trivial⟩ | rfl) ?_ ?_)
  · first | exact cs _ | exact trivial | simpa [*] using cs _
  refine HT_seq <| HT_seq <| HT_runA ?_
  refine (HT_cond rfl (fun h3 => ?_) (fun h3 => HT_skip ?_))
  · exact absurd h3 (by simp)
  · try simp only [BN] at h3
    refine HT_seq <| HT_seq <| HT_runA ?_
    refine (HT_cond rfl (fun h7 => ?_) (fun h7 => HT_skip ?_))
    · exfalso
      simp at h7
      omega
    · try simp only [BN] at h7
      refine HT_seq <| (HT_runc [⟨false, .v (lV S), none⟩] (by simp [*]; first | exact ⟨rfl, Iff.rfl⟩ | exact ⟨rfl, trivial⟩ | rfl) ?_ ?_)
      · first | exact co _ | exact trivial | simpa [*] using co _
      refine HT_seq <| HT_runA ?_
      refine HT_seq <| HT_seq <| HT_runA ?_
      refine HT_block <| (HT_loopU [2, 10] (fun (x : Nat × Int × List Int) => [(8, .v (li x.2.1)), (11, .v (.one (.own 1011))), (12, .v (li x.1))]) (fun (x : Nat × Int × List Int) => [(1011, .row 3 1 (encIs x.2.2))]) (fun (x : Nat × Int × List Int) => x.1 ≤ S.length ∧ pdL (S.drop x.1) = x.2.1 ∧ x.2.2 ++ uL (S.drop x.1) r = res ∧ x.2.2.length = x.1 ∧ x.2.1 ≤ 4096) (fun (x : Nat × Int × List Int) => S.length - x.1) (0, n0, []) ⟨Nat.zero_le _, hn0, hres, rfl, hs⟩ ?_ ?_)
      · exact le_mk (fun n => if n = 1011 then 33 else n) [] rfl (by simp [*, upS, keepS]) (by simp [*, upS]) (by simp [upS])
      rintro ⟨k, n, acc⟩ ⟨hk, hJ, hA, hal, hn4⟩
      simp only [upS, keepS, insS]
      try simp only [keepS, KN, Nat.reduceBEq, if_true, if_false, ins, Nat.reduceLT]
      simp only at hk hJ hA hal hn4
      clear hres hn0 cs co
      refine HT_seq <| HT_seq <| HT_runA ?_
      refine (HT_cond rfl (fun h15 => HT_skip ?_) (fun h15 => ?_))
      · try simp only [BN] at h15
        have hlt : k < S.length := by omega
        obtain ⟨v, he, hd⟩ := at_lt hlt
        have hw1 := wrap1 hlt (by omega)
        have hk1 : k + 1 ≤ S.length := hlt
        have hmem : v ∈ S := List.mem_of_getElem? he
        have hsz := sz_in hg hmem
        have hb := hg v hmem
        have hpp := pdL_pos (S.drop (k + 1)) fun u hu => hg u (List.mem_of_mem_drop hu)
        rw [hd] at hJ hA
        simp only [pdL, uL] at hJ hA
        obtain ⟨p, hpe⟩ : ∃ p, pdL (S.drop (k + 1)) = p := ⟨_, rfl⟩
        rw [hpe] at hJ hA hpp
        have hpd : (sz v * p).tdiv (sz v) = p := Int.mul_tdiv_cancel_left _ (by omega)
        have hple : p ≤ sz v * p := by
          have := Int.mul_le_mul_of_nonneg_right hsz.1 (show 0 ≤ p by omega)
          omega
        have hw2 : IntKind.i64.wrap (v.high - v.low) = v.high - v.low := wrap_in (by omega) (by omega)
        have hw3 : IntKind.i64.wrap (v.high - v.low + 1) = sz v := by rw [wrap_in (by omega) (by omega)]; rfl
        have t2 : r.tdiv p = r / p := Int.tdiv_eq_ediv_of_nonneg (by omega)
        obtain ⟨q, hq⟩ : ∃ q, r / p = q := ⟨_, rfl⟩
        rw [hq] at t2 hA
        have hq0 : 0 ≤ q := by rw [← hq]; exact Int.ediv_nonneg (by omega) (by omega)
        have hq1 : q ≤ r := by rw [← hq]; exact Int.ediv_le_self _ (by omega)
        have hm0 : 0 ≤ q % sz v := Int.emod_nonneg _ (by omega)
        have hm1 : q % sz v < sz v := Int.emod_lt_of_pos _ (by omega)
        have t1 : q.tmod (sz v) = q % sz v := Int.tmod_eq_emod_of_nonneg hq0
        have w0 : IntKind.i64.wrap p = p := wrap_in (by omega) (by omega)
        have w1 : IntKind.i64.wrap (v.low + q % sz v) = v.low + q % sz v := wrap_in (by omega) (by omega)
        have w2 : IntKind.i64.wrap q = q := wrap_in (by omega) (by omega)
        have s0 : ¬ sz v = 0 := by omega
        have p0 : ¬ p = 0 := by omega
        have hroom : room (k + 1) 8 := room_of (by omega) (by omega)
        have hp4 : p ≤ 4096 := by omega
        rw [← hJ]
        clear hlt h15 hg hq hd hpp hmem hJ
        refine HT_seq <| HT_block <| HT_seq <| (HT_drun (by kernel_rfl) (by kernel_rfl) (by rfl) (by simp [*]; rfl) ?_)
        refine HT_seq <| HT_runA ?_
        refine (HT_drun (by kernel_rfl) (by kernel_rfl) (by rfl) (by simp [*]; rfl) ?_)
        refine HT_runA ?_
        exact ⟨(k + 1, p, acc ++ [v.low + q % sz v]), ⟨hk1, hpe, by simpa using hA, by simp [hal], by simp only; omega⟩, by simp only; omega, le_mk (fun n => if n = 1011 then 68 else n) [] rfl (by simp [upS, keepS, *]) (by simp [*, upS]) (by simp [upS])⟩
      · try simp only [BN] at h15
        have hkl : k = S.length := by omega
        rw [hkl, List.drop_length] at hA
        simp only [uL, List.append_nil] at hA
        subst hA
        refine (HT_exit ?_)
        refine HT_seq <| HT_runA ?_
        exact HT_ret ⟨.inr rfl, _, le_frz 1011 rfl, ⟨⟨_, by simp; rfl, by simp [resR]⟩, by simp, fun h => by cases h⟩⟩
def inpK (vars : List Vr) (a b c : Int) : Inp := ⟨uL (ofK vars 1) a, uL (ofK vars 2) b, uL (ofK vars 3) c⟩
end Go.Proofs.YteekbhkjfaegiaaGreat
