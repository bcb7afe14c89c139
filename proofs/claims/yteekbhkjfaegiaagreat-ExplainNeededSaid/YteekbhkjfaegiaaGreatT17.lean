/- Part 17: contracts of functions of the program and of the reference, and plain facts about what they compute; used by the proof of the claimed statement. Conditions: as each theorem states. -/
import Derived.Test.YteekbhkjfaegiaaGreatT16
import Derived.Test.YteekbhkjfaegiaaGreatT11
import Derived.Test.YteekbhkjfaegiaaGreatT14
set_option linter.unusedSimpArgs false
set_option linter.unusedVariables false
set_option linter.unnecessarySimpa false
set_option maxRecDepth 100000
set_option maxHeartbeats 2000000
namespace Go.Proofs.YteekbhkjfaegiaaGreat
open Go Go.Hl

def finR (ap : List St → Bool) (n : Nat) (x : List St × List Int × Bool) : List St × List Int := if x.2.2 = true then rdF ap n x.1 x.2.1 else (x.1, x.2.1)
theorem rdF_succ (ap : List St → Bool) (n : Nat) (bd : List St) (l : List Int) : rdF ap (n + 1) bd l = finR ap n (psF ap l.length bd l false) := rfl
theorem idxs_snoc (n : Nat) : encIs (idxs (n + 1)) = encIs (idxs n) ++ [[iC (n : Int)]] := by
  unfold idxs encIs
  rw [List.range_succ, List.map_append, List.map_append]
  rfl
@[simp] theorem idxs_zero : idxs 0 = [] := rfl
theorem idxs_len (n : Nat) : (idxs n).length = n := by simp [idxs]
theorem leastP_con (f : Fl) (v : Vw) (hv : f.vars.length ≤ 1000000) (hh : f.hats.length ≤ 1000000) (hn : nodesS f.body + nodesH f.hats ≤ 1000000) (hb : bndL f.body = true) (a b e : Int) (out : List Int)
    (he : lstC f v a b = e) (hl : if e = 0 then (redF f v a b).2 = out else out = []) (d : Nat) :
    Con Tryz.prog 13 false [aF f, aW v, li a, li b] (.tup [lI out, li e]) none d := by
  have cc := checkE_con f v hv hh hn hb
  have hgd := fun h => (ask_gd (v := v) hv hh hn hb h).1
  have csec := fun (h : askC f v = 0) => secrets_con f hv (hgd h).vc
  have csz := sizeF_con f (by omega)
  have cap := fun (h : askC f v = 0) (ha : 0 ≤ a ∧ a < spc f.vars 1) (hb : 0 ≤ b ∧ b < spc f.vars 1) (bd : List St) (h1 : nodesS bd + nodesH f.hats ≤ 1000000) (h2 : bndL bd = true) => least1_con ⟨f.vars, f.hats, bd⟩ v a b ((hgd h).body h1 h2) ha hb
  have hapb : ∀ bd, (!decide (obsF ⟨f.vars, f.hats, bd⟩ v a = obsF ⟨f.vars, f.hats, bd⟩ v b)) = apB f v a b bd := fun bd => rfl
  have hht : ∀ h ∈ f.hats, h.term.nodes ≤ 1000000 := fun h hm => by have := nodesH_mem hm; omega
  obtain ⟨ap, hap⟩ : ∃ x, apB f v a b = x := ⟨_, rfl⟩
  obtain ⟨A, hA⟩ : ∃ x, askC f v = x := ⟨_, rfl⟩
  obtain ⟨N, hN⟩ : ∃ x, spc f.vars 1 = x := ⟨_, rfl⟩
  unfold lstC at he
  unfold redF at hl
  simp only [hap, hA, hN, hapb] at cc csec cap he hl
  have hsb := szL_le f.body
  obtain ⟨vars, hats, body⟩ := f
  obtain ⟨pub, tm⟩ := v
  simp only at hv hh hn hb hht hl csz cap he hsb
  clear hA hN hap hapb hgd
  obtain ⟨S, hS⟩ : ∃ x, szL body = x := ⟨_, rfl⟩
  rw [hS] at csz hl hsb
  refine con_of_HT Tryz.func13 rfl (by kernel_rfl) (Nat.le_of_ble_eq_true rfl) ?_
  simp only [Tryz.f13]
  simp only [aF, Fl.enc, aW, List.map_cons, List.map_nil] at cc csec csz cap ⊢
  refine HT_seq <| HT_runA ?_
  refine HT_seq <| HT_seq <| (HT_runc [⟨true, .v (li A), none⟩] (by simp [*]; first | exact ⟨rfl, Iff.rfl⟩ | exact ⟨rfl, trivial⟩ | rfl) ?_ ?_)
  · first | exact cc _ | exact trivial | simpa [*] using cc _
  refine HT_seq <| HT_runA ?_
  refine (HT_cond rfl (fun h3 => ?_) (fun h3 => HT_skip ?_))
  · try simp only [BN] at h3
    rw [if_pos h3] at he
    subst he
    rw [if_neg h3] at hl
    subst hl
    clear csec csz cap
    refine HT_seq <| HT_runA ?_
    refine HT_le (le_one 8 1 rfl) ?_
    exact HT_ret ⟨.inr rfl, _, le_refl _, ⟨⟨_, by simp; rfl, by simp [resR]⟩, by simp, fun h => by cases h⟩⟩
  · try simp only [BN] at h3
    have hA0 : A = 0 := by simpa using h3
    rw [if_neg (by simpa using h3)] at he
    have csec := csec hA0
    have cap := cap hA0
    clear cc h3
    refine HT_seq <| HT_seq <| (HT_runc [⟨true, .v (li N), none⟩] (by simp [*]; first | exact ⟨rfl, Iff.rfl⟩ | exact ⟨rfl, trivial⟩ | rfl) ?_ ?_)
    · first | exact csec _ | exact trivial | simpa [*] using csec _
    refine HT_seq <| HT_runA ?_
    refine (HT_cond rfl (fun h8 => ?_) (fun h8 => HT_skip ?_))
    · try simp only [BN] at h8
      have h8' : a < 0 ∨ N ≤ a ∨ b < 0 ∨ N ≤ b := by
        first | omega | (simp at h8; omega)
      rw [if_pos h8'] at he
      subst he
      rw [if_neg (by decide)] at hl
      subst hl
      clear csec csz cap
      refine HT_seq <| HT_runA ?_
      refine HT_le (le_one 8 1 rfl) ?_
      exact HT_ret ⟨.inr rfl, _, le_refl _, ⟨⟨_, by simp; rfl, by simp [resR]⟩, by simp, fun h => by cases h⟩⟩
    · try simp only [BN] at h8
      have h8' : ¬ (a < 0 ∨ N ≤ a ∨ b < 0 ∨ N ≤ b) := by
        first | omega | (simp at h8; omega)
      rw [if_neg h8'] at he
      have cap := cap (by omega) (by omega)
      have cap0 := cap body hn hb
      obtain ⟨E0, hE0⟩ : ∃ x, ap body = x := ⟨_, rfl⟩
      rw [hE0] at cap0 he
      clear csec h8 h8' hE0
      refine HT_seq <| HT_runA ?_
      refine HT_seq <| HT_seq <| (HT_runc [⟨true, .v (lb E0), none⟩] (by simp [*]; first | exact ⟨rfl, Iff.rfl⟩ | exact ⟨rfl, trivial⟩ | rfl) ?_ ?_)
      · first | exact cap0 _ | exact trivial | simpa [*] using cap0 _
      refine (HT_cond rfl (fun h13 => ?_) (fun h13 => HT_skip ?_))
      · try simp only [BN] at h13
        have hz : E0 = false := by simpa using h13
        subst hz
        rw [if_neg (by decide)] at he
        subst he
        rw [if_neg (by decide)] at hl
        subst hl
        clear csz cap cap0
        refine HT_seq <| HT_runA ?_
        refine HT_le (le_one 8 1 rfl) ?_
        exact HT_ret ⟨.inr rfl, _, le_refl _, ⟨⟨_, by simp; rfl, by simp [resR]⟩, by simp, fun h => by cases h⟩⟩
      · try simp only [BN] at h13
        have hz : E0 = true := by simpa using h13
        subst hz
        rw [if_pos rfl] at he
        subst he
        rw [if_pos rfl] at hl
        clear h13 cap0
        refine HT_seq <| HT_runA ?_
        refine HT_seq <| HT_seq <| (HT_runc [⟨true, .v (li (S : Int)), none⟩] (by simp [*]; first | exact ⟨rfl, Iff.rfl⟩ | exact ⟨rfl, trivial⟩ | rfl) ?_ ?_)
        · first | exact csz _ | exact trivial | simpa [*] using csz _
        refine HT_block <| (HT_loopU [4, 12, 51] (fun (x : Nat) => [(13, .v (.one (.own 1003))), (52, .v (li x))]) (fun (x : Nat) => [(4, .box [.c (.sl 5 (encVs vars)), .c (.sl 6 (encHs hats)), .c (.sl 10 (encSs body))]), (5, .box [.c (.sl 1 (encIs pub)), .c (bC tm)]), (6, .box [.c (iC a)]), (7, .box [.c (iC b)]), (1003, .row 3 1 (encIs (idxs x)))]) (fun (x : Nat) => x ≤ S) (fun (x : Nat) => S - x) (0 : Nat) (Nat.zero_le _) ?_ ?_)
        · exact le_mk (fun n => n) [1003] rfl (by simp [*, upS, keepS]) (by simp [*, upS]) (by simp [upS])
        rintro k hk
        simp only [upS, keepS, insS]
        try simp only [keepS, KN, Nat.reduceBEq, if_true, if_false, ins, Nat.reduceLT]
        clear csz
        refine HT_seq <| HT_runA ?_
        refine HT_seq <| (HT_cond rfl (fun h20 => HT_skip ?_) (fun h20 => ?_))
        · try simp only [BN] at h20
          have hlt : k < S := by omega
          have hw1 := wrap1 hlt (by omega)
          have hk1 : k + 1 ≤ S := hlt
          have hroom : room (k + 1) 8 := room_of (by omega) (by omega)
          have hsn := idxs_snoc k
          have hil := idxs_len k
          clear hlt h20
          refine HT_seq <| HT_block <| HT_seq <| HT_runA ?_
          refine HT_runA ?_
          refine HT_runA ?_
          exact ⟨k + 1, hk1, by omega, le_mk (fun n => if n = 1003 then 58 else n) [] rfl (by simp [upS, keepS, *]) (by simp [*, upS]) (by simp [upS])⟩
        · try simp only [BN] at h20
          have hkS : k = S := by omega
          subst hkS
          have hnb := Nat.le_trans (Nat.le_add_right _ _) hn
          have hil := idxs_len k
          have hsl : szL body < k + 1 := by omega
          obtain ⟨l0, hl0⟩ : ∃ x, idxs k = x := ⟨_, rfl⟩
          rw [hl0] at hl hil ⊢
          have hil' : l0.length = szL body := by omega
          clear hl0 h20 hk
          refine (HT_exit ?_)
          refine HT_seq <| HT_seq <| HT_runA ?_
          refine HT_block <| (HT_loopU [4, 12] (fun (x : Bool × Nat × List St × List Int) => [(13, .v (.one (.own 1003))), (15, .v (lb x.1))]) (fun (x : Bool × Nat × List St × List Int) => [(4, .box [.c (.sl 5 (encVs vars)), .c (.sl 6 (encHs hats)), .c (.sl 10 (encSs x.2.2.1))]), (5, .box [.c (.sl 1 (encIs pub)), .c (bC tm)]), (6, .box [.c (iC a)]), (7, .box [.c (iC b)]), (1003, .row 3 1 (encIs x.2.2.2))]) (fun (x : Bool × Nat × List St × List Int) => (if x.1 = true then rdF ap x.2.1 x.2.2.1 x.2.2.2 else (x.2.2.1, x.2.2.2)).2 = out ∧ x.2.2.2.length = szL x.2.2.1 ∧ nodesS x.2.2.1 + nodesH hats ≤ 1000000 ∧ bndL x.2.2.1 = true ∧ (x.1 = true → szL x.2.2.1 < x.2.1)) (fun (x : Bool × Nat × List St × List Int) => (if x.1 = true then x.2.1 + 1 else 0)) (true, k + 1, body, l0) ⟨by rw [if_pos rfl]; exact hl, hil', hn, hb, fun _ => hsl⟩ ?_ ?_)
          · exact le_mk (fun n => n) [] rfl (by simp [*, upS, keepS]) (by simp [*, upS]) (by simp [upS])
          rintro ⟨rm, n, bd, l⟩ ⟨hJ, hll, hnb2, hbb, hfu⟩
          simp only [upS, keepS, insS]
          try simp only [keepS, KN, Nat.reduceBEq, if_true, if_false, ins, Nat.reduceLT]
          simp only at hJ hll hnb2 hbb hfu
          clear hl hil hil' hn hb hsl hsb hS hnb
          refine HT_seq <| HT_seq <| HT_runA ?_
          refine (HT_cond rfl (fun h28 => HT_skip ?_) (fun h28 => ?_))
          · try simp only [BN] at h28
            have hrm : rm = true := by simpa using h28
            subst hrm
            rw [if_pos rfl] at hJ
            have hfu := hfu rfl
            obtain ⟨n', rfl⟩ : ∃ n', n = n' + 1 := ⟨n - 1, by omega⟩
            rw [rdF_succ] at hJ
            have hsl2 := szL_le bd
            have hwl : IntKind.i64.wrap ((l.length : Int) - 1) = (l.length : Int) - 1 := wrap_in (by omega) (by omega)
            have hwl' : IntKind.i64.wrap ((szL bd : Int) - 1) = (szL bd : Int) - 1 := wrap_in (by omega) (by omega)
            have hfu : szL bd ≤ n' := by omega
            clear h28
            refine HT_block <| HT_seq <| HT_runA ?_
            refine HT_seq <| HT_runA ?_
            refine HT_block <| (HT_loopU [4, 12] (fun (y : Int × List St × List Int × Bool) => [(13, .v (.one (.own 1003))), (15, .v (lb y.2.2.2)), (16, .v (li y.1))]) (fun (y : Int × List St × List Int × Bool) => [(4, .box [.c (.sl 5 (encVs vars)), .c (.sl 6 (encHs hats)), .c (.sl 10 (encSs y.2.1))]), (5, .box [.c (.sl 1 (encIs pub)), .c (bC tm)]), (6, .box [.c (iC a)]), (7, .box [.c (iC b)]), (1003, .row 3 1 (encIs y.2.2.1))]) (fun (y : Int × List St × List Int × Bool) => -1 ≤ y.1 ∧ y.1 < szL y.2.1 ∧ (finR ap n' (psF ap (y.1 + 1).toNat y.2.1 y.2.2.1 y.2.2.2)).2 = out ∧ y.2.2.1.length = szL y.2.1 ∧ nodesS y.2.1 + nodesH hats ≤ 1000000 ∧ bndL y.2.1 = true ∧ szL y.2.1 ≤ n' ∧ (y.2.2.2 = true → szL y.2.1 < n')) (fun (y : Int × List St × List Int × Bool) => (y.1 + 1).toNat) ((l.length : Int) - 1, bd, l, false) ⟨by simp only; omega, by simp only; omega, by simp only; rw [show ((l.length : Int) - 1 + 1).toNat = l.length by omega]; exact hJ, hll, hnb2, hbb, hfu, fun h => by cases h⟩ ?_ ?_)
            · exact le_mk (fun n => n) [] rfl (by simp [*, upS, keepS]) (by simp [*, upS]) (by simp [upS])
            rintro ⟨ix, bd2, l2, rm2⟩ ⟨hi0, hi1, hJ2, hll2, hnb3, hbb2, hfu2, hfu3⟩
            simp only [upS, keepS, insS]
            try simp only [keepS, KN, Nat.reduceBEq, if_true, if_false, ins, Nat.reduceLT]
            simp only at hi0 hi1 hJ2 hll2 hnb3 hbb2 hfu2 hfu3
            clear hJ hll hnb2 hbb hfu hsl2 hwl hwl'
            refine HT_seq <| HT_seq <| HT_runA ?_
            refine (HT_cond rfl (fun h33 => HT_skip ?_) (fun h33 => ?_))
            · try simp only [BN] at h33
              obtain ⟨i, rfl⟩ : ∃ i : Nat, ix = (i : Int) := ⟨ix.toNat, by omega⟩
              obtain ⟨s, e1, e2, e3, e4, e5⟩ := fnd_some bd2 i (by omega) hi1
              have hnb4 : nodesS bd2 ≤ 1000000 := by omega
              have hsl3 := szL_le bd2
              have cat := atP_con ⟨vars, hats, bd2⟩ hnb4 hbb2 i s e1
              have crm := removeP_con ⟨vars, hats, bd2⟩ hv hh hht hnb4 hbb2 i (by omega) hi1
              have hn5 := woL_nodes bd2 i
              have hb5 := woL_bnd bd2 i hbb2
              have cap2 := cap (woL bd2 i) (by omega) hb5
              have cin := inside_con s (by omega)
              have hsp := szS_pos s
              have cdl := delete_con l2 i (i + szS s) (by omega) (by omega)
              rw [Int.natCast_add] at cdl
              rw [show ((i : Int) + 1).toNat = i + 1 by omega] at hJ2
              simp only [psF, e1, szO] at hJ2
              have hdl : (l2.take i ++ l2.drop (i + szS s)).length + szS s = l2.length := by
                simp only [List.length_append, List.length_take, List.length_drop]; omega
              obtain ⟨l3, hl3⟩ : ∃ x, l2.take i ++ l2.drop (i + szS s) = x := ⟨_, rfl⟩
              obtain ⟨bd3, hbd3⟩ : ∃ x, woL bd2 i = x := ⟨_, rfl⟩
              simp only [hbd3, hl3] at crm cap2 hJ2 hn5 hb5 e5 cdl hdl
              obtain ⟨z, hz⟩ : ∃ x, szS s = x := ⟨_, rfl⟩
              rw [hz] at cin cdl e4 e5 hsp hdl
              obtain ⟨E, hE⟩ : ∃ x, ap bd3 = x := ⟨_, rfl⟩
              rw [hE] at cap2 hJ2
              have hw1 : IntKind.i64.wrap ((i : Int) - 1) = (i : Int) - 1 := wrap_in (by omega) (by omega)
              have hw2 : IntKind.i64.wrap ((i : Int) + (z : Int)) = (i : Int) + (z : Int) := wrap_in (by omega) (by omega)
              obtain ⟨sd, sc, sv, sn, ⟨so, stn, sks⟩, sa, sb, sbs⟩ := s
              simp only [aF, Fl.enc, aS, St.enc, Tm.enc, List.map_cons, List.map_nil, List.cons_append, List.nil_append] at cat crm cin
              clear e1 hz hE hbd3 hl3 h33 hi0
              refine HT_seq <| HT_block <| HT_seq <| (HT_runc [⟨false, .tup [.agg [.c (iC sd), .c (iC sc), .c (iC sv), .c (iC sn), .c (iC so), .c (iC stn), .c (.sl 3 (encTs sks)), .c (.sl 10 (encSs sa)), .c (.sl 10 (encSs sb)), .c (.sl 1 (encIs sbs))], li 0], none⟩] (by simp [*]; first | exact ⟨rfl, Iff.rfl⟩ | exact ⟨rfl, trivial⟩ | rfl) ?_ ?_)
              · first | exact cat _ | exact trivial | simpa [*] using cat _
              refine HT_seq <| (HT_runc [⟨false, .tup [.agg [.c (.sl 5 (encVs vars)), .c (.sl 6 (encHs hats)), .c (.sl 10 (encSs bd3))], li 0], none⟩] (by simp [*]; first | exact ⟨rfl, Iff.rfl⟩ | exact ⟨rfl, trivial⟩ | rfl) ?_ ?_)
              · first | exact crm _ | exact trivial | simpa [*] using crm _
              refine HT_seq <| (HT_runc [⟨true, .v (lb E), none⟩] (by simp [*]; first | exact ⟨rfl, Iff.rfl⟩ | exact ⟨rfl, trivial⟩ | rfl) ?_ ?_)
              · first | exact cap2 _ | exact trivial | simpa [*] using cap2 _
              refine (HT_cond rfl (fun h37 => ?_) (fun h37 => HT_skip ?_))
              · try simp only [BN] at h37
                have hEt : E = true := by simpa using h37
                subst hEt
                rw [if_pos rfl] at hJ2
                clear h37 cat crm cap2
                refine HT_seq <| HT_runA ?_
                refine HT_seq <| (HT_runsS ?_)
                refine RunsS.cutE 6 [⟨true, .v (li (z : Int)), none⟩] (by simp [*]; first | exact ⟨rfl, Iff.rfl⟩ | exact ⟨rfl, trivial⟩ | rfl) (by first | exact cin _ | simpa using cin _) (le_refl _) ?_
                refine RunsS.call (fun n => if n = 900001 then 1003 else n) (fun n => if n = 900001 then 900010 else n) (by simp; rfl) (handS_mk (by simp) (by simp) (by simp) (by simp) (by simp)) cdl (by rfl) ?_
                refine RunsS.doneE [] (by simp; rfl) trivial ?_
                refine HT_runA ?_
                refine HT_runA ?_
                exact ⟨((i : Int) - 1, bd3, l3, true), ⟨by simp only; omega, by simp only; omega, by simp only; rw [show ((i : Int) - 1 + 1).toNat = i by omega]; exact hJ2, by simp only; omega, by simp only; omega, hb5, by simp only; omega, fun _ => by simp only; omega⟩, by simp only; omega, le_mk (fun n => if n = 1003 then 900010 else n) [] rfl (by simp [upS, keepS, *]) (by simp [*, upS]) (by simp [upS])⟩
              · try simp only [BN] at h37
                have hEf : E = false := by simpa using h37
                subst hEf
                rw [if_neg (by decide)] at hJ2
                clear h37 cat crm cap2
                refine HT_runA ?_
                exact ⟨((i : Int) - 1, bd2, l2, rm2), ⟨by simp only; omega, by simp only; omega, by simp only; rw [show ((i : Int) - 1 + 1).toNat = i by omega]; exact hJ2, hll2, hnb3, hbb2, hfu2, hfu3⟩, by simp only; omega, le_mk (fun n => n) [] rfl (by simp [upS, keepS, *]) (by simp [*, upS]) (by simp [upS])⟩
            · try simp only [BN] at h33
              have hi : ix = -1 := by omega
              subst hi
              rw [show ((-1 : Int) + 1).toNat = 0 by rfl] at hJ2
              simp only [psF, finR] at hJ2
              clear h33
              refine (HT_exit ?_)
              exact ⟨(rm2, n', bd2, l2), ⟨hJ2, hll2, hnb3, hbb2, hfu3⟩, by simp only [if_true]; split <;> omega, le_mk (fun n => n) [] rfl (by simp [upS, keepS, *]) (by simp [*, upS]) (by simp [upS])⟩
          · try simp only [BN] at h28
            have hrm : rm = false := by simpa using h28
            subst hrm
            rw [if_neg (by decide)] at hJ
            simp only at hJ
            subst hJ
            refine (HT_exit ?_)
            refine HT_le (le_frz 1003 rfl) ?_
            refine HT_seq <| HT_runA ?_
            exact HT_ret ⟨.inr rfl, _, le_refl _, ⟨⟨_, by simp; rfl, by simp [resR]⟩, by simp, fun h => by cases h⟩⟩
end Go.Proofs.YteekbhkjfaegiaaGreat

namespace Go.Proofs.YteekbhkjfaegiaaGreat
open Go Go.Hl

theorem reduced_con (f : Fl) (v : Vw) (a b : Int) (hg : Gd f) (ha : 0 ≤ a ∧ a < spc f.vars 1) (hb : 0 ≤ b ∧ b < spc f.vars 1) (d : Nat) :
    Con Tryz.prog 17 false [aF f, aW v, li a, li b] (.v (lI (redF f v a b).2)) none d := by
  have cap := fun (bd : List St) (h1 : nodesS bd + nodesH f.hats ≤ 1000000) (h2 : bndL bd = true) => apart_con ⟨f.vars, f.hats, bd⟩ v a b (hg.body h1 h2) ha hb
  have hapb : ∀ bd, (!decide (obsF ⟨f.vars, f.hats, bd⟩ v a = obsF ⟨f.vars, f.hats, bd⟩ v b)) = apB f v a b bd := fun bd => rfl
  have hn := hg.hn
  have hbn := hg.hb
  have csz := sizeR_con f.body (by omega)
  obtain ⟨out, hl⟩ : ∃ x, (redF f v a b).2 = x := ⟨_, rfl⟩
  rw [hl]
  unfold redF at hl
  obtain ⟨ap, hap⟩ : ∃ x, apB f v a b = x := ⟨_, rfl⟩
  simp only [hap, hapb] at cap hl
  have hsb := szL_le f.body
  obtain ⟨vars, hats, body⟩ := f
  obtain ⟨pub, tm⟩ := v
  simp only at hn hbn hl csz cap hsb
  clear hap hapb hg ha hb
  obtain ⟨S, hS⟩ : ∃ x, szL body = x := ⟨_, rfl⟩
  rw [hS] at csz hl hsb
  refine con_of_HT Tryz.func17 rfl (by kernel_rfl) (Nat.le_of_ble_eq_true rfl) ?_
  simp only [Tryz.f17]
  simp only [aF, Fl.enc, aW, List.map_cons, List.map_nil] at cap ⊢
  refine HT_seq <| HT_runA ?_
  refine HT_seq <| HT_runA ?_
  refine HT_seq <| HT_seq <| HT_runA ?_
  refine HT_block <| (HT_loopU [2, 3, 4, 5] (fun (x : Nat) => [(9, .v (.one (.own 1003))), (10, .v (li x))]) (fun (x : Nat) => [(4, .box [.c (.sl 5 (encVs vars)), .c (.sl 6 (encHs hats)), .c (.sl 10 (encSs body))]), (5, .box [.c (.sl 1 (encIs pub)), .c (bC tm)]), (1003, .row 3 1 (encIs (idxs x)))]) (fun (x : Nat) => x ≤ S) (fun (x : Nat) => S - x) (0 : Nat) (Nat.zero_le _) ?_ ?_)
  · exact le_mk (fun n => if n = 1003 then 16 else n) [] rfl (by simp [*, upS, keepS]) (by simp [*, upS]) (by simp [upS])
  rintro k hk
  simp only [upS, keepS, insS]
  try simp only [keepS, KN, Nat.reduceBEq, if_true, if_false, ins, Nat.reduceLT]
  refine HT_seq <| HT_seq <| (HT_runc [⟨true, .v (li (S : Int)), none⟩] (by simp [*]; first | exact ⟨rfl, Iff.rfl⟩ | exact ⟨rfl, trivial⟩ | rfl) ?_ ?_)
  · first | exact csz _ | exact trivial | simpa [*] using csz _
  refine (HT_cond rfl (fun h5 => HT_skip ?_) (fun h5 => ?_))
  · try simp only [BN] at h5
    have hlt : k < S := by omega
    have hw1 := wrap1 hlt (by omega)
    have hk1 : k + 1 ≤ S := hlt
    have hroom : room (k + 1) 8 := room_of (by omega) (by omega)
    have hsn := idxs_snoc k
    have hil := idxs_len k
    clear hlt h5
    refine HT_seq <| HT_block <| HT_runA ?_
    refine HT_runA ?_
    exact ⟨k + 1, hk1, by omega, le_mk (fun n => if n = 1003 then 27 else n) [] rfl (by simp [upS, keepS, *]) (by simp [*, upS]) (by simp [upS])⟩
  · try simp only [BN] at h5
    have hkS : k = S := by omega
    subst hkS
    have hnb := Nat.le_trans (Nat.le_add_right _ _) hn
    have hil := idxs_len k
    have hsl : szL body < k + 1 := by omega
    obtain ⟨l0, hl0⟩ : ∃ x, idxs k = x := ⟨_, rfl⟩
    rw [hl0] at hl hil ⊢
    have hil' : l0.length = szL body := by omega
    clear hl0 h5 hk csz
    refine (HT_exit ?_)
    refine HT_seq <| HT_seq <| HT_runA ?_
    refine HT_block <| (HT_loopU [2, 3, 4, 5] (fun (x : Bool × Nat × List St × List Int) => [(9, .v (.one (.own 1003))), (11, .v (lb x.1))]) (fun (x : Bool × Nat × List St × List Int) => [(4, .box [.c (.sl 5 (encVs vars)), .c (.sl 6 (encHs hats)), .c (.sl 10 (encSs x.2.2.1))]), (5, .box [.c (.sl 1 (encIs pub)), .c (bC tm)]), (1003, .row 3 1 (encIs x.2.2.2))]) (fun (x : Bool × Nat × List St × List Int) => (if x.1 = true then rdF ap x.2.1 x.2.2.1 x.2.2.2 else (x.2.2.1, x.2.2.2)).2 = out ∧ x.2.2.2.length = szL x.2.2.1 ∧ nodesS x.2.2.1 + nodesH hats ≤ 1000000 ∧ bndL x.2.2.1 = true ∧ (x.1 = true → szL x.2.2.1 < x.2.1)) (fun (x : Bool × Nat × List St × List Int) => (if x.1 = true then x.2.1 + 1 else 0)) (true, k + 1, body, l0) ⟨by rw [if_pos rfl]; exact hl, hil', hn, hbn, fun _ => hsl⟩ ?_ ?_)
    · exact le_mk (fun n => n) [] rfl (by simp [*, upS, keepS]) (by simp [*, upS]) (by simp [upS])
    rintro ⟨rm, n, bd, l⟩ ⟨hJ, hll, hnb2, hbb, hfu⟩
    simp only [upS, keepS, insS]
    try simp only [keepS, KN, Nat.reduceBEq, if_true, if_false, ins, Nat.reduceLT]
    simp only at hJ hll hnb2 hbb hfu
    clear hl hil hil' hn hbn hsl hsb hS hnb
    refine HT_seq <| HT_seq <| HT_runA ?_
    refine (HT_cond rfl (fun h12 => HT_skip ?_) (fun h12 => ?_))
    · try simp only [BN] at h12
      have hrm : rm = true := by simpa using h12
      subst hrm
      rw [if_pos rfl] at hJ
      have hfu := hfu rfl
      obtain ⟨n', rfl⟩ : ∃ n', n = n' + 1 := ⟨n - 1, by omega⟩
      rw [rdF_succ] at hJ
      have hsl2 := szL_le bd
      have hwl : IntKind.i64.wrap ((l.length : Int) - 1) = (l.length : Int) - 1 := wrap_in (by omega) (by omega)
      have hwl' : IntKind.i64.wrap ((szL bd : Int) - 1) = (szL bd : Int) - 1 := wrap_in (by omega) (by omega)
      have hfu : szL bd ≤ n' := by omega
      clear h12
      refine HT_block <| HT_seq <| HT_runA ?_
      refine HT_seq <| HT_runA ?_
      refine HT_block <| (HT_loopU [2, 3, 4, 5] (fun (y : Int × List St × List Int × Bool) => [(9, .v (.one (.own 1003))), (11, .v (lb y.2.2.2)), (12, .v (li y.1))]) (fun (y : Int × List St × List Int × Bool) => [(4, .box [.c (.sl 5 (encVs vars)), .c (.sl 6 (encHs hats)), .c (.sl 10 (encSs y.2.1))]), (5, .box [.c (.sl 1 (encIs pub)), .c (bC tm)]), (1003, .row 3 1 (encIs y.2.2.1))]) (fun (y : Int × List St × List Int × Bool) => -1 ≤ y.1 ∧ y.1 < szL y.2.1 ∧ (finR ap n' (psF ap (y.1 + 1).toNat y.2.1 y.2.2.1 y.2.2.2)).2 = out ∧ y.2.2.1.length = szL y.2.1 ∧ nodesS y.2.1 + nodesH hats ≤ 1000000 ∧ bndL y.2.1 = true ∧ szL y.2.1 ≤ n' ∧ (y.2.2.2 = true → szL y.2.1 < n')) (fun (y : Int × List St × List Int × Bool) => (y.1 + 1).toNat) ((l.length : Int) - 1, bd, l, false) ⟨by simp only; omega, by simp only; omega, by simp only; rw [show ((l.length : Int) - 1 + 1).toNat = l.length by omega]; exact hJ, hll, hnb2, hbb, hfu, fun h => by cases h⟩ ?_ ?_)
      · exact le_mk (fun n => n) [] rfl (by simp [*, upS, keepS]) (by simp [*, upS]) (by simp [upS])
      rintro ⟨ix, bd2, l2, rm2⟩ ⟨hi0, hi1, hJ2, hll2, hnb3, hbb2, hfu2, hfu3⟩
      simp only [upS, keepS, insS]
      try simp only [keepS, KN, Nat.reduceBEq, if_true, if_false, ins, Nat.reduceLT]
      simp only at hi0 hi1 hJ2 hll2 hnb3 hbb2 hfu2 hfu3
      clear hJ hll hnb2 hbb hfu hsl2 hwl hwl'
      refine HT_seq <| HT_seq <| HT_runA ?_
      refine (HT_cond rfl (fun h17 => HT_skip ?_) (fun h17 => ?_))
      · try simp only [BN] at h17
        obtain ⟨i, rfl⟩ : ∃ i : Nat, ix = (i : Int) := ⟨ix.toNat, by omega⟩
        obtain ⟨s, e1, e2, e3, e4, e5⟩ := fnd_some bd2 i (by omega) hi1
        have hnb4 : nodesS bd2 ≤ 1000000 := by omega
        have hsl3 := szL_le bd2
        have cat := findR_con bd2 hnb4 i s (by omega) (by omega) e1
        have crm := withoutR_con bd2 hnb4 i (by omega) (by omega)
        have hn5 := woL_nodes bd2 i
        have hb5 := woL_bnd bd2 i hbb2
        have cap2 := cap (woL bd2 i) (by omega) hb5
        have cin := sizeR_con [s] (by simp only [nodesS]; omega)
        rw [show szL [s] = szS s by simp [szL]] at cin
        have hsp := szS_pos s
        have cdl := delete_con l2 i (i + szS s) (by omega) (by omega)
        rw [Int.natCast_add] at cdl
        rw [show ((i : Int) + 1).toNat = i + 1 by omega] at hJ2
        simp only [psF, e1, szO] at hJ2
        have hdl : (l2.take i ++ l2.drop (i + szS s)).length + szS s = l2.length := by
          simp only [List.length_append, List.length_take, List.length_drop]; omega
        obtain ⟨l3, hl3⟩ : ∃ x, l2.take i ++ l2.drop (i + szS s) = x := ⟨_, rfl⟩
        obtain ⟨bd3, hbd3⟩ : ∃ x, woL bd2 i = x := ⟨_, rfl⟩
        simp only [hbd3, hl3] at crm cap2 hJ2 hn5 hb5 e5 cdl hdl
        obtain ⟨z, hz⟩ : ∃ x, szS s = x := ⟨_, rfl⟩
        rw [hz] at cin cdl e4 e5 hsp hdl
        obtain ⟨E, hE⟩ : ∃ x, ap bd3 = x := ⟨_, rfl⟩
        rw [hE] at cap2 hJ2
        have hw1 : IntKind.i64.wrap ((i : Int) - 1) = (i : Int) - 1 := wrap_in (by omega) (by omega)
        have hw2 : IntKind.i64.wrap ((i : Int) + (z : Int)) = (i : Int) + (z : Int) := wrap_in (by omega) (by omega)
        obtain ⟨sd, sc, sv, sn, ⟨so, stn, sks⟩, sa, sb, sbs⟩ := s
        simp only [encSs, aS, St.enc, Tm.enc, List.map_cons, List.map_nil, List.cons_append, List.nil_append] at cat cin
        clear e1 hz hE hbd3 hl3 h17 hi0
        refine HT_seq <| HT_block <| HT_seq <| (HT_runc [⟨false, .tup [.agg [.c (iC sd), .c (iC sc), .c (iC sv), .c (iC sn), .c (iC so), .c (iC stn), .c (.sl 3 (encTs sks)), .c (.sl 10 (encSs sa)), .c (.sl 10 (encSs sb)), .c (.sl 1 (encIs sbs))], lb true], none⟩] (by simp [*]; first | exact ⟨rfl, Iff.rfl⟩ | exact ⟨rfl, trivial⟩ | rfl) ?_ ?_)
        · first | exact cat _ | exact trivial | simpa [*] using cat _
        refine HT_seq <| (HT_drunc [⟨false, .v (lS bd3), none⟩] (by kernel_rfl) (by kernel_rfl) (by rfl) (by simp [*, allTyped, fillC, placeOf]; first | exact ⟨rfl, Iff.rfl⟩ | exact ⟨rfl, trivial⟩ | rfl) ?_ ?_)
        · first | exact crm _ | exact trivial | simpa [*, allTyped, fillC, placeOf] using crm _
        refine HT_seq <| (HT_runc [⟨true, .v (lb E), none⟩] (by simp [*]; first | exact ⟨rfl, Iff.rfl⟩ | exact ⟨rfl, trivial⟩ | rfl) ?_ ?_)
        · first | exact cap2 _ | exact trivial | simpa [*] using cap2 _
        refine (HT_cond rfl (fun h21 => ?_) (fun h21 => HT_skip ?_))
        · try simp only [BN] at h21
          have hEt : E = true := by simpa using h21
          subst hEt
          rw [if_pos rfl] at hJ2
          clear h21 cat crm cap2
          refine HT_seq <| HT_runA ?_
          refine (HT_runsS ?_)
          refine RunsS.cutE 7 [⟨true, .v (li (z : Int)), none⟩] (by simp [*]; first | exact ⟨rfl, Iff.rfl⟩ | exact ⟨rfl, trivial⟩ | rfl) (by first | exact cin _ | simpa using cin _) (le_refl _) ?_
          refine RunsS.call (fun n => if n = 900001 then 1003 else n) (fun n => if n = 900001 then 900010 else n) (by simp; rfl) (handS_mk (by simp) (by simp) (by simp) (by simp) (by simp)) cdl (by rfl) ?_
          refine RunsS.doneE [] (by simp; rfl) trivial ?_
          refine HT_runA ?_
          exact ⟨((i : Int) - 1, bd3, l3, true), ⟨by simp only; omega, by simp only; omega, by simp only; rw [show ((i : Int) - 1 + 1).toNat = i by omega]; exact hJ2, by simp only; omega, by simp only; omega, hb5, by simp only; omega, fun _ => by simp only; omega⟩, by simp only; omega, le_mk (fun n => if n = 1003 then 900010 else n) [] rfl (by simp [upS, keepS, *]) (by simp [*, upS]) (by simp [upS])⟩
        · try simp only [BN] at h21
          have hEf : E = false := by simpa using h21
          subst hEf
          rw [if_neg (by decide)] at hJ2
          clear h21 cat crm cap2
          refine HT_runA ?_
          exact ⟨((i : Int) - 1, bd2, l2, rm2), ⟨by simp only; omega, by simp only; omega, by simp only; rw [show ((i : Int) - 1 + 1).toNat = i by omega]; exact hJ2, hll2, hnb3, hbb2, hfu2, hfu3⟩, by simp only; omega, le_mk (fun n => n) [] rfl (by simp [upS, keepS, *]) (by simp [*, upS]) (by simp [upS])⟩
      · try simp only [BN] at h17
        have hi : ix = -1 := by omega
        subst hi
        rw [show ((-1 : Int) + 1).toNat = 0 by rfl] at hJ2
        simp only [psF, finR] at hJ2
        clear h17
        refine (HT_exit ?_)
        exact ⟨(rm2, n', bd2, l2), ⟨hJ2, hll2, hnb3, hbb2, hfu3⟩, by simp only [if_true]; split <;> omega, le_mk (fun n => n) [] rfl (by simp [upS, keepS, *]) (by simp [*, upS]) (by simp [upS])⟩
    · try simp only [BN] at h12
      have hrm : rm = false := by simpa using h12
      subst hrm
      rw [if_neg (by decide)] at hJ
      simp only at hJ
      subst hJ
      refine (HT_exit ?_)
      refine HT_le (le_frz 1003 rfl) ?_
      refine HT_seq <| HT_runA ?_
      exact HT_ret ⟨.inr rfl, _, le_refl _, ⟨⟨_, by simp; rfl, by simp [resR]⟩, by simp, fun h => by cases h⟩⟩
end Go.Proofs.YteekbhkjfaegiaaGreat

namespace Go.Proofs.YteekbhkjfaegiaaGreat
open Go Go.Hl

mutual
def tL : Tm → Int → Int
  | .mk _ _ ks, left => tLs ks (left - 1)
def tLs : List Tm → Int → Int
  | [], left => left
  | t :: l, left => if 0 ≤ left then tLs l (tL t left) else left
end
def lo1 (x : Int) : Int := if x < 0 then x else -1
mutual
theorem tL_in : ∀ (t : Tm) (left : Int), lo1 (left - 1) ≤ tL t left ∧ tL t left ≤ left - 1
  | .mk _ _ ks, left => by
    simp only [tL]
    exact tLs_in ks (left - 1)
theorem tLs_in : ∀ (l : List Tm) (left : Int), lo1 left ≤ tLs l left ∧ tLs l left ≤ left
  | [], left => by
    simp only [tLs, lo1]
    split <;> omega
  | t :: l, left => by
    simp only [tLs]
    split
    · have h1 := tL_in t left
      have h2 := tLs_in l (tL t left)
      unfold lo1 at *
      refine ⟨?_, by omega⟩
      split
      · omega
      · refine Int.le_trans ?_ h2.1
        split <;> (try split at h1) <;> omega
    · unfold lo1
      split <;> omega
end
theorem tLs_neg (l : List Tm) (left : Int) (h : left < 0) : tLs l left = left := by
  cases l with
  | nil => rfl
  | cons t l => simp only [tLs]; rw [if_neg (by omega)]
mutual
theorem tL_pos : ∀ (t : Tm) (left : Int), 0 ≤ tL t left → tL t left = left - t.nodes
  | .mk _ _ ks, left => by
    simp only [tL, Tm.nodes]
    intro h
    have := tLs_pos ks (left - 1) h
    omega
theorem tLs_pos : ∀ (l : List Tm) (left : Int), 0 ≤ tLs l left → tLs l left = left - nodesT l
  | [], left => by simp [tLs, nodesT]
  | t :: l, left => by
    simp only [tLs, nodesT]
    split
    · intro h
      have h1 := tLs_pos l (tL t left) h
      have h2 := tLs_in l (tL t left)
      have h3 := tL_pos t left (by omega)
      omega
    · intro h; omega
end
def sL : List St → Int → Int
  | [], left => left
  | .mk _ _ _ _ t a b bs :: l, left =>
    if 0 ≤ left then (if tL t (left - 1) < bs.length then -1 else sL l (sL b (sL a (tL t (left - 1) - bs.length)))) else left
theorem sL_neg (l : List St) (left : Int) (h : left < 0) : sL l left = left := by
  cases l with
  | nil => simp [sL]
  | cons s l => obtain ⟨d, c, v, n, t, a, b, bs⟩ := s; simp only [sL]; rw [if_neg (by omega)]
theorem sL_in : ∀ (l : List St) (left : Int), lo1 left ≤ sL l left ∧ sL l left ≤ left
  | [], left => by
    simp only [sL, lo1]
    split <;> omega
  | .mk _ _ _ _ t a b bs :: l, left => by
    simp only [sL]
    by_cases h0 : 0 ≤ left
    · rw [if_pos h0]
      have e : lo1 left = -1 := by unfold lo1; rw [if_neg (by omega)]
      rw [e]
      split
      · omega
      · have h1 := tL_in t (left - 1)
        have ha := sL_in a (tL t (left - 1) - bs.length)
        have hb := sL_in b (sL a (tL t (left - 1) - bs.length))
        have hl := sL_in l (sL b (sL a (tL t (left - 1) - bs.length)))
        refine ⟨?_, by omega⟩
        generalize sL l (sL b (sL a (tL t (left - 1) - bs.length))) = z at *
        generalize sL b (sL a (tL t (left - 1) - bs.length)) = y at *
        generalize sL a (tL t (left - 1) - bs.length) = x at *
        generalize tL t (left - 1) = w at *
        unfold lo1 at ha hb hl
        (repeat' split at ha) <;> (repeat' split at hb) <;> (repeat' split at hl) <;> omega
    · rw [if_neg h0]
      unfold lo1
      split <;> omega
theorem sL_pos : ∀ (l : List St) (left : Int), left ≤ 1000000 → 0 ≤ sL l left → sL l left ≤ left - nodesS l ∧ bndL l = true
  | [], left, _, _ => by simp [sL, nodesS, bndL]
  | .mk _ _ _ _ t a b bs :: l, left, hle, h => by
    simp only [sL] at h ⊢
    by_cases h0 : 0 ≤ left
    · rw [if_pos h0] at h ⊢
      split at h
      · omega
      · rename_i hbs
        rw [if_neg hbs]
        have i0 := tL_in t (left - 1)
        have ia := sL_in a (tL t (left - 1) - bs.length)
        have ib := sL_in b (sL a (tL t (left - 1) - bs.length))
        have il := sL_in l (sL b (sL a (tL t (left - 1) - bs.length)))
        have p3 := sL_pos l (sL b (sL a (tL t (left - 1) - bs.length))) (by omega) h
        have p2 := sL_pos b (sL a (tL t (left - 1) - bs.length)) (by omega) (by omega)
        have p1 := sL_pos a (tL t (left - 1) - bs.length) (by omega) (by omega)
        have p0 := tL_pos t (left - 1) (by omega)
        simp only [nodesS, St.nodes, bndL, bndS, p1.2, p2.2, p3.2, Bool.and_true, decide_eq_true_eq]
        omega
    · rw [if_neg h0] at h
      omega
def hL : List Ht → Int → Int
  | [], m => m
  | h :: l, m => hL l (tL h.term m)
theorem hL_le : ∀ (l : List Ht) (m : Int), hL l m ≤ m
  | [], m => by simp [hL]
  | h :: l, m => by
    have h1 := hL_le l (tL h.term m)
    have h2 := tL_in h.term m
    simp only [hL]
    omega
theorem hL_pos : ∀ (l : List Ht) (m : Int), 0 ≤ hL l m → hL l m = m - nodesH l
  | [], m, _ => by simp [hL, nodesH]
  | h :: l, m, h0 => by
    simp only [hL, nodesH] at h0 ⊢
    have h1 := hL_pos l _ h0
    have h2 := hL_le l (tL h.term m)
    have h3 := tL_pos h.term m (by omega)
    omega
def fewB (f : Fl) (vars nodes : Int) : Bool := if vars < f.vars.length ∨ vars < f.hats.length then false else decide (0 ≤ hL f.hats (sL f.body nodes))
theorem fewB_in {f : Fl} {vars nodes : Int} (hn : nodes ≤ 1000000) (h : fewB f vars nodes = true) : f.vars.length ≤ vars ∧ f.hats.length ≤ vars ∧ nodesS f.body + nodesH f.hats ≤ nodes ∧ bndL f.body = true := by
  unfold fewB at h
  split at h
  · cases h
  · rename_i h1
    simp only [decide_eq_true_eq] at h
    have e1 := hL_pos _ _ h
    have e2 := hL_le f.hats (sL f.body nodes)
    have e3 := sL_pos f.body nodes hn (by omega)
    exact ⟨by omega, by omega, by omega, e3.2⟩

theorem tleft_con (t : Tm) : ∀ left : Int, -1000000 ≤ left → left ≤ 1000000 → ∀ d : Nat, Con Tryz.prog 44 true [aT t, li left] (.v (li (tL t left))) none d := by
  induction t using Tm.ind with
  | h o n ks ih =>
  intro left h1 h2 d
  obtain ⟨res, hres⟩ : ∃ r, tL (.mk o n ks) left = r := ⟨_, rfl⟩
  rw [hres]
  simp only [tL] at hres
  have hw0 : IntKind.i64.wrap (left - 1) = left - 1 := wrap_in (by omega) (by omega)
  refine con_of_HT Tryz.func44 rfl (by kernel_rfl) (Nat.le_of_ble_eq_true rfl) ?_
  simp only [Tryz.f44]
  simp only [aT, Tm.enc]
  refine HT_seq <| HT_runA ?_
  refine HT_seq <| HT_runA ?_
  refine HT_seq <| HT_seq <| HT_runA ?_
  refine HT_block <| (HT_loopU [2] (fun (x : Nat × Int) => [(1, .v (li x.2)), (5, .v (li x.1))]) (fun (x : Nat × Int) => [(2, .box [.c (iC o), .c (iC n), .c (.sl 3 (encTs ks))])]) (fun (x : Nat × Int) => x.1 ≤ ks.length ∧ tLs (ks.drop x.1) x.2 = res ∧ -1000001 ≤ x.2 ∧ x.2 + x.1 ≤ 1000000) (fun (x : Nat × Int) => ks.length - x.1) (0, left - 1) ⟨Nat.zero_le _, by simpa using hres, by simp only; omega, by simp only; omega⟩ ?_ ?_)
  · exact le_mk (fun n => n) [] rfl (by simp [*, upS, keepS]) (by simp [*, upS]) (by simp [upS])
  rintro ⟨k, m⟩ ⟨hk, hJ, hm, hm2⟩
  simp only [upS, keepS, insS]
  try simp only [keepS, KN, Nat.reduceBEq, if_true, if_false, ins, Nat.reduceLT]
  simp only at hk hJ hm hm2
  refine HT_seq <| HT_seq <| HT_runA ?_
  refine (HT_cond rfl (fun h5 => HT_skip ?_) (fun h5 => ?_))
  · try simp only [BN] at h5
    have hlt : k < ks.length := by omega
    have hm0 : 0 ≤ m := by omega
    obtain ⟨⟨eo, en, ek⟩, he, hd⟩ := at_lt hlt
    have he' := get_encT he
    simp only [Tm.enc] at he'
    have hw1 : IntKind.i64.wrap ((k : Int) + 1) = (k : Int) + 1 := wrap_in (by omega) (by omega)
    rw [hd] at hJ
    simp only [tLs] at hJ
    rw [if_pos hm0] at hJ
    have hk1 : k + 1 ≤ ks.length := hlt
    have c := ih _ (List.mem_of_getElem? he) m (by omega) (by omega)
    have hti := tL_in (.mk eo en ek) m
    have hlo : -1 ≤ lo1 (m - 1) := by unfold lo1; split <;> omega
    obtain ⟨M, hM⟩ : ∃ x, tL (.mk eo en ek) m = x := ⟨_, rfl⟩
    rw [hM] at c hJ hti
    clear hlt h5 hM ih hd
    refine HT_seq <| HT_block <| (HT_runc [⟨true, .v (li M), none⟩] (by simp [*]; first | exact ⟨rfl, Iff.rfl⟩ | exact ⟨rfl, trivial⟩ | rfl) ?_ ?_)
    · first | exact c _ | exact trivial | simpa [*] using c _
    refine HT_runA ?_
    exact ⟨(k + 1, M), ⟨hk1, hJ, by simp only; omega, by simp only; omega⟩, by simp only; omega, le_mk (fun n => n) [] rfl (by simp [upS, keepS, *]) (by simp [*, upS]) (by simp [upS])⟩
  · try simp only [BN] at h5
    have hz : tLs (ks.drop k) m = m := by
      by_cases hm0 : m < 0
      · exact tLs_neg _ _ hm0
      · have hkl : k = ks.length := by omega
        rw [hkl, List.drop_length]
        rfl
    rw [hz] at hJ
    subst hJ
    refine (HT_exit ?_)
    refine HT_seq <| HT_runA ?_
    exact HT_retA fun h => ⟨.inr rfl, h⟩
theorem sleft_con (l : List St) : ∀ left : Int, -1000000 ≤ left → left ≤ 1000000 → ∀ d : Nat, Con Tryz.prog 43 true [lS l, li left] (.v (li (sL l left))) none d := by
  revert l
  apply St.lists
  intro l ih left h1 h2 d
  obtain ⟨res, hres⟩ : ∃ r, sL l left = r := ⟨_, rfl⟩
  rw [hres]
  refine con_of_HT Tryz.func43 rfl (by kernel_rfl) (Nat.le_of_ble_eq_true rfl) ?_
  simp only [Tryz.f43]
  refine HT_seq <| HT_runA ?_
  refine HT_seq <| HT_seq <| HT_runA ?_
  refine HT_block <| (HT_loopU [0] (fun (x : Nat × Int) => [(1, .v (li x.2)), (5, .v (li x.1))]) (fun (x : Nat × Int) => []) (fun (x : Nat × Int) => x.1 ≤ l.length ∧ sL (l.drop x.1) x.2 = res ∧ -1000001 ≤ x.2 ∧ x.2 + x.1 ≤ 1000000) (fun (x : Nat × Int) => l.length - x.1) (0, left) ⟨Nat.zero_le _, hres, by simp only; omega, by simp only; omega⟩ ?_ ?_)
  · exact le_mk (fun n => n) [] rfl (by simp [*, upS, keepS]) (by simp [*, upS]) (by simp [upS])
  rintro ⟨k, m⟩ ⟨hk, hJ, hm, hm2⟩
  simp only [upS, keepS, insS]
  try simp only [keepS, KN, Nat.reduceBEq, if_true, if_false, ins, Nat.reduceLT]
  simp only at hk hJ hm hm2
  clear hres
  refine HT_seq <| HT_seq <| HT_runA ?_
  refine (HT_cond rfl (fun h4 => HT_skip ?_) (fun h4 => ?_))
  · try simp only [BN] at h4
    have hlt : k < l.length := by omega
    have hm0 : 0 ≤ m := by omega
    obtain ⟨s, he, hd⟩ := at_lt hlt
    have hmem : s ∈ l := List.mem_of_getElem? he
    have iha := (ih s hmem).1
    have ihb := (ih s hmem).2
    have hw1 : IntKind.i64.wrap ((k : Int) + 1) = (k : Int) + 1 := wrap_in (by omega) (by omega)
    have hk1 : k + 1 ≤ l.length := hlt
    have he' := get_encS he
    obtain ⟨sd, sc, sv, sn, ⟨so, stn, sks⟩, sa, sb, sbs⟩ := s
    simp only [St.then_, St.else_] at iha ihb
    simp only [St.enc, Tm.enc, List.cons_append, List.nil_append] at he'
    rw [hd] at hJ
    simp only [sL] at hJ
    rw [if_pos hm0] at hJ
    have hw2 : IntKind.i64.wrap (m - 1) = m - 1 := wrap_in (by omega) (by omega)
    have c := tleft_con (.mk so stn sks) (m - 1) (by omega) (by omega)
    have hti := tL_in (.mk so stn sks) (m - 1)
    have hlo : -2 ≤ lo1 (m - 1 - 1) := by unfold lo1; split <;> omega
    obtain ⟨M, hM⟩ : ∃ x, tL (.mk so stn sks) (m - 1) = x := ⟨_, rfl⟩
    rw [hM] at c hJ hti
    simp only [aT, Tm.enc, List.map_cons, List.map_nil] at c
    clear hlt h4 hM ih hd hmem
    refine HT_seq <| HT_block <| HT_seq <| (HT_runc [⟨true, .v (li M), none⟩] (by simp [*]; first | exact ⟨rfl, Iff.rfl⟩ | exact ⟨rfl, trivial⟩ | rfl) ?_ ?_)
    · first | exact c _ | exact trivial | simpa [*] using c _
    refine HT_seq <| HT_seq <| HT_runA ?_
    refine (HT_cond rfl (fun h7 => ?_) (fun h7 => HT_skip ?_))
    · try simp only [BN] at h7
      rw [if_pos h7] at hJ
      subst hJ
      refine HT_seq <| HT_runA ?_
      exact HT_retA fun h => ⟨.inr rfl, h⟩
    · try simp only [BN] at h7
      rw [if_neg (by omega)] at hJ
      have hw3 : IntKind.i64.wrap (M - (sbs.length : Int)) = M - (sbs.length : Int) := wrap_in (by omega) (by omega)
      have c1 := iha (M - sbs.length) (by omega) (by omega)
      have s1 := sL_in sa (M - sbs.length)
      have hl1 : -1 ≤ lo1 (M - sbs.length) := by unfold lo1; split <;> omega
      obtain ⟨M1, hM1⟩ : ∃ x, sL sa (M - sbs.length) = x := ⟨_, rfl⟩
      rw [hM1] at c1 s1 hJ
      have c2 := ihb M1 (by omega) (by omega)
      have s2 := sL_in sb M1
      have hl2 : -1 ≤ lo1 M1 := by unfold lo1; split <;> omega
      obtain ⟨M2, hM2⟩ : ∃ x, sL sb M1 = x := ⟨_, rfl⟩
      rw [hM2] at c2 s2 hJ
      clear iha ihb hM1 hM2 h7 c
      refine (HT_drunc [⟨true, .v (li M1), none⟩, ⟨true, .v (li M2), none⟩] (by kernel_rfl) (by kernel_rfl) (by rfl) (by simp [*]; first | exact ⟨rfl, Iff.rfl⟩ | exact ⟨rfl, trivial⟩ | rfl) ?_ ?_)
      · first | exact ⟨c1 _, c2 _⟩ | exact trivial | (repeat' first | exact trivial | exact c1 _ | exact c2 _ | apply And.intro)
      refine HT_runA ?_
      exact ⟨(k + 1, M2), ⟨hk1, hJ, by simp only; omega, by simp only; omega⟩, by simp only; omega, le_mk (fun n => n) [] rfl (by simp [upS, keepS, *]) (by simp [*, upS]) (by simp [upS])⟩
  · try simp only [BN] at h4
    have hz : sL (l.drop k) m = m := by
      by_cases hm0 : m < 0
      · exact sL_neg _ _ hm0
      · have hkl : k = l.length := by omega
        rw [hkl, List.drop_length]
        simp [sL]
    rw [hz] at hJ
    subst hJ
    refine (HT_exit ?_)
    refine HT_seq <| HT_runA ?_
    exact HT_retA fun h => ⟨.inr rfl, h⟩
theorem few_con (f : Fl) (vars nodes : Int) (hv : 0 ≤ vars ∧ vars ≤ 1000) (hn : 0 ≤ nodes ∧ nodes ≤ 1000) (d : Nat) : Con Tryz.prog 22 true [aF f, li vars, li nodes] (.v (lb (fewB f vars nodes))) none d := by
  obtain ⟨vs, hats, body⟩ := f
  obtain ⟨res, hres⟩ : ∃ r, fewB ⟨vs, hats, body⟩ vars nodes = r := ⟨_, rfl⟩
  rw [hres]
  unfold fewB at hres
  simp only at hres
  have cs := sleft_con body nodes (by omega) (by omega)
  have hsi := sL_in body nodes
  have hlo : -2 ≤ lo1 nodes := by unfold lo1; split <;> omega
  obtain ⟨S, hS⟩ : ∃ x, sL body nodes = x := ⟨_, rfl⟩
  rw [hS] at hres cs hsi
  clear hS
  refine con_of_HT Tryz.func22 rfl (by kernel_rfl) (Nat.le_of_ble_eq_true rfl) ?_
  simp only [Tryz.f22]
  simp only [aF, Fl.enc, List.map_cons, List.map_nil]
  refine HT_seq <| HT_runA ?_
  refine HT_seq <| HT_seq <| HT_runA ?_
  refine (HT_cond rfl (fun h2 => ?_) (fun h2 => HT_skip ?_))
  · try simp only [BN] at h2
    rw [if_pos (by omega)] at hres
    subst hres
    refine HT_seq <| HT_runA ?_
    exact HT_retA fun h => ⟨.inr rfl, h⟩
  · try simp only [BN] at h2
    rw [if_neg (by omega)] at hres
    obtain ⟨E, hE⟩ : ∃ x, hL hats S = x := ⟨_, rfl⟩
    rw [hE] at hres
    refine HT_seq <| (HT_runc [⟨true, .v (li S), none⟩] (by simp [*]; first | exact ⟨rfl, Iff.rfl⟩ | exact ⟨rfl, trivial⟩ | rfl) ?_ ?_)
    · first | exact cs _ | exact trivial | simpa [*] using cs _
    refine HT_seq <| HT_seq <| HT_runA ?_
    refine HT_block <| (HT_loopU [27, 28] (fun (x : Nat × Int) => [(7, .v (li x.2)), (29, .v (li x.1))]) (fun (x : Nat × Int) => []) (fun (x : Nat × Int) => x.1 ≤ hats.length ∧ hL (hats.drop x.1) x.2 = E ∧ -2 - (x.1 : Int) ≤ x.2 ∧ x.2 ≤ 1000) (fun (x : Nat × Int) => hats.length - x.1) (0, S) ⟨Nat.zero_le _, hE, by simp only; omega, by simp only; omega⟩ ?_ ?_)
    · exact le_mk (fun n => n) [] rfl (by simp [*, upS, keepS]) (by simp [*, upS]) (by simp [upS])
    rintro ⟨k, m⟩ ⟨hk, hJ, hm, hm2⟩
    simp only [upS, keepS, insS]
    try simp only [keepS, KN, Nat.reduceBEq, if_true, if_false, ins, Nat.reduceLT]
    simp only at hk hJ hm hm2
    clear hE
    refine HT_seq <| HT_runA ?_
    refine HT_seq <| (HT_cond rfl (fun h9 => HT_skip ?_) (fun h9 => ?_))
    · try simp only [BN] at h9
      have hlt : k < hats.length := by omega
      obtain ⟨h, he, hd⟩ := at_lt hlt
      have hw1 : IntKind.i64.wrap ((k : Int) + 1) = (k : Int) + 1 := wrap_in (by omega) (by omega)
      have hk1 : k + 1 ≤ hats.length := hlt
      have c := tleft_con h.term m (by omega) (by omega)
      have hti := tL_in h.term m
      have hl1 : -3 - (k : Int) ≤ lo1 (m - 1) := by unfold lo1; split <;> omega
      rw [hd] at hJ
      simp only [hL] at hJ
      obtain ⟨nm, lo, hi, ⟨o, tn, ks⟩⟩ := h
      simp only at c hti hJ
      obtain ⟨M, hM⟩ : ∃ x, tL (.mk o tn ks) m = x := ⟨_, rfl⟩
      rw [hM] at c hJ hti
      simp only [aT, Tm.enc, List.map_cons, List.map_nil] at c
      clear hlt h9 hM hd
      refine HT_seq <| HT_block <| HT_seq <| HT_runA ?_
      refine (HT_runc [⟨true, .v (li M), none⟩] (by simp [*]; first | exact ⟨rfl, Iff.rfl⟩ | exact ⟨rfl, trivial⟩ | rfl) ?_ ?_)
      · first | exact c _ | exact trivial | simpa [*] using c _
      refine HT_runA ?_
      exact ⟨(k + 1, M), ⟨hk1, hJ, by simp only; omega, by simp only; omega⟩, by simp only; omega, le_mk (fun n => n) [] rfl (by simp [upS, keepS, *]) (by simp [*, upS]) (by simp [upS])⟩
    · try simp only [BN] at h9
      have hkl : k = hats.length := by omega
      rw [hkl, List.drop_length] at hJ
      simp only [hL] at hJ
      subst hJ
      subst hres
      refine (HT_exit ?_)
      refine HT_seq <| HT_runA ?_
      exact HT_retA fun h => ⟨.inr rfl, h⟩
end Go.Proofs.YteekbhkjfaegiaaGreat

namespace Go.Proofs.YteekbhkjfaegiaaGreat
open Go Go.Hl

/-! ## valid and small -/
theorem varsC_spc {vars : List Vr} (h : varsC vars = 0) : ∀ k, 1 ≤ k → k ≤ 3 → spc vars k ≤ 4096 := by
  intro k h1 h2
  unfold varsC at h
  split at h
  · split at h
    · cases h
    · rename_i hb
      simp only [List.any_cons, List.any_nil, Bool.or_false, Bool.or_eq_true, badK, decide_eq_true_eq, not_or] at hb
      have : k = 1 ∨ k = 2 ∨ k = 3 := by omega
      rcases this with rfl | rfl | rfl <;> omega
  · rename_i h0; exact absurd h h0
def fitB (f : Fl) (a b c : Int) : Bool := fewB f 10 80 && (decide (codeC f = 0) && (((decide (spc f.vars 1 ≤ a) && decide (spc f.vars 2 ≤ b)) && decide (spc f.vars 3 ≤ c)) && decide ((bdL CR f.body ⟨0, 0, 0⟩).s ≤ 400)))
theorem fit17_con (f : Fl) (a b c : Int) (d : Nat) : Con Tryz.prog 24 true [aF f, li a, li b, li c] (.v (lb (fitB f a b c))) none d := by
  have cf := few_con f 10 80 (by decide) (by decide)
  have hin : fewB f 10 80 = true → f.vars.length ≤ 1000000 ∧ f.hats.length ≤ 1000000 ∧ nodesS f.body + nodesH f.hats ≤ 80 ∧ bndL f.body = true := by
    intro h
    have := fewB_in (nodes := 80) (by decide) h
    exact ⟨by omega, by omega, by omega, this.2.2.2⟩
  have hcc : fewB f 10 80 = true → ∀ d, Con Tryz.prog 23 true [aF f] (.v (li (codeC f))) none d := fun h => checkR_con f (hin h).1 (hin h).2.1 (by have := (hin h).2.2.1; omega) (hin h).2.2.2
  have hsp : fewB f 10 80 = true → codeC f = 0 → ∀ k, 1 ≤ k → k ≤ 3 → ∀ d, Con Tryz.prog 14 true [lV f.vars, li k] (.tup [li (spc f.vars k), li 0]) none d := fun h h0 k k1 k2 =>
    space13_con f.vars k ⟨k1, k2⟩ (varsC_good (code_split h0).2.1) (hin h).1 (varsC_spc (code_split h0).2.1 k k1 k2)
  have hbd : fewB f 10 80 = true → codeC f = 0 → ∀ d, Con Tryz.prog 51 true [lS f.body] (.tup [li (bdL CR f.body ⟨0, 0, 0⟩).s, li (bdL CR f.body ⟨0, 0, 0⟩).o, li (bdL CR f.body ⟨0, 0, 0⟩).t]) none d := fun h h0 =>
    boundsR_con f.body (by have := (hin h).2.2.1; omega) (ssC_ok _ _ (code_split h0).2.2.2.1)
  obtain ⟨res, hres⟩ : ∃ r, fitB f a b c = r := ⟨_, rfl⟩
  rw [hres]
  unfold fitB at hres
  obtain ⟨vars, hats, body⟩ := f
  simp only at hsp hbd hres
  obtain ⟨FW, hFW⟩ : ∃ x, fewB ⟨vars, hats, body⟩ 10 80 = x := ⟨_, rfl⟩
  obtain ⟨K, hK⟩ : ∃ x, codeC ⟨vars, hats, body⟩ = x := ⟨_, rfl⟩
  obtain ⟨S1, h1⟩ : ∃ x, spc vars 1 = x := ⟨_, rfl⟩
  obtain ⟨S2, h2⟩ : ∃ x, spc vars 2 = x := ⟨_, rfl⟩
  obtain ⟨S3, h3⟩ : ∃ x, spc vars 3 = x := ⟨_, rfl⟩
  have q1 := fun h h0 => hsp h h0 1 (by decide) (by decide)
  have q2 := fun h h0 => hsp h h0 2 (by decide) (by decide)
  have q3 := fun h h0 => hsp h h0 3 (by decide) (by decide)
  obtain ⟨⟨bs, bo, bt⟩, hB⟩ : ∃ x, bdL CR body ⟨0, 0, 0⟩ = x := ⟨_, rfl⟩
  rw [hFW] at cf hcc q1 q2 q3 hbd hres
  rw [hK] at hcc q1 q2 q3 hbd hres
  rw [hB] at hbd hres
  rw [h1] at q1 hres
  rw [h2] at q2 hres
  rw [h3] at q3 hres
  simp only at hbd hres
  clear hFW hK h1 h2 h3 hB hsp hin
  refine con_of_HT Tryz.func24 rfl (by kernel_rfl) (Nat.le_of_ble_eq_true rfl) ?_
  simp only [Tryz.f24]
  simp only [aF, Fl.enc, List.map_cons, List.map_nil] at cf hcc ⊢
  refine HT_seq <| HT_runA ?_
  rcases FW with _ | _
  · clear hcc q1 q2 q3 hbd
    subst hres
    refine HT_seq <| HT_seq <| (HT_runcS [some ⟨true, .v (lb false), none⟩, none] (by simp [*]; first | exact ⟨rfl, Iff.rfl⟩ | exact ⟨rfl, trivial⟩ | rfl) ?_ ?_)
    · first | exact trivial | exact cf _ | simpa using cf _
    refine (HT_cond rfl (fun h2 => ?_) (fun h2 => HT_skip ?_))
    · try simp only [BN] at h2
      refine HT_seq <| HT_runA ?_
      exact HT_retA fun h => ⟨.inr rfl, h⟩
    · exact absurd h2 (by simp)
  · have hcc := hcc rfl
    simp only [Bool.true_and] at hres
    refine HT_seq <| HT_seq <| (HT_runc [⟨true, .v (lb true), none⟩, ⟨true, .v (li K), none⟩] (by simp [*]; first | exact ⟨rfl, Iff.rfl⟩ | exact ⟨rfl, trivial⟩ | rfl) ?_ ?_)
    · first | exact ⟨cf _, hcc _⟩ | exact trivial | (repeat' first | exact trivial | exact cf _ | exact hcc _ | apply And.intro)
    refine (HT_cond rfl (fun h2 => ?_) (fun h2 => HT_skip ?_))
    · try simp only [BN] at h2
      have hk : ¬ K = 0 := by simpa using h2
      rw [decide_eq_false hk, Bool.false_and] at hres
      subst hres
      clear q1 q2 q3 hbd
      refine HT_seq <| HT_runA ?_
      exact HT_retA fun h => ⟨.inr rfl, h⟩
    · try simp only [BN] at h2
      have hk : K = 0 := by simpa using h2
      have q1 := q1 rfl hk
      have q2 := q2 rfl hk
      have q3 := q3 rfl hk
      have hbd := hbd rfl hk
      rw [decide_eq_true hk, Bool.true_and] at hres
      clear cf hcc h2 hk
      refine HT_seq <| (HT_runc [⟨true, .tup [li S1, li 0], none⟩] (by simp [*]; first | exact ⟨rfl, Iff.rfl⟩ | exact ⟨rfl, trivial⟩ | rfl) ?_ ?_)
      · first | exact q1 _ | exact trivial | simpa [*] using q1 _
      refine HT_seq <| (HT_runc [⟨true, .tup [li S2, li 0], none⟩] (by simp [*]; first | exact ⟨rfl, Iff.rfl⟩ | exact ⟨rfl, trivial⟩ | rfl) ?_ ?_)
      · first | exact q2 _ | exact trivial | simpa [*] using q2 _
      refine HT_seq <| (HT_runc [⟨true, .tup [li S3, li 0], none⟩] (by simp [*]; first | exact ⟨rfl, Iff.rfl⟩ | exact ⟨rfl, trivial⟩ | rfl) ?_ ?_)
      · first | exact q3 _ | exact trivial | simpa [*] using q3 _
      refine HT_seq <| (HT_runc [⟨true, .tup [li bs, li bo, li bt], none⟩] (by simp [*]; first | exact ⟨rfl, Iff.rfl⟩ | exact ⟨rfl, trivial⟩ | rfl) ?_ ?_)
      · first | exact hbd _ | exact trivial | simpa [*] using hbd _
      refine HT_seq <| HT_runA ?_
      subst hres
      exact HT_retA fun h => ⟨.inr rfl, h⟩
structure Fit (f : Fl) (a b c : Int) : Prop where
  hv : f.vars.length ≤ 10
  hh : f.hats.length ≤ 10
  hn : nodesS f.body + nodesH f.hats ≤ 80
  hb : bndL f.body = true
  code : codeC f = 0
  good : goodV' f.vars
  s1 : spc f.vars 1 ≤ a
  s2 : spc f.vars 2 ≤ b
  s3 : spc f.vars 3 ≤ c
theorem fit_in {f : Fl} {a b c : Int} (h : fitB f a b c = true) : Fit f a b c := by
  unfold fitB at h
  simp only [Bool.and_eq_true, decide_eq_true_eq] at h
  have hf := fewB_in (nodes := 80) (by decide) h.1
  exact ⟨by omega, by omega, by omega, hf.2.2.2, h.2.1, varsC_good (code_split h.2.1).2.1, h.2.2.1.1.1, h.2.2.1.1.2, h.2.2.1.2⟩
theorem outs_len {f : Fl} {i : Inp} (hb : bndL f.body = true) : (runF f i).1.outs.length ≤ 1000000000 := by
  unfold runF playF
  split
  · rename_i h0
    split
    · rename_i hc
      split
      · have h1 := (code_wf hb (by assumption)).2.1
        have h2 := (steps_len f.vars (hvals (stL i f.vars 0 0 0 [] true).1 f.hats) f.body ⟨(stL i f.vars 0 0 0 [] true).1, [], 0⟩).2
        simp only [List.length_nil] at h2 ⊢
        omega
      · simp [st0]
    · simp [st0]
  · simp
end Go.Proofs.YteekbhkjfaegiaaGreat

namespace Go.Proofs.YteekbhkjfaegiaaGreat
open Go Go.Hl

def smB (f : Fl) : Bool := fewB f 12 120 && (decide (codeC f ≠ 0) || fitB f 16 4 4)
theorem smB_in {f : Fl} (h : smB f = true) : f.vars.length ≤ 1000000 ∧ f.hats.length ≤ 1000000 ∧ nodesS f.body + nodesH f.hats ≤ 1000000 ∧ bndL f.body = true := by
  unfold smB at h
  simp only [Bool.and_eq_true] at h
  have := fewB_in (nodes := 120) (by decide) h.1
  exact ⟨by omega, by omega, by omega, this.2.2.2⟩
theorem small_con (f : Fl) (d : Nat) : Con Tryz.prog 7 true [aF f] (.v (lb (smB f))) none d := by
  have cf := few_con f 12 120 (by decide) (by decide)
  have hin : fewB f 12 120 = true → f.vars.length ≤ 1000000 ∧ f.hats.length ≤ 1000000 ∧ nodesS f.body + nodesH f.hats ≤ 120 ∧ bndL f.body = true := by
    intro h
    have := fewB_in (nodes := 120) (by decide) h
    exact ⟨by omega, by omega, by omega, this.2.2.2⟩
  have hcc : fewB f 12 120 = true → ∀ d, Con Tryz.prog 23 true [aF f] (.v (li (codeC f))) none d := fun h => checkR_con f (hin h).1 (hin h).2.1 (by have := (hin h).2.2.1; omega) (hin h).2.2.2
  have cft := fit17_con f 16 4 4
  obtain ⟨res, hres⟩ : ∃ r, smB f = r := ⟨_, rfl⟩
  rw [hres]
  unfold smB at hres
  obtain ⟨FW, hFW⟩ : ∃ x, fewB f 12 120 = x := ⟨_, rfl⟩
  obtain ⟨K, hK⟩ : ∃ x, codeC f = x := ⟨_, rfl⟩
  obtain ⟨FT, hFT⟩ : ∃ x, fitB f 16 4 4 = x := ⟨_, rfl⟩
  rw [hFW] at cf hcc hres
  rw [hK] at hcc hres
  rw [hFT] at cft hres
  obtain ⟨vars, hats, body⟩ := f
  clear hFW hK hFT hin
  refine con_of_HT Tryz.func7 rfl (by kernel_rfl) (Nat.le_of_ble_eq_true rfl) ?_
  simp only [Tryz.f7]
  simp only [aF, Fl.enc, List.map_cons, List.map_nil] at cf hcc cft ⊢
  refine HT_seq <| HT_runA ?_
  rcases FW with _ | _
  · clear hcc
    subst hres
    refine HT_seq <| (HT_runsS ?_)
    refine RunsS.cutE 4 [⟨true, .v (lb false), none⟩] (by simp [*]; first | exact ⟨rfl, Iff.rfl⟩ | exact ⟨rfl, trivial⟩ | rfl) (by first | exact cf _ | simpa using cf _) (le_refl _) ?_
    refine RunsS.skip (.int .i64 0) (by simp [gdOf]) (by rfl) ?_
    refine RunsS.cutE 3 [] (by simp [*]; rfl) trivial (le_refl _) ?_
    refine RunsS.skip (.bool false) (by simp [gdOf]) (by rfl) ?_
    refine RunsS.doneE [] (by simp [*]; rfl) trivial ?_
    exact HT_retA fun h => ⟨.inr rfl, h⟩
  · have hcc := hcc rfl
    simp only [Bool.true_and] at hres
    by_cases hk : K = 0
    · subst hk
      simp only [ne_eq, not_true_eq_false, decide_false, Bool.false_or] at hres
      subst hres
      refine HT_seq <| (HT_runc [⟨true, .v (lb true), none⟩, ⟨true, .v (li 0), none⟩, ⟨true, .v (lb FT), none⟩] (by simp [*]; first | exact ⟨rfl, Iff.rfl⟩ | exact ⟨rfl, trivial⟩ | rfl) ?_ ?_)
      · first | exact ⟨cf _, hcc _, cft _⟩ | exact trivial | (repeat' first | exact trivial | exact cf _ | exact hcc _ | exact cft _ | apply And.intro)
      exact HT_retA fun h => ⟨.inr rfl, h⟩
    · rw [decide_eq_true hk, Bool.true_or] at hres
      subst hres
      refine HT_seq <| (HT_runcS [some ⟨true, .v (lb true), none⟩, some ⟨true, .v (li K), none⟩, none] (by simp [*]; first | exact ⟨rfl, Iff.rfl⟩ | exact ⟨rfl, trivial⟩ | rfl) ?_ ?_)
      · first | exact trivial | exact ⟨cf _, hcc _⟩ | simpa using ⟨cf _, hcc _⟩
      exact HT_retA fun h => ⟨.inr rfl, h⟩
end Go.Proofs.YteekbhkjfaegiaaGreat
