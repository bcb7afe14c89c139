/- Part 8: contracts of functions of the program and of the reference, and plain facts about what they compute; used by the proof of the claimed statement. Conditions: as each theorem states. -/
import Derived.Test.YteekbhkjfaegiaaGreatT6
import Derived.Test.YteekbhkjfaegiaaGreatT7
import Derived.Test.YteekbhkjfaegiaaGreatT2
import Derived.Test.YteekbhkjfaegiaaGreatT3
import Derived.Test.YteekbhkjfaegiaaGreatT5
set_option linter.unusedSimpArgs false
set_option linter.unusedVariables false
set_option linter.unnecessarySimpa false
set_option maxRecDepth 100000
set_option maxHeartbeats 2000000
namespace Go.Proofs.YteekbhkjfaegiaaGreat
open Go Go.Hl

def plainB : Tm → Bool
  | .mk o n ks => decide (o = 0) && (decide (n = 0) && decide (ks.length = 0))
theorem plainR_con (t : Tm) (d : Nat) : Con Tryz.prog 100 true [aT t] (.v (lb (plainB t))) none d := by
  obtain ⟨o, n, ks⟩ := t
  refine con_of_HT Tryz.func100 rfl (by kernel_rfl) (Nat.le_of_ble_eq_true rfl) ?_
  simp only [Tryz.f100]
  simp only [aT, Tm.enc]
  refine HT_seq <| HT_runA ?_
  refine HT_seq <| HT_runA ?_
  exact (HT_retE (fun h => ⟨.inr rfl, h⟩) _ (by simp [*]; rfl) (by first | rfl | (simp [*, plainB, Bool.and_assoc]; done) | (simp only [resR, plainB, Bool.and_assoc]; (repeat' split) <;> first | rfl | (exfalso; omega) | simp_all)) (by simp))
theorem plainP_con (t : Tm) (d : Nat) : Con Tryz.prog 130 true [aT t] (.v (lb (plainB t))) none d := by
  obtain ⟨o, n, ks⟩ := t
  refine con_of_HT Tryz.func130 rfl (by kernel_rfl) (Nat.le_of_ble_eq_true rfl) ?_
  simp only [Tryz.f130]
  simp only [aT, Tm.enc]
  refine HT_seq <| HT_runA ?_
  refine HT_seq <| HT_runA ?_
  exact (HT_retE (fun h => ⟨.inr rfl, h⟩) _ (by simp [*]; rfl) (by first | rfl | (simp [*, plainB, Bool.and_assoc]; done) | (simp only [resR, plainB, Bool.and_assoc]; (repeat' split) <;> first | rfl | (exfalso; omega) | simp_all)) (by simp))
def uVB (d : Int) : Bool := decide (d = 0) || decide (d = 5)
def uNB (d : Int) : Bool := decide (d = 4) || decide (d = 5)
def uTB (d : Int) : Bool := decide (d = 0) || (decide (d = 1) || (decide (d = 3) || decide (d = 4)))
theorem uV_con (a : Int) (d : Nat) : Con Tryz.prog 127 true [li a] (.v (lb (uVB a))) none d := by
  refine con_of_HT Tryz.func127 rfl (by kernel_rfl) (Nat.le_of_ble_eq_true rfl) ?_
  simp only [Tryz.f127]
  refine HT_seq <| HT_runA ?_
  refine HT_seq <| HT_runA ?_
  exact (HT_retE (fun h => ⟨.inr rfl, h⟩) _ (by simp [*]; rfl) (by first | rfl | (simp [*, uVB]; done) | (simp only [resR, uVB]; (repeat' split) <;> first | rfl | (exfalso; omega) | simp_all)) (by simp))
theorem uN_con (a : Int) (d : Nat) : Con Tryz.prog 128 true [li a] (.v (lb (uNB a))) none d := by
  refine con_of_HT Tryz.func128 rfl (by kernel_rfl) (Nat.le_of_ble_eq_true rfl) ?_
  simp only [Tryz.f128]
  refine HT_seq <| HT_runA ?_
  refine HT_seq <| HT_runA ?_
  exact (HT_retE (fun h => ⟨.inr rfl, h⟩) _ (by simp [*]; rfl) (by first | rfl | (simp [*, uNB]; done) | (simp only [resR, uNB]; (repeat' split) <;> first | rfl | (exfalso; omega) | simp_all)) (by simp))
theorem uT_con (a : Int) (d : Nat) : Con Tryz.prog 129 true [li a] (.v (lb (uTB a))) none d := by
  refine con_of_HT Tryz.func129 rfl (by kernel_rfl) (Nat.le_of_ble_eq_true rfl) ?_
  simp only [Tryz.f129]
  refine HT_seq <| HT_runA ?_
  refine HT_seq <| HT_runA ?_
  exact (HT_retE (fun h => ⟨.inr rfl, h⟩) _ (by simp [*]; rfl) (by first | rfl | (simp [*, uTB, Bool.or_assoc]; done) | (simp only [resR, uTB, Bool.or_assoc]; (repeat' split) <;> first | rfl | (exfalso; omega) | simp_all)) (by simp))

def localB (vars : List Vr) (v : Int) : Bool := decide (0 ≤ v) && (match vars[v.toNat]? with | some w => decide (w.kind = 0) | none => false)
def shB (vars : List Vr) (nh : Nat) (d v n : Int) (t : Tm) (la lb_ : Nat) (bs : List Int) (last : Bool) : Bool :=
  if d = 0 then ((decide (la = 0) && decide (lb_ = 0)) && localB vars v && decide (n = 0)) && decide (bs.length = 0)
  else if d = 1 then ((decide (la = 0) && decide (lb_ = 0)) && decide (v = 0) && decide (n = 0)) && decide (bs.length = 0)
  else if d = 2 then (((decide (la = 0) && decide (lb_ = 0)) && decide (v = 0) && decide (n = 0)) && decide (bs.length = 0)) && plainB t
  else if d = 3 then (decide (v = 0) && decide (n = 0)) && decide (bs.length = 0)
  else if d = 4 then (decide (v = 0) && decide (lb_ = 0)) && decide (bs.length = 0)
  else if d = 5 then ((((decide (la = 0) && decide (lb_ = 0)) && localB vars v && decide (0 ≤ n)) && decide (n < nh)) && decide (bs.length = 0)) && plainB t
  else if d = 6 then ((((decide (la = 0) && decide (lb_ = 0)) && last && decide (v = 0)) && decide (n = 0)) && plainB t) && riseB bs
  else false

theorem shapedR_con (f : Fl) (s : St) (last : Bool) (hv : f.vars.length ≤ 1000000000) (hb : s.bounds.length ≤ 1000000000) (e : Nat) :
    Con Tryz.prog 76 true [aF f, aS s, lb last] (.v (lb (shB f.vars f.hats.length s.do_ s.var s.n s.term s.then_.length s.else_.length s.bounds last))) none e := by
  obtain ⟨vars, hats, body⟩ := f
  obtain ⟨d, c, v, n, t, a, b, bs⟩ := s
  simp only [St.do_, St.var, St.n, St.term, St.then_, St.else_, St.bounds] at hb ⊢
  simp only at hv
  have c1 := plainR_con t
  have c2 := risingR_con bs hb
  obtain ⟨P, hP⟩ : ∃ p, plainB t = p := ⟨_, rfl⟩
  obtain ⟨R, hR⟩ : ∃ p, riseB bs = p := ⟨_, rfl⟩
  obtain ⟨la, hla⟩ : ∃ k, a.length = k := ⟨_, rfl⟩
  obtain ⟨lc, hlc⟩ : ∃ k, b.length = k := ⟨_, rfl⟩
  obtain ⟨nb, hnb⟩ : ∃ k, bs.length = k := ⟨_, rfl⟩
  obtain ⟨nv, hnv⟩ : ∃ k, vars.length = k := ⟨_, rfl⟩
  obtain ⟨nh, hnh⟩ : ∃ k, hats.length = k := ⟨_, rfl⟩
  obtain ⟨res, hres⟩ : ∃ r, shB vars hats.length d v n t a.length b.length bs last = r := ⟨_, rfl⟩
  rw [hres]
  simp only [shB, hP, hR, hla, hlc, hnb, hnh] at hres
  rw [hP] at c1
  rw [hR] at c2
  obtain ⟨o, tn, ks⟩ := t
  clear hP hR
  simp only [aT, Tm.enc, List.map_cons, List.map_nil] at c1
  refine con_of_HT Tryz.func76 rfl (by kernel_rfl) (Nat.le_of_ble_eq_true rfl) ?_
  simp only [Tryz.f76]
  simp only [aF, aS, Fl.enc, St.enc, Tm.enc, List.map_cons, List.map_nil, List.cons_append, List.nil_append]
  refine HT_seq <| HT_runA ?_
  refine HT_seq <| HT_runA ?_
  refine HT_cutU [2, 3, 4, 7] (fun (z : Bool) => [(8, .v (lb z))]) (fun (z : Bool) => [(3, .box [.c (.sl 5 (encVs vars)), .c (.sl 6 (encHs hats)), .c (.sl 10 (encSs body))]), (4, .box [.c (iC d), .c (iC c), .c (iC v), .c (iC n), .c (iC o), .c (iC tn), .c (.sl 3 (encTs ks)), .c (.sl 10 (encSs a)), .c (.sl 10 (encSs b)), .c (.sl 1 (encIs bs))])]) (fun (z : Bool) => z = localB vars v) ?_ ?_
  · by_cases h0 : 0 ≤ v
    · by_cases h1 : v < vars.length
      · obtain ⟨w, hw⟩ := get_vars ⟨h0, h1⟩
        have h2 : decide (v < (nv : Int)) = true := decide_eq_true (by omega)
        have hz : localB vars v = decide (w.kind = 0) := by unfold localB; rw [hw]; simp [h0]
        clear h1
        refine HT_run (by simp [*]; rfl) ?_
        exact ⟨decide (w.kind = 0), hz.symm, le_mk (fun n => n) [] rfl (by simp [upS, keepS, *]) (by simp [*, upS]) (by simp [upS])⟩
      · have hw := get_none h0 h1
        have h2 : ¬ v < (nv : Int) := by omega
        have hz : localB vars v = false := by unfold localB; rw [hw]; simp
        clear h1
        refine HT_run (by simp [*]; rfl) ?_
        exact ⟨false, hz.symm, le_mk (fun n => n) [] rfl (by simp [upS, keepS, *]) (by simp [*, upS]) (by simp [upS])⟩
    · have hz : localB vars v = false := by unfold localB; simp [h0]
      refine HT_run (by simp [*]; rfl) ?_
      exact ⟨false, hz.symm, le_mk (fun n => n) [] rfl (by simp [upS, keepS, *]) (by simp [*, upS]) (by simp [upS])⟩
  rintro LO hLO
  simp only [upS, keepS, insS]
  try simp only [keepS, KN, Nat.reduceBEq, if_true, if_false, ins, Nat.reduceLT]
  rw [← hLO] at hres
  clear hLO
  refine HT_seq <| HT_seq <| HT_runA ?_
  refine HT_block <| HT_seq <| HT_runA ?_
  refine (HT_cond rfl (fun h5 => ?_) (fun h5 => ?_))
  · try simp only [BN] at h5
    refine HT_seq <| HT_runA ?_
    exact (HT_retE (fun h => ⟨.inr rfl, h⟩) _ (by simp [*]; rfl) (by rw [← hres]; simp [*, resR, Bool.and_assoc]) (by simp))
  · try simp only [BN] at h5
    refine HT_seq <| HT_runA ?_
    refine (HT_cond rfl (fun h9 => ?_) (fun h9 => ?_))
    · try simp only [BN] at h9
      refine HT_seq <| HT_runA ?_
      exact (HT_retE (fun h => ⟨.inr rfl, h⟩) _ (by simp [*]; rfl) (by rw [← hres]; simp [*, resR, Bool.and_assoc]) (by simp))
    · try simp only [BN] at h9
      refine HT_seq <| HT_runA ?_
      refine (HT_cond rfl (fun h13 => ?_) (fun h13 => ?_))
      · try simp only [BN] at h13
        by_cases hg : (la = 0 ∧ lc = 0) ∧ v = 0 ∧ n = 0 ∧ nb = 0
        · obtain ⟨⟨g1, g2⟩, g3, g4, g5⟩ := hg
          refine HT_seq <| (HT_runc [⟨true, .v (lb P), none⟩] (by simp [*]; first | exact ⟨rfl, Iff.rfl⟩ | exact ⟨rfl, trivial⟩ | rfl) ?_ ?_)
          · first | exact c1 _ | exact trivial | simpa [*] using c1 _
          exact (HT_retE (fun h => ⟨.inr rfl, h⟩) _ (by simp [*]; rfl) (by rw [← hres]; simp [*, resR, Bool.and_assoc]) (by simp))
        · have hgb : (decide (la = 0) && decide (lc = 0) && decide (v = 0) && decide (n = 0) && decide (nb = 0)) = false := by simp only [Bool.and_eq_false_iff, decide_eq_false_iff_not]; omega
          clear hg
          have hr : false = res := by
            rw [← hres, if_neg h5, if_neg h9, if_pos h13]
            rw [hgb]; rfl
          subst hr
          refine HT_seq <| (HT_runcS [none] (by simp [*]; first | exact ⟨rfl, trivial⟩ | exact ⟨rfl, Iff.rfl⟩ | rfl) ?_ ?_)
          · trivial
          exact (HT_retE (fun h => ⟨.inr rfl, h⟩) _ (by simp [*]; rfl) (by rfl) (by simp))
      · try simp only [BN] at h13
        refine HT_seq <| HT_runA ?_
        refine (HT_cond rfl (fun h17 => ?_) (fun h17 => ?_))
        · try simp only [BN] at h17
          refine HT_seq <| HT_runA ?_
          exact (HT_retE (fun h => ⟨.inr rfl, h⟩) _ (by simp [*]; rfl) (by rw [← hres]; simp [*, resR, Bool.and_assoc]) (by simp))
        · try simp only [BN] at h17
          refine HT_seq <| HT_runA ?_
          refine (HT_cond rfl (fun h21 => ?_) (fun h21 => ?_))
          · try simp only [BN] at h21
            refine HT_seq <| HT_runA ?_
            exact (HT_retE (fun h => ⟨.inr rfl, h⟩) _ (by simp [*]; rfl) (by rw [← hres]; simp [*, resR, Bool.and_assoc]) (by simp))
          · try simp only [BN] at h21
            refine HT_seq <| HT_runA ?_
            refine (HT_cond rfl (fun h25 => ?_) (fun h25 => ?_))
            · try simp only [BN] at h25
              by_cases hg : (la = 0 ∧ lc = 0) ∧ LO = true ∧ 0 ≤ n ∧ n < nh ∧ nb = 0
              · obtain ⟨⟨g1, g2⟩, g3, g4, g5, g6⟩ := hg
                refine HT_seq <| (HT_runc [⟨true, .v (lb P), none⟩] (by simp [*]; first | exact ⟨rfl, Iff.rfl⟩ | exact ⟨rfl, trivial⟩ | rfl) ?_ ?_)
                · first | exact c1 _ | exact trivial | simpa [*] using c1 _
                exact (HT_retE (fun h => ⟨.inr rfl, h⟩) _ (by simp [*]; rfl) (by rw [← hres]; simp [*, resR, Bool.and_assoc]) (by simp))
              · have hgb : (decide (la = 0) && decide (lc = 0) && LO && decide (0 ≤ n) && decide (n < (nh : Int)) && decide (nb = 0)) = false := by
                  cases LO
                  · simp
                  · simp only [Bool.and_eq_false_iff, decide_eq_false_iff_not]
                    simp only [true_and] at hg
                    omega
                clear hg
                have hr : false = res := by
                  rw [← hres, if_neg h5, if_neg h9, if_neg h13, if_neg h17, if_neg h21, if_pos h25]
                  rw [hgb]; rfl
                subst hr
                refine HT_seq <| (HT_runcS [none] (by simp [*]; first | exact ⟨rfl, trivial⟩ | exact ⟨rfl, Iff.rfl⟩ | rfl) ?_ ?_)
                · trivial
                exact (HT_retE (fun h => ⟨.inr rfl, h⟩) _ (by simp [*]; rfl) (by rfl) (by simp))
            · try simp only [BN] at h25
              refine HT_seq <| HT_runA ?_
              refine (HT_cond rfl (fun h29 => ?_) (fun h29 => HT_skip ?_))
              · try simp only [BN] at h29
                by_cases hg : (la = 0 ∧ lc = 0) ∧ last = true ∧ v = 0 ∧ n = 0
                · obtain ⟨⟨g1, g2⟩, g3, g4, g5⟩ := hg
                  refine HT_seq <| (HT_runc [⟨true, .v (lb P), none⟩, ⟨true, .v (lb R), none⟩] (by simp [*]; first | exact ⟨rfl, Iff.rfl⟩ | exact ⟨rfl, trivial⟩ | rfl) ?_ ?_)
                  · first | exact ⟨c1 _, c2 _⟩ | exact trivial | (repeat' first | exact trivial | exact c1 _ | exact c2 _ | apply And.intro)
                  exact (HT_retE (fun h => ⟨.inr rfl, h⟩) _ (by simp [*]; rfl) (by rw [← hres]; simp [*, resR, Bool.and_assoc]) (by simp))
                · have hgb : (decide (la = 0) && decide (lc = 0) && last && decide (v = 0) && decide (n = 0)) = false := by
                    cases last
                    · simp
                    · simp only [Bool.and_eq_false_iff, decide_eq_false_iff_not]
                      simp only [true_and] at hg
                      omega
                  clear hg
                  have hr : false = res := by
                    rw [← hres, if_neg h5, if_neg h9, if_neg h13, if_neg h17, if_neg h21, if_neg h25, if_pos h29]
                    rw [hgb]; rfl
                  subst hr
                  refine HT_seq <| (HT_runcS [none, none] (by simp [*]; first | exact ⟨rfl, trivial⟩ | exact ⟨rfl, Iff.rfl⟩ | rfl) ?_ ?_)
                  · trivial
                  exact (HT_retE (fun h => ⟨.inr rfl, h⟩) _ (by simp [*]; rfl) (by rfl) (by simp))
              · try simp only [BN] at h29
                refine HT_seq <| HT_runA ?_
                exact (HT_retE (fun h => ⟨.inr rfl, h⟩) _ (by simp [*]; rfl) (by rw [← hres]; simp [*, resR, Bool.and_assoc]) (by simp))
end Go.Proofs.YteekbhkjfaegiaaGreat

namespace Go.Proofs.YteekbhkjfaegiaaGreat
open Go Go.Hl

def badP (UV UN UT P LO : Bool) (d v n : Int) (la lc nb nh : Nat) : Prop :=
  d < 0 ∨ 6 < d ∨ (UV = false ∧ v ≠ 0) ∨ (UN = false ∧ n ≠ 0) ∨ (UT = false ∧ P = false) ∨ ((d ≠ 3 ∧ d ≠ 4) ∧ 0 < la) ∨ (d ≠ 3 ∧ 0 < lc) ∨ (d ≠ 6 ∧ 0 < nb) ∨ (UV = true ∧ LO = false) ∨ (d = 5 ∧ (n < 0 ∨ nh ≤ n))
instance (UV UN UT P LO : Bool) (d v n : Int) (la lc nb nh : Nat) : Decidable (badP UV UN UT P LO d v n la lc nb nh) := by unfold badP; exact inferInstance
theorem sh_bad {vars : List Vr} {nh : Nat} {d v n : Int} {t : Tm} {la lc : Nat} {bs : List Int} {last : Bool} (h : badP (uVB d) (uNB d) (uTB d) (plainB t) (localB vars v) d v n la lc bs.length nh) : shB vars nh d v n t la lc bs last = false := by
  unfold shB
  generalize plainB t = P at *
  generalize localB vars v = LO at *
  have hr : riseB bs = true → 1 ≤ bs.length := by
    intro h
    unfold riseB at h
    simp only [Bool.and_eq_true, decide_eq_true_eq] at h
    omega
  generalize riseB bs = R at *
  generalize bs.length = nb at *
  unfold badP uVB uNB uTB at h
  (repeat' split) <;> (simp only [Bool.and_eq_false_iff, Bool.or_eq_false_iff, Bool.or_eq_true, decide_eq_true_eq, decide_eq_false_iff_not] at h ⊢) <;> cases P <;> cases LO <;> cases last <;> cases R <;> simp at h hr ⊢ <;> omega
theorem sh_good {vars : List Vr} {nh : Nat} {d v n : Int} {t : Tm} {la lc : Nat} {bs : List Int} {last : Bool} (h : ¬ badP (uVB d) (uNB d) (uTB d) (plainB t) (localB vars v) d v n la lc bs.length nh) : shB vars nh d v n t la lc bs last = (decide (d ≠ 6) || (last && riseB bs)) := by
  unfold shB
  generalize plainB t = P at *
  generalize localB vars v = LO at *
  generalize riseB bs = R at *
  generalize bs.length = nb at *
  unfold badP uVB uNB uTB at h
  rw [Bool.eq_iff_iff]
  (repeat' split) <;> (simp only [not_or, not_and, Bool.or_eq_false_iff, Bool.or_eq_true, Bool.and_eq_true, decide_eq_true_eq, decide_eq_false_iff_not] at h ⊢) <;> cases P <;> cases LO <;> cases last <;> cases R <;> simp at h ⊢ <;> omega

end Go.Proofs.YteekbhkjfaegiaaGreat

namespace Go.Proofs.YteekbhkjfaegiaaGreat
open Go Go.Hl

def mostI (d : Int) : Int := if d = 2 then 67108864 else 10000
def lastOk (bs : List Int) : Bool :=
  match bs[bs.length - 1]? with
  | some x => decide (x ≤ 67108864)
  | none => true
def numB (d c n : Int) (bs : List Int) : Bool :=
  (!(decide (c < 0) || decide (mostI d < c) || (decide (d = 4) && (decide (n < 0) || decide (4096 < n))))) && (decide (d ≠ 6) || lastOk bs)
theorem numP_con (s : St) (hb : s.bounds.length ≤ 1000000000) (h6 : s.do_ = 6 → s.bounds ≠ []) (h5 : s.do_ ≠ 6 → s.bounds = []) (e : Nat) :
    Con Tryz.prog 109 true [aS s] (.v (lb (numB s.do_ s.cost s.n s.bounds))) none e := by
  obtain ⟨d, c, v, n, ⟨o, tn, ks⟩, a, b, bs⟩ := s
  simp only [St.do_, St.cost, St.n, St.bounds] at hb h6 h5 ⊢
  refine con_of_HT Tryz.func109 rfl (by kernel_rfl) (Nat.le_of_ble_eq_true rfl) ?_
  simp only [Tryz.f109]
  simp only [aS, St.enc, Tm.enc, List.map_cons, List.map_nil, List.cons_append, List.nil_append]
  refine HT_seq <| HT_runA ?_
  refine HT_seq <| HT_runA ?_
  refine (HT_cutU [1] (fun (z : Int) => [(3, .v (li z))]) (fun (z : Int) => [(1, .box [.c (iC d), .c (iC c), .c (iC v), .c (iC n), .c (iC o), .c (iC tn), .c (.sl 3 (encTs ks)), .c (.sl 10 (encSs a)), .c (.sl 10 (encSs b)), .c (.sl 1 (encIs bs))])]) (fun (z : Int) => z = mostI d) ?_ ?_)
  ·
    refine HT_seq <| HT_runA ?_
    refine (HT_cond rfl (fun h4 => ?_) (fun h4 => HT_skip ?_))
    · try simp only [BN] at h4
      refine HT_runA ?_
      exact ⟨67108864, by simp [mostI, h4], le_mk (fun n => n) [] rfl (by simp [upS, keepS, *]) (by simp [*, upS]) (by simp [upS])⟩
    · try simp only [BN] at h4
      exact ⟨10000, by simp [mostI, h4], le_mk (fun n => n) [] rfl (by simp [upS, keepS, *]) (by simp [*, upS]) (by simp [upS])⟩
  rintro M hM
  simp only [upS, keepS, insS]
  try simp only [keepS, KN, Nat.reduceBEq, if_true, if_false, ins, Nat.reduceLT]
  refine HT_seq <| HT_seq <| HT_runA ?_
  refine (HT_cond rfl (fun h9 => ?_) (fun h9 => HT_skip ?_))
  · try simp only [BN] at h9
    have hz : numB d c n bs = false := by
      unfold numB
      rw [← hM]
      simp only [Bool.and_eq_false_iff, Bool.or_eq_true, Bool.and_eq_true, Bool.not_eq_false', decide_eq_true_eq]
      omega
    refine HT_seq <| HT_runA ?_
    exact HT_retA fun h => ⟨.inr rfl, h⟩
  · try simp only [BN] at h9
    have hz : numB d c n bs = (decide (d ≠ 6) || lastOk bs) := by
      unfold numB
      rw [← hM]
      rw [show (!(decide (c < 0) || decide (M < c) || (decide (d = 4) && (decide (n < 0) || decide (4096 < n))))) = true by
        simp only [Bool.or_eq_false_iff, Bool.and_eq_false_iff, Bool.not_eq_true', decide_eq_false_iff_not]
        omega]
      rfl
    clear h9
    by_cases hd6 : d = 6
    · have hne := h6 hd6
      have hpos : 1 ≤ bs.length := by
        cases bs with
        | nil => exact absurd rfl hne
        | cons x l => simp
      obtain ⟨x, hx⟩ := get_I (show bs.length - 1 < bs.length by omega)
      have hw1 : IntKind.i64.wrap ((bs.length : Int) - 1) = (bs.length : Int) - 1 := wrap_in (by omega) (by omega)
      have hw2 : 0 ≤ (bs.length : Int) - 1 := by omega
      have hw3 : ((bs.length : Int) - 1).toNat = bs.length - 1 := by omega
      have hw4 : 1 ≤ (bs.length : Int) := by omega
      have hlo : lastOk bs = decide (x ≤ 67108864) := by unfold lastOk; rw [hx]
      clear h6 h5 hne hpos
      refine HT_seq <| HT_runA ?_
      exact HT_retA fun h => ⟨.inr rfl, h⟩
    · have hbs := h5 hd6
      subst hbs
      have hw1 : IntKind.i64.wrap (-1) = -1 := by decide
      clear h6 h5
      refine HT_seq <| HT_runA ?_
      exact HT_retA fun h => ⟨.inr rfl, h⟩

theorem shapedP_con (f : Fl) (s : St) (last : Bool) (hv : f.vars.length ≤ 1000000000) (hb : s.bounds.length ≤ 1000000000) (e : Nat) :
    Con Tryz.prog 108 true [aF f, aS s, lb last] (.v (lb (shB f.vars f.hats.length s.do_ s.var s.n s.term s.then_.length s.else_.length s.bounds last))) none e := by
  obtain ⟨vars, hats, body⟩ := f
  obtain ⟨d, c, v, n, t, a, b, bs⟩ := s
  simp only [St.do_, St.var, St.n, St.term, St.then_, St.else_, St.bounds] at hb ⊢
  simp only at hv
  have c1 := plainP_con t
  have c2 := risingP_con bs hb
  have c3 := uV_con d
  have c4 := uN_con d
  have c5 := uT_con d
  have hgood := @sh_good vars hats.length d v n t a.length b.length bs last
  have hbad := @sh_bad vars hats.length d v n t a.length b.length bs last
  have hrise : riseB bs = ((decide (1 ≤ bs.length) && (decide (bs.length ≤ 32) && head0 bs)) && risB bs) := rfl
  rw [hrise] at hgood
  clear hrise
  generalize shB vars hats.length d v n t a.length b.length bs last = SH at *
  generalize uVB d = UV at *
  generalize uNB d = UN at *
  generalize uTB d = UT at *
  generalize plainB t = P at *
  generalize risB bs = R at *
  obtain ⟨LO, hLO⟩ : ∃ p, localB vars v = p := ⟨_, rfl⟩
  rw [hLO] at hgood hbad
  obtain ⟨o, tn, ks⟩ := t
  obtain ⟨la, hla⟩ : ∃ k, a.length = k := ⟨_, rfl⟩
  obtain ⟨lc, hlc⟩ : ∃ k, b.length = k := ⟨_, rfl⟩
  obtain ⟨nb, hnb⟩ : ∃ k, bs.length = k := ⟨_, rfl⟩
  obtain ⟨nv, hnv⟩ : ∃ k, vars.length = k := ⟨_, rfl⟩
  obtain ⟨nh, hnh⟩ : ∃ k, hats.length = k := ⟨_, rfl⟩
  rw [hla, hlc, hnb, hnh] at hgood hbad
  simp only [aT, Tm.enc, List.map_cons, List.map_nil] at c1
  refine con_of_HT Tryz.func108 rfl (by kernel_rfl) (Nat.le_of_ble_eq_true rfl) ?_
  simp only [Tryz.f108]
  simp only [aF, aS, Fl.enc, St.enc, Tm.enc, List.map_cons, List.map_nil, List.cons_append, List.nil_append]
  refine HT_seq <| HT_runA ?_
  refine HT_seq <| HT_runA ?_
  refine (HT_cutU [2, 4, 7] (fun (z : Unit) => []) (fun (z : Unit) => [(4, .box [.c (iC d), .c (iC c), .c (iC v), .c (iC n), .c (iC o), .c (iC tn), .c (.sl 3 (encTs ks)), .c (.sl 10 (encSs a)), .c (.sl 10 (encSs b)), .c (.sl 1 (encIs bs))])]) (fun (z : Unit) => SH = (decide (d ≠ 6) || (last && ((decide (0 < nb) && (decide (nb ≤ 32) && head0 bs)) && R)))) ?_ ?_)
  ·
    refine HT_block <| (HT_cutU [2, 4, 7] (fun (z : Bool) => [(10, .v (lb z))]) (fun (z : Bool) => [(4, .box [.c (iC d), .c (iC c), .c (iC v), .c (iC n), .c (iC o), .c (iC tn), .c (.sl 3 (encTs ks)), .c (.sl 10 (encSs a)), .c (.sl 10 (encSs b)), .c (.sl 1 (encIs bs))])]) (fun (z : Bool) => z = decide (badP UV UN UT P LO d v n la lc nb nh)) ?_ ?_)
    ·
      refine HT_seq <| HT_runA ?_
      refine (HT_cond rfl (fun h5 => HT_skip ?_) (fun h5 => ?_))
      · try simp only [BN] at h5
        exact ⟨true, (decide_eq_true (h5.elim .inl (fun h => .inr (.inl h)))).symm, le_mk (fun n => n) [] rfl (by simp [upS, keepS, *]) (by simp [*, upS]) (by simp [upS])⟩
      · try simp only [BN] at h5
        refine HT_seq <| (HT_runc [⟨true, .v (lb UV), none⟩] (by simp [*]; first | exact ⟨rfl, Iff.rfl⟩ | exact ⟨rfl, trivial⟩ | rfl) ?_ ?_)
        · first | exact c3 _ | exact trivial | simpa [*] using c3 _
        refine (HT_cond rfl (fun h8 => HT_skip ?_) (fun h8 => ?_))
        · try simp only [BN] at h8
          exact ⟨true, (decide_eq_true (.inr (.inr (.inl h8)))).symm, le_mk (fun n => n) [] rfl (by simp [upS, keepS, *]) (by simp [*, upS]) (by simp [upS])⟩
        · try simp only [BN] at h8
          refine HT_seq <| (HT_runc [⟨true, .v (lb UN), none⟩] (by simp [*]; first | exact ⟨rfl, Iff.rfl⟩ | exact ⟨rfl, trivial⟩ | rfl) ?_ ?_)
          · first | exact c4 _ | exact trivial | simpa [*] using c4 _
          refine (HT_cond rfl (fun h11 => HT_skip ?_) (fun h11 => ?_))
          · try simp only [BN] at h11
            exact ⟨true, (decide_eq_true (.inr (.inr (.inr (.inl h11))))).symm, le_mk (fun n => n) [] rfl (by simp [upS, keepS, *]) (by simp [*, upS]) (by simp [upS])⟩
          · try simp only [BN] at h11
            refine HT_cutU [2, 3, 4, 7] (fun (z : Bool) => [(10, .v (lb z))]) (fun (z : Bool) => [(3, .box [.c (.sl 5 (encVs vars)), .c (.sl 6 (encHs hats)), .c (.sl 10 (encSs body))]), (4, .box [.c (iC d), .c (iC c), .c (iC v), .c (iC n), .c (iC o), .c (iC tn), .c (.sl 3 (encTs ks)), .c (.sl 10 (encSs a)), .c (.sl 10 (encSs b)), .c (.sl 1 (encIs bs))])]) (fun (z : Bool) => z = (!UT && !P)) ?_ ?_
            · rcases (show UT = false ∨ UT = true by cases UT <;> simp) with hUT | hUT
              · refine HT_runc [⟨true, .v (lb false), none⟩, ⟨true, .v (lb P), none⟩] (by simp [*]; first | exact ⟨rfl, Iff.rfl⟩ | exact ⟨rfl, trivial⟩ | rfl) ?_ ?_
                · (repeat' first | exact trivial | (simpa [hUT] using c5 _) | exact c1 _ | apply And.intro)
                exact ⟨!P, by simp [hUT], le_mk (fun n => n) [] rfl (by simp [upS, keepS, *]) (by simp [*, upS]) (by simp [upS])⟩
              · refine HT_runcS [some ⟨true, .v (lb true), none⟩, none] (by simp [*]; first | exact ⟨rfl, Iff.rfl⟩ | exact ⟨rfl, trivial⟩ | rfl) ?_ ?_
                · first | exact trivial | (simpa [hUT] using c5 _)
                exact ⟨false, by simp [hUT], le_mk (fun n => n) [] rfl (by simp [upS, keepS, *]) (by simp [*, upS]) (by simp [upS])⟩
            rintro LUT hLUT
            simp only [upS, keepS, insS]
            try simp only [keepS, KN, Nat.reduceBEq, if_true, if_false, ins, Nat.reduceLT]
            refine (HT_cond rfl (fun h14 => HT_skip ?_) (fun h14 => ?_))
            · try simp only [BN] at h14
              rw [hLUT, Bool.and_eq_true, Bool.not_eq_true', Bool.not_eq_true'] at h14
              exact ⟨true, (decide_eq_true (.inr (.inr (.inr (.inr (.inl h14)))))).symm, le_mk (fun n => n) [] rfl (by simp [upS, keepS, *]) (by simp [*, upS]) (by simp [upS])⟩
            · try simp only [BN] at h14
              refine HT_seq <| HT_runA ?_
              refine (HT_cond rfl (fun h17 => HT_skip ?_) (fun h17 => ?_))
              · try simp only [BN] at h17
                exact ⟨true, (decide_eq_true (.inr (.inr (.inr (.inr (.inr (.inl ⟨h17.1, by omega⟩))))))).symm, le_mk (fun n => n) [] rfl (by simp [upS, keepS, *]) (by simp [*, upS]) (by simp [upS])⟩
              · try simp only [BN] at h17
                refine HT_seq <| HT_runA ?_
                refine (HT_cond rfl (fun h20 => HT_skip ?_) (fun h20 => ?_))
                · try simp only [BN] at h20
                  exact ⟨true, (decide_eq_true (.inr (.inr (.inr (.inr (.inr (.inr (.inl ⟨h20.1, by omega⟩)))))))).symm, le_mk (fun n => n) [] rfl (by simp [upS, keepS, *]) (by simp [*, upS]) (by simp [upS])⟩
                · try simp only [BN] at h20
                  refine HT_seq <| HT_runA ?_
                  refine (HT_cond rfl (fun h23 => HT_skip ?_) (fun h23 => ?_))
                  · try simp only [BN] at h23
                    exact ⟨true, (decide_eq_true (.inr (.inr (.inr (.inr (.inr (.inr (.inr (.inl ⟨h23.1, by omega⟩))))))))).symm, le_mk (fun n => n) [] rfl (by simp [upS, keepS, *]) (by simp [*, upS]) (by simp [upS])⟩
                  · try simp only [BN] at h23
                    refine HT_cutU [2, 3, 4, 7] (fun (z : Bool) => [(10, .v (lb z))]) (fun (z : Bool) => [(3, .box [.c (.sl 5 (encVs vars)), .c (.sl 6 (encHs hats)), .c (.sl 10 (encSs body))]), (4, .box [.c (iC d), .c (iC c), .c (iC v), .c (iC n), .c (iC o), .c (iC tn), .c (.sl 3 (encTs ks)), .c (.sl 10 (encSs a)), .c (.sl 10 (encSs b)), .c (.sl 1 (encIs bs))])]) (fun (z : Bool) => z = (UV && !LO)) ?_ ?_
                    · by_cases h0 : 0 ≤ v
                      · have h3 : ¬ v < 0 := by omega
                        by_cases h1 : v < vars.length
                        · obtain ⟨w, hw⟩ := get_vars ⟨h0, h1⟩
                          have h2 : ¬ (nv : Int) ≤ v := by omega
                          have hz : LO = decide (w.kind = 0) := by rw [← hLO]; unfold localB; rw [hw]; simp [h0]
                          subst hz
                          clear h1
                          refine HT_runc [⟨true, .v (lb UV), none⟩] (by simp [*]; first | exact ⟨rfl, Iff.rfl⟩ | exact ⟨rfl, trivial⟩ | rfl) ?_ ?_
                          · first | exact c3 _ | exact trivial
                          exact ⟨UV && !decide (w.kind = 0), rfl, le_mk (fun n => n) [] rfl (by simp [upS, keepS, *]) (by simp [*, upS]) (by simp [upS])⟩
                        · have hw := get_none h0 h1
                          have h2 : (nv : Int) ≤ v := by omega
                          have hz : LO = false := by rw [← hLO]; unfold localB; rw [hw]; simp
                          subst hz
                          clear h1
                          refine HT_runc [⟨true, .v (lb UV), none⟩] (by simp [*]; first | exact ⟨rfl, Iff.rfl⟩ | exact ⟨rfl, trivial⟩ | rfl) ?_ ?_
                          · first | exact c3 _ | exact trivial
                          exact ⟨UV && !false, rfl, le_mk (fun n => n) [] rfl (by simp [upS, keepS, *]) (by simp [*, upS]) (by simp [upS])⟩
                      · have h3 : v < 0 := by omega
                        have hz : LO = false := by rw [← hLO]; unfold localB; simp [h0]
                        subst hz
                        refine HT_runc [⟨true, .v (lb UV), none⟩] (by simp [*]; first | exact ⟨rfl, Iff.rfl⟩ | exact ⟨rfl, trivial⟩ | rfl) ?_ ?_
                        · first | exact c3 _ | exact trivial
                        exact ⟨UV && !false, rfl, le_mk (fun n => n) [] rfl (by simp [upS, keepS, *]) (by simp [*, upS]) (by simp [upS])⟩
                    rintro LOU hLOU
                    simp only [upS, keepS, insS]
                    try simp only [keepS, KN, Nat.reduceBEq, if_true, if_false, ins, Nat.reduceLT]
                    refine (HT_cond rfl (fun h26 => HT_skip ?_) (fun h26 => ?_))
                    · try simp only [BN] at h26
                      rw [hLOU, Bool.and_eq_true, Bool.not_eq_true'] at h26
                      exact ⟨true, (decide_eq_true (.inr (.inr (.inr (.inr (.inr (.inr (.inr (.inr (.inl h26)))))))))).symm, le_mk (fun n => n) [] rfl (by simp [upS, keepS, *]) (by simp [*, upS]) (by simp [upS])⟩
                    · try simp only [BN] at h26
                      have hz : decide (badP UV UN UT P LO d v n la lc nb nh) = (decide (d = 5) && (decide (n < 0) || decide ((nh : Int) ≤ n))) := by
                        rw [hLOU] at h26
                        rw [Bool.eq_iff_iff, decide_eq_true_eq]
                        unfold badP
                        simp only [Bool.and_eq_true, Bool.or_eq_true, decide_eq_true_eq]
                        constructor
                        · rintro (h | h | h | h | h | h | h | h | h | h)
                          · omega
                          · omega
                          · exact absurd h8 (by simp [h.1, h.2])
                          · exact absurd h11 (by simp [h.1, h.2])
                          · rw [hLUT, h.1, h.2] at h14; cases h14
                          · omega
                          · omega
                          · omega
                          · exact absurd h26 (by simp [h.1, h.2])
                          · exact h
                        · exact fun h => .inr (.inr (.inr (.inr (.inr (.inr (.inr (.inr (.inr h))))))))
                      refine HT_runA ?_
                      exact ⟨(decide (d = 5) && (decide (n < 0) || decide ((nh : Int) ≤ n))), hz.symm, le_mk (fun n => n) [] rfl (by simp [upS, keepS, *]) (by simp [*, upS]) (by simp [upS])⟩
    rintro _ rfl
    simp only [upS, keepS, insS]
    try simp only [keepS, KN, Nat.reduceBEq, if_true, if_false, ins, Nat.reduceLT]
    refine (HT_cond rfl (fun h30 => ?_) (fun h30 => HT_skip ?_))
    · try simp only [BN] at h30
      have hz := hbad h30
      clear hgood hbad
      refine HT_seq <| HT_runA ?_
      exact HT_retA fun h => ⟨.inr rfl, h⟩
    · try simp only [BN] at h30
      have hz := hgood h30
      clear hgood hbad
      exact ⟨(), hz, le_mk (fun n => n) [] rfl (by simp [upS, keepS, *]) (by simp [*, upS]) (by simp [upS])⟩
  rintro _ hz
  simp only [upS, keepS, insS]
  try simp only [keepS, KN, Nat.reduceBEq, if_true, if_false, ins, Nat.reduceLT]
  clear hgood hbad
  rcases nil_or bs with h0 | ⟨b0, hb0⟩
  · subst h0
    have hh : head0 [] = false := rfl
    replace hnb : nb = 0 := hnb.symm
    subst hnb
    rw [hh] at hz
    refine HT_seq <| (HT_runc [⟨true, .v (lb R), none⟩] (by simp [*]; first | exact ⟨rfl, Iff.rfl⟩ | exact ⟨rfl, trivial⟩ | rfl) ?_ ?_)
    · first | exact c2 _ | exact trivial | simpa [*] using c2 _
    exact (HT_retE (fun h => ⟨.inr rfl, h⟩) _ (by simp [*]; rfl) (by first | (simp [*, resR, Bool.and_assoc]; done) | rfl) (by simp))
  · have hh : head0 bs = decide (0 ≤ b0) := by unfold head0; rw [hb0]
    rw [hh] at hz
    have e32 : decide ((nb : Int) ≤ 32) = decide (nb ≤ 32) := by rw [decide_eq_decide]; omega
    refine HT_seq <| (HT_runc [⟨true, .v (lb R), none⟩] (by simp [*]; first | exact ⟨rfl, Iff.rfl⟩ | exact ⟨rfl, trivial⟩ | rfl) ?_ ?_)
    · first | exact c2 _ | exact trivial | simpa [*] using c2 _
    exact (HT_retE (fun h => ⟨.inr rfl, h⟩) _ (by simp [*]; rfl) (by rw [hz]; simp [resR, e32, Bool.and_assoc]) (by simp))
end Go.Proofs.YteekbhkjfaegiaaGreat

namespace Go.Proofs.YteekbhkjfaegiaaGreat
open Go Go.Hl

/-! ## the check of steps -/
def stC (vars : List Vr) (nh : Nat) (d c v n : Int) (t : Tm) (la lc : Nat) (bs : List Int) (last : Bool) : Int :=
  if shB vars nh d v n t la lc bs last = false then 1 else if numB d c n bs = false then 3 else termC vars false t
def ssC (vars : List Vr) (nh : Nat) : List St → Bool → Int
  | [], _ => 0
  | .mk d c v n t a b bs :: l, top =>
    if stC vars nh d c v n t a.length b.length bs (top && l.isEmpty) = 0 then
      (if ssC vars nh a false = 0 then (if ssC vars nh b false = 0 then ssC vars nh l top else ssC vars nh b false) else ssC vars nh a false)
    else stC vars nh d c v n t a.length b.length bs (top && l.isEmpty)
mutual
def bndS : St → Bool
  | .mk _ _ _ _ _ a b bs => decide (bs.length ≤ 1000000000) && (bndL a && bndL b)
def bndL : List St → Bool
  | [] => true
  | s :: l => bndS s && bndL l
end
theorem bndL_mem {l : List St} (h : bndL l = true) {s : St} (hs : s ∈ l) : bndS s = true := by
  induction l with
  | nil => cases hs
  | cons x l ih =>
    simp only [bndL, Bool.and_eq_true] at h
    rcases List.mem_cons.1 hs with rfl | h1
    · exact h.1
    · exact ih h.2 h1
theorem sh_bounds {vars : List Vr} {nh : Nat} {d v n : Int} {t : Tm} {la lc : Nat} {bs : List Int} {last : Bool} (h : shB vars nh d v n t la lc bs last = true) : (d = 6 → bs ≠ []) ∧ (d ≠ 6 → bs = []) ∧ (n < 0 → d = 4) := by
  have hr : riseB bs = true → 1 ≤ bs.length := by
    intro h
    unfold riseB at h
    simp only [Bool.and_eq_true, decide_eq_true_eq] at h
    omega
  have hb : bs ≠ [] ↔ 1 ≤ bs.length := by cases bs <;> simp
  have hb2 : bs = [] ↔ bs.length = 0 := by cases bs <;> simp
  rw [hb, hb2]
  unfold shB at h
  generalize riseB bs = R at *
  generalize bs.length = nb at *
  (repeat' split at h) <;> (try simp only [Bool.and_eq_true, decide_eq_true_eq] at h) <;> (try have := hr h.2) <;> (try cases h) <;> refine ⟨fun h => ?_, fun h => ?_, fun h => ?_⟩ <;> omega
theorem drop_last {l : List St} {k : Nat} (h : k + 1 ≤ l.length) : (l.drop (k + 1)).isEmpty = decide ((k : Int) = (l.length : Int) - 1) := by
  rw [Bool.eq_iff_iff, List.isEmpty_iff, List.drop_eq_nil_iff, decide_eq_true_eq]
  omega
def fnz (vars : List Vr) (nh : Nat) : List (List St) → Int
  | [] => 0
  | x :: r => if ssC vars nh x false = 0 then fnz vars nh r else ssC vars nh x false

theorem stepsP_con (f : Fl) (hv : goodV f.vars) (hl : f.vars.length ≤ 1000000) (l : List St) : nodesS l ≤ 1000000000 → bndL l = true → ∀ (top : Bool) (d : Nat),
    Con Tryz.prog 84 true [aF f, lS l, lb top] (.v (li (ssC f.vars f.hats.length l top))) none d := by
  revert l
  apply St.lists
  intro l ih hn hbn top d
  have hlen := len_nodesS l
  obtain ⟨res, hres⟩ : ∃ r, ssC f.vars f.hats.length l top = r := ⟨_, rfl⟩
  rw [hres]
  have csh := fun s last hb => shapedP_con f s last (by omega) hb
  obtain ⟨vars, hats, body⟩ := f
  simp only at hv hl hres ih csh
  refine con_of_HT Tryz.func84 rfl (by kernel_rfl) (Nat.le_of_ble_eq_true rfl) ?_
  simp only [Tryz.f84]
  simp only [aF, Fl.enc, List.map_cons, List.map_nil]
  refine HT_seq <| HT_runA ?_
  refine HT_seq <| HT_seq <| HT_runA ?_
  refine HT_block <| (HT_loopU [1, 2, 3, 13, 14] (fun (x : Nat) => [(15, .v (li x))]) (fun (x : Nat) => [(3, .box [.c (.sl 5 (encVs vars)), .c (.sl 6 (encHs hats)), .c (.sl 10 (encSs body))])]) (fun (x : Nat) => x ≤ l.length ∧ ssC vars hats.length (l.drop x) top = res) (fun (x : Nat) => l.length - x) (0 : Nat) ⟨Nat.zero_le _, hres⟩ ?_ ?_)
  · exact le_mk (fun n => n) [] rfl (by simp [*, upS, keepS]) (by simp [*, upS]) (by simp [upS])
  rintro k ⟨hk, hJ⟩
  simp only [upS, keepS, insS]
  try simp only [keepS, KN, Nat.reduceBEq, if_true, if_false, ins, Nat.reduceLT]
  clear hres
  refine HT_seq <| HT_runA ?_
  refine HT_seq <| (HT_cond rfl (fun h4 => HT_skip ?_) (fun h4 => ?_))
  · try simp only [BN] at h4
    have hlt : k < l.length := by omega
    obtain ⟨s, he, hd⟩ := at_lt hlt
    have hmem : s ∈ l := List.mem_of_getElem? he
    have hnm := nodesS_mem hmem
    have hbm := bndL_mem hbn hmem
    have iha := fun h h2 => (ih s hmem).1 h h2
    have ihb := fun h h2 => (ih s hmem).2 h h2
    have hw1 := wrap1 hlt (by omega)
    have hw2 : IntKind.i64.wrap ((l.length : Int) - 1) = (l.length : Int) - 1 := wrap_in (by omega) (by omega)
    have hk1 : k + 1 ≤ l.length := hlt
    have hla := drop_last hk1
    rw [hd] at hJ
    have ct := termP_con vars false hv (by omega) s.term
    have csh1 := csh s (top && decide ((k : Int) = (l.length : Int) - 1))
    have cnu := numP_con s
    obtain ⟨sd, sc, sv, sn, ⟨so, stn, sks⟩, sa, sb, sbs⟩ := s
    simp only [St.then_, St.else_, St.term, St.bounds, St.do_, St.var, St.n, St.cost] at iha ihb hnm ct csh1 cnu
    simp only [bndS, Bool.and_eq_true, decide_eq_true_eq] at hbm
    simp only [ssC, hla] at hJ
    have ca := iha (by omega) hbm.2.1
    have cb := ihb (by omega) hbm.2.2
    have ct := ct (by omega)
    have csh1 := csh1 hbm.1
    have cnu := cnu hbm.1
    have he' := get_encS he
    simp only [St.enc, Tm.enc, List.cons_append, List.nil_append] at he'
    simp only [aF, Fl.enc, aS, St.enc, Tm.enc, List.map_cons, List.map_nil, List.cons_append, List.nil_append] at csh1 ca cb cnu
    have hshb := @sh_bounds vars hats.length sd sv sn (.mk so stn sks) sa.length sb.length sbs (top && decide ((k : Int) = (l.length : Int) - 1))
    obtain ⟨SH, hSH⟩ : ∃ x, shB vars hats.length sd sv sn (.mk so stn sks) sa.length sb.length sbs (top && decide ((k : Int) = (l.length : Int) - 1)) = x := ⟨_, rfl⟩
    obtain ⟨NU, hNU⟩ : ∃ x, numB sd sc sn sbs = x := ⟨_, rfl⟩
    obtain ⟨TC, hTC⟩ : ∃ x, termC vars false (.mk so stn sks) = x := ⟨_, rfl⟩
    obtain ⟨SC, hSC⟩ : ∃ x, stC vars hats.length sd sc sv sn (.mk so stn sks) sa.length sb.length sbs (top && decide ((k : Int) = (l.length : Int) - 1)) = x := ⟨_, rfl⟩
    rw [hSC] at hJ
    unfold stC at hSC
    rw [hSH] at csh1 hshb hSC
    rw [hNU] at cnu hSC
    rw [hTC] at ct hSC
    have hlc2 : ∀ x ∈ [sa, sb], ∀ d, Con Tryz.prog 84 true [.agg [.c (.sl 5 (encVs vars)), .c (.sl 6 (encHs hats)), .c (.sl 10 (encSs body))], lS x, lb false] (.v (li (ssC vars hats.length x false))) none d := by
      intro x hx
      simp only [List.mem_cons, List.not_mem_nil, or_false] at hx
      rcases hx with rfl | rfl
      · exact ca false
      · exact cb false
    have hfn : (if ssC vars hats.length sa false = 0 then (if ssC vars hats.length sb false = 0 then ssC vars hats.length (l.drop (k + 1)) top else ssC vars hats.length sb false) else ssC vars hats.length sa false) = (if fnz vars hats.length [sa, sb] = 0 then ssC vars hats.length (l.drop (k + 1)) top else fnz vars hats.length [sa, sb]) := by
      simp only [fnz]
      by_cases h1 : ssC vars hats.length sa false = 0 <;> by_cases h2 : ssC vars hats.length sb false = 0 <;> simp [h1, h2]
    rw [hfn] at hJ
    obtain ⟨LL, hLL⟩ : ∃ x, x = [sa, sb] := ⟨_, rfl⟩
    rw [← hLL] at hJ hlc2
    obtain ⟨FN, hFN⟩ : ∃ x, fnz vars hats.length LL = x := ⟨_, rfl⟩
    rw [hFN] at hJ
    have hrows : LL.map (fun x => [CD.sl 10 (encSs x)]) = [[.sl 10 (encSs sa)], [.sl 10 (encSs sb)]] := by rw [hLL]; rfl
    have hL2 : LL.length = 2 := by rw [hLL]; rfl
    clear hlt h4 iha ihb ih hmem hnm hd he hbm hSH hNU hTC ca cb hfn hLL csh hla
    refine HT_seq <| HT_block <| HT_seq <| HT_runA ?_
    refine HT_seq <| HT_seq <| (HT_runc [⟨true, .v (lb SH), none⟩] (by simp [*]; first | exact ⟨rfl, Iff.rfl⟩ | exact ⟨rfl, trivial⟩ | rfl) ?_ ?_)
    · first | exact csh1 _ | exact trivial | simpa [*] using csh1 _
    refine (HT_cond rfl (fun h7 => ?_) (fun h7 => HT_skip ?_))
    · try simp only [BN] at h7
      rw [if_pos h7] at hSC
      subst hSC
      rw [if_neg (by decide)] at hJ
      subst hJ
      refine HT_seq <| HT_runA ?_
      exact HT_retA fun h => ⟨.inr rfl, h⟩
    · try simp only [BN] at h7
      rw [if_neg (by simp [h7])] at hSC
      have hsb := hshb h7
      have cnu2 := cnu hsb.1 hsb.2.1
      clear cnu hshb csh1
      refine HT_seq <| HT_seq <| (HT_runc [⟨true, .v (lb NU), none⟩] (by simp [*]; first | exact ⟨rfl, Iff.rfl⟩ | exact ⟨rfl, trivial⟩ | rfl) ?_ ?_)
      · first | exact cnu2 _ | exact trivial | simpa [*] using cnu2 _
      refine (HT_cond rfl (fun h11 => ?_) (fun h11 => HT_skip ?_))
      · try simp only [BN] at h11
        rw [if_pos h11] at hSC
        subst hSC
        rw [if_neg (by decide)] at hJ
        subst hJ
        refine HT_seq <| HT_runA ?_
        exact HT_retA fun h => ⟨.inr rfl, h⟩
      · try simp only [BN] at h11
        rw [if_neg (by simp [h11])] at hSC
        subst hSC
        clear cnu2 hsb
        refine HT_seq <| HT_seq <| (HT_runc [⟨true, .v (li TC), none⟩] (by simp [*]; first | exact ⟨rfl, Iff.rfl⟩ | exact ⟨rfl, trivial⟩ | rfl) ?_ ?_)
        · first | exact ct _ | exact trivial | simpa [*] using ct _
        refine HT_seq <| HT_runA ?_
        refine (HT_cond rfl (fun h16 => ?_) (fun h16 => HT_skip ?_))
        · try simp only [BN] at h16
          rw [if_neg h16] at hJ
          subst hJ
          refine HT_seq <| HT_runA ?_
          exact HT_retA fun h => ⟨.inr rfl, h⟩
        · try simp only [BN] at h16
          rw [if_pos (by simpa using h16)] at hJ
          clear ct
          refine HT_seq <| HT_runA ?_
          refine HT_block <| (HT_loopU [1, 2, 3, 13, 14, 15, 47, 48] (fun (x : Nat) => [(49, .v (li x))]) (fun (x : Nat) => [(3, .box [.c (.sl 5 (encVs vars)), .c (.sl 6 (encHs hats)), .c (.sl 10 (encSs body))]), (47, .row 24 1 (LL.map fun x => [CD.sl 10 (encSs x)]))]) (fun (x : Nat) => x ≤ 2 ∧ fnz vars hats.length (LL.drop x) = FN) (fun (x : Nat) => 2 - x) (0 : Nat) ⟨Nat.zero_le _, hFN⟩ ?_ ?_)
          · exact le_mk (fun n => n) [] rfl (by simp [*, upS, keepS]) (by simp [*, upS]) (by simp [upS])
          rintro q ⟨hq, hJ2⟩
          simp only [upS, keepS, insS]
          try simp only [keepS, KN, Nat.reduceBEq, if_true, if_false, ins, Nat.reduceLT]
          clear hFN hrows
          refine HT_seq <| HT_runA ?_
          refine HT_seq <| (HT_cond rfl (fun h22 => HT_skip ?_) (fun h22 => ?_))
          · try simp only [BN] at h22
            have hlt2 : q < LL.length := by omega
            obtain ⟨y, hy, hdy⟩ := at_lt hlt2
            have hwq := wrap1 hlt2 (by omega)
            have hq1 : q + 1 ≤ 2 := by omega
            have cy := hlc2 y (List.mem_of_getElem? hy)
            rw [hdy] at hJ2
            simp only [fnz] at hJ2
            generalize ssC vars hats.length y false = SY at *
            clear hlt2 h22 hdy hlc2
            refine HT_seq <| HT_block <| HT_seq <| HT_runA ?_
            refine HT_seq <| (HT_runc [⟨true, .v (li SY), none⟩] (by simp [*]; first | exact ⟨rfl, Iff.rfl⟩ | exact ⟨rfl, trivial⟩ | rfl) ?_ ?_)
            · first | exact cy _ | exact trivial | simpa [*] using cy _
            refine HT_seq <| HT_runA ?_
            refine (HT_cond rfl (fun h26 => ?_) (fun h26 => HT_skip ?_))
            · try simp only [BN] at h26
              rw [if_neg h26] at hJ2
              subst hJ2
              rw [if_neg h26] at hJ
              subst hJ
              refine HT_seq <| HT_runA ?_
              exact HT_retA fun h => ⟨.inr rfl, h⟩
            · try simp only [BN] at h26
              rw [if_pos (by simpa using h26)] at hJ2
              refine HT_runA ?_
              exact ⟨q + 1, ⟨hq1, hJ2⟩, by omega, le_mk (fun n => n) [] rfl (by simp [upS, keepS, *]) (by simp [*, upS]) (by simp [upS])⟩
          · try simp only [BN] at h22
            have hq2 : q = LL.length := by omega
            rw [hq2, List.drop_length] at hJ2
            simp only [fnz] at hJ2
            rw [if_pos hJ2.symm] at hJ
            refine (HT_exit ?_)
            refine HT_runA ?_
            exact ⟨k + 1, ⟨hk1, hJ⟩, by omega, le_mk (fun n => n) [] rfl (by simp [upS, keepS, *]) (by simp [*, upS]) (by simp [upS])⟩
  · try simp only [BN] at h4
    have hkl : k = l.length := by omega
    rw [hkl, List.drop_length] at hJ
    simp only [ssC] at hJ
    subst hJ
    refine (HT_exit ?_)
    refine HT_seq <| HT_runA ?_
    exact HT_retA fun h => ⟨.inr rfl, h⟩
end Go.Proofs.YteekbhkjfaegiaaGreat

namespace Go.Proofs.YteekbhkjfaegiaaGreat
open Go Go.Hl

structure Sta where
  vals : List Int
  outs : List Int
  time : Int
abbrev aSt (s : Sta) : TV := .agg [.c (.sl 1 (encIs s.vals)), .c (.sl 1 (encIs s.outs)), .c (iC s.time)]
def tick (s : Sta) (c : Int) : Sta := ⟨s.vals, s.outs, wr (s.time + c)⟩
def rndF (c : Int) (t : Tm) (body : Sta → Sta) : Nat → Sta → Sta
  | 0, s => s
  | k + 1, s => if vT s.vals t = 0 then tick s c else rndF c t body k (body (tick s c))
def setV (vars : List Vr) (vs : List Int) (v n : Int) : List Int :=
  match vars[v.toNat]? with
  | some w => vs.set v.toNat (heldI n w.low w.high)
  | none => vs
def leafF (vars : List Vr) (hv : List Int) (d v n : Int) (t : Tm) (bs : List Int) (s : Sta) : Sta :=
  if d = 0 then ⟨setV vars s.vals v (vT s.vals t), s.outs, s.time⟩
  else if d = 1 then ⟨s.vals, s.outs ++ [vT s.vals t], s.time⟩
  else if d = 5 then ⟨setV vars s.vals v ((hv[n.toNat]?).getD 0), s.outs, s.time⟩
  else if d = 6 then ⟨s.vals, s.outs, stlL bs s.time s.time false⟩ else s
def stepsF (vars : List Vr) (hv : List Int) : List St → Sta → Sta
  | [] => fun s => s
  | .mk d c v n t a b bs :: l => fun s =>
    stepsF vars hv l (if d = 4 then rndF c t (stepsF vars hv a) n.toNat s
      else if d = 3 then (if vT s.vals t = 0 then stepsF vars hv b (tick s c) else stepsF vars hv a (tick s c))
      else leafF vars hv d v n t bs (tick s c))
mutual
def wfS (vars : List Vr) (nh : Nat) : St → Bool
  | .mk d _ v n t a b bs => formB vars false t && ((decide (d ≠ 0 ∧ d ≠ 5) || localB vars v) && ((decide (d ≠ 5) || (decide (0 ≤ n) && decide (n < nh))) && ((decide (d ≠ 4) || decide (n ≤ 4096)) && (decide (bs.length ≤ 1000000000) && (wfL vars nh a && wfL vars nh b)))))
def wfL (vars : List Vr) (nh : Nat) : List St → Bool
  | [] => true
  | s :: l => wfS vars nh s && wfL vars nh l
end
mutual
def oUS : St → Nat
  | .mk d _ _ n _ a b _ => if d = 4 then n.toNat * oUL a else if d = 3 then max (oUL a) (oUL b) else if d = 1 then 1 else 0
def oUL : List St → Nat
  | [] => 0
  | s :: l => oUS s + oUL l
end
theorem setV_len (vars : List Vr) (vs : List Int) (v n : Int) : (setV vars vs v n).length = vs.length := by
  unfold setV
  split <;> simp
theorem leaf_len (vars : List Vr) (hv : List Int) (d v n : Int) (t : Tm) (bs : List Int) (s : Sta) : (leafF vars hv d v n t bs s).vals.length = s.vals.length ∧ (leafF vars hv d v n t bs s).outs.length ≤ s.outs.length + (if d = 1 then 1 else 0) := by
  unfold leafF
  split
  · rename_i h; subst h; simp [setV_len]
  · split
    · rename_i h; subst h; simp
    · split
      · simp [setV_len]
      · split <;> simp
theorem rnd_len {c : Int} {t : Tm} {body : Sta → Sta} {O : Nat} (hb : ∀ s, (body s).vals.length = s.vals.length ∧ (body s).outs.length ≤ s.outs.length + O) : ∀ (k : Nat) (s : Sta), (rndF c t body k s).vals.length = s.vals.length ∧ (rndF c t body k s).outs.length ≤ s.outs.length + k * O
  | 0, s => by simp [rndF]
  | k + 1, s => by
    simp only [rndF]
    split
    · simp [tick]
    · have h1 := rnd_len (c := c) (t := t) hb k (body (tick s c))
      have h2 := hb (tick s c)
      simp only [tick] at h2 ⊢
      rw [Nat.succ_mul]
      simp only [tick] at h1
      omega
theorem steps_len (vars : List Vr) (hv : List Int) : ∀ (l : List St) (s : Sta), (stepsF vars hv l s).vals.length = s.vals.length ∧ (stepsF vars hv l s).outs.length ≤ s.outs.length + oUL l
  | [], s => by simp [stepsF]
  | .mk d c v n t a b bs :: l, s => by
    simp only [stepsF, oUL, oUS]
    have ha := steps_len vars hv a
    have hb := steps_len vars hv b
    by_cases h4 : d = 4
    · rw [if_pos h4, if_pos h4]
      have h1 := rnd_len (c := c) (t := t) ha n.toNat s
      have h2 := steps_len vars hv l (rndF c t (stepsF vars hv a) n.toNat s)
      omega
    · rw [if_neg h4, if_neg h4]
      by_cases h3 : d = 3
      · rw [if_pos h3, if_pos h3]
        have h1 := ha (tick s c)
        have h2 := hb (tick s c)
        have e : (tick s c).vals.length = s.vals.length ∧ (tick s c).outs.length = s.outs.length := ⟨rfl, rfl⟩
        split
        · have h5 := steps_len vars hv l (stepsF vars hv b (tick s c)); omega
        · have h5 := steps_len vars hv l (stepsF vars hv a (tick s c)); omega
      · rw [if_neg h3, if_neg h3]
        have h1 := leaf_len vars hv d v n t bs (tick s c)
        have h5 := steps_len vars hv l (leafF vars hv d v n t bs (tick s c))
        have e : (tick s c).vals.length = s.vals.length ∧ (tick s c).outs.length = s.outs.length := ⟨rfl, rfl⟩
        omega
theorem wfL_mem {vars : List Vr} {nh : Nat} {l : List St} (h : wfL vars nh l = true) {s : St} (hs : s ∈ l) : wfS vars nh s = true := by
  induction l with
  | nil => cases hs
  | cons x l ih =>
    simp only [wfL, Bool.and_eq_true] at h
    rcases List.mem_cons.1 hs with rfl | h1
    · exact h.1
    · exact ih h.2 h1

theorem rounds_con (f : Fl) (hv : List Int) (d0 c v n : Int) (t : Tm) (a b : List St) (bs : List Int) (hf : formB f.vars false t = true) (hn : n ≤ 4096)
    (hst : ∀ s : Sta, s.vals.length = f.vars.length → s.outs.length + oUL a ≤ 2000000 → ∀ d : Nat, Con Tryz.prog 95 false [aF f, lI hv, lS a, aSt s] (.v (aSt (stepsF f.vars hv a s))) none d)
    (s : Sta) (hs : s.vals.length = f.vars.length) (ho : s.outs.length + n.toNat * oUL a ≤ 2000000) (d : Nat) :
    Con Tryz.prog 117 false [aF f, lI hv, aS (.mk d0 c v n t a b bs), aSt s] (.v (aSt (rndF c t (stepsF f.vars hv a) n.toNat s))) none d := by
  obtain ⟨vars, hats, body⟩ := f
  simp only at hf hst hs
  have hlen := steps_len vars hv a
  obtain ⟨B, hB⟩ : ∃ x, stepsF vars hv a = x := ⟨_, rfl⟩
  simp only [hB] at hst hlen ⊢
  obtain ⟨O, hO⟩ : ∃ x, oUL a = x := ⟨_, rfl⟩
  rw [hO] at ho
  simp only [hO] at hst hlen
  obtain ⟨res, hres⟩ : ∃ r, rndF c t B n.toNat s = r := ⟨_, rfl⟩
  rw [hres]
  have cval := fun (vs : List Int) (h : vs.length = vars.length) => value_con vars false vs h t hf
  obtain ⟨to, tn, tk⟩ := t
  obtain ⟨sv, so, stm⟩ := s
  clear hB hO hf
  refine con_of_HT Tryz.func117 rfl (by kernel_rfl) (Nat.le_of_ble_eq_true rfl) ?_
  simp only [Tryz.f117]
  simp only [aF, Fl.enc, aS, St.enc, Tm.enc, aSt, aT, List.map_cons, List.map_nil, List.cons_append, List.nil_append] at hst cval ⊢
  refine HT_seq <| HT_runA ?_
  refine HT_seq <| HT_seq <| HT_runA ?_
  refine HT_block <| (HT_loopU [1, 4, 6, 7, 8] (fun (x : Nat × Sta) => [(9, .v (li x.1))]) (fun (x : Nat × Sta) => [(4, .box [.c (.sl 5 (encVs vars)), .c (.sl 6 (encHs hats)), .c (.sl 10 (encSs body))]), (6, .box [.c (iC d0), .c (iC c), .c (iC v), .c (iC n), .c (iC to), .c (iC tn), .c (.sl 3 (encTs tk)), .c (.sl 10 (encSs a)), .c (.sl 10 (encSs b)), .c (.sl 1 (encIs bs))]), (7, .box [.c (.sl 1 (encIs x.2.vals)), .c (.sl 1 (encIs x.2.outs)), .c (iC x.2.time)]), (8, .box [.c (.lit nilS), .c (.lit nilS), .c (iC 0)])]) (fun (x : Nat × Sta) => x.1 ≤ n.toNat ∧ rndF c (.mk to tn tk) B (n.toNat - x.1) x.2 = res ∧ x.2.vals.length = vars.length ∧ x.2.outs.length + (n.toNat - x.1) * O ≤ 2000000) (fun (x : Nat × Sta) => n.toNat - x.1) (0, ⟨sv, so, stm⟩) ⟨Nat.zero_le _, hres, hs, ho⟩ ?_ ?_)
  · exact le_mk (fun n => n) [] rfl (by simp [*, upS, keepS]) (by simp [*, upS]) (by simp [upS])
  rintro ⟨k, ⟨xv, xo, xt⟩⟩ ⟨hk, hJ, hxl, hxo⟩
  simp only [upS, keepS, insS]
  try simp only [keepS, KN, Nat.reduceBEq, if_true, if_false, ins, Nat.reduceLT]
  simp only at hk hJ hxl hxo
  clear hres hs ho
  refine HT_seq <| HT_seq <| HT_runA ?_
  refine (HT_cond rfl (fun h4 => HT_skip ?_) (fun h4 => ?_))
  · try simp only [BN] at h4
    have hm : n.toNat - k = (n.toNat - (k + 1)) + 1 := by omega
    have hk1 : k + 1 ≤ n.toNat := by omega
    have hw1 : IntKind.i64.wrap ((k : Int) + 1) = (k : Int) + 1 := wrap_in (by omega) (by omega)
    rw [hm] at hJ hxo
    rw [Nat.succ_mul] at hxo
    simp only [rndF, tick, wr] at hJ
    obtain ⟨T, hT⟩ : ∃ x, IntKind.i64.wrap (xt + c) = x := ⟨_, rfl⟩
    rw [hT] at hJ
    have cv := cval xv hxl
    have cs := hst ⟨xv, xo, T⟩ hxl (by simp only; omega)
    have hbl := hlen ⟨xv, xo, T⟩
    obtain ⟨A, hA⟩ : ∃ x, vT xv (.mk to tn tk) = x := ⟨_, rfl⟩
    rw [hA] at cv hJ
    obtain ⟨⟨bv, bo, bt⟩, hBs⟩ : ∃ x, B ⟨xv, xo, T⟩ = x := ⟨_, rfl⟩
    rw [hBs] at cs hbl hJ
    simp only at cs hbl
    clear h4 hst cval hlen hm hA hBs
    refine HT_seq <| HT_block <| HT_seq <| HT_runA ?_
    refine HT_seq <| HT_seq <| (HT_runc [⟨true, .v (li A), none⟩] (by simp [*]; first | exact ⟨rfl, Iff.rfl⟩ | exact ⟨rfl, trivial⟩ | rfl) ?_ ?_)
    · first | exact cv _ | exact trivial | simpa [*] using cv _
    refine (HT_cond rfl (fun h7 => ?_) (fun h7 => HT_skip ?_))
    · try simp only [BN] at h7
      rw [if_pos h7] at hJ
      subst hJ
      refine HT_seq <| HT_runA ?_
      exact HT_ret ⟨.inr rfl, _, le_refl _, ⟨⟨_, by simp; rfl, by simp [resR]⟩, by simp, fun h => by cases h⟩⟩
    · try simp only [BN] at h7
      rw [if_neg h7] at hJ
      refine (HT_runc [⟨false, .v (.agg [.c (.sl 1 (encIs bv)), .c (.sl 1 (encIs bo)), .c (iC bt)]), none⟩] (by simp [*]; first | exact ⟨rfl, Iff.rfl⟩ | exact ⟨rfl, trivial⟩ | rfl) ?_ ?_)
      · first | exact cs _ | exact trivial | simpa [*] using cs _
      refine HT_runA ?_
      exact ⟨(k + 1, ⟨bv, bo, bt⟩), ⟨hk1, hJ, by simp only; omega, by simp only; omega⟩, by simp only; omega, le_mk (fun n => n) [] rfl (by simp [upS, keepS, *]) (by simp [*, upS]) (by simp [upS])⟩
  · try simp only [BN] at h4
    have hkl : n.toNat - k = 0 := by omega
    rw [hkl] at hJ
    simp only [rndF] at hJ
    subst hJ
    refine (HT_exit ?_)
    refine HT_seq <| HT_runA ?_
    exact HT_ret ⟨.inr rfl, _, le_refl _, ⟨⟨_, by simp; rfl, by simp [resR]⟩, by simp, fun h => by cases h⟩⟩
end Go.Proofs.YteekbhkjfaegiaaGreat

namespace Go.Hl
open Go Go.RowKit
theorem pin_mk {objs : List (Nat × Ob)} (h : (objs.all fun p => match p.2 with | .box _ => decide (1000000 ≤ p.1) | _ => true) = true) (n : Nat) (cs : List CV) (hl : lkp objs n = some (.box cs)) : 1000000 ≤ n := by
  rw [List.all_eq_true] at h
  have := h _ (look_mem hl)
  simpa using this
theorem HT_endS {P : Program} {rs : List ResultVar} {s : HS} {r : RV} {objs' : List (Nat × Ob)} {ts : List TV} (hr : resL P s rs = some ts) (he : r = resR ts) (ho : ∀ p ∈ objs', lkp s.objs p.1 = some p.2) :
    ∃ s2, le s s2 ∧ (∃ ts, resL P s2 rs = some ts ∧ r = resR ts) ∧ ∀ n o, lkp objs' n = some o → lkp s2.objs n = some o :=
  ⟨s, le_refl s, ⟨ts, hr, he⟩, fun n o h => ho _ (look_mem h)⟩
theorem HT_endL {P : Program} {rs : List ResultVar} {s s2 : HS} {r : RV} {objs' : List (Nat × Ob)} {ts : List TV} (hl : le s s2) (hr : resL P s2 rs = some ts) (he : r = resR ts) (ho : ∀ p ∈ objs', lkp s2.objs p.1 = some p.2) :
    ∃ s2, le s s2 ∧ (∃ ts, resL P s2 rs = some ts ∧ r = resR ts) ∧ ∀ n o, lkp objs' n = some o → lkp s2.objs n = some o :=
  ⟨s2, hl, ⟨ts, hr, he⟩, fun n o h => ho _ (look_mem h)⟩
attribute [simp] addS okTV okRV okCell okObB rbB
end Go.Hl
namespace Go.Proofs.YteekbhkjfaegiaaGreat
open Go Go.Hl

/-! ## the machine -/
abbrev mB (f : Fl) (t : Int) (a b c : Nat) : Ob := .box [.c (.sl 5 (encVs f.vars)), .c (.sl 6 (encHs f.hats)), .c (.sl 10 (encSs f.body)), .own a, .own b, .own c, .c (iC t)]
def mO (f : Fl) (hv : List Int) (s : Sta) : List (Nat × Ob) := [(900001, .row 3 1 (encIs s.vals)), (900002, .row 3 1 (encIs hv)), (900003, .row 3 1 (encIs s.outs)), (1000000, mB f s.time 900001 900002 900003)]
theorem mset_con (f : Fl) (hv : List Int) (s : Sta) (v n : Int) (w : Vr) (hvs : s.vals.length = f.vars.length) (hl : f.vars.length ≤ 1000000) (h0 : 0 ≤ v) (hw : f.vars[v.toNat]? = some w) (hr : w.low ≤ w.high) :
    ConS Tryz.prog 113 (mO f hv s) [.one (.at_ 1000000 0), li v, li n] (.tup []) (mO f hv ⟨setV f.vars s.vals v n, s.outs, s.time⟩) := by
  obtain ⟨vars, hats, body⟩ := f
  obtain ⟨vs, os, tm⟩ := s
  simp only at hvs hl hw
  have hlt : v.toNat < vars.length := (List.getElem?_eq_some_iff.1 hw).1
  obtain ⟨x, hx⟩ : ∃ x, vs[v.toNat]? = some x := ⟨vs[v.toNat]'(by omega), by simp⟩
  have ch := clamp_con n w.low w.high hr
  have hset : setV vars vs v n = vs.set v.toNat (heldI n w.low w.high) := by unfold setV; rw [hw]
  obtain ⟨nm, kd, lo, hi, ini⟩ := w
  simp only at ch hset
  obtain ⟨H, hH⟩ : ∃ x, heldI n lo hi = x := ⟨_, rfl⟩
  rw [hH] at ch hset
  have hes := encI_set vs v.toNat H
  simp only [mO, mB, hset]
  clear hlt hH hset hr
  refine con_s_of_HT Tryz.func113 rfl (by kernel_rfl) (Nat.le_of_ble_eq_true rfl) (pin_mk rfl) ?_
  simp only [Tryz.f113]
  refine (HT_druncH [(8, 1000000), (15, 1000000), (24, 1000000), (19, 2000000), (28, 2000000), (18, 2000000), (27, 2000000), (22, 2000000)] [⟨true, .v (li H), none⟩] (by kernel_rfl) (by kernel_rfl) (by rfl) (by simp [evcH, hokB, hintOf, *]; first | exact ⟨rfl, Iff.rfl⟩ | exact ⟨rfl, trivial⟩ | rfl) ?_ ?_)
  · first | exact ch _ | exact trivial | simpa [*] using ch _
  exact ⟨.inl rfl, HT_endS (by simp; rfl) (by simp [resR]) (by simp [*])⟩
end Go.Proofs.YteekbhkjfaegiaaGreat
