/- T14: contracts of functions of the program and of the reference, and plain facts about what they compute; used by the proof of the claimed statement. Conditions: as each theorem states. -/
import Derived.Test.YtfilidjbpomgoaaGreatT13
import Derived.Test.YtfilidjbpomgoaaGreatT3
import Derived.Test.YtfilidjbpomgoaaGreatT7
import Derived.Test.YtfilidjbpomgoaaGreatT11
import Derived.Test.YtfilidjbpomgoaaGreatHlZ
set_option linter.unusedSimpArgs false
set_option linter.unusedVariables false
set_option maxRecDepth 100000
set_option maxHeartbeats 2000000
namespace Go.Proofs.YtfilidjbpomgoaaGreat
open Go Go.Hl

@[simp] theorem encI_app (a b : List Int) : encIs (a ++ b) = encIs a ++ encIs b := by simp [encIs]
@[simp] theorem encI_one (x : Int) : encIs [x] = [[iC x]] := rfl
structure Inp where
  s : List Int
  p : List Int
  r : List Int
abbrev aI (i : Inp) : TV := .agg [.c (.sl 1 (encIs i.s)), .c (.sl 1 (encIs i.p)), .c (.sl 1 (encIs i.r))]
structure Pk where
  n : Int
  is_ : Bool
  a : Nat
  b : Nat
  c : Nat
def pick3 (v : Vr) (i : Inp) (a b c : Nat) : Pk :=
  if v.kind = 1 then ⟨(i.s[a]?).getD 0, decide (a < i.s.length), a + 1, b, c⟩
  else if v.kind = 2 then ⟨(i.p[b]?).getD 0, decide (b < i.p.length), a, b + 1, c⟩
  else if v.kind = 3 then ⟨(i.r[c]?).getD 0, decide (c < i.r.length), a, b, c + 1⟩
  else ⟨v.init, true, a, b, c⟩
def stL (i : Inp) : List Vr → Nat → Nat → Nat → List Int → Bool → List Int × Int
  | [], a, b, c, vals, fits => if a = i.s.length ∧ b = i.p.length ∧ c = i.r.length then (if fits = true then (vals, 0) else ([], 3)) else ([], 1)
  | v :: l, a, b, c, vals, fits =>
    if (pick3 v i a b c).is_ = true then stL i l (pick3 v i a b c).a (pick3 v i a b c).b (pick3 v i a b c).c (vals ++ [(pick3 v i a b c).n]) (fits && (decide (v.low ≤ (pick3 v i a b c).n) && decide ((pick3 v i a b c).n ≤ v.high)))
    else ([], 1)
theorem start_con (vars : List Vr) (i : Inp) (hl : vars.length ≤ 1000000) (d : Nat) : Con Tryz.prog 79 false [lV vars, aI i] (.tup [lI (stL i vars 0 0 0 [] true).1, li (stL i vars 0 0 0 [] true).2]) none d := by
  obtain ⟨res, hres⟩ : ∃ r, stL i vars 0 0 0 [] true = r := ⟨_, rfl⟩
  rw [hres]
  obtain ⟨is, ip, ir⟩ := i
  refine con_of_HT Tryz.func79 rfl (by kernel_rfl) (Nat.le_of_ble_eq_true rfl) ?_
  simp only [Tryz.f79]
  simp only [aI]
  refine HT_seq <| (HT_run (by simp [*]; rfl) ?_)
  refine HT_seq <| (HT_run (by simp [*]; rfl) ?_)
  refine HT_seq <| (HT_run (by simp [*]; rfl) ?_)
  refine HT_seq <| (HT_run (by simp [*]; rfl) ?_)
  refine HT_seq <| HT_seq <| (HT_run (by simp [*]; rfl) ?_)
  refine HT_block <| (HT_loopU [0, 3] (fun (x : Nat × Nat × Nat × Nat × List Int × Bool) => [(6, .v (li x.2.1)), (7, .v (li x.2.2.1)), (8, .v (li x.2.2.2.1)), (9, .v (.one (.own 1009))), (10, .v (lb x.2.2.2.2.2)), (11, .v (li x.1))]) (fun (x : Nat × Nat × Nat × Nat × List Int × Bool) => [(3, .box [.c (.sl 1 (encIs is)), .c (.sl 1 (encIs ip)), .c (.sl 1 (encIs ir))]), (1009, .row 3 1 (encIs x.2.2.2.2.1))]) (fun (x : Nat × Nat × Nat × Nat × List Int × Bool) => x.1 ≤ vars.length ∧ stL ⟨is, ip, ir⟩ (vars.drop x.1) x.2.1 x.2.2.1 x.2.2.2.1 x.2.2.2.2.1 x.2.2.2.2.2 = res ∧ x.2.2.2.2.1.length = x.1 ∧ x.2.1 ≤ x.1 ∧ x.2.2.1 ≤ x.1 ∧ x.2.2.2.1 ≤ x.1) (fun (x : Nat × Nat × Nat × Nat × List Int × Bool) => vars.length - x.1) (0, 0, 0, 0, [], true) ⟨Nat.zero_le _, hres, rfl, Nat.le_refl _, Nat.le_refl _, Nat.le_refl _⟩ ?_ ?_)
  · exact le_mk (fun n => if n = 1009 then 15 else n) [] rfl (by simp [*, upS, keepS]) (by simp [*, upS]) (by simp [upS])
  rintro ⟨k, a, b, c, vals, fits⟩ ⟨hk, hJ, hvl, ha, hb, hc⟩
  simp only [upS, keepS, insS]
  try simp only [keepS, List.contains_cons, List.contains_nil, Bool.or_false, Bool.or_true, Bool.true_or, Bool.false_or, Nat.reduceBEq, BEq.rfl, beq_self_eq_true, if_true, if_false, Bool.false_eq_true, ite_true, ite_false, ins, Nat.reduceLT]
  simp only at hk hJ hvl ha hb hc
  clear hres
  refine HT_seq <| HT_seq <| (HT_run (by simp [*]; rfl) ?_)
  refine (HT_cond rfl (fun h7 => HT_skip ?_) (fun h7 => ?_))
  · try simp only [Bool.or_eq_true, Bool.and_eq_true, Bool.or_eq_false_iff, Bool.and_eq_false_iff, Bool.not_eq_true', Bool.not_eq_false', decide_eq_true_eq, decide_eq_false_iff_not] at h7
    have hlt : k < vars.length := by omega
    obtain ⟨v, he, hd⟩ := at_lt hlt
    have hw1 := wrap1 hlt (by omega)
    have hwa : IntKind.i64.wrap ((a : Int) + 1) = (a : Int) + 1 := wrap_in (by omega) (by omega)
    have hwb : IntKind.i64.wrap ((b : Int) + 1) = (b : Int) + 1 := wrap_in (by omega) (by omega)
    have hwc : IntKind.i64.wrap ((c : Int) + 1) = (c : Int) + 1 := wrap_in (by omega) (by omega)
    have hk1 : k + 1 ≤ vars.length := hlt
    have hroom : room (k + 1) 8 := room_of (by omega) (by omega)
    rw [hd] at hJ
    simp only [stL] at hJ
    obtain ⟨nm, kd, lo, hi, ini⟩ := v
    obtain ⟨Q, hQ⟩ : ∃ q, pick3 ⟨nm, kd, lo, hi, ini⟩ ⟨is, ip, ir⟩ a b c = q := ⟨_, rfl⟩
    rw [hQ] at hJ
    unfold pick3 at hQ
    simp only at hQ
    clear hlt h7 hd
    refine HT_seq <| HT_block <| HT_seq <| (HT_run (by simp [*]; rfl) ?_)
    refine HT_seq <| (HT_run (by simp [*]; rfl) ?_)
    refine (HT_cutU [0, 3, 9, 10, 11, 12] (fun (z : Pk) => [(6, .v (li z.a)), (7, .v (li z.b)), (8, .v (li z.c)), (13, .v (li z.n)), (14, .v (lb z.is_))]) (fun (z : Pk) => [(3, .box [.c (.sl 1 (encIs is)), .c (.sl 1 (encIs ip)), .c (.sl 1 (encIs ir))]), (12, .box [.c (sC nm), .c (iC kd), .c (iC lo), .c (iC hi), .c (iC ini)]), (1009, .row 3 1 (encIs vals))]) (fun (z : Pk) => z = Q ∧ z.a ≤ k + 1 ∧ z.b ≤ k + 1 ∧ z.c ≤ k + 1) ?_ ?_)
    ·
      refine HT_seq <| (HT_run (by simp [*]; rfl) ?_)
      refine HT_block <| HT_seq <| (HT_run (by simp [*]; rfl) ?_)
      refine (HT_cond rfl (fun h13 => ?_) (fun h13 => ?_))
      · try simp only [Bool.or_eq_true, Bool.and_eq_true, Bool.or_eq_false_iff, Bool.and_eq_false_iff, Bool.not_eq_true', Bool.not_eq_false', decide_eq_true_eq, decide_eq_false_iff_not] at h13
        rw [if_pos h13] at hQ
        refine HT_seq <| (HT_runc [⟨true, .tup [li ((is[a]?).getD 0), lb (decide (a < is.length))], none⟩] (by simp [*]; first | exact ⟨rfl, Iff.rfl⟩ | exact ⟨rfl, trivial⟩ | rfl) ?_ ?_)
        · first | exact at_con _ _ _ | exact trivial | simpa [*] using at_con _ _ _
        refine (HT_run (by simp [*]; rfl) ?_)
        exact ⟨⟨(is[a]?).getD 0, decide (a < is.length), a + 1, b, c⟩, ⟨hQ, by simp only; omega, by simp only; omega, by simp only; omega⟩, le_mk (fun n => n) [] rfl (by simp [upS, keepS, *]) (by simp [*, upS]) (by simp [upS])⟩
      · try simp only [Bool.or_eq_true, Bool.and_eq_true, Bool.or_eq_false_iff, Bool.and_eq_false_iff, Bool.not_eq_true', Bool.not_eq_false', decide_eq_true_eq, decide_eq_false_iff_not] at h13
        rw [if_neg h13] at hQ
        refine HT_seq <| (HT_run (by simp [*]; rfl) ?_)
        refine (HT_cond rfl (fun h18 => ?_) (fun h18 => ?_))
        · try simp only [Bool.or_eq_true, Bool.and_eq_true, Bool.or_eq_false_iff, Bool.and_eq_false_iff, Bool.not_eq_true', Bool.not_eq_false', decide_eq_true_eq, decide_eq_false_iff_not] at h18
          rw [if_pos h18] at hQ
          refine HT_seq <| (HT_runc [⟨true, .tup [li ((ip[b]?).getD 0), lb (decide (b < ip.length))], none⟩] (by simp [*]; first | exact ⟨rfl, Iff.rfl⟩ | exact ⟨rfl, trivial⟩ | rfl) ?_ ?_)
          · first | exact at_con _ _ _ | exact trivial | simpa [*] using at_con _ _ _
          refine (HT_run (by simp [*]; rfl) ?_)
          exact ⟨⟨(ip[b]?).getD 0, decide (b < ip.length), a, b + 1, c⟩, ⟨hQ, by simp only; omega, by simp only; omega, by simp only; omega⟩, le_mk (fun n => n) [] rfl (by simp [upS, keepS, *]) (by simp [*, upS]) (by simp [upS])⟩
        · try simp only [Bool.or_eq_true, Bool.and_eq_true, Bool.or_eq_false_iff, Bool.and_eq_false_iff, Bool.not_eq_true', Bool.not_eq_false', decide_eq_true_eq, decide_eq_false_iff_not] at h18
          rw [if_neg h18] at hQ
          refine HT_seq <| (HT_run (by simp [*]; rfl) ?_)
          refine (HT_cond rfl (fun h23 => ?_) (fun h23 => HT_skip ?_))
          · try simp only [Bool.or_eq_true, Bool.and_eq_true, Bool.or_eq_false_iff, Bool.and_eq_false_iff, Bool.not_eq_true', Bool.not_eq_false', decide_eq_true_eq, decide_eq_false_iff_not] at h23
            rw [if_pos h23] at hQ
            refine HT_seq <| (HT_runc [⟨true, .tup [li ((ir[c]?).getD 0), lb (decide (c < ir.length))], none⟩] (by simp [*]; first | exact ⟨rfl, Iff.rfl⟩ | exact ⟨rfl, trivial⟩ | rfl) ?_ ?_)
            · first | exact at_con _ _ _ | exact trivial | simpa [*] using at_con _ _ _
            refine (HT_run (by simp [*]; rfl) ?_)
            exact ⟨⟨(ir[c]?).getD 0, decide (c < ir.length), a, b, c + 1⟩, ⟨hQ, by simp only; omega, by simp only; omega, by simp only; omega⟩, le_mk (fun n => n) [] rfl (by simp [upS, keepS, *]) (by simp [*, upS]) (by simp [upS])⟩
          · try simp only [Bool.or_eq_true, Bool.and_eq_true, Bool.or_eq_false_iff, Bool.and_eq_false_iff, Bool.not_eq_true', Bool.not_eq_false', decide_eq_true_eq, decide_eq_false_iff_not] at h23
            rw [if_neg h23] at hQ
            exact ⟨⟨ini, true, a, b, c⟩, ⟨hQ, by simp only; omega, by simp only; omega, by simp only; omega⟩, le_mk (fun n => n) [] rfl (by simp [upS, keepS, *]) (by simp [*, upS]) (by simp [upS])⟩
    rintro ⟨zn, zi, za, zb, zc⟩ ⟨hz, h1, h2, h3⟩
    simp only [upS, keepS, insS]
    try simp only [keepS, List.contains_cons, List.contains_nil, Bool.or_false, Bool.or_true, Bool.true_or, Bool.false_or, Nat.reduceBEq, BEq.rfl, beq_self_eq_true, if_true, if_false, Bool.false_eq_true, ite_true, ite_false, ins, Nat.reduceLT]
    clear hQ
    subst hz
    simp only at h1 h2 h3 hJ
    refine HT_seq <| HT_seq <| (HT_run (by simp [*]; rfl) ?_)
    refine (HT_cond rfl (fun h29 => ?_) (fun h29 => HT_skip ?_))
    · try simp only [Bool.or_eq_true, Bool.and_eq_true, Bool.or_eq_false_iff, Bool.and_eq_false_iff, Bool.not_eq_true', Bool.not_eq_false', decide_eq_true_eq, decide_eq_false_iff_not] at h29
      rw [if_neg (by simp [h29])] at hJ
      subst hJ
      refine HT_seq <| (HT_run (by simp [*]; rfl) ?_)
      exact HT_ret ⟨.inr rfl, _, le_one 4 1 rfl, ⟨⟨_, by simp; rfl, by simp [resR]⟩, by simp, fun h => by cases h⟩⟩
    · try simp only [Bool.or_eq_true, Bool.and_eq_true, Bool.or_eq_false_iff, Bool.and_eq_false_iff, Bool.not_eq_true', Bool.not_eq_false', decide_eq_true_eq, decide_eq_false_iff_not] at h29
      rw [if_pos (by simpa using h29)] at hJ
      refine HT_seq <| HT_seq <| (HT_run (by simp [*]; rfl) ?_)
      refine (HT_cond rfl (fun h33 => ?_) (fun h33 => HT_skip ?_))
      · try simp only [Bool.or_eq_true, Bool.and_eq_true, Bool.or_eq_false_iff, Bool.and_eq_false_iff, Bool.not_eq_true', Bool.not_eq_false', decide_eq_true_eq, decide_eq_false_iff_not] at h33
        have hz : (decide (lo ≤ zn) && decide (zn ≤ hi)) = false := by
          simp only [Bool.and_eq_false_iff, decide_eq_false_iff_not]
          omega
        rw [hz, Bool.and_false] at hJ
        refine (HT_run (by simp [*]; rfl) ?_)
        refine (HT_run (by simp [*]; rfl) ?_)
        refine (HT_run (by simp [*]; rfl) ?_)
        exact ⟨(k + 1, za, zb, zc, vals ++ [zn], false), ⟨hk1, hJ, by simp [hvl], h1, h2, h3⟩, by simp only; omega, le_mk (fun n => if n = 1009 then 78 else n) [] rfl (by simp [upS, keepS, *]) (by simp [*, upS]) (by simp [upS])⟩
      · try simp only [Bool.or_eq_true, Bool.and_eq_true, Bool.or_eq_false_iff, Bool.and_eq_false_iff, Bool.not_eq_true', Bool.not_eq_false', decide_eq_true_eq, decide_eq_false_iff_not] at h33
        have hz : (decide (lo ≤ zn) && decide (zn ≤ hi)) = true := by
          simp only [Bool.and_eq_true, decide_eq_true_eq]
          omega
        rw [hz, Bool.and_true] at hJ
        refine (HT_run (by simp [*]; rfl) ?_)
        refine (HT_run (by simp [*]; rfl) ?_)
        exact ⟨(k + 1, za, zb, zc, vals ++ [zn], fits), ⟨hk1, hJ, by simp [hvl], h1, h2, h3⟩, by simp only; omega, le_mk (fun n => if n = 1009 then 78 else n) [] rfl (by simp [upS, keepS, *]) (by simp [*, upS]) (by simp [upS])⟩
  · try simp only [Bool.or_eq_true, Bool.and_eq_true, Bool.or_eq_false_iff, Bool.and_eq_false_iff, Bool.not_eq_true', Bool.not_eq_false', decide_eq_true_eq, decide_eq_false_iff_not] at h7
    have hkl : k = vars.length := by omega
    rw [hkl, List.drop_length] at hJ
    simp only [stL] at hJ
    refine (HT_exit ?_)
    refine HT_seq <| HT_seq <| (HT_run (by simp [*]; rfl) ?_)
    refine (HT_cond rfl (fun h42 => ?_) (fun h42 => HT_skip ?_))
    · try simp only [Bool.or_eq_true, Bool.and_eq_true, Bool.or_eq_false_iff, Bool.and_eq_false_iff, Bool.not_eq_true', Bool.not_eq_false', decide_eq_true_eq, decide_eq_false_iff_not] at h42
      rw [if_neg (by omega)] at hJ
      subst hJ
      refine HT_seq <| (HT_run (by simp [*]; rfl) ?_)
      exact HT_ret ⟨.inr rfl, _, le_one 4 1 rfl, ⟨⟨_, by simp; rfl, by simp [resR]⟩, by simp, fun h => by cases h⟩⟩
    · try simp only [Bool.or_eq_true, Bool.and_eq_true, Bool.or_eq_false_iff, Bool.and_eq_false_iff, Bool.not_eq_true', Bool.not_eq_false', decide_eq_true_eq, decide_eq_false_iff_not] at h42
      rw [if_pos (by omega)] at hJ
      refine HT_seq <| HT_seq <| (HT_run (by simp [*]; rfl) ?_)
      refine (HT_cond rfl (fun h46 => ?_) (fun h46 => HT_skip ?_))
      · try simp only [Bool.or_eq_true, Bool.and_eq_true, Bool.or_eq_false_iff, Bool.and_eq_false_iff, Bool.not_eq_true', Bool.not_eq_false', decide_eq_true_eq, decide_eq_false_iff_not] at h46
        rw [if_neg (by simp [h46])] at hJ
        subst hJ
        refine HT_seq <| (HT_run (by simp [*]; rfl) ?_)
        exact HT_ret ⟨.inr rfl, _, le_one 4 1 rfl, ⟨⟨_, by simp; rfl, by simp [resR]⟩, by simp, fun h => by cases h⟩⟩
      · try simp only [Bool.or_eq_true, Bool.and_eq_true, Bool.or_eq_false_iff, Bool.and_eq_false_iff, Bool.not_eq_true', Bool.not_eq_false', decide_eq_true_eq, decide_eq_false_iff_not] at h46
        rw [if_pos (by simpa using h46)] at hJ
        subst hJ
        refine HT_seq <| (HT_run (by simp [*]; rfl) ?_)
        exact HT_ret ⟨.inr rfl, _, le_frz 1009 rfl, ⟨⟨_, by simp; rfl, by simp [resR]⟩, by simp, fun h => by cases h⟩⟩
end Go.Proofs.YtfilidjbpomgoaaGreat

namespace Go.Proofs.YtfilidjbpomgoaaGreat
open Go Go.Hl

structure Sta where
  vals : List Int
  outs : List Int
  time : Int
abbrev aSt (s : Sta) : TV := .agg [.c (.sl 1 (encIs s.vals)), .c (.sl 1 (encIs s.outs)), .c (iC s.time)]
def tick (s : Sta) (c : Int) : Sta := ⟨s.vals, s.outs, wr (s.time + c)⟩
def rndF (c : Int) (t : Tm) (body : Sta → Sta) : Nat → Sta → Sta
  | 0, s => s
  | k + 1, s => if vT s.vals t = 0 then tick s c else rndF c t body k (body (tick s c))
def setV (vars : List Vr) (vs : List Int) (v n : Int) : List Int :=
  match vars[v.toNat]? with
  | some w => vs.set v.toNat (heldI n w.low w.high)
  | none => vs
def leafF (vars : List Vr) (hv : List Int) (d v n : Int) (t : Tm) (bs : List Int) (s : Sta) : Sta :=
  if d = 0 then ⟨setV vars s.vals v (vT s.vals t), s.outs, s.time⟩
  else if d = 1 then ⟨s.vals, s.outs ++ [vT s.vals t], s.time⟩
  else if d = 5 then ⟨setV vars s.vals v ((hv[n.toNat]?).getD 0), s.outs, s.time⟩
  else if d = 6 then ⟨s.vals, s.outs, stlL bs s.time s.time false⟩ else s
def stepsF (vars : List Vr) (hv : List Int) : List St → Sta → Sta
  | [] => fun s => s
  | .mk d c v n t a b bs :: l => fun s =>
    stepsF vars hv l (if d = 4 then rndF c t (stepsF vars hv a) n.toNat s
      else if d = 3 then (if vT s.vals t = 0 then stepsF vars hv b (tick s c) else stepsF vars hv a (tick s c))
      else leafF vars hv d v n t bs (tick s c))
mutual
def wfS (vars : List Vr) (nh : Nat) : St → Bool
  | .mk d _ v n t a b bs => formB vars false t && ((decide (d ≠ 0 ∧ d ≠ 5) || localB vars v) && ((decide (d ≠ 5) || (decide (0 ≤ n) && decide (n < nh))) && ((decide (d ≠ 4) || decide (n ≤ 4096)) && (decide (bs.length ≤ 1000000000) && (wfL vars nh a && wfL vars nh b)))))
def wfL (vars : List Vr) (nh : Nat) : List St → Bool
  | [] => true
  | s :: l => wfS vars nh s && wfL vars nh l
end
mutual
def oUS : St → Nat
  | .mk d _ _ n _ a b _ => if d = 4 then n.toNat * oUL a else if d = 3 then max (oUL a) (oUL b) else if d = 1 then 1 else 0
def oUL : List St → Nat
  | [] => 0
  | s :: l => oUS s + oUL l
end
theorem setV_len (vars : List Vr) (vs : List Int) (v n : Int) : (setV vars vs v n).length = vs.length := by
  unfold setV
  split <;> simp
theorem leaf_len (vars : List Vr) (hv : List Int) (d v n : Int) (t : Tm) (bs : List Int) (s : Sta) : (leafF vars hv d v n t bs s).vals.length = s.vals.length ∧ (leafF vars hv d v n t bs s).outs.length ≤ s.outs.length + (if d = 1 then 1 else 0) := by
  unfold leafF
  split
  · rename_i h; subst h; simp [setV_len]
  · split
    · rename_i h; subst h; simp
    · split
      · simp [setV_len]
      · split <;> simp
theorem rnd_len {c : Int} {t : Tm} {body : Sta → Sta} {O : Nat} (hb : ∀ s, (body s).vals.length = s.vals.length ∧ (body s).outs.length ≤ s.outs.length + O) : ∀ (k : Nat) (s : Sta), (rndF c t body k s).vals.length = s.vals.length ∧ (rndF c t body k s).outs.length ≤ s.outs.length + k * O
  | 0, s => by simp [rndF]
  | k + 1, s => by
    simp only [rndF]
    split
    · simp [tick]
    · have h1 := rnd_len (c := c) (t := t) hb k (body (tick s c))
      have h2 := hb (tick s c)
      simp only [tick] at h2 ⊢
      rw [Nat.succ_mul]
      simp only [tick] at h1
      omega
theorem steps_len (vars : List Vr) (hv : List Int) : ∀ (l : List St) (s : Sta), (stepsF vars hv l s).vals.length = s.vals.length ∧ (stepsF vars hv l s).outs.length ≤ s.outs.length + oUL l
  | [], s => by simp [stepsF]
  | .mk d c v n t a b bs :: l, s => by
    simp only [stepsF, oUL, oUS]
    have ha := steps_len vars hv a
    have hb := steps_len vars hv b
    by_cases h4 : d = 4
    · rw [if_pos h4, if_pos h4]
      have h1 := rnd_len (c := c) (t := t) ha n.toNat s
      have h2 := steps_len vars hv l (rndF c t (stepsF vars hv a) n.toNat s)
      omega
    · rw [if_neg h4, if_neg h4]
      by_cases h3 : d = 3
      · rw [if_pos h3, if_pos h3]
        have h1 := ha (tick s c)
        have h2 := hb (tick s c)
        have e : (tick s c).vals.length = s.vals.length ∧ (tick s c).outs.length = s.outs.length := ⟨rfl, rfl⟩
        split
        · have h5 := steps_len vars hv l (stepsF vars hv b (tick s c)); omega
        · have h5 := steps_len vars hv l (stepsF vars hv a (tick s c)); omega
      · rw [if_neg h3, if_neg h3]
        have h1 := leaf_len vars hv d v n t bs (tick s c)
        have h5 := steps_len vars hv l (leafF vars hv d v n t bs (tick s c))
        have e : (tick s c).vals.length = s.vals.length ∧ (tick s c).outs.length = s.outs.length := ⟨rfl, rfl⟩
        omega
theorem wfL_mem {vars : List Vr} {nh : Nat} {l : List St} (h : wfL vars nh l = true) {s : St} (hs : s ∈ l) : wfS vars nh s = true := by
  induction l with
  | nil => cases hs
  | cons x l ih =>
    simp only [wfL, Bool.and_eq_true] at h
    rcases List.mem_cons.1 hs with rfl | h1
    · exact h.1
    · exact ih h.2 h1

theorem rounds_con (f : Fl) (hv : List Int) (d0 c v n : Int) (t : Tm) (a b : List St) (bs : List Int) (hf : formB f.vars false t = true) (hn : n ≤ 4096)
    (hst : ∀ s : Sta, s.vals.length = f.vars.length → s.outs.length + oUL a ≤ 2000000 → ∀ d : Nat, Con Tryz.prog 80 false [aF f, lI hv, lS a, aSt s] (.v (aSt (stepsF f.vars hv a s))) none d)
    (s : Sta) (hs : s.vals.length = f.vars.length) (ho : s.outs.length + n.toNat * oUL a ≤ 2000000) (d : Nat) :
    Con Tryz.prog 102 false [aF f, lI hv, aS (.mk d0 c v n t a b bs), aSt s] (.v (aSt (rndF c t (stepsF f.vars hv a) n.toNat s))) none d := by
  obtain ⟨vars, hats, body⟩ := f
  simp only at hf hst hs
  have hlen := steps_len vars hv a
  obtain ⟨B, hB⟩ : ∃ x, stepsF vars hv a = x := ⟨_, rfl⟩
  simp only [hB] at hst hlen ⊢
  obtain ⟨O, hO⟩ : ∃ x, oUL a = x := ⟨_, rfl⟩
  rw [hO] at ho
  simp only [hO] at hst hlen
  obtain ⟨res, hres⟩ : ∃ r, rndF c t B n.toNat s = r := ⟨_, rfl⟩
  rw [hres]
  have cval := fun (vs : List Int) (h : vs.length = vars.length) => value_con vars false vs h t hf
  obtain ⟨to, tn, tk⟩ := t
  obtain ⟨sv, so, stm⟩ := s
  clear hB hO hf
  refine con_of_HT Tryz.func102 rfl (by kernel_rfl) (Nat.le_of_ble_eq_true rfl) ?_
  simp only [Tryz.f102]
  simp only [aF, Fl.enc, aS, St.enc, Tm.enc, aSt, aT, List.map_cons, List.map_nil, List.cons_append, List.nil_append] at hst cval ⊢
  refine HT_seq <| (HT_run (by simp [*]; rfl) ?_)
  refine HT_seq <| HT_seq <| (HT_run (by simp [*]; rfl) ?_)
  refine HT_block <| (HT_loopU [1, 4, 6, 7, 8] (fun (x : Nat × Sta) => [(9, .v (li x.1))]) (fun (x : Nat × Sta) => [(4, .box [.c (.sl 5 (encVs vars)), .c (.sl 6 (encHs hats)), .c (.sl 10 (encSs body))]), (6, .box [.c (iC d0), .c (iC c), .c (iC v), .c (iC n), .c (iC to), .c (iC tn), .c (.sl 3 (encTs tk)), .c (.sl 10 (encSs a)), .c (.sl 10 (encSs b)), .c (.sl 1 (encIs bs))]), (7, .box [.c (.sl 1 (encIs x.2.vals)), .c (.sl 1 (encIs x.2.outs)), .c (iC x.2.time)]), (8, .box [.c (.lit nilS), .c (.lit nilS), .c (iC 0)])]) (fun (x : Nat × Sta) => x.1 ≤ n.toNat ∧ rndF c (.mk to tn tk) B (n.toNat - x.1) x.2 = res ∧ x.2.vals.length = vars.length ∧ x.2.outs.length + (n.toNat - x.1) * O ≤ 2000000) (fun (x : Nat × Sta) => n.toNat - x.1) (0, ⟨sv, so, stm⟩) ⟨Nat.zero_le _, hres, hs, ho⟩ ?_ ?_)
  · exact le_mk (fun n => n) [] rfl (by simp [*, upS, keepS]) (by simp [*, upS]) (by simp [upS])
  rintro ⟨k, ⟨xv, xo, xt⟩⟩ ⟨hk, hJ, hxl, hxo⟩
  simp only [upS, keepS, insS]
  try simp only [keepS, List.contains_cons, List.contains_nil, Bool.or_false, Bool.or_true, Bool.true_or, Bool.false_or, Nat.reduceBEq, BEq.rfl, beq_self_eq_true, if_true, if_false, Bool.false_eq_true, ite_true, ite_false, ins, Nat.reduceLT]
  simp only at hk hJ hxl hxo
  clear hres hs ho
  refine HT_seq <| HT_seq <| (HT_run (by simp [*]; rfl) ?_)
  refine (HT_cond rfl (fun h4 => HT_skip ?_) (fun h4 => ?_))
  · try simp only [Bool.or_eq_true, Bool.and_eq_true, Bool.or_eq_false_iff, Bool.and_eq_false_iff, Bool.not_eq_true', Bool.not_eq_false', decide_eq_true_eq, decide_eq_false_iff_not] at h4
    have hm : n.toNat - k = (n.toNat - (k + 1)) + 1 := by omega
    have hk1 : k + 1 ≤ n.toNat := by omega
    have hw1 : IntKind.i64.wrap ((k : Int) + 1) = (k : Int) + 1 := wrap_in (by omega) (by omega)
    rw [hm] at hJ hxo
    rw [Nat.succ_mul] at hxo
    simp only [rndF, tick, wr] at hJ
    obtain ⟨T, hT⟩ : ∃ x, IntKind.i64.wrap (xt + c) = x := ⟨_, rfl⟩
    rw [hT] at hJ
    have cv := cval xv hxl
    have cs := hst ⟨xv, xo, T⟩ hxl (by simp only; omega)
    have hbl := hlen ⟨xv, xo, T⟩
    obtain ⟨A, hA⟩ : ∃ x, vT xv (.mk to tn tk) = x := ⟨_, rfl⟩
    rw [hA] at cv hJ
    obtain ⟨⟨bv, bo, bt⟩, hBs⟩ : ∃ x, B ⟨xv, xo, T⟩ = x := ⟨_, rfl⟩
    rw [hBs] at cs hbl hJ
    simp only at cs hbl
    clear h4 hst cval hlen hm hA hBs
    refine HT_seq <| HT_block <| HT_seq <| (HT_run (by simp [*]; rfl) ?_)
    refine HT_seq <| HT_seq <| (HT_runc [⟨true, .v (li A), none⟩] (by simp [*]; first | exact ⟨rfl, Iff.rfl⟩ | exact ⟨rfl, trivial⟩ | rfl) ?_ ?_)
    · first | exact cv _ | exact trivial | simpa [*] using cv _
    refine (HT_cond rfl (fun h7 => ?_) (fun h7 => HT_skip ?_))
    · try simp only [Bool.or_eq_true, Bool.and_eq_true, Bool.or_eq_false_iff, Bool.and_eq_false_iff, Bool.not_eq_true', Bool.not_eq_false', decide_eq_true_eq, decide_eq_false_iff_not] at h7
      rw [if_pos h7] at hJ
      subst hJ
      refine HT_seq <| (HT_run (by simp [*]; rfl) ?_)
      exact HT_ret ⟨.inr rfl, _, le_refl _, ⟨⟨_, by simp; rfl, by simp [resR]⟩, by simp, fun h => by cases h⟩⟩
    · try simp only [Bool.or_eq_true, Bool.and_eq_true, Bool.or_eq_false_iff, Bool.and_eq_false_iff, Bool.not_eq_true', Bool.not_eq_false', decide_eq_true_eq, decide_eq_false_iff_not] at h7
      rw [if_neg h7] at hJ
      refine (HT_runc [⟨false, .v (.agg [.c (.sl 1 (encIs bv)), .c (.sl 1 (encIs bo)), .c (iC bt)]), none⟩] (by simp [*]; first | exact ⟨rfl, Iff.rfl⟩ | exact ⟨rfl, trivial⟩ | rfl) ?_ ?_)
      · first | exact cs _ | exact trivial | simpa [*] using cs _
      refine (HT_run (by simp [*]; rfl) ?_)
      exact ⟨(k + 1, ⟨bv, bo, bt⟩), ⟨hk1, hJ, by simp only; omega, by simp only; omega⟩, by simp only; omega, le_mk (fun n => n) [] rfl (by simp [upS, keepS, *]) (by simp [*, upS]) (by simp [upS])⟩
  · try simp only [Bool.or_eq_true, Bool.and_eq_true, Bool.or_eq_false_iff, Bool.and_eq_false_iff, Bool.not_eq_true', Bool.not_eq_false', decide_eq_true_eq, decide_eq_false_iff_not] at h4
    have hkl : n.toNat - k = 0 := by omega
    rw [hkl] at hJ
    simp only [rndF] at hJ
    subst hJ
    refine (HT_exit ?_)
    refine HT_seq <| (HT_run (by simp [*]; rfl) ?_)
    exact HT_ret ⟨.inr rfl, _, le_refl _, ⟨⟨_, by simp; rfl, by simp [resR]⟩, by simp, fun h => by cases h⟩⟩
end Go.Proofs.YtfilidjbpomgoaaGreat

namespace Go.Proofs.YtfilidjbpomgoaaGreat
open Go Go.Hl

theorem local_get {vars : List Vr} {v : Int} (h : localB vars v = true) : 0 ≤ v ∧ ∃ w, vars[v.toNat]? = some w := by
  unfold localB at h
  simp only [Bool.and_eq_true, decide_eq_true_eq] at h
  refine ⟨h.1, ?_⟩
  have h2 := h.2
  split at h2
  · exact ⟨_, by assumption⟩
  · cases h2
theorem stepsRun_con (f : Fl) (hv : List Int) (hl : f.vars.length ≤ 1000000) (hhv : hv.length = f.hats.length) (l : List St) : nodesS l ≤ 1000000 → wfL f.vars f.hats.length l = true → ∀ s : Sta, s.vals.length = f.vars.length → s.outs.length + oUL l ≤ 2000000 → ∀ d : Nat,
    Con Tryz.prog 80 false [aF f, lI hv, lS l, aSt s] (.v (aSt (stepsF f.vars hv l s))) none d := by
  revert l
  apply St.lists
  intro l ih hn hwf s hs ho d
  have hlen := len_nodesS l
  have crnd := rounds_con f hv
  have cset := fun vs v n w h1 h2 h3 => set_con f vs v n w h1 hl h2 h3
  obtain ⟨res, hres⟩ : ∃ r, stepsF f.vars hv l s = r := ⟨_, rfl⟩
  rw [hres]
  have hval := fun (t : Tm) (vs : List Int) (h : vs.length = f.vars.length) (hf : formB f.vars false t = true) => value_con f.vars false vs h t hf
  obtain ⟨vars, hats, body⟩ := f
  simp only at hl hhv hwf hs ih crnd cset hres hval
  obtain ⟨sv, so, stm⟩ := s
  simp only at hs ho
  refine con_of_HT Tryz.func80 rfl (by kernel_rfl) (Nat.le_of_ble_eq_true rfl) ?_
  simp only [Tryz.f80]
  simp only [aF, Fl.enc, aSt, List.map_cons, List.map_nil]
  refine HT_seq <| (HT_run (by simp [*]; rfl) ?_)
  refine HT_seq <| HT_seq <| (HT_run (by simp [*]; rfl) ?_)
  refine HT_block <| (HT_loopU [1, 2, 4, 7, 8] (fun (x : Nat × Sta) => [(9, .v (li x.1))]) (fun (x : Nat × Sta) => [(4, .box [.c (.sl 5 (encVs vars)), .c (.sl 6 (encHs hats)), .c (.sl 10 (encSs body))]), (7, .box [.c (.sl 1 (encIs x.2.vals)), .c (.sl 1 (encIs x.2.outs)), .c (iC x.2.time)]), (8, .box [.c (.lit nilS), .c (.lit nilS), .c (iC 0)])]) (fun (x : Nat × Sta) => x.1 ≤ l.length ∧ stepsF vars hv (l.drop x.1) x.2 = res ∧ x.2.vals.length = vars.length ∧ x.2.outs.length + oUL (l.drop x.1) ≤ 2000000) (fun (x : Nat × Sta) => l.length - x.1) (0, ⟨sv, so, stm⟩) ⟨Nat.zero_le _, hres, hs, by simpa using ho⟩ ?_ ?_)
  · exact le_mk (fun n => n) [] rfl (by simp [*, upS, keepS]) (by simp [*, upS]) (by simp [upS])
  rintro ⟨k, ⟨xv, xo, xt⟩⟩ ⟨hk, hJ, hxl, hxo⟩
  simp only [upS, keepS, insS]
  try simp only [keepS, List.contains_cons, List.contains_nil, Bool.or_false, Bool.or_true, Bool.true_or, Bool.false_or, Nat.reduceBEq, BEq.rfl, beq_self_eq_true, if_true, if_false, Bool.false_eq_true, ite_true, ite_false, ins, Nat.reduceLT]
  simp only at hk hJ hxl hxo
  clear hres hs ho
  refine HT_seq <| HT_seq <| (HT_run (by simp [*]; rfl) ?_)
  refine (HT_cond rfl (fun h4 => HT_skip ?_) (fun h4 => ?_))
  · try simp only [Bool.or_eq_true, Bool.and_eq_true, Bool.or_eq_false_iff, Bool.and_eq_false_iff, Bool.not_eq_true', Bool.not_eq_false', decide_eq_true_eq, decide_eq_false_iff_not] at h4
    have hlt : k < l.length := by omega
    obtain ⟨s, he, hd⟩ := at_lt hlt
    have hw1 := wrap1 hlt (by omega)
    have hk1 : k + 1 ≤ l.length := hlt
    have hmem : s ∈ l := List.mem_of_getElem? he
    have hnm := nodesS_mem hmem
    have hwm := wfL_mem hwf hmem
    have iha := (ih s hmem).1 (by omega)
    have ihb := (ih s hmem).2 (by omega)
    have he' := get_encS he
    rw [hd] at hJ hxo
    obtain ⟨sd, sc, sv, sn, t, sa, sb, sbs⟩ := s
    simp only [St.then_, St.else_] at iha ihb
    simp only [wfS, Bool.and_eq_true, Bool.or_eq_true, decide_eq_true_eq] at hwm
    obtain ⟨wt, wl, wn, w4, wb, wa, wbb⟩ := hwm
    have iha := iha wa
    have ihb := ihb wbb
    simp only [oUL, oUS] at hxo
    simp only [stepsF] at hJ
    have hval := fun vs h => hval t vs h wt
    obtain ⟨so, stn, sks⟩ := t
    simp only [St.enc, Tm.enc, List.cons_append, List.nil_append] at he'
    simp only [aF, Fl.enc, aT, Tm.enc, aSt, List.map_cons, List.map_nil] at iha ihb hval cset
    have hla := steps_len vars hv sa
    have hlb := steps_len vars hv sb
    clear hlt h4 ih hmem hnm hd he
    refine HT_seq <| HT_block <| HT_seq <| (HT_run (by simp [*]; rfl) ?_)
    refine HT_seq <| HT_seq <| (HT_run (by simp [*]; rfl) ?_)
    refine (HT_cond rfl (fun h7 => ?_) (fun h7 => HT_skip ?_))
    · try simp only [Bool.or_eq_true, Bool.and_eq_true, Bool.or_eq_false_iff, Bool.and_eq_false_iff, Bool.not_eq_true', Bool.not_eq_false', decide_eq_true_eq, decide_eq_false_iff_not] at h7
      have hd4 : sd = 4 := by simpa using h7
      subst hd4
      rw [if_pos rfl] at hxo hJ
      have iha' := fun (s : Sta) (h1 : s.vals.length = vars.length) (h2 : s.outs.length + oUL sa ≤ 2000000) => iha s h1 h2
      have cr := crnd 4 sc sv sn (.mk so stn sks) sa sb sbs wt (by omega) iha' ⟨xv, xo, xt⟩ hxl (by simp only; omega)
      have hrl := rnd_len (c := sc) (t := .mk so stn sks) hla sn.toNat ⟨xv, xo, xt⟩
      simp only at hrl
      obtain ⟨⟨rv, ro, rt⟩, hR⟩ : ∃ x, rndF sc (.mk so stn sks) (stepsF vars hv sa) sn.toNat ⟨xv, xo, xt⟩ = x := ⟨_, rfl⟩
      rw [hR] at cr hrl hJ
      simp only at cr hrl
      simp only [aF, Fl.enc, aS, St.enc, Tm.enc, aSt, List.map_cons, List.map_nil, List.cons_append, List.nil_append] at cr
      clear iha ihb iha' hval cset crnd hla hlb hR
      refine HT_seq <| (HT_runc [⟨false, .v (.agg [.c (.sl 1 (encIs rv)), .c (.sl 1 (encIs ro)), .c (iC rt)]), none⟩] (by simp [*]; first | exact ⟨rfl, Iff.rfl⟩ | exact ⟨rfl, trivial⟩ | rfl) ?_ ?_)
      · first | exact cr _ | exact trivial | simpa [*] using cr _
      refine (HT_exit ?_)
      refine (HT_run (by simp [*]; rfl) ?_)
      exact ⟨(k + 1, ⟨rv, ro, rt⟩), ⟨hk1, hJ, by simp only; omega, by simp only; omega⟩, by simp only; omega, le_mk (fun n => n) [] rfl (by simp [upS, keepS, *]) (by simp [*, upS]) (by simp [upS])⟩
    · try simp only [Bool.or_eq_true, Bool.and_eq_true, Bool.or_eq_false_iff, Bool.and_eq_false_iff, Bool.not_eq_true', Bool.not_eq_false', decide_eq_true_eq, decide_eq_false_iff_not] at h7
      have hd4 : ¬ sd = 4 := by simpa using h7
      rw [if_neg hd4] at hxo hJ
      simp only [tick, wr] at hJ
      obtain ⟨T, hT⟩ : ∃ x, IntKind.i64.wrap (xt + sc) = x := ⟨_, rfl⟩
      rw [hT] at hJ
      have hval := hval xv hxl
      obtain ⟨A, hA⟩ : ∃ x, vT xv (.mk so stn sks) = x := ⟨_, rfl⟩
      unfold leafF at hJ
      simp only at hJ
      rw [hA] at hval hJ
      have hxo1 : xo.length ≤ 2000000 := by omega
      have hroom0 : room xo.length 8 := room_of (by omega) (by omega)
      have hroom1 : room (xo.length + 1) 8 := room_of (by omega) (by omega)
      have hroom2 : room 1 8 := room_of (by decide) (by decide)
      clear h7 crnd hA
      refine HT_seq <| (HT_run (by simp [*]; rfl) ?_)
      refine HT_seq <| (HT_run (by simp [*]; rfl) ?_)
      refine HT_block <| HT_seq <| (HT_run (by simp [*]; rfl) ?_)
      refine (HT_cond rfl (fun h14 => ?_) (fun h14 => ?_))
      · try simp only [Bool.or_eq_true, Bool.and_eq_true, Bool.or_eq_false_iff, Bool.and_eq_false_iff, Bool.not_eq_true', Bool.not_eq_false', decide_eq_true_eq, decide_eq_false_iff_not] at h14
        have hd0 : sd = 0 := by simpa using h14
        subst hd0
        rw [if_neg (by decide), if_pos rfl] at hJ
        have wl := wl.resolve_left (by decide)
        obtain ⟨hv0, w, hw⟩ := local_get wl
        have cs := cset xv sv A w hxl hv0 hw
        have hsl := setV_len vars xv sv A
        unfold setV at hJ hsl
        rw [hw] at hJ hsl
        simp only at hJ hsl
        obtain ⟨R, hR⟩ : ∃ x, xv.set sv.toNat (heldI A w.low w.high) = x := ⟨_, rfl⟩
        rw [hR] at cs hJ hsl
        clear cset hR hw iha ihb hla hlb
        refine (HT_drunc [⟨true, .v (li A), none⟩, ⟨false, .v (lI R), none⟩] (by kernel_rfl) (by kernel_rfl) (by rfl) (by simp [*]; first | exact ⟨rfl, Iff.rfl⟩ | exact ⟨rfl, trivial⟩ | rfl) ?_ ?_)
        · first | exact ⟨hval _, cs _⟩ | exact trivial | (repeat' first | exact trivial | exact hval _ | exact cs _ | apply And.intro)
        refine (HT_run (by simp [*]; rfl) ?_)
        exact ⟨(k + 1, ⟨R, xo, T⟩), ⟨hk1, hJ, by simp only; omega, by simp only; omega⟩, by simp only; omega, le_mk (fun n => n) [] rfl (by simp [upS, keepS, *]) (by simp [*, upS]) (by simp [upS])⟩
      · try simp only [Bool.or_eq_true, Bool.and_eq_true, Bool.or_eq_false_iff, Bool.and_eq_false_iff, Bool.not_eq_true', Bool.not_eq_false', decide_eq_true_eq, decide_eq_false_iff_not] at h14
        have hd0 : ¬ sd = 0 := by simpa using h14
        rw [if_neg hd0] at hJ
        refine HT_seq <| (HT_run (by simp [*]; rfl) ?_)
        refine (HT_cond rfl (fun h19 => ?_) (fun h19 => ?_))
        · try simp only [Bool.or_eq_true, Bool.and_eq_true, Bool.or_eq_false_iff, Bool.and_eq_false_iff, Bool.not_eq_true', Bool.not_eq_false', decide_eq_true_eq, decide_eq_false_iff_not] at h19
          have hd1 : sd = 1 := by simpa using h19
          subst hd1
          rw [if_neg (by decide), if_pos rfl] at hJ
          rw [if_neg (by decide), if_pos rfl] at hxo
          clear cset iha ihb hla hlb
          refine (HT_druncH [(54, 7), (57, 7), (59, 10), (64, 7)] [⟨true, .v (li A), none⟩] (by kernel_rfl) (by kernel_rfl) (by rfl) (by simp [evcH, hokB, hintOf, *]; first | exact ⟨rfl, Iff.rfl⟩ | exact ⟨rfl, trivial⟩ | rfl) ?_ ?_)
          · first | exact hval _ | exact trivial | simpa [*] using hval _
          refine HT_le (le_frz 63 rfl) ?_
          refine (HT_run (by simp [*]; rfl) ?_)
          exact ⟨(k + 1, ⟨xv, xo ++ [A], T⟩), ⟨hk1, hJ, hxl, by simp only [List.length_append, List.length_singleton]; omega⟩, by simp only; omega, le_mk (fun n => n) [] rfl (by simp [upS, keepS, *]) (by simp [*, upS]) (by simp [upS])⟩
        · try simp only [Bool.or_eq_true, Bool.and_eq_true, Bool.or_eq_false_iff, Bool.and_eq_false_iff, Bool.not_eq_true', Bool.not_eq_false', decide_eq_true_eq, decide_eq_false_iff_not] at h19
          have hd1 : ¬ sd = 1 := by simpa using h19
          rw [if_neg hd1] at hJ
          refine HT_seq <| (HT_run (by simp [*]; rfl) ?_)
          refine (HT_cond rfl (fun h24 => ?_) (fun h24 => ?_))
          · try simp only [Bool.or_eq_true, Bool.and_eq_true, Bool.or_eq_false_iff, Bool.and_eq_false_iff, Bool.not_eq_true', Bool.not_eq_false', decide_eq_true_eq, decide_eq_false_iff_not] at h24
            have hd5 : sd = 5 := by simpa using h24
            subst hd5
            rw [if_neg (by decide), if_pos rfl] at hJ
            have wl := wl.resolve_left (by decide)
            have wn := wn.resolve_left (by decide)
            obtain ⟨hv0, w, hw⟩ := local_get wl
            have hnlt : sn.toNat < hv.length := by omega
            have hn0 : 0 ≤ sn := wn.1
            obtain ⟨y, hy⟩ := get_I hnlt
            rw [hy] at hJ
            simp only [Option.getD_some] at hJ
            have cs := cset xv sv y w hxl hv0 hw
            have hsl := setV_len vars xv sv y
            unfold setV at hJ hsl
            rw [hw] at hJ hsl
            simp only at hJ hsl
            obtain ⟨R, hR⟩ : ∃ x, xv.set sv.toNat (heldI y w.low w.high) = x := ⟨_, rfl⟩
            rw [hR] at cs hJ hsl
            clear cset hR hw hnlt hhv iha ihb hla hlb
            refine (HT_drunc [⟨false, .v (lI R), none⟩] (by kernel_rfl) (by kernel_rfl) (by rfl) (by simp [*]; first | exact ⟨rfl, Iff.rfl⟩ | exact ⟨rfl, trivial⟩ | rfl) ?_ ?_)
            · first | exact cs _ | exact trivial | simpa [*] using cs _
            refine (HT_run (by simp [*]; rfl) ?_)
            exact ⟨(k + 1, ⟨R, xo, T⟩), ⟨hk1, hJ, by simp only; omega, by simp only; omega⟩, by simp only; omega, le_mk (fun n => n) [] rfl (by simp [upS, keepS, *]) (by simp [*, upS]) (by simp [upS])⟩
          · try simp only [Bool.or_eq_true, Bool.and_eq_true, Bool.or_eq_false_iff, Bool.and_eq_false_iff, Bool.not_eq_true', Bool.not_eq_false', decide_eq_true_eq, decide_eq_false_iff_not] at h24
            have hd5 : ¬ sd = 5 := by simpa using h24
            rw [if_neg hd5] at hJ
            refine HT_seq <| (HT_run (by simp [*]; rfl) ?_)
            refine (HT_cond rfl (fun h29 => ?_) (fun h29 => ?_))
            · try simp only [Bool.or_eq_true, Bool.and_eq_true, Bool.or_eq_false_iff, Bool.and_eq_false_iff, Bool.not_eq_true', Bool.not_eq_false', decide_eq_true_eq, decide_eq_false_iff_not] at h29
              have hd3 : sd = 3 := by simpa using h29
              subst hd3
              rw [if_pos rfl] at hJ hxo
              have ca := iha ⟨xv, xo, T⟩ hxl (by simp only; omega)
              have cb := ihb ⟨xv, xo, T⟩ hxl (by simp only; omega)
              have hla := hla ⟨xv, xo, T⟩
              have hlb := hlb ⟨xv, xo, T⟩
              obtain ⟨⟨av, ao, at_⟩, hAA⟩ : ∃ x, stepsF vars hv sa ⟨xv, xo, T⟩ = x := ⟨_, rfl⟩
              obtain ⟨⟨bv, bo, bt⟩, hBB⟩ : ∃ x, stepsF vars hv sb ⟨xv, xo, T⟩ = x := ⟨_, rfl⟩
              rw [hAA] at ca hla hJ
              rw [hBB] at cb hlb hJ
              simp only at ca cb hla hlb
              clear iha ihb hAA hBB cset
              refine HT_seq <| (HT_runc [⟨true, .v (li A), none⟩] (by simp [*]; first | exact ⟨rfl, Iff.rfl⟩ | exact ⟨rfl, trivial⟩ | rfl) ?_ ?_)
              · first | exact hval _ | exact trivial | simpa [*] using hval _
              refine (HT_cond rfl (fun h31 => ?_) (fun h31 => ?_))
              · try simp only [Bool.or_eq_true, Bool.and_eq_true, Bool.or_eq_false_iff, Bool.and_eq_false_iff, Bool.not_eq_true', Bool.not_eq_false', decide_eq_true_eq, decide_eq_false_iff_not] at h31
                rw [if_neg (by simpa using h31)] at hJ
                refine (HT_runc [⟨false, .v (.agg [.c (.sl 1 (encIs av)), .c (.sl 1 (encIs ao)), .c (iC at_)]), none⟩] (by simp [*]; first | exact ⟨rfl, Iff.rfl⟩ | exact ⟨rfl, trivial⟩ | rfl) ?_ ?_)
                · first | exact ca _ | exact trivial | simpa [*] using ca _
                refine (HT_run (by simp [*]; rfl) ?_)
                exact ⟨(k + 1, ⟨av, ao, at_⟩), ⟨hk1, hJ, by simp only; omega, by simp only; omega⟩, by simp only; omega, le_mk (fun n => n) [] rfl (by simp [upS, keepS, *]) (by simp [*, upS]) (by simp [upS])⟩
              · try simp only [Bool.or_eq_true, Bool.and_eq_true, Bool.or_eq_false_iff, Bool.and_eq_false_iff, Bool.not_eq_true', Bool.not_eq_false', decide_eq_true_eq, decide_eq_false_iff_not] at h31
                rw [if_pos (by simpa using h31)] at hJ
                refine (HT_runc [⟨false, .v (.agg [.c (.sl 1 (encIs bv)), .c (.sl 1 (encIs bo)), .c (iC bt)]), none⟩] (by simp [*]; first | exact ⟨rfl, Iff.rfl⟩ | exact ⟨rfl, trivial⟩ | rfl) ?_ ?_)
                · first | exact cb _ | exact trivial | simpa [*] using cb _
                refine (HT_run (by simp [*]; rfl) ?_)
                exact ⟨(k + 1, ⟨bv, bo, bt⟩), ⟨hk1, hJ, by simp only; omega, by simp only; omega⟩, by simp only; omega, le_mk (fun n => n) [] rfl (by simp [upS, keepS, *]) (by simp [*, upS]) (by simp [upS])⟩
            · try simp only [Bool.or_eq_true, Bool.and_eq_true, Bool.or_eq_false_iff, Bool.and_eq_false_iff, Bool.not_eq_true', Bool.not_eq_false', decide_eq_true_eq, decide_eq_false_iff_not] at h29
              have hd3 : ¬ sd = 3 := by simpa using h29
              rw [if_neg hd3] at hJ
              clear iha ihb cset hla hlb
              refine HT_seq <| (HT_run (by simp [*]; rfl) ?_)
              refine (HT_cond rfl (fun h39 => ?_) (fun h39 => HT_skip ?_))
              · try simp only [Bool.or_eq_true, Bool.and_eq_true, Bool.or_eq_false_iff, Bool.and_eq_false_iff, Bool.not_eq_true', Bool.not_eq_false', decide_eq_true_eq, decide_eq_false_iff_not] at h39
                have hd6 : sd = 6 := by simpa using h39
                subst hd6
                rw [if_pos rfl] at hJ
                have cse := settled_con sbs T wb
                obtain ⟨R, hR⟩ : ∃ x, stlL sbs T T false = x := ⟨_, rfl⟩
                rw [hR] at cse hJ
                clear hR
                refine (HT_runc [⟨true, .v (li R), none⟩] (by simp [*]; first | exact ⟨rfl, Iff.rfl⟩ | exact ⟨rfl, trivial⟩ | rfl) ?_ ?_)
                · first | exact cse _ | exact trivial | simpa [*] using cse _
                refine (HT_run (by simp [*]; rfl) ?_)
                exact ⟨(k + 1, ⟨xv, xo, R⟩), ⟨hk1, hJ, hxl, by simp only; omega⟩, by simp only; omega, le_mk (fun n => n) [] rfl (by simp [upS, keepS, *]) (by simp [*, upS]) (by simp [upS])⟩
              · try simp only [Bool.or_eq_true, Bool.and_eq_true, Bool.or_eq_false_iff, Bool.and_eq_false_iff, Bool.not_eq_true', Bool.not_eq_false', decide_eq_true_eq, decide_eq_false_iff_not] at h39
                have hd6 : ¬ sd = 6 := by simpa using h39
                rw [if_neg hd6] at hJ
                refine (HT_run (by simp [*]; rfl) ?_)
                exact ⟨(k + 1, ⟨xv, xo, T⟩), ⟨hk1, hJ, hxl, by simp only; omega⟩, by simp only; omega, le_mk (fun n => n) [] rfl (by simp [upS, keepS, *]) (by simp [*, upS]) (by simp [upS])⟩
  · try simp only [Bool.or_eq_true, Bool.and_eq_true, Bool.or_eq_false_iff, Bool.and_eq_false_iff, Bool.not_eq_true', Bool.not_eq_false', decide_eq_true_eq, decide_eq_false_iff_not] at h4
    have hkl : k = l.length := by omega
    rw [hkl, List.drop_length] at hJ
    simp only [stepsF] at hJ
    subst hJ
    refine (HT_exit ?_)
    refine HT_seq <| (HT_run (by simp [*]; rfl) ?_)
    exact HT_ret ⟨.inr rfl, _, le_refl _, ⟨⟨_, by simp; rfl, by simp [resR]⟩, by simp, fun h => by cases h⟩⟩
end Go.Proofs.YtfilidjbpomgoaaGreat

namespace Go.Proofs.YtfilidjbpomgoaaGreat
open Go Go.Hl

theorem con_arg {P : Program} {f : FuncId} {fresh : Bool} {r : RV} {ob : Option Ob} {d n : Nat} {args : List TV} {xs ys : List CV} (h : Con P f fresh (args.set n (.agg ys)) r ob d) (hx : args[n]? = some (.agg xs)) (hw : LWk xs ys) : Con P f fresh args r ob d := by
  refine ⟨h.1, fun F w vs hF hsz hargs => h.2 F w vs hF (by simpa using hsz) fun j t u ht hu => ?_⟩
  rw [List.getElem?_set] at ht
  split at ht
  · rename_i e
    subst e
    split at ht
    · cases ht
      obtain ⟨ws, rfl, hc⟩ := hargs n _ u hx hu
      exact ⟨ws, rfl, hw.rel hc⟩
    · cases ht
  · exact hargs j t u ht hu
theorem stL_len (i : Inp) : ∀ (l : List Vr) (a b c : Nat) (vals : List Int) (fits : Bool), (stL i l a b c vals fits).2 = 0 → (stL i l a b c vals fits).1.length = vals.length + l.length
  | [], a, b, c, vals, fits, h => by
    simp only [stL] at h ⊢
    split
    · split
      · simp
      · rename_i h1 h2; rw [if_pos h1, if_neg h2] at h; cases h
    · rename_i h1; rw [if_neg h1] at h; cases h
  | v :: l, a, b, c, vals, fits, h => by
    simp only [stL] at h ⊢
    split
    · rename_i h1
      rw [if_pos h1] at h
      rw [stL_len i l _ _ _ _ _ h]
      simp
      omega
    · rename_i h1; rw [if_neg h1] at h; cases h
def st0 : Sta := ⟨[], [], 0⟩
def playF (f : Fl) (i : Inp) : Sta × Int :=
  if codeC f = 0 then
    (if (stL i f.vars 0 0 0 [] true).2 = 0 then (stepsF f.vars (hvals (stL i f.vars 0 0 0 [] true).1 f.hats) f.body ⟨(stL i f.vars 0 0 0 [] true).1, [], 0⟩, 0)
    else (st0, (stL i f.vars 0 0 0 [] true).2))
  else (st0, codeC f)
theorem play_con (f : Fl) (i : Inp) (hv : f.vars.length ≤ 1000000) (hh : f.hats.length ≤ 1000000) (hn : nodesS f.body + nodesH f.hats ≤ 1000000) (hb : bndL f.body = true)
    (hwf : codeC f = 0 → wfL f.vars f.hats.length f.body = true ∧ oUL f.body ≤ 2000000 ∧ ∀ h ∈ f.hats, formB f.vars true h.term = true) (d : Nat) :
    Con Tryz.prog 44 false [aF f, aI i] (.tup [aSt (playF f i).1, li (playF f i).2]) none d := by
  have cc := checkR_con f hv hh (by omega) hb
  have cst := start_con f.vars i hv
  have hsl := stL_len i f.vars 0 0 0 [] true
  have crun := fun hvl h1 h2 => stepsRun_con f hvl hv h1 f.body (by omega) h2
  have chv := fun vs h1 h2 => hvals_con f vs h1 hh h2
  obtain ⟨⟨SV, SC⟩, hS⟩ : ∃ x, stL i f.vars 0 0 0 [] true = x := ⟨_, rfl⟩
  obtain ⟨res, hres⟩ : ∃ r, playF f i = r := ⟨_, rfl⟩
  rw [hres]
  unfold playF at hres
  obtain ⟨C, hC⟩ : ∃ x, codeC f = x := ⟨_, rfl⟩
  rw [hC] at cc hres hwf
  rw [hS] at cst hsl hres
  simp only at cst hsl hres
  obtain ⟨vars, hats, body⟩ := f
  obtain ⟨is, ip, ir⟩ := i
  simp only at hv hh hn hb hwf cst hsl crun chv hres
  clear hC hS
  refine con_of_HT Tryz.func44 rfl (by kernel_rfl) (Nat.le_of_ble_eq_true rfl) ?_
  simp only [Tryz.f44]
  simp only [aF, Fl.enc, aI, List.map_cons, List.map_nil] at cc cst ⊢
  refine HT_seq <| (HT_run (by simp [*]; rfl) ?_)
  refine HT_seq <| (HT_runc [⟨true, .v (li C), none⟩] (by simp [*]; first | exact ⟨rfl, Iff.rfl⟩ | exact ⟨rfl, trivial⟩ | rfl) ?_ ?_)
  · first | exact cc _ | exact trivial | simpa [*] using cc _
  refine HT_seq <| HT_seq <| (HT_run (by simp [*]; rfl) ?_)
  refine (HT_cond rfl (fun h3 => ?_) (fun h3 => HT_skip ?_))
  · try simp only [Bool.or_eq_true, Bool.and_eq_true, Bool.or_eq_false_iff, Bool.and_eq_false_iff, Bool.not_eq_true', Bool.not_eq_false', decide_eq_true_eq, decide_eq_false_iff_not] at h3
    rw [if_neg h3] at hres
    subst hres
    refine HT_seq <| (HT_run (by simp [*]; rfl) ?_)
    refine HT_le (le_box 4 [.c (.sl 1 []), .c (.sl 1 []), .c (iC 0)] rfl (by (repeat' (first | exact LWk.nil | apply LWk.cons | exact CWk.refl _ | exact CWk.nil _)))) ?_
    exact HT_ret ⟨.inr rfl, _, le_refl _, ⟨⟨_, by simp; rfl, by simp [resR, st0]⟩, by simp, fun h => by cases h⟩⟩
  · try simp only [Bool.or_eq_true, Bool.and_eq_true, Bool.or_eq_false_iff, Bool.and_eq_false_iff, Bool.not_eq_true', Bool.not_eq_false', decide_eq_true_eq, decide_eq_false_iff_not] at h3
    have hc0 : C = 0 := by simpa using h3
    rw [if_pos hc0] at hres
    obtain ⟨hw, ho, hf⟩ := hwf hc0
    clear hwf cc h3
    refine HT_seq <| (HT_runc [⟨false, .tup [lI SV, li SC], none⟩] (by simp [*]; first | exact ⟨rfl, Iff.rfl⟩ | exact ⟨rfl, trivial⟩ | rfl) ?_ ?_)
    · first | exact cst _ | exact trivial | simpa [*] using cst _
    refine HT_seq <| HT_seq <| (HT_run (by simp [*]; rfl) ?_)
    refine (HT_cond rfl (fun h8 => ?_) (fun h8 => HT_skip ?_))
    · try simp only [Bool.or_eq_true, Bool.and_eq_true, Bool.or_eq_false_iff, Bool.and_eq_false_iff, Bool.not_eq_true', Bool.not_eq_false', decide_eq_true_eq, decide_eq_false_iff_not] at h8
      rw [if_neg h8] at hres
      subst hres
      refine HT_seq <| (HT_run (by simp [*]; rfl) ?_)
      refine HT_le (le_box 4 [.c (.sl 1 []), .c (.sl 1 []), .c (iC 0)] rfl (by (repeat' (first | exact LWk.nil | apply LWk.cons | exact CWk.refl _ | exact CWk.nil _)))) ?_
      exact HT_ret ⟨.inr rfl, _, le_refl _, ⟨⟨_, by simp; rfl, by simp [resR, st0]⟩, by simp, fun h => by cases h⟩⟩
    · try simp only [Bool.or_eq_true, Bool.and_eq_true, Bool.or_eq_false_iff, Bool.and_eq_false_iff, Bool.not_eq_true', Bool.not_eq_false', decide_eq_true_eq, decide_eq_false_iff_not] at h8
      have hs0 : SC = 0 := by simpa using h8
      rw [if_pos hs0] at hres
      have hsl := hsl hs0
      simp only [List.length_nil, Nat.zero_add] at hsl
      have ch := chv SV hsl hf
      have hhl : (hvals SV hats).length = hats.length := by simp [hvals]
      obtain ⟨HV, hHV⟩ : ∃ x, hvals SV hats = x := ⟨_, rfl⟩
      rw [hHV] at ch hres hhl
      have cr := crun HV hhl hw ⟨SV, [], 0⟩ hsl (by simpa using ho)
      obtain ⟨⟨rv, ro, rt⟩, hR⟩ : ∃ x, stepsF vars HV body ⟨SV, [], 0⟩ = x := ⟨_, rfl⟩
      rw [hR] at cr hres
      subst hres
      simp only [aF, Fl.enc, aSt, List.map_cons, List.map_nil] at cr ch
      have cr' := fun d => con_arg (n := 3) (args := [.agg [.c (.sl 5 (encVs vars)), .c (.sl 6 (encHs hats)), .c (.sl 10 (encSs body))], lI HV, lS body, .agg [.c (.sl 1 (encIs SV)), .c (.lit nilS), .c (iC 0)]]) (cr d) rfl (by (repeat' (first | exact LWk.nil | apply LWk.cons | exact CWk.refl _ | exact CWk.nil _)))
      clear cr crun chv cst hsl hw ho hf h8 hhl hHV hR
      refine HT_seq <| (HT_drunc [⟨false, .v (lI HV), none⟩, ⟨false, .v (.agg [.c (.sl 1 (encIs rv)), .c (.sl 1 (encIs ro)), .c (iC rt)]), none⟩] (by kernel_rfl) (by kernel_rfl) (by rfl) (by simp [*]; first | exact ⟨rfl, Iff.rfl⟩ | exact ⟨rfl, trivial⟩ | rfl) ?_ ?_)
      · first | exact ⟨ch _, cr' _⟩ | exact trivial | (repeat' first | exact trivial | exact ch _ | exact cr' _ | apply And.intro)
      exact HT_ret ⟨.inr rfl, _, le_refl _, ⟨⟨_, by simp; rfl, by simp [resR]⟩, by simp, fun h => by cases h⟩⟩
structure Obs where
  outs : List Int
  time : Int
abbrev aO (o : Obs) : TV := .agg [.c (.sl 1 (encIs o.outs)), .c (iC o.time)]
def runF (f : Fl) (i : Inp) : Obs × Int := if (playF f i).2 = 0 then (⟨(playF f i).1.outs, (playF f i).1.time⟩, 0) else (⟨[], 0⟩, (playF f i).2)
theorem run_con (f : Fl) (i : Inp) (hv : f.vars.length ≤ 1000000) (hh : f.hats.length ≤ 1000000) (hn : nodesS f.body + nodesH f.hats ≤ 1000000) (hb : bndL f.body = true)
    (hwf : codeC f = 0 → wfL f.vars f.hats.length f.body = true ∧ oUL f.body ≤ 2000000 ∧ ∀ h ∈ f.hats, formB f.vars true h.term = true) (d : Nat) :
    Con Tryz.prog 16 false [aF f, aI i] (.tup [aO (runF f i).1, li (runF f i).2]) none d := by
  have cp := play_con f i hv hh hn hb hwf
  obtain ⟨res, hres⟩ : ∃ r, runF f i = r := ⟨_, rfl⟩
  rw [hres]
  unfold runF at hres
  obtain ⟨⟨⟨pv, po, pt⟩, pc⟩, hP⟩ : ∃ x, playF f i = x := ⟨_, rfl⟩
  rw [hP] at cp hres
  simp only at cp hres
  obtain ⟨vars, hats, body⟩ := f
  obtain ⟨is, ip, ir⟩ := i
  clear hP hwf
  refine con_of_HT Tryz.func16 rfl (by kernel_rfl) (Nat.le_of_ble_eq_true rfl) ?_
  simp only [Tryz.f16]
  simp only [aF, Fl.enc, aI, aSt, List.map_cons, List.map_nil] at cp ⊢
  refine HT_seq <| (HT_run (by simp [*]; rfl) ?_)
  refine HT_seq <| (HT_runc [⟨false, .tup [.agg [.c (.sl 1 (encIs pv)), .c (.sl 1 (encIs po)), .c (iC pt)], li pc], none⟩] (by simp [*]; first | exact ⟨rfl, Iff.rfl⟩ | exact ⟨rfl, trivial⟩ | rfl) ?_ ?_)
  · first | exact cp _ | exact trivial | simpa [*] using cp _
  refine HT_seq <| HT_seq <| (HT_run (by simp [*]; rfl) ?_)
  refine (HT_cond rfl (fun h3 => ?_) (fun h3 => HT_skip ?_))
  · try simp only [Bool.or_eq_true, Bool.and_eq_true, Bool.or_eq_false_iff, Bool.and_eq_false_iff, Bool.not_eq_true', Bool.not_eq_false', decide_eq_true_eq, decide_eq_false_iff_not] at h3
    rw [if_neg h3] at hres
    subst hres
    refine HT_seq <| (HT_run (by simp [*]; rfl) ?_)
    refine HT_le (le_box 4 [.c (.sl 1 []), .c (iC 0)] rfl (by (repeat' (first | exact LWk.nil | apply LWk.cons | exact CWk.refl _ | exact CWk.nil _)))) ?_
    exact HT_ret ⟨.inr rfl, _, le_refl _, ⟨⟨_, by simp; rfl, by simp [resR]⟩, by simp, fun h => by cases h⟩⟩
  · try simp only [Bool.or_eq_true, Bool.and_eq_true, Bool.or_eq_false_iff, Bool.and_eq_false_iff, Bool.not_eq_true', Bool.not_eq_false', decide_eq_true_eq, decide_eq_false_iff_not] at h3
    rw [if_pos (by simpa using h3)] at hres
    subst hres
    refine HT_seq <| (HT_run (by simp [*]; rfl) ?_)
    exact HT_ret ⟨.inr rfl, _, le_refl _, ⟨⟨_, by simp; rfl, by simp [resR]⟩, by simp, fun h => by cases h⟩⟩
end Go.Proofs.YtfilidjbpomgoaaGreat

namespace Go.Hl
open Go Go.RowKit
/-! ## a region in many parts, with a weakening between any two -/
inductive RunsF (P : Program) (ops : Array Oper) : List Oper → HS → (HS → Prop) → Prop
  | done {l : List Oper} {s : HS} {K : HS → Prop} : wpR P ops l s K → RunsF P ops l s K
  | cut {l : List Oper} {s s1 s2 : HS} {K : HS → Prop} (k : Nat) : wpR P ops (l.take k) s (fun t => t = s1) → le s1 s2 → RunsF P ops (l.drop k) s2 K → RunsF P ops l s K
section
variable {P : Program} {w0 : World} {B : Nat → Prop} {π : Nat → Option Value}
theorem range_cut (k n m : Nat) : List.range' k (n + m) = List.range' k n ++ List.range' (k + n) m := by
  apply List.ext_getElem?
  intro j
  by_cases hj : j < n
  · rw [List.getElem?_append_left (by simpa using hj), List.getElem?_range' (by omega), List.getElem?_range' (by omega)]
  · rw [List.getElem?_append_right (by simp; omega)]
    simp only [List.length_range']
    by_cases hm : j < n + m
    · rw [List.getElem?_range' (by omega), List.getElem?_range' (by omega)]
      congr 1; omega
    · rw [List.getElem?_eq_none (by simp; omega), List.getElem?_eq_none (by simp; omega)]
theorem runsF_ops {ops : Array Oper} {K : HS → Prop} {Q : Exit → Act → World → Prop} {l : List Oper} {s : HS} (h : RunsF P ops l s K) : ∀ (rest : List Nat) (k : Nat) (F : Nat → Prop) (γ : Nat → Value) (a : Act) (w : World), (∀ j o, l[j]? = some o → ops[k + j]? = some o) →
    Rel w0 B π F γ s a w → (∀ s' F' γ' a' w', K s' → (∀ b, F b → F' b) → (∀ b, F' b → F b ∨ ¬ B b) → Rel w0 B π F' γ' s' a' w' → wpOps P ops Q rest a' w') → wpOps P ops Q (List.range' k l.length ++ rest) a w := by
  induction h with
  | done hw => exact fun rest k F γ a w hd hr hK => wpR_opsK _ k _ F γ a w hd hr hw hK
  | cut n hw hle _ ih =>
    intro rest k F γ a w hd hr hK
    rename_i l s s1 s2 K' _
    have hl : l.length = (l.take n).length + (l.drop n).length := by rw [← List.length_append, List.take_append_drop]
    rw [hl, range_cut, List.append_assoc]
    refine wpR_opsK (l.take n) k s F γ a w (fun j o hj => ?_) hr hw fun s' F1 γ1 a1 w1 hs' h1 h2 hr1 => ?_
    · rw [List.getElem?_take] at hj
      split at hj
      · exact hd j o hj
      · cases hj
    · subst hs'
      obtain ⟨F2, γ2, h3, h4, hr2⟩ := hle w0 B π F1 γ1 a1 w1 hr1
      refine ih rest (k + (l.take n).length) F2 γ2 a1 w1 (fun j o hj => ?_) hr2 fun s3 F3 γ3 a3 w3 hk3 h5 h6 hr3 => ?_
      · rw [List.getElem?_drop] at hj
        have hlt : n + j < l.length := (List.getElem?_eq_some_iff.1 hj).1
        have := hd (n + j) o hj
        rw [List.length_take, Nat.min_eq_left (by omega), Nat.add_assoc]
        exact this
      · exact hK s3 F3 γ3 a3 w3 hk3 (fun b hb => h5 b (h3 b (h1 b hb))) (fun b hb => (h6 b hb).elim (fun hb => (h4 b hb).elim (h2 b) .inr) .inr) hr3
theorem HT_runsF {id : Nat} {ops : Array Oper} {s : HS} {Q : Exit → HS → Prop} (h : RunsF P ops ops.toList s (Q .normal)) : HT P (.region id ops false) s Q := by
  intro w0 B π F γ a w hr
  refine wp_region ?_
  have := runsF_ops (w0 := w0) (B := B) (π := π) (Q := fun e a' w' => ∃ (s' : HS) (F' : Nat → Prop) (γ' : Nat → Value), Q e s' ∧ (∀ b, F b → F' b) ∧ (∀ b, F' b → F b ∨ ¬ B b) ∧ Rel w0 B π F' γ' s' a' w') h [] 0 F γ a w (by simp) hr
    fun s' F' γ' a' w' hk h1 h2 h3 => ⟨s', F', γ', hk, h1, h2, h3⟩
  rw [List.range_eq_range']
  simpa using this
theorem RunsF.cutE {ops : Array Oper} {l : List Oper} {s s1 s2 : HS} {p : Prop} {K : HS → Prop} (k : Nat) (cs : List CR) (h : evc P ops (l.take k) s cs = some (s1, p)) (hp : p) (hle : le s1 s2) (hr : RunsF P ops (l.drop k) s2 K) : RunsF P ops l s K :=
  .cut k (wpR_evc _ _ _ _ _ h hp rfl) hle hr
theorem RunsF.doneE {ops : Array Oper} {l : List Oper} {s s1 : HS} {p : Prop} {K : HS → Prop} (cs : List CR) (h : evc P ops l s cs = some (s1, p)) (hp : p) (hq : K s1) : RunsF P ops l s K :=
  .done (wpR_evc _ _ _ _ _ h hp hq)
theorem le_trans' {x y z : HS} (h1 : le x y) (h2 : le y z) : le x z := by
  intro w0 B π F γ a w hr
  obtain ⟨F1, γ1, a1, a2, hr1⟩ := h1 w0 B π F γ a w hr
  obtain ⟨F2, γ2, b1, b2, hr2⟩ := h2 w0 B π F1 γ1 a w hr1
  exact ⟨F2, γ2, fun b hb => b1 b (a1 b hb), fun b hb => (b2 b hb).elim (a2 b) .inr, hr2⟩
end
end Go.Hl

namespace Go.Proofs.YtfilidjbpomgoaaGreat
open Go Go.Hl

theorem ref_con (n : Int) (d : Nat) : Con Tryz.prog 24 false [li n] (.v (aT (.mk 24 n []))) none d := by
  refine con_of_HT Tryz.func24 rfl (by kernel_rfl) (Nat.le_of_ble_eq_true rfl) ?_
  simp only [Tryz.f24]
  simp only [aT, Tm.enc, List.map_cons, List.map_nil, encTs]
  refine HT_seq <| (HT_run (by simp [*]; rfl) ?_)
  refine HT_seq <| (HT_run (by simp [*]; rfl) ?_)
  refine HT_le (le_box 2 [.c (iC 24), .c (iC n), .c (.sl 3 [])] rfl (by (repeat' (first | exact LWk.nil | apply LWk.cons | exact CWk.refl _ | exact CWk.nil _)))) ?_
  exact HT_ret ⟨.inr rfl, _, le_refl _, ⟨⟨_, by simp; rfl, by simp [resR]⟩, by simp, fun h => by cases h⟩⟩
def nX : ByteArray := ⟨#[120]⟩
def nY : ByteArray := ⟨#[121]⟩
def F1 : Fl := ⟨[⟨nX, 1, 0, 3, 0⟩, ⟨nY, 0, 0, 3, 0⟩], [], [.mk 3 1 0 0 (.mk 24 0 []) [.mk 2 5 0 0 (.mk 0 0 []) [] [] []] [] [], .mk 1 2 0 0 (.mk 24 1 []) [] [] []]⟩
def F2 : Fl := ⟨[⟨nX, 0, 0, 3, 2⟩], [], [.mk 4 1 0 3 (.mk 24 0 []) [.mk 0 2 0 0 (.mk 9 0 [.mk 24 0 [], .mk 0 1 []]) [] [] []] [] []]⟩
def G1 : Fl := ⟨[⟨nX, 1, 0, 3, 0⟩, ⟨nY, 0, 0, 3, 0⟩], [], [.mk 3 1 0 0 (.mk 24 0 []) [.mk 2 5 0 0 (.mk 0 0 []) [] [] []] [.mk 2 5 0 0 (.mk 0 0 []) [] [] []] [], .mk 1 2 0 0 (.mk 24 1 []) [] [] []]⟩
def G2 : Fl := ⟨[⟨nX, 0, 0, 3, 2⟩], [], [.mk 4 1 0 3 (.mk 0 1 []) [.mk 3 0 0 0 (.mk 24 0 []) [.mk 0 2 0 0 (.mk 9 0 [.mk 24 0 [], .mk 0 1 []]) [] [] []] [.mk 2 2 0 0 (.mk 0 0 []) [] [] []] []] [] []]⟩
theorem cF1 : codeC F1 = 0 := by
  simp only [codeC, sizesB, F1, sdL, tdeep, ssC]
  kernel_rfl
theorem cF2 : codeC F2 = 0 := by
  simp only [codeC, sizesB, F2, sdL, tdeep, ssC]
  kernel_rfl
theorem cG1 : codeC G1 = 0 := by
  simp only [codeC, sizesB, G1, sdL, tdeep, ssC]
  kernel_rfl
theorem cG2 : codeC G2 = 0 := by
  simp only [codeC, sizesB, G2, sdL, tdeep, ssC]
  kernel_rfl
theorem eF1 : evL F1.body = G1.body := by
  simp only [F1, evL]
  kernel_rfl
theorem eF2 : evL F2.body = G2.body := by
  simp only [F2, evL]
  kernel_rfl
theorem ev1 : evF F1 = (G1, 0) := by
  unfold evF
  rw [if_pos cF1, eF1]
  exact if_pos cG1
theorem ev2 : evF F2 = (G2, 0) := by
  unfold evF
  rw [if_pos cF2, eF2]
  exact if_pos cG2
theorem play1 : playF G1 ⟨[0], [], []⟩ = (⟨[0, 0], [0], 8⟩, 0) := by
  unfold playF
  rw [if_pos cG1]
  simp only [G1, stepsF]
  kernel_rfl
theorem play2 : playF G2 ⟨[], [], []⟩ = (⟨[0], [], 9⟩, 0) := by
  unfold playF
  rw [if_pos cG2]
  simp only [G2, stepsF]
  kernel_rfl
theorem run1 : runF G1 ⟨[0], [], []⟩ = (⟨[0], 8⟩, 0) := by
  unfold runF
  rw [play1]
  rfl
theorem run2 : runF G2 ⟨[], [], []⟩ = (⟨[], 9⟩, 0) := by
  unfold runF
  rw [play2]
  rfl
end Go.Proofs.YtfilidjbpomgoaaGreat
