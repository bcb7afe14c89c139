/- Part 5: contracts of functions of the program and of the reference, and plain facts about what they compute; used by the proof of the claimed statement. Conditions: as each theorem states. -/
import Derived.Test.YtfilidjbpomgoaaGreatR4
import Derived.Test.YtfilidjbpomgoaaGreatR1
import Derived.Test.YtfilidjbpomgoaaGreatR2
set_option linter.unusedSimpArgs false
set_option linter.unusedVariables false
set_option linter.unnecessarySimpa false
set_option maxRecDepth 100000
set_option maxHeartbeats 2000000
namespace Go.Proofs.YtfilidjbpomgoaaGreat
open Go Go.Hl

theorem at_con (l : List Int) (i : Nat) (d : Nat) : Con Tryz.prog 101 true [lI l, li i] (.tup [li ((l[i]?).getD 0), lb (decide (i < l.length))]) none d := by
  obtain ⟨A, hA⟩ : ∃ x, (l[i]?).getD 0 = x := ⟨_, rfl⟩
  obtain ⟨B, hB⟩ : ∃ x, decide (i < l.length) = x := ⟨_, rfl⟩
  rw [hA, hB]
  refine con_of_HT Tryz.func101 rfl (by kernel_rfl) (Nat.le_of_ble_eq_true rfl) ?_
  simp only [Tryz.f101]
  refine HT_seq <| (HT_run (by simp [*]; rfl) ?_)
  refine HT_seq <| HT_seq <| (HT_run (by simp [*]; rfl) ?_)
  refine (HT_cond rfl (fun h2 => ?_) (fun h2 => HT_skip ?_))
  · try simp only [Bool.or_eq_true, Bool.and_eq_true, Bool.or_eq_false_iff, Bool.and_eq_false_iff, Bool.not_eq_true', Bool.not_eq_false', decide_eq_true_eq, decide_eq_false_iff_not] at h2
    have h3 : ¬ i < l.length := by omega
    rw [List.getElem?_eq_none (by omega)] at hA
    rw [decide_eq_false h3] at hB
    simp only [Option.getD_none] at hA
    subst hA hB
    refine HT_seq <| (HT_run (by simp [*]; rfl) ?_)
    exact (HT_retE (fun h => ⟨.inr rfl, h⟩) _ (by simp [*]; rfl) (by first | rfl | (simp [*]; done) | (simp only [resR]; (repeat' split) <;> first | rfl | (exfalso; omega) | simp_all)) (by simp))
  · try simp only [Bool.or_eq_true, Bool.and_eq_true, Bool.or_eq_false_iff, Bool.and_eq_false_iff, Bool.not_eq_true', Bool.not_eq_false', decide_eq_true_eq, decide_eq_false_iff_not] at h2
    have h3 : i < l.length := by omega
    obtain ⟨x, hx⟩ := get_I h3
    rw [hx] at hA
    rw [decide_eq_true h3] at hB
    simp only [Option.getD_some] at hA
    subst hA hB
    clear h3
    refine HT_seq <| (HT_run (by simp [*]; rfl) ?_)
    exact (HT_retE (fun h => ⟨.inr rfl, h⟩) _ (by simp [*]; rfl) (by first | rfl | (simp [*]; done) | (simp only [resR]; (repeat' split) <;> first | rfl | (exfalso; omega) | simp_all)) (by simp))
def stlL : List Int → Int → Int → Bool → Int
  | [], _, best, _ => best
  | b :: l, t, best, found => if t ≤ b ∧ (found = false ∨ b < best) then stlL l t b true else stlL l t best found
theorem settled_con (bs : List Int) (t : Int) (hl : bs.length ≤ 1000000000) (d : Nat) : Con Tryz.prog 22 true [lI bs, li t] (.v (li (stlL bs t t false))) none d := by
  obtain ⟨res, hres⟩ : ∃ r, stlL bs t t false = r := ⟨_, rfl⟩
  rw [hres]
  refine con_of_HT Tryz.func22 rfl (by kernel_rfl) (Nat.le_of_ble_eq_true rfl) ?_
  simp only [Tryz.f22]
  refine HT_seq <| (HT_run (by simp [*]; rfl) ?_)
  refine HT_seq <| (HT_run (by simp [*]; rfl) ?_)
  refine HT_seq <| HT_seq <| (HT_run (by simp [*]; rfl) ?_)
  refine HT_block <| (HT_loopU [0, 1] (fun (x : Nat × Int × Bool) => [(5, .v (li x.2.1)), (6, .v (lb x.2.2)), (7, .v (li x.1))]) (fun (x : Nat × Int × Bool) => []) (fun (x : Nat × Int × Bool) => x.1 ≤ bs.length ∧ stlL (bs.drop x.1) t x.2.1 x.2.2 = res) (fun (x : Nat × Int × Bool) => bs.length - x.1) (0, t, false) ⟨Nat.zero_le _, hres⟩ ?_ ?_)
  · exact le_mk (fun n => n) [] rfl (by simp [*, upS, keepS]) (by simp [*, upS]) (by simp [upS])
  rintro ⟨k, best, found⟩ ⟨hk, hJ⟩
  simp only [upS, keepS, insS]
  try simp only [keepS, List.contains_cons, List.contains_nil, Bool.or_false, Bool.or_true, Bool.true_or, Bool.false_or, Nat.reduceBEq, BEq.rfl, beq_self_eq_true, if_true, if_false, Bool.false_eq_true, ite_true, ite_false, ins, Nat.reduceLT]
  simp only at hk hJ
  clear hres
  refine HT_seq <| HT_seq <| (HT_run (by simp [*]; rfl) ?_)
  refine (HT_cond rfl (fun h5 => HT_skip ?_) (fun h5 => ?_))
  · try simp only [Bool.or_eq_true, Bool.and_eq_true, Bool.or_eq_false_iff, Bool.and_eq_false_iff, Bool.not_eq_true', Bool.not_eq_false', decide_eq_true_eq, decide_eq_false_iff_not] at h5
    have hlt : k < bs.length := by omega
    obtain ⟨b, he, hd⟩ := at_lt hlt
    have hw1 := wrap1 hlt (by omega)
    have hk1 : k + 1 ≤ bs.length := hlt
    rw [hd] at hJ
    simp only [stlL] at hJ
    clear hlt h5 hd
    refine HT_seq <| HT_block <| HT_seq <| (HT_run (by simp [*]; rfl) ?_)
    refine (HT_cond rfl (fun h7 => ?_) (fun h7 => HT_skip ?_))
    · try simp only [Bool.or_eq_true, Bool.and_eq_true, Bool.or_eq_false_iff, Bool.and_eq_false_iff, Bool.not_eq_true', Bool.not_eq_false', decide_eq_true_eq, decide_eq_false_iff_not] at h7
      rw [if_pos (by simpa using h7)] at hJ
      refine (HT_run (by simp [*]; rfl) ?_)
      refine (HT_run (by simp [*]; rfl) ?_)
      exact ⟨(k + 1, b, true), ⟨hk1, hJ⟩, by simp only; omega, le_mk (fun n => n) [] rfl (by simp [upS, keepS, *]) (by simp [*, upS]) (by simp [upS])⟩
    · try simp only [Bool.or_eq_true, Bool.and_eq_true, Bool.or_eq_false_iff, Bool.and_eq_false_iff, Bool.not_eq_true', Bool.not_eq_false', decide_eq_true_eq, decide_eq_false_iff_not] at h7
      have h7' : b < t ∨ found = true ∧ best ≤ b := by simpa using h7
      rw [if_neg (by
          rintro ⟨ha, hb⟩
          rcases h7' with h | h
          · omega
          · rcases hb with hb | hb
            · rw [hb] at h; exact absurd h.1 (by decide)
            · omega)] at hJ
      clear h7'
      refine (HT_run (by simp [*]; rfl) ?_)
      exact ⟨(k + 1, best, found), ⟨hk1, hJ⟩, by simp only; omega, le_mk (fun n => n) [] rfl (by simp [upS, keepS, *]) (by simp [*, upS]) (by simp [upS])⟩
  · try simp only [Bool.or_eq_true, Bool.and_eq_true, Bool.or_eq_false_iff, Bool.and_eq_false_iff, Bool.not_eq_true', Bool.not_eq_false', decide_eq_true_eq, decide_eq_false_iff_not] at h5
    have hkl : k = bs.length := by omega
    rw [hkl, List.drop_length] at hJ
    simp only [stlL] at hJ
    subst hJ
    refine (HT_exit ?_)
    refine HT_seq <| (HT_run (by simp [*]; rfl) ?_)
    exact (HT_retE (fun h => ⟨.inr rfl, h⟩) _ (by simp [*]; rfl) (by first | rfl | (simp [*]; done) | (simp only [resR]; (repeat' split) <;> first | rfl | (exfalso; omega) | simp_all)) (by simp))
def hvals (vs : List Int) (l : List Ht) : List Int := l.map fun h => heldI (vT vs h.term) h.low h.high
theorem hvals_con (f : Fl) (vs : List Int) (hvs : vs.length = f.vars.length) (hh : f.hats.length ≤ 1000000) (hf : ∀ h ∈ f.hats, formB f.vars true h.term = true) (d : Nat) :
    Con Tryz.prog 81 false [aF f, lI vs] (.v (lI (hvals vs f.hats))) none d := by
  obtain ⟨vars, hats, body⟩ := f
  simp only at hvs hh hf ⊢
  have hv0 : hvals vs [] = [] := rfl
  refine con_of_HT Tryz.func81 rfl (by kernel_rfl) (Nat.le_of_ble_eq_true rfl) ?_
  simp only [Tryz.f81]
  simp only [aF, Fl.enc, List.map_cons, List.map_nil]
  refine HT_seq <| (HT_run (by simp [*]; rfl) ?_)
  refine HT_seq <| (HT_run (by simp [*]; rfl) ?_)
  refine HT_seq <| HT_seq <| (HT_run (by simp [*]; rfl) ?_)
  refine HT_block <| (HT_loopU [1, 2] (fun (x : Nat) => [(5, .v (.one (.own 1005))), (6, .v (li x))]) (fun (x : Nat) => [(2, .box [.c (.sl 5 (encVs vars)), .c (.sl 6 (encHs hats)), .c (.sl 10 (encSs body))]), (1005, .row 3 1 (encIs (hvals vs (hats.take x))))]) (fun (x : Nat) => x ≤ hats.length) (fun (x : Nat) => hats.length - x) (0 : Nat) (Nat.zero_le _) ?_ ?_)
  · exact le_mk (fun n => if n = 1005 then 8 else n) [] rfl (by simp [*, upS, keepS]) (by simp [*, upS]) (by simp [upS])
  rintro k hk
  simp only [upS, keepS, insS]
  try simp only [keepS, List.contains_cons, List.contains_nil, Bool.or_false, Bool.or_true, Bool.true_or, Bool.false_or, Nat.reduceBEq, BEq.rfl, beq_self_eq_true, if_true, if_false, Bool.false_eq_true, ite_true, ite_false, ins, Nat.reduceLT]
  refine HT_seq <| HT_seq <| (HT_run (by simp [*]; rfl) ?_)
  refine (HT_cond rfl (fun h5 => HT_skip ?_) (fun h5 => ?_))
  · try simp only [Bool.or_eq_true, Bool.and_eq_true, Bool.or_eq_false_iff, Bool.and_eq_false_iff, Bool.not_eq_true', Bool.not_eq_false', decide_eq_true_eq, decide_eq_false_iff_not] at h5
    have hlt : k < hats.length := by omega
    obtain ⟨h, he, hd⟩ := at_lt hlt
    have hw1 := wrap1 hlt (by omega)
    have hk1 : k + 1 ≤ hats.length := hlt
    have htl : (hvals vs (hats.take k)).length = k := by unfold hvals; rw [List.length_map, List.length_take]; omega
    have hroom : room (k + 1) 8 := room_of (by omega) (by omega)
    have cv := value_con vars true vs hvs h.term (hf h (List.mem_of_getElem? he))
    have hsn : encIs (hvals vs (hats.take (k + 1))) = encIs (hvals vs (hats.take k)) ++ [[iC (heldI (vT vs h.term) h.low h.high)]] := by
      rw [take_snoc he]
      simp [hvals, encIs]
    obtain ⟨nm, lo, hi, ⟨o, tn, ks⟩⟩ := h
    simp only at cv hsn
    obtain ⟨A, hA⟩ : ∃ x, vT vs (.mk o tn ks) = x := ⟨_, rfl⟩
    have ch := held_con A lo hi
    obtain ⟨H, hH⟩ : ∃ x, heldI A lo hi = x := ⟨_, rfl⟩
    rw [hA, hH] at hsn
    rw [hA] at cv
    rw [hH] at ch
    simp only [aT, Tm.enc, List.map_cons, List.map_nil] at cv
    clear hlt h5 hd hA hH
    refine HT_seq <| HT_block <| HT_seq <| (HT_run (by simp [*]; rfl) ?_)
    refine (HT_drunc [⟨true, .v (li A), none⟩, ⟨true, .v (li H), none⟩] (by kernel_rfl) (by kernel_rfl) (by rfl) (by simp [*]; first | exact ⟨rfl, Iff.rfl⟩ | exact ⟨rfl, trivial⟩ | rfl) ?_ ?_)
    · first | exact ⟨cv _, ch _⟩ | exact trivial | (repeat' first | exact trivial | exact cv _ | exact ch _ | apply And.intro)
    refine (HT_run (by simp [*]; rfl) ?_)
    exact ⟨k + 1, hk1, by omega, le_mk (fun n => if n = 1005 then 32 else n) [] rfl (by simp [upS, keepS, *]) (by simp [*, upS]) (by simp [upS])⟩
  · try simp only [Bool.or_eq_true, Bool.and_eq_true, Bool.or_eq_false_iff, Bool.and_eq_false_iff, Bool.not_eq_true', Bool.not_eq_false', decide_eq_true_eq, decide_eq_false_iff_not] at h5
    have hkl : k = hats.length := by omega
    subst hkl
    simp only [List.take_length]
    refine (HT_exit ?_)
    refine HT_seq <| (HT_run (by simp [*]; rfl) ?_)
    exact HT_ret ⟨.inr rfl, _, le_frz 1005 rfl, ⟨⟨_, by simp; rfl, by simp [resR]⟩, by simp, fun h => by cases h⟩⟩
theorem encI_set (l : List Int) (i : Nat) (x : Int) : encIs (l.set i x) = (encIs l).set i [iC x] := by simp [encIs, List.map_set]
theorem set_con (f : Fl) (vs : List Int) (v n : Int) (w : Vr) (hvs : vs.length = f.vars.length) (hl : f.vars.length ≤ 1000000) (h0 : 0 ≤ v) (hw : f.vars[v.toNat]? = some w) (d : Nat) :
    Con Tryz.prog 103 false [aF f, lI vs, li v, li n] (.v (lI (vs.set v.toNat (heldI n w.low w.high)))) none d := by
  obtain ⟨vars, hats, body⟩ := f
  simp only at hvs hl hw
  have hlt : v.toNat < vars.length := (List.getElem?_eq_some_iff.1 hw).1
  have hroom : room vars.length 8 := room_of (by omega) (by omega)
  obtain ⟨x, hx⟩ : ∃ x, vs[v.toNat]? = some x := ⟨vs[v.toNat]'(by omega), by simp⟩
  have ch := held_con n w.low w.high
  obtain ⟨nm, kd, lo, hi, ini⟩ := w
  simp only at ch ⊢
  obtain ⟨H, hH⟩ : ∃ x, heldI n lo hi = x := ⟨_, rfl⟩
  rw [hH] at ch ⊢
  have hes := encI_set vs v.toNat H
  clear hlt hH
  refine con_of_HT Tryz.func103 rfl (by kernel_rfl) (Nat.le_of_ble_eq_true rfl) ?_
  simp only [Tryz.f103]
  simp only [aF, Fl.enc, List.map_cons, List.map_nil]
  refine HT_seq <| (HT_run (by simp [*]; rfl) ?_)
  refine HT_seq <| (HT_run (by simp [*]; rfl) ?_)
  refine HT_seq <| (HT_drunc [⟨true, .v (li H), none⟩] (by kernel_rfl) (by kernel_rfl) (by rfl) (by simp [*]; first | exact ⟨rfl, Iff.rfl⟩ | exact ⟨rfl, trivial⟩ | rfl) ?_ ?_)
  · first | exact ch _ | exact trivial | simpa [*] using ch _
  refine HT_seq <| (HT_run (by simp [*]; rfl) ?_)
  exact HT_ret ⟨.inr rfl, _, le_frz 12 rfl, ⟨⟨_, by simp; rfl, by simp [resR, hes]⟩, by simp, fun h => by cases h⟩⟩
end Go.Proofs.YtfilidjbpomgoaaGreat

namespace Go.Proofs.YtfilidjbpomgoaaGreat
open Go Go.Hl Go.RowKit

/-! ## weaker data: a nil slice is an empty one -/
inductive CWk : CV → CV → Prop where
  | refl (x : CV) : CWk x x
  | nil (s : Nat) : CWk (.c (.lit nilS)) (.c (.sl s []))
inductive LWk : List CV → List CV → Prop where
  | nil : LWk [] []
  | cons {x y : CV} {l m : List CV} : CWk x y → LWk l m → LWk (x :: l) (y :: m)
theorem CWk.rel {F : Nat → Prop} {γ : Nat → Value} {w : World} {x y : CV} (h : CWk x y) {v : Value} (hr : CVRel F γ w x v) : CVRel F γ w y v := by
  cases h with
  | refl => exact hr
  | nil s =>
    have : v = nilS := RVRel.lit_eq (γ := γ) (F := F) (w := w) (r := .v (.one (.c (.lit nilS)))) rfl hr
    rw [this]
    exact CRel.nil s
theorem LWk.len {l m : List CV} (h : LWk l m) : m.length = l.length := by
  induction h with
  | nil => rfl
  | cons _ _ ih => simp [ih]
theorem LWk.get {l m : List CV} (h : LWk l m) : ∀ (j : Nat) y, m[j]? = some y → ∃ x, l[j]? = some x ∧ CWk x y := by
  induction h with
  | nil => simp
  | cons hc _ ih =>
    intro j y hj
    cases j with
    | zero => cases hj; exact ⟨_, rfl, hc⟩
    | succ j => exact ih j y hj
theorem LWk.rel {F : Nat → Prop} {γ : Nat → Value} {w : World} {l m : List CV} (h : LWk l m) {vs : Array Value} (hr : cellsRel F γ w l vs) : cellsRel F γ w m vs := by
  refine ⟨hr.1.trans h.len.symm, fun j y u hy hu => ?_⟩
  obtain ⟨x, hx, hc⟩ := h.get j y hy
  exact hc.rel (hr.2 j x u hx hu)

theorem le_reg {s : HS} (k : Nat) {r r' : RV} (hl : lkp s.regs k = some r) (hw : ∀ (F : Nat → Prop) (γ : Nat → Value) (w : World) v, RVRel F γ w r v → RVRel F γ w r' v) : le s { s with regs := ins k r' s.regs } := by
  intro w0 B π F γ a w hr
  refine ⟨F, γ, fun _ h => h, fun _ h => .inl h, hr.heap, hr.defers, hr.nt, fun j x hj => ?_⟩
  rw [look_ins] at hj
  split at hj
  · rename_i e
    cases hj
    subst e
    exact hw _ _ _ _ (hr.regs j r hl)
  · exact hr.regs j x hj
theorem le_agg {s : HS} (k : Nat) {xs : List CV} (ys : List CV) (hl : lkp s.regs k = some (.v (.agg xs))) (h : LWk xs ys) : le s { s with regs := ins k (.v (.agg ys)) s.regs } := by
  refine le_reg k hl fun F γ w v hv => ?_
  obtain ⟨vs, rfl, hc⟩ := hv
  exact ⟨vs, rfl, h.rel hc⟩
theorem le_one {s : HS} (k sz : Nat) (hl : lkp s.regs k = some (.v (.one (.c (.lit nilS))))) : le s { s with regs := ins k (.v (.one (.c (.sl sz [])))) s.regs } :=
  le_reg k hl fun F γ w v hv => CWk.rel (γ := γ) (CWk.nil sz) hv
theorem le_emp {s : HS} (k sz : Nat) {a : Addr} {cap : Nat} (hl : lkp s.regs k = some (.v (.one (.c (.lit (.slice (some a) 0 cap)))))) : le s { s with regs := ins k (.v (.one (.c (.sl sz [])))) s.regs } := by
  refine le_reg k hl fun F γ w v hv => ?_
  have : v = .slice (some a) 0 cap := RVRel.lit_eq rfl hv
  rw [this]
  exact CRel.emp sz a cap
theorem le_box {s : HS} (n : Nat) {xs : List CV} (ys : List CV) (hl : lkp s.objs n = some (.box xs)) (h : LWk xs ys) : le s { s with objs := ins n (.box ys) s.objs } := by
  intro w0 B π F γ a w hr
  have hlk : ∀ m o, lkp (ins n (.box ys) s.objs) m = some o → (m = n ∧ o = .box ys) ∨ (m ≠ n ∧ lkp s.objs m = some o) := by
    intro m o hm
    rw [look_ins] at hm
    split at hm
    · rename_i e; cases hm; exact .inl ⟨e, rfl⟩
    · rename_i e; exact .inr ⟨e, hm⟩
  have hex : ∀ m o, lkp (ins n (.box ys) s.objs) m = some o → ∃ o', lkp s.objs m = some o' := by
    intro m o hm
    rcases hlk m o hm with ⟨rfl, _⟩ | ⟨_, h2⟩
    · exact ⟨_, hl⟩
    · exact ⟨_, h2⟩
  refine ⟨F, γ, fun _ h => h, fun _ h => .inl h, ⟨hr.heap.below, hr.heap.hB, hr.heap.fsz, fun m o hm => ?_, fun m o hm => ?_, fun m k om ok hm hk hne => ?_, hr.heap.pin⟩, hr.defers, hr.nt, hr.regs⟩
  · rcases hlk m o hm with ⟨rfl, rfl⟩ | ⟨_, h2⟩
    · obtain ⟨b, e, vs, hx, hB, hh, hc⟩ := hr.heap.ob m _ hl
      exact ⟨b, e, vs, hx, hB, hh, h.rel hc⟩
    · exact hr.heap.ob m o h2
  · obtain ⟨o', ho'⟩ := hex m o hm
    exact hr.heap.apart m o' ho'
  · obtain ⟨o1, h1⟩ := hex m om hm
    obtain ⟨o2, h2⟩ := hex k ok hk
    exact hr.heap.sep m k o1 o2 h1 h2 hne

theorem le_name {s : HS} (t n d : Nat) {e : TypeId} {sz : Nat} {rows : List (List CD)} (hl : opd s.regs (.tmp t) = .v (.one (.own n))) (ho : lkp s.objs n = some (.row e sz rows)) (hd : d < 1000000) :
    le s ⟨s.nt, [(t, .v (.one (.own d)))], [(d, .row e sz rows)]⟩ := by
  have hp : pinR (fun _ => n) d = n := by unfold pinR; rw [if_neg (by omega)]
  refine le_mk (fun _ => n) [] rfl ?_ ?_ ?_
  · refine ⟨⟨rfl, ?_⟩, trivial⟩
    rw [hl]
    simp only [RV.ren, TV.ren, CV.ren, hp, List.contains_nil, Bool.false_eq_true, if_false]
  · simp only [allL, List.contains_nil, Bool.false_eq_true, if_false, Ob.okNil, hp, ho, Ob.ren, and_self]
  · simp only [allL, true_or, and_self]
theorem le_nameN {s : HS} (t d : Nat) (e : TypeId) (sz : Nat) (hl : opd s.regs (.tmp t) = .v (.one (.c (.lit nilS)))) (hs : 0 < sz) (hd : d < 1000000) :
    le s ⟨s.nt, [(t, .v (.one (.own d)))], [(d, .row e sz [])]⟩ := by
  refine le_mk (fun n => n) [d] rfl ?_ ?_ ?_ (by simpa using hd)
  · refine ⟨⟨by simp [RV.okNil, TV.okNil, CV.okNil], ?_⟩, trivial⟩
    rw [hl]
    simp [RV.ren, TV.ren, CV.ren]
  · simp [allL, hs]
  · simp [allL]

/-- a slice that is empty is nil or it is not -/
theorem con_emp {P : Program} {f : FuncId} {fresh : Bool} {r : RV} {ob : Option Ob} {d s : Nat} (h1 : Con P f fresh [.one (.c (.lit nilS))] r ob d) (h2 : ∀ a cap, Con P f fresh [.one (.c (.lit (.slice (some a) 0 cap)))] r ob d) : Con P f fresh [.one (.c (.sl s []))] r ob d := by
  refine ⟨h1.1, fun F w vs hF hsz hargs => ?_⟩
  have hv : ∃ u, vs[0]? = some u := ⟨vs[0]'(by rw [hsz]; simp), by simp [hsz]⟩
  obtain ⟨u, hu⟩ := hv
  have hr : CRel F w (.sl s []) u := hargs 0 _ u rfl hu
  have go : ∀ (v : Value), u = v → Con P f fresh [.one (.c (.lit v))] r ob d → _ := fun v hv hc => hc.2 F w vs hF (by simpa using hsz) fun j t u' ht hu' => by
    cases j with
    | zero =>
      cases ht
      rw [hu] at hu'
      cases hu'
      subst hv
      exact CRel.lit u
    | succ j => cases ht
  rcases CRel.sl_inv hr with ⟨_, hv | ⟨a, cap, hv⟩⟩ | ⟨b, o, cap, cells, hv, _⟩
  · exact go _ hv h1
  · exact go _ hv (h2 a cap)
  · exact go _ hv (h2 _ cap)
theorem set_self {α : Type} {l : List α} {k : Nat} {x : α} (h : l[k]? = some x) : l.set k x = l := by
  apply List.ext_getElem?
  intro j
  rw [List.getElem?_set]
  split
  · rename_i e
    subst e
    have hk : k < l.length := (List.getElem?_eq_some_iff.1 h).1
    rw [if_pos hk, h]
  · rfl
end Go.Proofs.YtfilidjbpomgoaaGreat

namespace Go.Proofs.YtfilidjbpomgoaaGreat
open Go Go.Hl

/-! ## copies -/
theorem cloneV_con (l : List Vr) (hl : l.length ≤ 1000000) (d : Nat) : Con Tryz.prog 57 false [lV l] (.v (lV l)) none d := by
  have hroom : room l.length 48 := room_of (by omega) (by omega)
  cases l with
  | nil =>
    refine con_emp ?_ ?_
    · refine con_of_HT Tryz.func57 rfl (by kernel_rfl) (Nat.le_of_ble_eq_true rfl) ?_
      simp only [Tryz.f57]
      refine HT_seq <| (HT_run (by simp [*]; rfl) ?_)
      refine HT_seq <| HT_seq <| (HT_run (by simp [*]; rfl) ?_)
      refine (HT_cond rfl (fun h2 => ?_) (fun h2 => HT_skip ?_))
      · try simp only [Bool.or_eq_true, Bool.and_eq_true, Bool.or_eq_false_iff, Bool.and_eq_false_iff, Bool.not_eq_true', Bool.not_eq_false', decide_eq_true_eq, decide_eq_false_iff_not] at h2
        refine HT_seq <| (HT_run (by simp [*]; rfl) ?_)
        exact HT_ret ⟨.inr rfl, _, le_one 2 5 rfl, ⟨⟨_, by simp; rfl, by simp [resR]⟩, by simp, fun h => by cases h⟩⟩
      · exact absurd h2 (by simp)
    · intro a cap
      refine con_of_HT Tryz.func57 rfl (by kernel_rfl) (Nat.le_of_ble_eq_true rfl) ?_
      simp only [Tryz.f57]
      refine HT_seq <| (HT_run (by simp [*]; rfl) ?_)
      refine HT_seq <| HT_seq <| (HT_run (by simp [*]; rfl) ?_)
      refine (HT_cond rfl (fun h2 => ?_) (fun h2 => HT_skip ?_))
      · exact absurd h2 (by simp)
      · try simp only [Bool.or_eq_true, Bool.and_eq_true, Bool.or_eq_false_iff, Bool.and_eq_false_iff, Bool.not_eq_true', Bool.not_eq_false', decide_eq_true_eq, decide_eq_false_iff_not] at h2
        refine HT_le (le_emp 0 5 rfl) ?_
        refine HT_seq <| (HT_run (by simp [*]; rfl) ?_)
        exact HT_ret ⟨.inr rfl, _, le_frz 7 rfl, ⟨⟨_, by simp; rfl, by simp [resR]⟩, by simp, fun h => by cases h⟩⟩
  | cons v r =>
    refine con_of_HT Tryz.func57 rfl (by kernel_rfl) (Nat.le_of_ble_eq_true rfl) ?_
    simp only [Tryz.f57]
    rw [List.length_cons] at hroom
    refine HT_seq <| (HT_run (by simp [*]; rfl) ?_)
    refine HT_seq <| HT_seq <| (HT_run (by simp [*]; rfl) ?_)
    refine (HT_cond rfl (fun h2 => ?_) (fun h2 => HT_skip ?_))
    · exact absurd h2 (by simp)
    · try simp only [Bool.or_eq_true, Bool.and_eq_true, Bool.or_eq_false_iff, Bool.and_eq_false_iff, Bool.not_eq_true', Bool.not_eq_false', decide_eq_true_eq, decide_eq_false_iff_not] at h2
      refine HT_seq <| (HT_run (by simp [*]; rfl) ?_)
      exact HT_ret ⟨.inr rfl, _, le_frz 7 rfl, ⟨⟨_, by simp; rfl, by simp [resR]⟩, by simp, fun h => by cases h⟩⟩
theorem cloneI_con (l : List Int) (hl : l.length ≤ 1000000000) (d : Nat) : Con Tryz.prog 46 false [lI l] (.v (lI l)) none d := by
  have hroom : room l.length 8 := ⟨by unfold maxLen; omega, by omega⟩
  cases l with
  | nil =>
    refine con_emp ?_ ?_
    · refine con_of_HT Tryz.func46 rfl (by kernel_rfl) (Nat.le_of_ble_eq_true rfl) ?_
      simp only [Tryz.f46]
      refine HT_seq <| (HT_run (by simp [*]; rfl) ?_)
      refine HT_seq <| HT_seq <| (HT_run (by simp [*]; rfl) ?_)
      refine (HT_cond rfl (fun h2 => ?_) (fun h2 => HT_skip ?_))
      · try simp only [Bool.or_eq_true, Bool.and_eq_true, Bool.or_eq_false_iff, Bool.and_eq_false_iff, Bool.not_eq_true', Bool.not_eq_false', decide_eq_true_eq, decide_eq_false_iff_not] at h2
        refine HT_seq <| (HT_run (by simp [*]; rfl) ?_)
        exact HT_ret ⟨.inr rfl, _, le_one 2 1 rfl, ⟨⟨_, by simp; rfl, by simp [resR]⟩, by simp, fun h => by cases h⟩⟩
      · exact absurd h2 (by simp)
    · intro a cap
      refine con_of_HT Tryz.func46 rfl (by kernel_rfl) (Nat.le_of_ble_eq_true rfl) ?_
      simp only [Tryz.f46]
      refine HT_seq <| (HT_run (by simp [*]; rfl) ?_)
      refine HT_seq <| HT_seq <| (HT_run (by simp [*]; rfl) ?_)
      refine (HT_cond rfl (fun h2 => ?_) (fun h2 => HT_skip ?_))
      · exact absurd h2 (by simp)
      · try simp only [Bool.or_eq_true, Bool.and_eq_true, Bool.or_eq_false_iff, Bool.and_eq_false_iff, Bool.not_eq_true', Bool.not_eq_false', decide_eq_true_eq, decide_eq_false_iff_not] at h2
        refine HT_le (le_emp 0 1 rfl) ?_
        refine HT_seq <| (HT_run (by simp [*]; rfl) ?_)
        exact HT_ret ⟨.inr rfl, _, le_frz 7 rfl, ⟨⟨_, by simp; rfl, by simp [resR]⟩, by simp, fun h => by cases h⟩⟩
  | cons v r =>
    refine con_of_HT Tryz.func46 rfl (by kernel_rfl) (Nat.le_of_ble_eq_true rfl) ?_
    simp only [Tryz.f46]
    rw [List.length_cons] at hroom
    refine HT_seq <| (HT_run (by simp [*]; rfl) ?_)
    refine HT_seq <| HT_seq <| (HT_run (by simp [*]; rfl) ?_)
    refine (HT_cond rfl (fun h2 => ?_) (fun h2 => HT_skip ?_))
    · exact absurd h2 (by simp)
    · try simp only [Bool.or_eq_true, Bool.and_eq_true, Bool.or_eq_false_iff, Bool.and_eq_false_iff, Bool.not_eq_true', Bool.not_eq_false', decide_eq_true_eq, decide_eq_false_iff_not] at h2
      refine HT_seq <| (HT_run (by simp [*]; rfl) ?_)
      exact HT_ret ⟨.inr rfl, _, le_frz 7 rfl, ⟨⟨_, by simp; rfl, by simp [resR]⟩, by simp, fun h => by cases h⟩⟩
theorem cloneH_con (l : List Ht) (hl : l.length ≤ 1000000) (d : Nat) (hd : d < 1000000) : Con Tryz.prog 58 false [.one (.c (.sl 6 (encHs l)))] (.v (.one (.own d))) (some (.row 68 6 (encHs l))) d := by
  have hroom : room l.length 72 := room_of (by omega) (by omega)
  cases l with
  | nil =>
    refine con_emp ?_ ?_
    · refine con_of_HT Tryz.func58 rfl (by kernel_rfl) (Nat.le_of_ble_eq_true rfl) ?_
      simp only [Tryz.f58]
      refine HT_seq <| (HT_run (by simp [*]; rfl) ?_)
      refine HT_seq <| HT_seq <| (HT_run (by simp [*]; rfl) ?_)
      refine (HT_cond rfl (fun h2 => ?_) (fun h2 => HT_skip ?_))
      · try simp only [Bool.or_eq_true, Bool.and_eq_true, Bool.or_eq_false_iff, Bool.and_eq_false_iff, Bool.not_eq_true', Bool.not_eq_false', decide_eq_true_eq, decide_eq_false_iff_not] at h2
        refine HT_seq <| (HT_run (by simp [*]; rfl) ?_)
        exact HT_ret ⟨.inr rfl, _, le_nameN 2 d 68 6 rfl (by decide) hd, ⟨⟨_, by simp; rfl, by simp [resR]⟩, by simp, fun h => by cases h⟩⟩
      · exact absurd h2 (by simp)
    · intro a cap
      refine con_of_HT Tryz.func58 rfl (by kernel_rfl) (Nat.le_of_ble_eq_true rfl) ?_
      simp only [Tryz.f58]
      refine HT_seq <| (HT_run (by simp [*]; rfl) ?_)
      refine HT_seq <| HT_seq <| (HT_run (by simp [*]; rfl) ?_)
      refine (HT_cond rfl (fun h2 => ?_) (fun h2 => HT_skip ?_))
      · exact absurd h2 (by simp)
      · try simp only [Bool.or_eq_true, Bool.and_eq_true, Bool.or_eq_false_iff, Bool.and_eq_false_iff, Bool.not_eq_true', Bool.not_eq_false', decide_eq_true_eq, decide_eq_false_iff_not] at h2
        refine HT_le (le_emp 0 6 rfl) ?_
        refine HT_seq <| (HT_run (by simp [*]; rfl) ?_)
        exact HT_ret ⟨.inr rfl, _, le_name 2 7 d rfl rfl hd, ⟨⟨_, by simp; rfl, by simp [resR]⟩, by simp, fun h => by cases h⟩⟩
  | cons v r =>
    refine con_of_HT Tryz.func58 rfl (by kernel_rfl) (Nat.le_of_ble_eq_true rfl) ?_
    simp only [Tryz.f58]
    rw [List.length_cons] at hroom
    refine HT_seq <| (HT_run (by simp [*]; rfl) ?_)
    refine HT_seq <| HT_seq <| (HT_run (by simp [*]; rfl) ?_)
    refine (HT_cond rfl (fun h2 => ?_) (fun h2 => HT_skip ?_))
    · exact absurd h2 (by simp)
    · try simp only [Bool.or_eq_true, Bool.and_eq_true, Bool.or_eq_false_iff, Bool.and_eq_false_iff, Bool.not_eq_true', Bool.not_eq_false', decide_eq_true_eq, decide_eq_false_iff_not] at h2
      refine HT_seq <| (HT_run (by simp [*]; rfl) ?_)
      exact HT_ret ⟨.inr rfl, _, le_name 2 7 d rfl rfl hd, ⟨⟨_, by simp; rfl, by simp [resR]⟩, by simp, fun h => by cases h⟩⟩

theorem term_con (t : Tm) : t.nodes ≤ 1000000 → ∀ d : Nat, Con Tryz.prog 59 false [aT t] (.v (aT t)) none d := by
  induction t using Tm.ind with
  | h o n ks ih =>
  intro hn d
  simp only [Tm.nodes] at hn
  have hlen := len_nodesT ks
  refine con_of_HT Tryz.func59 rfl (by kernel_rfl) (Nat.le_of_ble_eq_true rfl) ?_
  simp only [Tryz.f59]
  simp only [aT, Tm.enc]
  refine HT_seq <| (HT_run (by simp [*]; rfl) ?_)
  refine HT_seq <| (HT_run (by simp [*]; rfl) ?_)
  refine HT_seq <| HT_seq <| (HT_run (by simp [*]; rfl) ?_)
  refine HT_block <| (HT_loopU [1, 2, 7, 8] (fun (x : Nat) => [(3, .v (.one (.own 1003))), (9, .v (li x))]) (fun (x : Nat) => [(1, .box [.c (iC o), .c (iC n), .c (.sl 3 (encTs ks))]), (2, .box [.c (iC 0), .c (iC 0), .c (.lit nilS)]), (1003, .row 54 3 (encTs (ks.take x)))]) (fun (x : Nat) => x ≤ ks.length) (fun (x : Nat) => ks.length - x) (0 : Nat) (Nat.zero_le _) ?_ ?_)
  · exact le_mk (fun n => n) [1003] rfl (by simp [*, upS, keepS]) (by simp [*, upS]) (by simp [upS])
  rintro k hk
  simp only [upS, keepS, insS]
  try simp only [keepS, List.contains_cons, List.contains_nil, Bool.or_false, Bool.or_true, Bool.true_or, Bool.false_or, Nat.reduceBEq, BEq.rfl, beq_self_eq_true, if_true, if_false, Bool.false_eq_true, ite_true, ite_false, ins, Nat.reduceLT]
  refine HT_seq <| (HT_run (by simp [*]; rfl) ?_)
  refine HT_seq <| (HT_cond rfl (fun h5 => HT_skip ?_) (fun h5 => ?_))
  · try simp only [Bool.or_eq_true, Bool.and_eq_true, Bool.or_eq_false_iff, Bool.and_eq_false_iff, Bool.not_eq_true', Bool.not_eq_false', decide_eq_true_eq, decide_eq_false_iff_not] at h5
    have hlt : k < ks.length := by omega
    obtain ⟨⟨eo, en, ek⟩, he, hd⟩ := at_lt hlt
    have he' := get_encT he
    simp only [Tm.enc] at he'
    have hw1 := wrap1 hlt (by omega)
    have hk1 : k + 1 ≤ ks.length := hlt
    have hmem : Tm.mk eo en ek ∈ ks := List.mem_of_getElem? he
    have hnm := nodes_mem hmem
    have c := ih _ hmem (by omega)
    have htl : (ks.take k).length = k := by rw [List.length_take]; omega
    have hroom : room (k + 1) 40 := room_of (by omega) (by omega)
    have hsn : encTs (ks.take (k + 1)) = encTs (ks.take k) ++ [[iC eo, iC en, .sl 3 (encTs ek)]] := by
      rw [encTs_map, encTs_map, List.take_add_one, he, Option.toList_some, List.map_append]
      rfl
    clear hlt h5 ih hmem hnm
    refine HT_seq <| HT_block <| HT_seq <| (HT_run (by simp [*]; rfl) ?_)
    refine (HT_runc [⟨false, .v (aT (.mk eo en ek)), none⟩] (by simp [*]; first | exact ⟨rfl, Iff.rfl⟩ | exact ⟨rfl, trivial⟩ | rfl) ?_ ?_)
    · first | exact c _ | exact trivial | simpa [*] using c _
    refine (HT_run (by simp [*]; rfl) ?_)
    exact ⟨k + 1, hk1, by omega, le_mk (fun n => if n = 1003 then 17 else n) [] rfl (by simp [upS, keepS, *]) (by simp [*, upS]) (by simp [upS])⟩
  · try simp only [Bool.or_eq_true, Bool.and_eq_true, Bool.or_eq_false_iff, Bool.and_eq_false_iff, Bool.not_eq_true', Bool.not_eq_false', decide_eq_true_eq, decide_eq_false_iff_not] at h5
    have hkl : k = ks.length := by omega
    subst hkl
    simp only [List.take_length]
    refine (HT_exit ?_)
    refine HT_seq <| (HT_run (by simp [*]; rfl) ?_)
    refine HT_seq <| (HT_run (by simp [*]; rfl) ?_)
    exact HT_ret ⟨.inr rfl, _, le_frz 1003 rfl, ⟨⟨_, by simp; rfl, by simp [resR]⟩, by simp, fun h => by cases h⟩⟩
end Go.Proofs.YtfilidjbpomgoaaGreat

namespace Go.Proofs.YtfilidjbpomgoaaGreat
open Go Go.Hl

@[simp] theorem encI_app (a b : List Int) : encIs (a ++ b) = encIs a ++ encIs b := by simp [encIs]
@[simp] theorem encI_one (x : Int) : encIs [x] = [[iC x]] := rfl
structure Inp where
  s : List Int
  p : List Int
  r : List Int
abbrev aI (i : Inp) : TV := .agg [.c (.sl 1 (encIs i.s)), .c (.sl 1 (encIs i.p)), .c (.sl 1 (encIs i.r))]
structure Pk where
  n : Int
  is_ : Bool
  a : Nat
  b : Nat
  c : Nat
def pick3 (v : Vr) (i : Inp) (a b c : Nat) : Pk :=
  if v.kind = 1 then ⟨(i.s[a]?).getD 0, decide (a < i.s.length), a + 1, b, c⟩
  else if v.kind = 2 then ⟨(i.p[b]?).getD 0, decide (b < i.p.length), a, b + 1, c⟩
  else if v.kind = 3 then ⟨(i.r[c]?).getD 0, decide (c < i.r.length), a, b, c + 1⟩
  else ⟨v.init, true, a, b, c⟩
def stL (i : Inp) : List Vr → Nat → Nat → Nat → List Int → Bool → List Int × Int
  | [], a, b, c, vals, fits => if a = i.s.length ∧ b = i.p.length ∧ c = i.r.length then (if fits = true then (vals, 0) else ([], 3)) else ([], 1)
  | v :: l, a, b, c, vals, fits =>
    if (pick3 v i a b c).is_ = true then stL i l (pick3 v i a b c).a (pick3 v i a b c).b (pick3 v i a b c).c (vals ++ [(pick3 v i a b c).n]) (fits && (decide (v.low ≤ (pick3 v i a b c).n) && decide ((pick3 v i a b c).n ≤ v.high)))
    else ([], 1)
theorem start_con (vars : List Vr) (i : Inp) (hl : vars.length ≤ 1000000) (d : Nat) : Con Tryz.prog 79 false [lV vars, aI i] (.tup [lI (stL i vars 0 0 0 [] true).1, li (stL i vars 0 0 0 [] true).2]) none d := by
  obtain ⟨res, hres⟩ : ∃ r, stL i vars 0 0 0 [] true = r := ⟨_, rfl⟩
  rw [hres]
  obtain ⟨is, ip, ir⟩ := i
  refine con_of_HT Tryz.func79 rfl (by kernel_rfl) (Nat.le_of_ble_eq_true rfl) ?_
  simp only [Tryz.f79]
  simp only [aI]
  refine HT_seq <| (HT_run (by simp [*]; rfl) ?_)
  refine HT_seq <| (HT_run (by simp [*]; rfl) ?_)
  refine HT_seq <| (HT_run (by simp [*]; rfl) ?_)
  refine HT_seq <| (HT_run (by simp [*]; rfl) ?_)
  refine HT_seq <| HT_seq <| (HT_run (by simp [*]; rfl) ?_)
  refine HT_block <| (HT_loopU [0, 3] (fun (x : Nat × Nat × Nat × Nat × List Int × Bool) => [(6, .v (li x.2.1)), (7, .v (li x.2.2.1)), (8, .v (li x.2.2.2.1)), (9, .v (.one (.own 1009))), (10, .v (lb x.2.2.2.2.2)), (11, .v (li x.1))]) (fun (x : Nat × Nat × Nat × Nat × List Int × Bool) => [(3, .box [.c (.sl 1 (encIs is)), .c (.sl 1 (encIs ip)), .c (.sl 1 (encIs ir))]), (1009, .row 3 1 (encIs x.2.2.2.2.1))]) (fun (x : Nat × Nat × Nat × Nat × List Int × Bool) => x.1 ≤ vars.length ∧ stL ⟨is, ip, ir⟩ (vars.drop x.1) x.2.1 x.2.2.1 x.2.2.2.1 x.2.2.2.2.1 x.2.2.2.2.2 = res ∧ x.2.2.2.2.1.length = x.1 ∧ x.2.1 ≤ x.1 ∧ x.2.2.1 ≤ x.1 ∧ x.2.2.2.1 ≤ x.1) (fun (x : Nat × Nat × Nat × Nat × List Int × Bool) => vars.length - x.1) (0, 0, 0, 0, [], true) ⟨Nat.zero_le _, hres, rfl, Nat.le_refl _, Nat.le_refl _, Nat.le_refl _⟩ ?_ ?_)
  · exact le_mk (fun n => if n = 1009 then 15 else n) [] rfl (by simp [*, upS, keepS]) (by simp [*, upS]) (by simp [upS])
  rintro ⟨k, a, b, c, vals, fits⟩ ⟨hk, hJ, hvl, ha, hb, hc⟩
  simp only [upS, keepS, insS]
  try simp only [keepS, List.contains_cons, List.contains_nil, Bool.or_false, Bool.or_true, Bool.true_or, Bool.false_or, Nat.reduceBEq, BEq.rfl, beq_self_eq_true, if_true, if_false, Bool.false_eq_true, ite_true, ite_false, ins, Nat.reduceLT]
  simp only at hk hJ hvl ha hb hc
  clear hres
  refine HT_seq <| HT_seq <| (HT_run (by simp [*]; rfl) ?_)
  refine (HT_cond rfl (fun h7 => HT_skip ?_) (fun h7 => ?_))
  · try simp only [Bool.or_eq_true, Bool.and_eq_true, Bool.or_eq_false_iff, Bool.and_eq_false_iff, Bool.not_eq_true', Bool.not_eq_false', decide_eq_true_eq, decide_eq_false_iff_not] at h7
    have hlt : k < vars.length := by omega
    obtain ⟨v, he, hd⟩ := at_lt hlt
    have hw1 := wrap1 hlt (by omega)
    have hwa : IntKind.i64.wrap ((a : Int) + 1) = (a : Int) + 1 := wrap_in (by omega) (by omega)
    have hwb : IntKind.i64.wrap ((b : Int) + 1) = (b : Int) + 1 := wrap_in (by omega) (by omega)
    have hwc : IntKind.i64.wrap ((c : Int) + 1) = (c : Int) + 1 := wrap_in (by omega) (by omega)
    have hk1 : k + 1 ≤ vars.length := hlt
    have hroom : room (k + 1) 8 := room_of (by omega) (by omega)
    rw [hd] at hJ
    simp only [stL] at hJ
    obtain ⟨nm, kd, lo, hi, ini⟩ := v
    obtain ⟨Q, hQ⟩ : ∃ q, pick3 ⟨nm, kd, lo, hi, ini⟩ ⟨is, ip, ir⟩ a b c = q := ⟨_, rfl⟩
    rw [hQ] at hJ
    unfold pick3 at hQ
    simp only at hQ
    clear hlt h7 hd
    refine HT_seq <| HT_block <| HT_seq <| (HT_run (by simp [*]; rfl) ?_)
    refine HT_seq <| (HT_run (by simp [*]; rfl) ?_)
    refine (HT_cutU [0, 3, 9, 10, 11, 12] (fun (z : Pk) => [(6, .v (li z.a)), (7, .v (li z.b)), (8, .v (li z.c)), (13, .v (li z.n)), (14, .v (lb z.is_))]) (fun (z : Pk) => [(3, .box [.c (.sl 1 (encIs is)), .c (.sl 1 (encIs ip)), .c (.sl 1 (encIs ir))]), (12, .box [.c (sC nm), .c (iC kd), .c (iC lo), .c (iC hi), .c (iC ini)]), (1009, .row 3 1 (encIs vals))]) (fun (z : Pk) => z = Q ∧ z.a ≤ k + 1 ∧ z.b ≤ k + 1 ∧ z.c ≤ k + 1) ?_ ?_)
    ·
      refine HT_seq <| (HT_run (by simp [*]; rfl) ?_)
      refine HT_block <| HT_seq <| (HT_run (by simp [*]; rfl) ?_)
      refine (HT_cond rfl (fun h13 => ?_) (fun h13 => ?_))
      · try simp only [Bool.or_eq_true, Bool.and_eq_true, Bool.or_eq_false_iff, Bool.and_eq_false_iff, Bool.not_eq_true', Bool.not_eq_false', decide_eq_true_eq, decide_eq_false_iff_not] at h13
        rw [if_pos h13] at hQ
        refine HT_seq <| (HT_runc [⟨true, .tup [li ((is[a]?).getD 0), lb (decide (a < is.length))], none⟩] (by simp [*]; first | exact ⟨rfl, Iff.rfl⟩ | exact ⟨rfl, trivial⟩ | rfl) ?_ ?_)
        · first | exact at_con _ _ _ | exact trivial | simpa [*] using at_con _ _ _
        refine (HT_run (by simp [*]; rfl) ?_)
        exact ⟨⟨(is[a]?).getD 0, decide (a < is.length), a + 1, b, c⟩, ⟨hQ, by simp only; omega, by simp only; omega, by simp only; omega⟩, le_mk (fun n => n) [] rfl (by simp [upS, keepS, *]) (by simp [*, upS]) (by simp [upS])⟩
      · try simp only [Bool.or_eq_true, Bool.and_eq_true, Bool.or_eq_false_iff, Bool.and_eq_false_iff, Bool.not_eq_true', Bool.not_eq_false', decide_eq_true_eq, decide_eq_false_iff_not] at h13
        rw [if_neg h13] at hQ
        refine HT_seq <| (HT_run (by simp [*]; rfl) ?_)
        refine (HT_cond rfl (fun h18 => ?_) (fun h18 => ?_))
        · try simp only [Bool.or_eq_true, Bool.and_eq_true, Bool.or_eq_false_iff, Bool.and_eq_false_iff, Bool.not_eq_true', Bool.not_eq_false', decide_eq_true_eq, decide_eq_false_iff_not] at h18
          rw [if_pos h18] at hQ
          refine HT_seq <| (HT_runc [⟨true, .tup [li ((ip[b]?).getD 0), lb (decide (b < ip.length))], none⟩] (by simp [*]; first | exact ⟨rfl, Iff.rfl⟩ | exact ⟨rfl, trivial⟩ | rfl) ?_ ?_)
          · first | exact at_con _ _ _ | exact trivial | simpa [*] using at_con _ _ _
          refine (HT_run (by simp [*]; rfl) ?_)
          exact ⟨⟨(ip[b]?).getD 0, decide (b < ip.length), a, b + 1, c⟩, ⟨hQ, by simp only; omega, by simp only; omega, by simp only; omega⟩, le_mk (fun n => n) [] rfl (by simp [upS, keepS, *]) (by simp [*, upS]) (by simp [upS])⟩
        · try simp only [Bool.or_eq_true, Bool.and_eq_true, Bool.or_eq_false_iff, Bool.and_eq_false_iff, Bool.not_eq_true', Bool.not_eq_false', decide_eq_true_eq, decide_eq_false_iff_not] at h18
          rw [if_neg h18] at hQ
          refine HT_seq <| (HT_run (by simp [*]; rfl) ?_)
          refine (HT_cond rfl (fun h23 => ?_) (fun h23 => HT_skip ?_))
          · try simp only [Bool.or_eq_true, Bool.and_eq_true, Bool.or_eq_false_iff, Bool.and_eq_false_iff, Bool.not_eq_true', Bool.not_eq_false', decide_eq_true_eq, decide_eq_false_iff_not] at h23
            rw [if_pos h23] at hQ
            refine HT_seq <| (HT_runc [⟨true, .tup [li ((ir[c]?).getD 0), lb (decide (c < ir.length))], none⟩] (by simp [*]; first | exact ⟨rfl, Iff.rfl⟩ | exact ⟨rfl, trivial⟩ | rfl) ?_ ?_)
            · first | exact at_con _ _ _ | exact trivial | simpa [*] using at_con _ _ _
            refine (HT_run (by simp [*]; rfl) ?_)
            exact ⟨⟨(ir[c]?).getD 0, decide (c < ir.length), a, b, c + 1⟩, ⟨hQ, by simp only; omega, by simp only; omega, by simp only; omega⟩, le_mk (fun n => n) [] rfl (by simp [upS, keepS, *]) (by simp [*, upS]) (by simp [upS])⟩
          · try simp only [Bool.or_eq_true, Bool.and_eq_true, Bool.or_eq_false_iff, Bool.and_eq_false_iff, Bool.not_eq_true', Bool.not_eq_false', decide_eq_true_eq, decide_eq_false_iff_not] at h23
            rw [if_neg h23] at hQ
            exact ⟨⟨ini, true, a, b, c⟩, ⟨hQ, by simp only; omega, by simp only; omega, by simp only; omega⟩, le_mk (fun n => n) [] rfl (by simp [upS, keepS, *]) (by simp [*, upS]) (by simp [upS])⟩
    rintro ⟨zn, zi, za, zb, zc⟩ ⟨hz, h1, h2, h3⟩
    simp only [upS, keepS, insS]
    try simp only [keepS, List.contains_cons, List.contains_nil, Bool.or_false, Bool.or_true, Bool.true_or, Bool.false_or, Nat.reduceBEq, BEq.rfl, beq_self_eq_true, if_true, if_false, Bool.false_eq_true, ite_true, ite_false, ins, Nat.reduceLT]
    clear hQ
    subst hz
    simp only at h1 h2 h3 hJ
    refine HT_seq <| HT_seq <| (HT_run (by simp [*]; rfl) ?_)
    refine (HT_cond rfl (fun h29 => ?_) (fun h29 => HT_skip ?_))
    · try simp only [Bool.or_eq_true, Bool.and_eq_true, Bool.or_eq_false_iff, Bool.and_eq_false_iff, Bool.not_eq_true', Bool.not_eq_false', decide_eq_true_eq, decide_eq_false_iff_not] at h29
      rw [if_neg (by simp [h29])] at hJ
      subst hJ
      refine HT_seq <| (HT_run (by simp [*]; rfl) ?_)
      exact HT_ret ⟨.inr rfl, _, le_one 4 1 rfl, ⟨⟨_, by simp; rfl, by simp [resR]⟩, by simp, fun h => by cases h⟩⟩
    · try simp only [Bool.or_eq_true, Bool.and_eq_true, Bool.or_eq_false_iff, Bool.and_eq_false_iff, Bool.not_eq_true', Bool.not_eq_false', decide_eq_true_eq, decide_eq_false_iff_not] at h29
      rw [if_pos (by simpa using h29)] at hJ
      refine HT_seq <| HT_seq <| (HT_run (by simp [*]; rfl) ?_)
      refine (HT_cond rfl (fun h33 => ?_) (fun h33 => HT_skip ?_))
      · try simp only [Bool.or_eq_true, Bool.and_eq_true, Bool.or_eq_false_iff, Bool.and_eq_false_iff, Bool.not_eq_true', Bool.not_eq_false', decide_eq_true_eq, decide_eq_false_iff_not] at h33
        have hz : (decide (lo ≤ zn) && decide (zn ≤ hi)) = false := by
          simp only [Bool.and_eq_false_iff, decide_eq_false_iff_not]
          omega
        rw [hz, Bool.and_false] at hJ
        refine (HT_run (by simp [*]; rfl) ?_)
        refine (HT_run (by simp [*]; rfl) ?_)
        refine (HT_run (by simp [*]; rfl) ?_)
        exact ⟨(k + 1, za, zb, zc, vals ++ [zn], false), ⟨hk1, hJ, by simp [hvl], h1, h2, h3⟩, by simp only; omega, le_mk (fun n => if n = 1009 then 78 else n) [] rfl (by simp [upS, keepS, *]) (by simp [*, upS]) (by simp [upS])⟩
      · try simp only [Bool.or_eq_true, Bool.and_eq_true, Bool.or_eq_false_iff, Bool.and_eq_false_iff, Bool.not_eq_true', Bool.not_eq_false', decide_eq_true_eq, decide_eq_false_iff_not] at h33
        have hz : (decide (lo ≤ zn) && decide (zn ≤ hi)) = true := by
          simp only [Bool.and_eq_true, decide_eq_true_eq]
          omega
        rw [hz, Bool.and_true] at hJ
        refine (HT_run (by simp [*]; rfl) ?_)
        refine (HT_run (by simp [*]; rfl) ?_)
        exact ⟨(k + 1, za, zb, zc, vals ++ [zn], fits), ⟨hk1, hJ, by simp [hvl], h1, h2, h3⟩, by simp only; omega, le_mk (fun n => if n = 1009 then 78 else n) [] rfl (by simp [upS, keepS, *]) (by simp [*, upS]) (by simp [upS])⟩
  · try simp only [Bool.or_eq_true, Bool.and_eq_true, Bool.or_eq_false_iff, Bool.and_eq_false_iff, Bool.not_eq_true', Bool.not_eq_false', decide_eq_true_eq, decide_eq_false_iff_not] at h7
    have hkl : k = vars.length := by omega
    rw [hkl, List.drop_length] at hJ
    simp only [stL] at hJ
    refine (HT_exit ?_)
    refine HT_seq <| HT_seq <| (HT_run (by simp [*]; rfl) ?_)
    refine (HT_cond rfl (fun h42 => ?_) (fun h42 => HT_skip ?_))
    · try simp only [Bool.or_eq_true, Bool.and_eq_true, Bool.or_eq_false_iff, Bool.and_eq_false_iff, Bool.not_eq_true', Bool.not_eq_false', decide_eq_true_eq, decide_eq_false_iff_not] at h42
      rw [if_neg (by omega)] at hJ
      subst hJ
      refine HT_seq <| (HT_run (by simp [*]; rfl) ?_)
      exact HT_ret ⟨.inr rfl, _, le_one 4 1 rfl, ⟨⟨_, by simp; rfl, by simp [resR]⟩, by simp, fun h => by cases h⟩⟩
    · try simp only [Bool.or_eq_true, Bool.and_eq_true, Bool.or_eq_false_iff, Bool.and_eq_false_iff, Bool.not_eq_true', Bool.not_eq_false', decide_eq_true_eq, decide_eq_false_iff_not] at h42
      rw [if_pos (by omega)] at hJ
      refine HT_seq <| HT_seq <| (HT_run (by simp [*]; rfl) ?_)
      refine (HT_cond rfl (fun h46 => ?_) (fun h46 => HT_skip ?_))
      · try simp only [Bool.or_eq_true, Bool.and_eq_true, Bool.or_eq_false_iff, Bool.and_eq_false_iff, Bool.not_eq_true', Bool.not_eq_false', decide_eq_true_eq, decide_eq_false_iff_not] at h46
        rw [if_neg (by simp [h46])] at hJ
        subst hJ
        refine HT_seq <| (HT_run (by simp [*]; rfl) ?_)
        exact HT_ret ⟨.inr rfl, _, le_one 4 1 rfl, ⟨⟨_, by simp; rfl, by simp [resR]⟩, by simp, fun h => by cases h⟩⟩
      · try simp only [Bool.or_eq_true, Bool.and_eq_true, Bool.or_eq_false_iff, Bool.and_eq_false_iff, Bool.not_eq_true', Bool.not_eq_false', decide_eq_true_eq, decide_eq_false_iff_not] at h46
        rw [if_pos (by simpa using h46)] at hJ
        subst hJ
        refine HT_seq <| (HT_run (by simp [*]; rfl) ?_)
        exact HT_ret ⟨.inr rfl, _, le_frz 1009 rfl, ⟨⟨_, by simp; rfl, by simp [resR]⟩, by simp, fun h => by cases h⟩⟩
end Go.Proofs.YtfilidjbpomgoaaGreat

namespace Go.Proofs.YtfilidjbpomgoaaGreat
open Go Go.Hl

theorem kids_eq (o : Int) (len : Nat) : (!decide (kidsR o = -1) && ((!decide (0 ≤ kidsR o) || decide ((len : Int) = kidsR o)) && (!decide (kidsR o = -2) || (!decide ((len : Int) < 2) && !decide (33 < (len : Int)))))) = (!decide ((kidsP o).1 < 0) && (!decide ((len : Int) < (kidsP o).1) && !decide ((kidsP o).2 < (len : Int)))) := by
  unfold kidsR kidsP
  (repeat' split) <;> simp <;> (try omega)
  all_goals (rw [Bool.eq_iff_iff]; simp only [Bool.and_eq_true, Bool.or_eq_true, Bool.not_eq_true', decide_eq_true_eq, decide_eq_false_iff_not]; omega)

theorem formR_con (vars : List Vr) (inp : Bool) (hv : vars.length ≤ 1000000000) (t : Tm) : t.nodes ≤ 1000000000 → ∀ d : Nat,
    Con Tryz.prog 69 true [lV vars, aT t, lb inp] (.v (lb (formB vars inp t))) none d := by
  induction t using Tm.ind with
  | h o n ks ih =>
  intro hn d
  simp only [Tm.nodes] at hn
  have hlen := len_nodesT ks
  obtain ⟨res, hres⟩ : ∃ r, formB vars inp (.mk o n ks) = r := ⟨_, rfl⟩
  rw [hres]
  simp only [formB] at hres
  have ih' : ∀ t ∈ ks, ∀ d, Con Tryz.prog 69 true [lV vars, aT t, lb inp] (.v (lb (formB vars inp t))) none d := fun t ht d => ih t ht (by have := nodes_mem ht; omega) d
  clear ih
  have hke := kids_eq o ks.length
  refine con_of_HT Tryz.func69 rfl (by kernel_rfl) (Nat.le_of_ble_eq_true rfl) ?_
  simp only [Tryz.f69]
  simp only [aT, Tm.enc]
  refine HT_seq <| (HT_run (by simp [*]; rfl) ?_)
  refine HT_seq <| (HT_runc [⟨true, .v (li (kidsR o)), none⟩] (by simp [*]; first | exact ⟨rfl, Iff.rfl⟩ | exact ⟨rfl, trivial⟩ | rfl) ?_ ?_)
  · first | exact kidsR_con o _ | exact trivial | simpa [*] using kidsR_con o _
  refine HT_seq <| HT_seq <| (HT_run (by simp [*]; rfl) ?_)
  refine (HT_cond rfl (fun h3 => ?_) (fun h3 => HT_skip ?_))
  · try simp only [Bool.or_eq_true, Bool.and_eq_true, Bool.or_eq_false_iff, Bool.and_eq_false_iff, Bool.not_eq_true', Bool.not_eq_false', decide_eq_true_eq, decide_eq_false_iff_not] at h3
    have hz : nodeB vars inp o n ks.length = false := by
      unfold nodeB
      rw [← hke, Bool.and_eq_false_iff]
      refine .inl ?_
      simp only [Bool.and_eq_false_iff, Bool.or_eq_false_iff, Bool.not_eq_false', decide_eq_true_eq, decide_eq_false_iff_not]
      omega
    rw [hz, Bool.false_and] at hres
    refine HT_seq <| (HT_run (by simp [*]; rfl) ?_)
    exact (HT_retE (fun h => ⟨.inr rfl, h⟩) _ (by simp [*]; rfl) (by first | rfl | simp [*]) (by simp))
  · try simp only [Bool.or_eq_true, Bool.and_eq_true, Bool.or_eq_false_iff, Bool.and_eq_false_iff, Bool.not_eq_true', Bool.not_eq_false', decide_eq_true_eq, decide_eq_false_iff_not] at h3
    have hz : (!decide ((kidsP o).1 < 0) && (!decide ((ks.length : Int) < (kidsP o).1) && !decide ((kidsP o).2 < (ks.length : Int)))) = true := by
      rw [← hke]
      simp only [Bool.and_eq_true, Bool.or_eq_true, Bool.not_eq_true', decide_eq_false_iff_not, decide_eq_true_eq]
      omega
    clear hke
    refine (HT_cutU [0, 2, 4] (fun (z : Unit) => []) (fun (z : Unit) => [(4, .box [.c (iC o), .c (iC n), .c (.sl 3 (encTs ks))])]) (fun (z : Unit) => nodeB vars inp o n ks.length = true) ?_ ?_)
    ·
      refine HT_seq <| (HT_run (by simp [*]; rfl) ?_)
      refine (HT_cond rfl (fun h8 => ?_) (fun h8 => ?_))
      · try simp only [Bool.or_eq_true, Bool.and_eq_true, Bool.or_eq_false_iff, Bool.and_eq_false_iff, Bool.not_eq_true', Bool.not_eq_false', decide_eq_true_eq, decide_eq_false_iff_not] at h8
        by_cases hn0 : 0 ≤ n
        · by_cases hn3 : n < vars.length
          · obtain ⟨v, hv1⟩ := get_vars ⟨hn0, hn3⟩
            have hn1 : ¬ (vars.length : Int) ≤ n := by omega
            have hn2 : ¬ n < 0 := by omega
            clear hn3
            refine HT_seq <| (HT_run (by simp [*]; rfl) ?_)
            refine (HT_cond rfl (fun h10 => ?_) (fun h10 => HT_skip ?_))
            · try simp only [Bool.or_eq_true, Bool.and_eq_true, Bool.or_eq_false_iff, Bool.and_eq_false_iff, Bool.not_eq_true', Bool.not_eq_false', decide_eq_true_eq, decide_eq_false_iff_not] at h10
              have hz3 : nodeB vars inp o n ks.length = false := by
                unfold nodeB refB
                rw [hz, Bool.true_and, if_neg (by omega), if_pos h8, hv1]
                simp [h10]
              rw [hz3, Bool.false_and] at hres
              refine HT_seq <| (HT_run (by simp [*]; rfl) ?_)
              exact (HT_retE (fun h => ⟨.inr rfl, h⟩) _ (by simp [*]; rfl) (by first | rfl | simp [*]) (by simp))
            · try simp only [Bool.or_eq_true, Bool.and_eq_true, Bool.or_eq_false_iff, Bool.and_eq_false_iff, Bool.not_eq_true', Bool.not_eq_false', decide_eq_true_eq, decide_eq_false_iff_not] at h10
              exact ⟨(), by
                unfold nodeB refB
                rw [hz, Bool.true_and, if_neg (by omega), if_pos h8, hv1]
                simp only [Bool.and_eq_true, Bool.not_eq_true', Bool.and_eq_false_iff, decide_eq_true_eq, decide_eq_false_iff_not]
                exact ⟨hn0, h10⟩, le_mk (fun n => n) [] rfl (by simp [upS, keepS, *]) (by simp [*, upS]) (by simp [upS])⟩
          · cases inp
            · have hv1 := get_none hn0 hn3
              have hn1 : (vars.length : Int) ≤ n := by omega
              have hn2 : ¬ n < 0 := by omega
              have hz2 : ∀ i, refB vars i n = false := by intro i; simp [refB, hv1]
              clear hn3
              refine HT_seq <| (HT_run (by simp [*]; rfl) ?_)
              refine (HT_cond rfl (fun h10 => ?_) (fun h10 => HT_skip ?_))
              · try simp only [Bool.or_eq_true, Bool.and_eq_true, Bool.or_eq_false_iff, Bool.and_eq_false_iff, Bool.not_eq_true', Bool.not_eq_false', decide_eq_true_eq, decide_eq_false_iff_not] at h10
                have hz3 : ∀ i, nodeB vars i o n ks.length = false := by
                  intro i
                  unfold nodeB
                  rw [hz, Bool.true_and, if_neg (by omega), if_pos h8, hz2]
                rw [hz3, Bool.false_and] at hres
                refine HT_seq <| (HT_run (by simp [*]; rfl) ?_)
                exact (HT_retE (fun h => ⟨.inr rfl, h⟩) _ (by simp [*]; rfl) (by first | rfl | simp [*]) (by simp))
              · exact absurd h10 (by simp)
            · have hv1 := get_none hn0 hn3
              have hn1 : (vars.length : Int) ≤ n := by omega
              have hn2 : ¬ n < 0 := by omega
              have hz2 : ∀ i, refB vars i n = false := by intro i; simp [refB, hv1]
              clear hn3
              refine HT_seq <| (HT_run (by simp [*]; rfl) ?_)
              refine (HT_cond rfl (fun h10 => ?_) (fun h10 => HT_skip ?_))
              · try simp only [Bool.or_eq_true, Bool.and_eq_true, Bool.or_eq_false_iff, Bool.and_eq_false_iff, Bool.not_eq_true', Bool.not_eq_false', decide_eq_true_eq, decide_eq_false_iff_not] at h10
                have hz3 : ∀ i, nodeB vars i o n ks.length = false := by
                  intro i
                  unfold nodeB
                  rw [hz, Bool.true_and, if_neg (by omega), if_pos h8, hz2]
                rw [hz3, Bool.false_and] at hres
                refine HT_seq <| (HT_run (by simp [*]; rfl) ?_)
                exact (HT_retE (fun h => ⟨.inr rfl, h⟩) _ (by simp [*]; rfl) (by first | rfl | simp [*]) (by simp))
              · exact absurd h10 (by simp)
        · cases inp
          · have hn2 : n < 0 := by omega
            have hz2 : ∀ i, refB vars i n = false := by intro i; simp [refB, hn0]
            refine HT_seq <| (HT_run (by simp [*]; rfl) ?_)
            refine (HT_cond rfl (fun h10 => ?_) (fun h10 => HT_skip ?_))
            · try simp only [Bool.or_eq_true, Bool.and_eq_true, Bool.or_eq_false_iff, Bool.and_eq_false_iff, Bool.not_eq_true', Bool.not_eq_false', decide_eq_true_eq, decide_eq_false_iff_not] at h10
              have hz3 : ∀ i, nodeB vars i o n ks.length = false := by
                intro i
                unfold nodeB
                rw [hz, Bool.true_and, if_neg (by omega), if_pos h8, hz2]
              rw [hz3, Bool.false_and] at hres
              refine HT_seq <| (HT_run (by simp [*]; rfl) ?_)
              exact (HT_retE (fun h => ⟨.inr rfl, h⟩) _ (by simp [*]; rfl) (by first | rfl | simp [*]) (by simp))
            · exact absurd h10 (by simp)
          · have hn2 : n < 0 := by omega
            have hz2 : ∀ i, refB vars i n = false := by intro i; simp [refB, hn0]
            refine HT_seq <| (HT_run (by simp [*]; rfl) ?_)
            refine (HT_cond rfl (fun h10 => ?_) (fun h10 => HT_skip ?_))
            · try simp only [Bool.or_eq_true, Bool.and_eq_true, Bool.or_eq_false_iff, Bool.and_eq_false_iff, Bool.not_eq_true', Bool.not_eq_false', decide_eq_true_eq, decide_eq_false_iff_not] at h10
              have hz3 : ∀ i, nodeB vars i o n ks.length = false := by
                intro i
                unfold nodeB
                rw [hz, Bool.true_and, if_neg (by omega), if_pos h8, hz2]
              rw [hz3, Bool.false_and] at hres
              refine HT_seq <| (HT_run (by simp [*]; rfl) ?_)
              exact (HT_retE (fun h => ⟨.inr rfl, h⟩) _ (by simp [*]; rfl) (by first | rfl | simp [*]) (by simp))
            · exact absurd h10 (by simp)
      · try simp only [Bool.or_eq_true, Bool.and_eq_true, Bool.or_eq_false_iff, Bool.and_eq_false_iff, Bool.not_eq_true', Bool.not_eq_false', decide_eq_true_eq, decide_eq_false_iff_not] at h8
        refine HT_seq <| (HT_run (by simp [*]; rfl) ?_)
        refine (HT_cond rfl (fun h15 => ?_) (fun h15 => HT_skip ?_))
        · try simp only [Bool.or_eq_true, Bool.and_eq_true, Bool.or_eq_false_iff, Bool.and_eq_false_iff, Bool.not_eq_true', Bool.not_eq_false', decide_eq_true_eq, decide_eq_false_iff_not] at h15
          have hz3 : nodeB vars inp o n ks.length = false := by
            unfold nodeB
            rw [hz, Bool.true_and, if_neg (by omega), if_neg h8]
            simp only [decide_eq_false_iff_not]
            omega
          rw [hz3, Bool.false_and] at hres
          refine HT_seq <| (HT_run (by simp [*]; rfl) ?_)
          exact (HT_retE (fun h => ⟨.inr rfl, h⟩) _ (by simp [*]; rfl) (by first | rfl | simp [*]) (by simp))
        · try simp only [Bool.or_eq_true, Bool.and_eq_true, Bool.or_eq_false_iff, Bool.and_eq_false_iff, Bool.not_eq_true', Bool.not_eq_false', decide_eq_true_eq, decide_eq_false_iff_not] at h15
          exact ⟨(), by
            unfold nodeB
            rw [hz, Bool.true_and]
            split
            · rfl
            · simp only [decide_eq_true_eq]
              omega, le_mk (fun n => n) [] rfl (by simp [upS, keepS, *]) (by simp [*, upS]) (by simp [upS])⟩
    rintro z hz
    simp only [upS, keepS, insS]
    try simp only [keepS, List.contains_cons, List.contains_nil, Bool.or_false, Bool.or_true, Bool.true_or, Bool.false_or, Nat.reduceBEq, BEq.rfl, beq_self_eq_true, if_true, if_false, Bool.false_eq_true, ite_true, ite_false, ins, Nat.reduceLT]
    rw [hz, Bool.true_and] at hres
    refine HT_seq <| HT_seq <| (HT_run (by simp [*]; rfl) ?_)
    refine HT_block <| (HT_loopU [0, 2, 4] (fun (x : Nat) => [(8, .v (li x))]) (fun (x : Nat) => [(4, .box [.c (iC o), .c (iC n), .c (.sl 3 (encTs ks))])]) (fun (x : Nat) => x ≤ ks.length ∧ formBs vars inp (ks.drop x) = res) (fun (x : Nat) => ks.length - x) (0 : Nat) ⟨Nat.zero_le _, hres⟩ ?_ ?_)
    · exact le_mk (fun n => n) [] rfl (by simp [*, upS, keepS]) (by simp [*, upS]) (by simp [upS])
    rintro k ⟨hk, hJ⟩
    simp only [upS, keepS, insS]
    try simp only [keepS, List.contains_cons, List.contains_nil, Bool.or_false, Bool.or_true, Bool.true_or, Bool.false_or, Nat.reduceBEq, BEq.rfl, beq_self_eq_true, if_true, if_false, Bool.false_eq_true, ite_true, ite_false, ins, Nat.reduceLT]
    refine HT_seq <| HT_seq <| (HT_run (by simp [*]; rfl) ?_)
    refine (HT_cond rfl (fun h22 => HT_skip ?_) (fun h22 => ?_))
    · try simp only [Bool.or_eq_true, Bool.and_eq_true, Bool.or_eq_false_iff, Bool.and_eq_false_iff, Bool.not_eq_true', Bool.not_eq_false', decide_eq_true_eq, decide_eq_false_iff_not] at h22
      have hlt : k < ks.length := by omega
      obtain ⟨⟨eo, en, ek⟩, he, hd⟩ := at_lt hlt
      have he' := get_encT he
      simp only [Tm.enc] at he'
      have hw1 := wrap1 hlt (by omega)
      rw [hd] at hJ
      simp only [formBs] at hJ
      have hk1 : k + 1 ≤ ks.length := hlt
      have hmem : Tm.mk eo en ek ∈ ks := List.mem_of_getElem? he
      clear hlt h22
      refine HT_seq <| HT_block <| HT_seq <| (HT_runc [⟨true, .v (lb (formB vars inp (.mk eo en ek))), none⟩] (by simp [*]; first | exact ⟨rfl, Iff.rfl⟩ | exact ⟨rfl, trivial⟩ | rfl) ?_ ?_)
      · first | exact ih' _ hmem _ | exact trivial | simpa [*] using ih' _ hmem _
      refine (HT_cond rfl (fun h24 => ?_) (fun h24 => HT_skip ?_))
      · try simp only [Bool.or_eq_true, Bool.and_eq_true, Bool.or_eq_false_iff, Bool.and_eq_false_iff, Bool.not_eq_true', Bool.not_eq_false', decide_eq_true_eq, decide_eq_false_iff_not] at h24
        rw [h24, Bool.false_and] at hJ
        subst hJ
        refine HT_seq <| (HT_run (by simp [*]; rfl) ?_)
        exact (HT_retE (fun h => ⟨.inr rfl, h⟩) _ (by simp [*]; rfl) (by first | rfl | simp [*]) (by simp))
      · try simp only [Bool.or_eq_true, Bool.and_eq_true, Bool.or_eq_false_iff, Bool.and_eq_false_iff, Bool.not_eq_true', Bool.not_eq_false', decide_eq_true_eq, decide_eq_false_iff_not] at h24
        rw [h24, Bool.true_and] at hJ
        refine (HT_run (by simp [*]; rfl) ?_)
        exact ⟨k + 1, ⟨hk1, hJ⟩, by omega, le_mk (fun n => n) [] rfl (by simp [upS, keepS, *]) (by simp [*, upS]) (by simp [upS])⟩
    · try simp only [Bool.or_eq_true, Bool.and_eq_true, Bool.or_eq_false_iff, Bool.and_eq_false_iff, Bool.not_eq_true', Bool.not_eq_false', decide_eq_true_eq, decide_eq_false_iff_not] at h22
      have hkl : k = ks.length := by omega
      subst hkl
      rw [List.drop_length] at hJ
      simp only [formBs] at hJ
      subst hJ
      refine (HT_exit ?_)
      refine HT_seq <| (HT_run (by simp [*]; rfl) ?_)
      exact (HT_retE (fun h => ⟨.inr rfl, h⟩) _ (by simp [*]; rfl) (by first | rfl | simp [*]) (by simp))
end Go.Proofs.YtfilidjbpomgoaaGreat
