/- Part 7: contracts of functions of the program and of the reference, and plain facts about what they compute; used by the proof of the claimed statement. Conditions: as each theorem states. -/
import Derived.Test.YtfjidddhehckoaaGreatT2
import Derived.Test.YtfjidddhehckoaaGreatT4
import Derived.Test.YtfjidddhehckoaaGreatT5
import Derived.Test.YtfjidddhehckoaaGreatT6
set_option linter.unusedSimpArgs false
set_option linter.unusedVariables false
set_option linter.unnecessarySimpa false
set_option maxRecDepth 100000
set_option maxHeartbeats 2000000
namespace Go.Proofs.YtfjidddhehckoaaGreat
open Go Go.Hl Go.RowKit
inductive CWk : CV → CV → Prop where
 | refl (x : CV) : CWk x x
 | nil (s : Nat) : CWk (.c (.lit nilS)) (.c (.sl s []))
inductive LWk : List CV → List CV → Prop where
 | nil : LWk [] []
 | cons {x y : CV} {l m : List CV} : CWk x y → LWk l m → LWk (x :: l) (y :: m)
theorem CWk.rel {F : Nat → Prop} {γ : Nat → Value} {w : World} {x y : CV} (h : CWk x y) {v : Value} (hr : CVRel F γ w x v) : CVRel F γ w y v := by
 cases h with
 | refl => exact hr
 | nil s =>
   have : v = nilS := RVRel.lit_eq (γ := γ) (F := F) (w := w) (r := .v (.one (.c (.lit nilS)))) rfl hr
   rw [this]
   exact CRel.nil s
theorem LWk.len {l m : List CV} (h : LWk l m) : m.length = l.length := by
 induction h with
 | nil => rfl
 | cons _ _ ih => simp [ih]
theorem LWk.get {l m : List CV} (h : LWk l m) : ∀ (j : Nat) y, m[j]? = some y → ∃ x, l[j]? = some x ∧ CWk x y := by
 induction h with
 | nil => simp
 | cons hc _ ih =>
   intro j y hj
   cases j with
   | zero => cases hj; exact ⟨_, rfl, hc⟩
   | succ j => exact ih j y hj
theorem LWk.rel {F : Nat → Prop} {γ : Nat → Value} {w : World} {l m : List CV} (h : LWk l m) {vs : Array Value} (hr : cellsRel F γ w l vs) : cellsRel F γ w m vs := by
 refine ⟨hr.1.trans h.len.symm, fun j y u hy hu => ?_⟩
 obtain ⟨x, hx, hc⟩ := h.get j y hy
 exact hc.rel (hr.2 j x u hx hu)
theorem le_reg {s : HS} (k : Nat) {r r' : RV} (hl : lkp s.regs k = some r) (hw : ∀ (F : Nat → Prop) (γ : Nat → Value) (w : World) v, RVRel F γ w r v → RVRel F γ w r' v) : le s { s with regs := ins k r' s.regs } := by
 intro w0 B π F γ a w hr
 refine ⟨F, γ, fun _ h => h, fun _ h => .inl h, hr.heap, hr.defers, hr.nt, fun j x hj => ?_⟩
 rw [look_ins] at hj
 split at hj
 · rename_i e
   cases hj
   subst e
   exact hw _ _ _ _ (hr.regs j r hl)
 · exact hr.regs j x hj
theorem le_agg {s : HS} (k : Nat) {xs : List CV} (ys : List CV) (hl : lkp s.regs k = some (.v (.agg xs))) (h : LWk xs ys) : le s { s with regs := ins k (.v (.agg ys)) s.regs } := by
 refine le_reg k hl fun F γ w v hv => ?_
 obtain ⟨vs, rfl, hc⟩ := hv
 exact ⟨vs, rfl, h.rel hc⟩
theorem le_one {s : HS} (k sz : Nat) (hl : lkp s.regs k = some (.v (.one (.c (.lit nilS))))) : le s { s with regs := ins k (.v (.one (.c (.sl sz [])))) s.regs } :=
 le_reg k hl fun F γ w v hv => CWk.rel (γ := γ) (CWk.nil sz) hv
theorem le_emp {s : HS} (k sz : Nat) {a : Addr} {cap : Nat} (hl : lkp s.regs k = some (.v (.one (.c (.lit (.slice (some a) 0 cap)))))) : le s { s with regs := ins k (.v (.one (.c (.sl sz [])))) s.regs } := by
 refine le_reg k hl fun F γ w v hv => ?_
 have : v = .slice (some a) 0 cap := RVRel.lit_eq rfl hv
 rw [this]
 exact CRel.emp sz a cap
theorem le_box {s : HS} (n : Nat) {xs : List CV} (ys : List CV) (hl : lkp s.objs n = some (.box xs)) (h : LWk xs ys) : le s { s with objs := ins n (.box ys) s.objs } := by
 intro w0 B π F γ a w hr
 have hlk : ∀ m o, lkp (ins n (.box ys) s.objs) m = some o → (m = n ∧ o = .box ys) ∨ (m ≠ n ∧ lkp s.objs m = some o) := by
  intro m o hm
  rw [look_ins] at hm
  split at hm
  · rename_i e; cases hm; exact .inl ⟨e, rfl⟩
  · rename_i e; exact .inr ⟨e, hm⟩
 have hex : ∀ m o, lkp (ins n (.box ys) s.objs) m = some o → ∃ o', lkp s.objs m = some o' := by
  intro m o hm
  rcases hlk m o hm with ⟨rfl, _⟩ | ⟨_, h2⟩
  · exact ⟨_, hl⟩
  · exact ⟨_, h2⟩
 refine ⟨F, γ, fun _ h => h, fun _ h => .inl h, ⟨hr.heap.below, hr.heap.hB, hr.heap.fsz, fun m o hm => ?_, fun m o hm => ?_, fun m k om ok hm hk hne => ?_, hr.heap.pin⟩, hr.defers, hr.nt, hr.regs⟩
 · rcases hlk m o hm with ⟨rfl, rfl⟩ | ⟨_, h2⟩
   · obtain ⟨b, e, vs, hx, hB, hh, hc⟩ := hr.heap.ob m _ hl
     exact ⟨b, e, vs, hx, hB, hh, h.rel hc⟩
   · exact hr.heap.ob m o h2
 · obtain ⟨o', ho'⟩ := hex m o hm
   exact hr.heap.apart m o' ho'
 · obtain ⟨o1, h1⟩ := hex m om hm
   obtain ⟨o2, h2⟩ := hex k ok hk
   exact hr.heap.sep m k o1 o2 h1 h2 hne
theorem le_name {s : HS} (t n d : Nat) {e : TypeId} {sz : Nat} {rows : List (List CD)} (hl : opd s.regs (.tmp t) = .v (.one (.own n))) (ho : lkp s.objs n = some (.row e sz rows)) (hd : d < 1000000) :
  le s ⟨s.nt, [(t, .v (.one (.own d)))], [(d, .row e sz rows)]⟩ := by
 have hp : pinR (fun _ => n) d = n := by unfold pinR; rw [if_neg (by omega)]
 refine le_mk (fun _ => n) [] rfl ?_ ?_ ?_
 · refine ⟨⟨rfl, ?_⟩, trivial⟩
   rw [hl]
   simp only [RV.ren, TV.ren, CV.ren, hp, List.contains_nil, Bool.false_eq_true, if_false]
 · simp only [allL, List.contains_nil, Bool.false_eq_true, if_false, Ob.okNil, hp, ho, Ob.ren, and_self]
 · simp only [allL, true_or, and_self]
theorem le_nameN {s : HS} (t d : Nat) (e : TypeId) (sz : Nat) (hl : opd s.regs (.tmp t) = .v (.one (.c (.lit nilS)))) (hs : 0 < sz) (hd : d < 1000000) :
  le s ⟨s.nt, [(t, .v (.one (.own d)))], [(d, .row e sz [])]⟩ := by
 refine le_mk (fun n => n) [d] rfl ?_ ?_ ?_ (by simpa using hd)
 · refine ⟨⟨by simp [RV.okNil, TV.okNil, CV.okNil], ?_⟩, trivial⟩
   rw [hl]
   simp [RV.ren, TV.ren, CV.ren]
 · simp [allL, hs]
 · simp [allL]
theorem con_emp {P : Program} {f : FuncId} {fresh : Bool} {r : RV} {ob : Option Ob} {d s : Nat} (h1 : Con P f fresh [.one (.c (.lit nilS))] r ob d) (h2 : ∀ a cap, Con P f fresh [.one (.c (.lit (.slice (some a) 0 cap)))] r ob d) : Con P f fresh [.one (.c (.sl s []))] r ob d := by
 refine ⟨h1.1, fun F w vs hF hsz hargs => ?_⟩
 have hv : ∃ u, vs[0]? = some u := ⟨vs[0]'(by rw [hsz]; simp), by simp [hsz]⟩
 obtain ⟨u, hu⟩ := hv
 have hr : CRel F w (.sl s []) u := hargs 0 _ u rfl hu
 have go : ∀ (v : Value), u = v → Con P f fresh [.one (.c (.lit v))] r ob d → _ := fun v hv hc => hc.2 F w vs hF (by simpa using hsz) fun j t u' ht hu' => by
  cases j with
  | zero =>
    cases ht
    rw [hu] at hu'
    cases hu'
    subst hv
    exact CRel.lit u
  | succ j => cases ht
 rcases CRel.sl_inv hr with ⟨_, hv | ⟨a, cap, hv⟩⟩ | ⟨b, o, cap, cells, hv, _⟩
 · exact go _ hv h1
 · exact go _ hv (h2 a cap)
 · exact go _ hv (h2 _ cap)
end Go.Proofs.YtfjidddhehckoaaGreat

namespace Go.Proofs.YtfjidddhehckoaaGreat
open Go Go.Hl
theorem shB_free {vars : List Vr} {nh : Nat} {d v n : Int} {t : Tm} {la lb : Nat} {bs : List Int} {last : Bool} (h : shB vars nh d v n t la lb bs last = true) : d = 3 ∨ d = 4 ∨ (la = 0 ∧ lb = 0) := by
 by_cases h3 : d = 3
 · exact .inl h3
 · by_cases h4 : d = 4
   · exact .inr (.inl h4)
   · refine .inr (.inr ?_)
     unfold shB at h
     simp only [if_neg h3, if_neg h4] at h
     split at h
     · simp only [Bool.and_eq_true, decide_eq_true_eq] at h
       exact h.1.1.1
     · split at h
       · simp only [Bool.and_eq_true, decide_eq_true_eq] at h
         exact h.1.1.1
       · split at h
         · simp only [Bool.and_eq_true, decide_eq_true_eq] at h
           exact h.1.1.1.1
         · split at h
           · simp only [Bool.and_eq_true, decide_eq_true_eq] at h
             exact h.1.1.1.1.1
           · split at h
             · simp only [Bool.and_eq_true, decide_eq_true_eq] at h
               exact h.1.1.1.1.1
             · cases h
theorem ssC_ok {vars : List Vr} {nh : Nat} : ∀ (l : List St) (top : Bool), ssC vars nh l top = 0 → okL l = true
 | [], _, _ => by simp [okL]
 | .mk d c v n t a b bs :: l, top, h => by
   simp only [ssC] at h
   split at h
   · rename_i h0
     split at h
     · rename_i ha
       split at h
       · rename_i hb
         have ia := ssC_ok a false ha
         have ib := ssC_ok b false hb
         have il := ssC_ok l top h
         unfold stC at h0
         split at h0
         · cases h0
         · rename_i hs
           split at h0
           · cases h0
           · rename_i hn
             have hs : shB vars nh d v n t a.length b.length bs (top && l.isEmpty) = true := by simpa using hs
             have hn : numB d c n bs = true := by simpa using hn
             have hf := shB_free hs
             unfold numB at hn
             simp only [Bool.and_eq_true, Bool.not_eq_true', Bool.or_eq_false_iff, Bool.and_eq_false_iff, decide_eq_false_iff_not] at hn
             have hm : mostI d ≤ 67108864 := by unfold mostI; split <;> omega
             simp only [okL, okS, Bool.and_eq_true, Bool.or_eq_true, decide_eq_true_eq, List.isEmpty_iff, ia, ib, il]
             have hla : a.length = 0 → a = [] := List.eq_nil_of_length_eq_zero
             have hlb : b.length = 0 → b = [] := List.eq_nil_of_length_eq_zero
             refine ⟨⟨⟨by omega, by omega, by omega⟩, ?_, by simp⟩, by simp⟩
             rcases hf with hf | hf | hf
             · exact .inl hf
             · exact .inr (.inl hf)
             · exact .inr (.inr ⟨hla hf.1, hlb hf.2⟩)
       · rename_i hb
         exact absurd h hb
     · rename_i ha
       exact absurd h ha
   · rename_i h0
     exact absurd h h0
def nodesH : List Ht → Nat
 | [] => 0
 | h :: l => h.term.nodes + nodesH l
def mH : List Ht → Int × Bool → Int × Bool
 | [], s => s
 | h :: l, s => mH l (if over s = true then s else mTm h.term 1 s)
theorem nodesH_mem {l : List Ht} {h : Ht} (hm : h ∈ l) : h.term.nodes ≤ nodesH l := by
 induction l with
 | nil => cases hm
 | cons x l ih =>
   simp only [nodesH]
   rcases List.mem_cons.1 hm with rfl | h1
   · omega
   · have := ih h1; omega
theorem mH_over : ∀ (l : List Ht) (s : Int × Bool), over s = true → over (mH l s) = true
 | [], s, h => h
 | x :: l, s, h => by
   simp only [mH, if_pos h]
   exact mH_over l s h
def deepH (l : List Ht) : Bool := l.all fun h => decide (tdT h.term ≤ 12)
theorem mH_fit : ∀ (l : List Ht) (s : Int × Bool), 0 ≤ s.1 → over s = false →
  (s.1 + nodesH l ≤ 1024 ∧ deepH l = true → over (mH l s) = false) ∧ (¬ (s.1 + nodesH l ≤ 1024 ∧ deepH l = true) → over (mH l s) = true)
 | [], s, h0, h => by
   have := over_f h
   simp only [mH, nodesH, deepH, List.all_nil]
   exact ⟨fun _ => h, fun hn => absurd ⟨by omega, trivial⟩ hn⟩
 | x :: l, s, h0, h => by
   have ho := over_f h
   have ht := mTm_fit x.term 1 s h0 (by omega) h
   have hle := mTm_le x.term 1 s
   simp only [mH, h, nodesH, deepH, List.all_cons, Bool.and_eq_true, decide_eq_true_eq, Bool.false_eq_true, if_false]
   by_cases hf : s.1 + x.term.nodes ≤ 1024 ∧ 1 + (tdT x.term : Int) ≤ 13
   · have e := ht.1 hf
     rw [e]
     have ih := mH_fit l (s.1 + x.term.nodes, false) (by simp only; omega) (by simp only [over, Bool.false_or, decide_eq_false_iff_not]; omega)
     simp only [deepH] at ih
     refine ⟨fun hh => ih.1 ⟨by omega, hh.2.2⟩, fun hh => ih.2 fun h2 => hh ⟨by omega, by omega, h2.2⟩⟩
   · have e := ht.2 hf
     refine ⟨fun hh => absurd ⟨by omega, by omega⟩ hf, fun _ => mH_over _ _ e⟩
def sizesB (f : Fl) : Bool := ((((decide (f.vars.length ≤ 64) && decide (f.hats.length ≤ 8)) && decide (nodesS f.body + nodesH f.hats ≤ 1024)) && decide (sdL f.body ≤ 12)) && !tdeep f.body) && deepH f.hats
def mF (f : Fl) : Int × Bool := mH f.hats (mSs f.body 1 (0, false))
theorem sizes_over (f : Fl) : sizesB f = false ↔ 64 < f.vars.length ∨ 8 < f.hats.length ∨ over (mF f) = true := by
 have h1 := mSs_fit f.body 1 (0, false) (by decide) (by decide) rfl
 unfold mF sizesB
 simp only [Bool.and_eq_false_iff, decide_eq_false_iff_not, Bool.not_eq_false', Nat.not_le]
 by_cases hs : ((0 : Int), false).1 + nodesS f.body ≤ 1024 ∧ 1 + (sdL f.body : Int) ≤ 13 ∧ tdeep f.body = false
 · rw [h1.1 hs]
   have h2 := mH_fit f.hats (0 + (nodesS f.body : Int), false) (by simp only; omega) (by simp only [over, Bool.false_or, decide_eq_false_iff_not]; have := hs.1; simp only at this; omega)
   obtain ⟨a1, a2, a3⟩ := hs
   simp only at a1 h2
   by_cases hh : 0 + (nodesS f.body : Int) + nodesH f.hats ≤ 1024 ∧ deepH f.hats = true
   · have e := h2.1 hh
     have e3 := hh.2
     simp only [show ((0 : Int), false).1 = 0 from rfl]
     rw [e, a3, e3]
     simp
     omega
   · have e := h2.2 hh
     simp only [show ((0 : Int), false).1 = 0 from rfl]
     rw [e, a3]
     constructor
     · intro _; exact .inr (.inr rfl)
     · intro _
       by_cases hd : deepH f.hats = true
       · left; left; left; right
         by_cases hc : 0 + (nodesS f.body : Int) + nodesH f.hats ≤ 1024
         · exact absurd ⟨hc, hd⟩ hh
         · omega
       · right; simpa using hd
 · have e := mH_over f.hats _ (h1.2 hs)
   rw [e]
   constructor
   · intro _; exact .inr (.inr rfl)
   · intro _
     simp only at hs
     by_cases ht : tdeep f.body = true
     · left; right; exact ht
     · have ht : tdeep f.body = false := by simpa using ht
       by_cases hd : sdL f.body ≤ 12
       · left; left; left; right
         by_cases hc : 0 + (nodesS f.body : Int) ≤ 1024
         · exact absurd ⟨hc, by omega, ht⟩ hs
         · omega
       · left; left; right; omega
def overL (l : List St) : Bool := decide (4096 < (bdL CR l ⟨0, 0, 0⟩).s) || (decide (8 < (bdL CR l ⟨0, 0, 0⟩).o) || decide (67108864 < (bdL CR l ⟨0, 0, 0⟩).t))
def codeC (f : Fl) : Int :=
 if sizesB f = false then 4 else if varsC f.vars = 0 then
  (if hcs f.vars [] f.hats = 0 then (if ssC f.vars f.hats.length f.body true = 0 then (if overL f.body = true then 4 else 0) else ssC f.vars f.hats.length f.body true) else hcs f.vars [] f.hats)
 else varsC f.vars
theorem varsC_good {vars : List Vr} (h : varsC vars = 0) : goodV vars := by
 unfold varsC at h
 split at h
 · rename_i h0
   exact vcs_good _ _ h0
 · rename_i h0
   exact absurd h h0
end Go.Proofs.YtfjidddhehckoaaGreat

namespace Go.Proofs.YtfjidddhehckoaaGreat
open Go Go.Hl
theorem checkP_con (f : Fl) (hv : f.vars.length ≤ 1000000) (hh : f.hats.length ≤ 1000000) (hn : nodesS f.body + nodesH f.hats ≤ 900000000) (hb : bndL f.body = true) (d : Nat) :
  Con Tryz.prog 98 true [aF f] (.v (li (codeC f))) none d := by
 obtain ⟨res, hres⟩ : ∃ r, codeC f = r := ⟨_, rfl⟩
 rw [hres]
 have hso := sizes_over f
 have cvars := varsP_con f.vars hv
 have chat := fun hg => hatsP_con f hg hv hh (fun h hm => by have := nodesH_mem hm; omega)
 have cst := fun hg => stepsP_con f hg hv f.body (by omega) hb
 have cup := fun ho => upper_con f.body (by omega) ho
 have cms := msteps_con f.body 1 0 false (by decide) (by decide) (by omega)
 have hms := mSs_le f.body 1 (0, false)
 have hgood : varsC f.vars = 0 → goodV f.vars := varsC_good
 have hok : ssC f.vars f.hats.length f.body true = 0 → okL f.body = true := ssC_ok _ _
 have hcmp := fun h => @bd_cmp f.body h
 unfold codeC overL at hres
 unfold mF at hso
 obtain ⟨vars, hats, body⟩ := f
 simp only at hv hh hn hb hres hso cvars chat cst cup cms hms hgood hok hcmp
 obtain ⟨m0, hm0⟩ : ∃ m, mSs body 1 (0, false) = m := ⟨_, rfl⟩
 rw [hm0] at cms hms hso
 obtain ⟨c0, b0⟩ := m0
 simp only at cms hms
 obtain ⟨mE, hmE⟩ : ∃ m, mH hats (c0, b0) = m := ⟨_, rfl⟩
 rw [hmE] at hso
 obtain ⟨VC, hVC⟩ : ∃ x, varsC vars = x := ⟨_, rfl⟩
 obtain ⟨HC, hHC⟩ : ∃ x, hcs vars [] hats = x := ⟨_, rfl⟩
 obtain ⟨SC, hSC⟩ : ∃ x, ssC vars hats.length body true = x := ⟨_, rfl⟩
 rw [hVC] at cvars hres hgood
 rw [hHC] at chat hres
 rw [hSC] at hres hok
 have cst := fun hg => cst hg true
 rw [hSC] at cst
 clear hVC hHC hSC hm0
 refine con_of_HT Tryz.func98 rfl (by kernel_rfl) (Nat.le_of_ble_eq_true rfl) ?_
 simp only [Tryz.f98]
 simp only [aF, Fl.enc, List.map_cons, List.map_nil] at chat cst ⊢
 refine HT_seq <| HT_runA ?_
 refine HT_seq <| HT_runA ?_
 refine HT_seq <| (HT_runIO 2 (.tup []) ([iC c0, bC b0]) rfl (by simp [*]; rfl) (by simp [ioOf, *]; first | exact ⟨rfl, rfl, rfl, rfl, rfl⟩ | exact ⟨rfl, rfl, rfl, rfl⟩ | exact ⟨rfl, rfl, rfl⟩ | exact ⟨rfl, rfl⟩ | rfl) (cms) (by simp) (by simp [*]; rfl) ?_)
 refine HT_seq <| HT_seq <| HT_runA ?_
 refine HT_block <| (HT_loopU [1, 3, 14, 15] (fun (x : Nat × Int × Bool) => [(16, .v (li x.1))]) (fun (x : Nat × Int × Bool) => [(1, .box [.c (.sl 5 (encVs vars)), .c (.sl 6 (encHs hats)), .c (.sl 10 (encSs body))]), (3, .box [.c (iC x.2.1), .c (bC x.2.2)])]) (fun (x : Nat × Int × Bool) => x.1 ≤ hats.length ∧ mH (hats.drop x.1) x.2 = mE ∧ 0 ≤ x.2.1 ∧ x.2.1 + nodesH (hats.drop x.1) ≤ 1000000000) (fun (x : Nat × Int × Bool) => hats.length - x.1) (0, c0, b0) ⟨Nat.zero_le _, by simpa using hmE, by simp only; omega, by simp only [List.drop_zero]; omega⟩ ?_ ?_)
 · exact le_mkA (fun n => n) []
 rintro ⟨k, m, q⟩ ⟨hk, hJ, hm, hbb⟩
 simp only [upS, keepS, insS]
 try simp only [keepS, KN, Nat.reduceBEq, if_true, if_false, ins, Nat.reduceLT]
 simp only at hk hJ hm hbb
 clear hmE hms cms
 refine HT_seq <| HT_runA ?_
 refine HT_seq <| (HT_cond rfl (fun h6 => HT_skip ?_) (fun h6 => ?_))
 · try simp only [BN] at h6
   have hlt : k < hats.length := by omega
   obtain ⟨h, he, hd⟩ := at_lt hlt
   have hw1 := wrap1 hlt (by omega)
   have hk1 : k + 1 ≤ hats.length := hlt
   rw [hd] at hJ hbb
   simp only [mH, nodesH] at hJ hbb
   have hle := mTm_le h.term 1 (m, q)
   have cmt := mterm_con h.term 1 m q (by decide) hm (by omega)
   obtain ⟨nm, lo, hi, ⟨o, tn, ks⟩⟩ := h
   simp only at hle cmt hJ hbb
   obtain ⟨m1, hm1⟩ : ∃ x, mTm (.mk o tn ks) 1 (m, q) = x := ⟨_, rfl⟩
   rw [hm1] at cmt hle hJ
   obtain ⟨c1, b1⟩ := m1
   simp only [aT, Tm.enc, List.map_cons, List.map_nil] at cmt hle
   clear hlt h6 hd hm1 hso hres chat cst cup hok hcmp
   refine HT_seq <| HT_block <| HT_seq <| HT_runA ?_
   refine HT_seq <| (HT_runcA [⟨true, .v (lb (q || decide (1024 < m))), none⟩] ?_ ?_)
   · first | exact overP_con _ _ _ | exact trivial | simpa [*] using overP_con _ _ _
   refine (HT_cond rfl (fun h9 => ?_) (fun h9 => HT_skip ?_))
   · try simp only [BN] at h9
     have hov : over (m, q) = false := by
      simp only [over, Bool.or_eq_false_iff, decide_eq_false_iff_not]
      first | exact h9 | simpa using h9
     rw [if_neg (by rw [hov]; decide)] at hJ
     clear hov
     refine (HT_runIO 2 (.tup []) ([iC c1, bC b1]) rfl (by simp [*]; rfl) (by simp [ioOf, *]; first | exact ⟨rfl, rfl, rfl, rfl, rfl⟩ | exact ⟨rfl, rfl, rfl, rfl⟩ | exact ⟨rfl, rfl, rfl⟩ | exact ⟨rfl, rfl⟩ | rfl) (cmt) (by simp) (by simp [*]; rfl) ?_)
     refine HT_runA ?_
     exact ⟨(k + 1, c1, b1), ⟨hk1, hJ, by simp only; omega, by simp only; omega⟩, by simp only; omega, le_mkA (fun n => n) []⟩
   · try simp only [BN] at h9
     have hov : over (m, q) = true := by
      simp only [over, Bool.or_eq_true, decide_eq_true_eq]
      first | exact h9 | simpa using h9
     rw [if_pos hov] at hJ
     clear hov
     refine HT_runA ?_
     exact ⟨(k + 1, m, q), ⟨hk1, hJ, hm, by simp only; omega⟩, by simp only; omega, le_mkA (fun n => n) []⟩
 · try simp only [BN] at h6
   have hkl : k = hats.length := by omega
   subst hkl
   rw [List.drop_length] at hJ
   simp only [mH] at hJ
   subst hJ
   simp only [over, Bool.or_eq_true, decide_eq_true_eq] at hso
   refine (HT_exit ?_)
   refine HT_seq <| HT_seq <| (HT_runcA [⟨true, .v (lb (q || decide (1024 < m))), none⟩] ?_ ?_)
   · first | exact overP_con _ _ _ | exact trivial | simpa [*] using overP_con _ _ _
   refine (HT_cond rfl (fun h16 => ?_) (fun h16 => HT_skip ?_))
   · try simp only [BN] at h16
     rw [if_pos (hso.2 (by
         simp only [or_assoc] at h16
         rcases h16 with h | h | h | h
         · exact .inl (by omega)
         · exact .inr (.inl (by omega))
         · exact .inr (.inr (.inl h))
         · exact .inr (.inr (.inr h))))] at hres
     subst hres
     refine HT_seq <| HT_runA ?_
     exact HT_retA fun h => ⟨.inr rfl, h⟩
   · try simp only [BN] at h16
     rw [if_neg (by
         rw [hso]
         rintro (h | h | h | h)
         · omega
         · omega
         · exact absurd h (by simp [h16])
         · omega)] at hres
     refine HT_seq <| HT_seq <| (HT_runcA [⟨true, .v (li VC), none⟩] ?_ ?_)
     · first | exact cvars _ | exact trivial | simpa [*] using cvars _
     refine HT_seq <| HT_runA ?_
     refine (HT_cond rfl (fun h21 => ?_) (fun h21 => HT_skip ?_))
     · try simp only [BN] at h21
       rw [if_neg h21] at hres
       subst hres
       refine HT_seq <| HT_runA ?_
       exact HT_retA fun h => ⟨.inr rfl, h⟩
     · try simp only [BN] at h21
       have hv0 : VC = 0 := by simpa using h21
       have hg := hgood hv0
       have chat := chat hg
       have cst := cst hg
       rw [if_pos hv0] at hres
       clear cvars hgood h21
       refine HT_seq <| HT_seq <| (HT_runcA [⟨true, .v (li HC), none⟩] ?_ ?_)
       · first | exact chat _ | exact trivial | simpa [*] using chat _
       refine HT_seq <| HT_runA ?_
       refine (HT_cond rfl (fun h26 => ?_) (fun h26 => HT_skip ?_))
       · try simp only [BN] at h26
         rw [if_neg h26] at hres
         subst hres
         refine HT_seq <| HT_runA ?_
         exact HT_retA fun h => ⟨.inr rfl, h⟩
       · try simp only [BN] at h26
         have hh0 : HC = 0 := by simpa using h26
         rw [if_pos hh0] at hres
         clear chat h26
         refine HT_seq <| HT_seq <| (HT_runcA [⟨true, .v (li SC), none⟩] ?_ ?_)
         · first | exact cst _ | exact trivial | simpa [*] using cst _
         refine HT_seq <| HT_runA ?_
         refine (HT_cond rfl (fun h31 => ?_) (fun h31 => HT_skip ?_))
         · try simp only [BN] at h31
           rw [if_neg h31] at hres
           subst hres
           refine HT_seq <| HT_runA ?_
           exact HT_retA fun h => ⟨.inr rfl, h⟩
         · try simp only [BN] at h31
           have hs0 : SC = 0 := by simpa using h31
           rw [if_pos hs0] at hres
           have hok := hok hs0
           have cup := cup hok
           have hcmp := hcmp hok
           obtain ⟨X, hX⟩ : ∃ x, bdL CP body ⟨0, 0, 0⟩ = x := ⟨_, rfl⟩
           obtain ⟨Y, hY⟩ : ∃ x, bdL CR body ⟨0, 0, 0⟩ = x := ⟨_, rfl⟩
           rw [hX] at cup hcmp
           rw [hY] at hcmp hres
           obtain ⟨x1, x2, x3⟩ := X
           obtain ⟨y1, y2, y3⟩ := Y
           simp only [Bool.or_eq_true, decide_eq_true_eq] at hcmp hres
           clear hX hY cst h31 hok
           refine HT_seq <| HT_seq <| (HT_runcA [⟨true, .v (aB ⟨x1, x2, x3⟩), none⟩] ?_ ?_)
           · first | exact cup _ | exact trivial | simpa [*] using cup _
           refine HT_seq <| HT_runA ?_
           refine (HT_cond rfl (fun h36 => ?_) (fun h36 => HT_skip ?_))
           · try simp only [BN] at h36
             rw [if_pos (by omega)] at hres
             subst hres
             refine HT_seq <| HT_runA ?_
             exact HT_retA fun h => ⟨.inr rfl, h⟩
           · try simp only [BN] at h36
             rw [if_neg (by omega)] at hres
             subst hres
             refine HT_seq <| HT_runA ?_
             exact HT_retA fun h => ⟨.inr rfl, h⟩
end Go.Proofs.YtfjidddhehckoaaGreat

namespace Go.Proofs.YtfjidddhehckoaaGreat
open Go Go.Hl
def hasP (s p : ByteArray) : Bool := decide (p.size ≤ s.size) && decide (s.extract 0 p.size = p)
def cutP (s p : ByteArray) : ByteArray × Bool := if hasP s p = true then (s.extract p.size s.size, true) else (s, false)
theorem hasP_con (s p : ByteArray) (d : Nat) : Con Tryz.prog 197 true [sv s, sv p] (.v (lb (hasP s p))) none d := by
 obtain ⟨res, hres⟩ : ∃ r, hasP s p = r := ⟨_, rfl⟩
 rw [hres]
 unfold hasP at hres
 refine con_of_HT Tryz.func197 rfl (by kernel_rfl) (Nat.le_of_ble_eq_true rfl) ?_
 simp only [Tryz.f197]
 refine HT_seq <| HT_runA ?_
 rcases Classical.em (p.size ≤ s.size) with hle | hle
 · have h0 : (0 : Nat) ≤ p.size := Nat.zero_le _
   refine HT_seq <| HT_runA ?_
   exact HT_retA fun h => ⟨.inr rfl, h⟩
 · have hz : ¬ ((p.size : Int) ≤ s.size) := by omega
   refine HT_seq <| HT_runA ?_
   exact HT_retA fun h => ⟨.inr rfl, h⟩
theorem cutL_con (s p : ByteArray) (d : Nat) : Con Tryz.prog 181 true [sv s, sv p] (.tup [sv (cutP s p).1, lb (cutP s p).2]) none d := by
 have cc := hasP_con s p
 obtain ⟨res, hres⟩ : ∃ r, cutP s p = r := ⟨_, rfl⟩
 rw [hres]
 unfold cutP at hres
 have hle : hasP s p = true → p.size ≤ s.size := by
  intro h
  simp only [hasP, Bool.and_eq_true, decide_eq_true_eq] at h
  exact h.1
 obtain ⟨b, hb⟩ : ∃ b, hasP s p = b := ⟨_, rfl⟩
 rw [hb] at cc hres hle
 refine con_of_HT Tryz.func181 rfl (by kernel_rfl) (Nat.le_of_ble_eq_true rfl) ?_
 simp only [Tryz.f181]
 refine HT_seq <| HT_runA ?_
 refine HT_seq <| HT_seq <| (HT_runcA [⟨true, .v (lb b), none⟩] ?_ ?_)
 · first | exact cc _ | exact trivial | simpa [*] using cc _
 refine (HT_cond rfl (fun h2 => ?_) (fun h2 => HT_skip ?_))
 · try simp only [BN] at h2
   have hbf : b = false := by simpa using h2
   subst hbf
   rw [if_neg (by decide)] at hres
   subst hres
   refine HT_seq <| HT_runA ?_
   exact HT_retA fun h => ⟨.inr rfl, h⟩
 · try simp only [BN] at h2
   have hbf : b = true := by simpa using h2
   subst hbf
   rw [if_pos rfl] at hres
   subst hres
   have hle := hle rfl
   refine HT_seq <| HT_runA ?_
   exact HT_retA fun h => ⟨.inr rfl, h⟩
theorem cutS_con (s p : ByteArray) (d : Nat) : Con Tryz.prog 149 true [sv s, sv p] (.tup [sv (cutP s p).1, lb (cutP s p).2]) none d := by
 have cc := cutL_con s p
 obtain ⟨⟨r, b⟩, hres⟩ : ∃ r, cutP s p = r := ⟨_, rfl⟩
 rw [hres] at cc ⊢
 refine con_of_HT Tryz.func149 rfl (by kernel_rfl) (Nat.le_of_ble_eq_true rfl) ?_
 simp only [Tryz.f149]
 refine HT_seq <| HT_runA ?_
 refine HT_seq <| (HT_runcA [⟨true, .tup [sv r, lb b], none⟩] ?_ ?_)
 · first | exact cc _ | exact trivial | simpa [*] using cc _
 exact HT_retA fun h => ⟨.inr rfl, h⟩
def covB (label v : ByteArray) : Bool := hasP v label && (decide (v.size = label.size) || decide (v[label.size]? = some 46))
theorem cov_con (label v : ByteArray) (d : Nat) : Con Tryz.prog 100 true [sv label, sv v] (.v (lb (covB label v))) none d := by
 have cc := cutS_con v label
 obtain ⟨res, hres⟩ : ∃ r, covB label v = r := ⟨_, rfl⟩
 rw [hres]
 unfold covB at hres
 unfold cutP at cc
 cases hp : hasP v label with
 | false =>
   rw [hp] at cc hres
   simp only [Bool.false_eq_true, if_false] at cc
   simp only [Bool.false_and] at hres
   subst hres
   rcases Nat.eq_zero_or_pos v.size with h0 | h0
   · have he : v = ⟨#[]⟩ := by rw [size_pos]; exact h0
     subst he
     refine con_of_HT Tryz.func100 rfl (by kernel_rfl) (Nat.le_of_ble_eq_true rfl) ?_
     simp only [Tryz.f100]
     refine HT_seq <| HT_runA ?_
     refine HT_seq <| (HT_runcA [⟨true, .tup [sv ⟨#[]⟩, lb false], none⟩] ?_ ?_)
     · first | exact cc _ | exact trivial | simpa [*] using cc _
     refine HT_seq <| HT_runA ?_
     exact HT_retA fun h => ⟨.inr rfl, h⟩
   · have hne : ¬ v = ⟨#[]⟩ := by rw [size_pos]; omega
     obtain ⟨b0, hb0⟩ := get_bytes h0
     clear hp h0
     refine con_of_HT Tryz.func100 rfl (by kernel_rfl) (Nat.le_of_ble_eq_true rfl) ?_
     simp only [Tryz.f100]
     refine HT_seq <| HT_runA ?_
     refine HT_seq <| (HT_runcA [⟨true, .tup [sv v, lb false], none⟩] ?_ ?_)
     · first | exact cc _ | exact trivial | simpa [*] using cc _
     refine HT_seq <| HT_runA ?_
     exact HT_retA fun h => ⟨.inr rfl, h⟩
 | true =>
   rw [hp] at cc hres
   have hle : label.size ≤ v.size := by
    simp only [hasP, Bool.and_eq_true, decide_eq_true_eq] at hp
    exact hp.1
   simp only [if_true] at cc
   simp only [Bool.true_and] at hres
   obtain ⟨R, hR⟩ : ∃ R, v.extract label.size v.size = R := ⟨_, rfl⟩
   have hsz : R.size = v.size - label.size := by rw [← hR]; simp
   rw [hR] at cc
   rcases Nat.lt_or_ge label.size v.size with hlt | hge
   · obtain ⟨b, hb⟩ := get_bytes hlt
     have hR0 : R[0]? = some b := by
      rw [← hb, ← hR, getElem?_pos (v.extract label.size v.size) 0 (by simp; omega), getElem?_pos v label.size hlt, ByteArray.getElem_extract]
      simp
     have hne : ¬ R = ⟨#[]⟩ := by
      rw [size_pos]; omega
     rw [hb, show decide (v.size = label.size) = false by simpa using (by omega : ¬ v.size = label.size)] at hres
     have e : decide ((b.toNat : Int) = 46) = res := by
      rw [← hres, Bool.false_or]
      refine decide_eq_decide.2 ⟨fun h => ?_, fun h => ?_⟩
      · have : b.toNat = (46 : UInt8).toNat := by
         show b.toNat = 46
         omega
        rw [UInt8.toNat_inj.1 this]
      · cases h; rfl
     clear hres hb hR hsz hp hle hlt
     refine con_of_HT Tryz.func100 rfl (by kernel_rfl) (Nat.le_of_ble_eq_true rfl) ?_
     simp only [Tryz.f100]
     refine HT_seq <| HT_runA ?_
     refine HT_seq <| (HT_runcA [⟨true, .tup [sv R, lb true], none⟩] ?_ ?_)
     · first | exact cc _ | exact trivial | simpa [*] using cc _
     refine HT_seq <| HT_runA ?_
     exact HT_retA fun h => ⟨.inr rfl, h⟩
   · have he : R = ⟨#[]⟩ := by rw [size_pos]; omega
     subst he
     have he2 : v.size = label.size := by omega
     rw [decide_eq_true he2] at hres
     simp only [Bool.true_or] at hres
     subst hres
     clear hR hsz he2 hp hle hge
     refine con_of_HT Tryz.func100 rfl (by kernel_rfl) (Nat.le_of_ble_eq_true rfl) ?_
     simp only [Tryz.f100]
     refine HT_seq <| HT_runA ?_
     refine HT_seq <| (HT_runcA [⟨true, .tup [sv ⟨#[]⟩, lb true], none⟩] ?_ ?_)
     · first | exact cc _ | exact trivial | simpa [*] using cc _
     refine HT_seq <| HT_runA ?_
     exact HT_retA fun h => ⟨.inr rfl, h⟩
def wordB (b : UInt8) : Bool := (((decide (97 ≤ (b.toNat : Int)) && decide ((b.toNat : Int) ≤ 122)) || (decide (48 ≤ (b.toNat : Int)) && decide ((b.toNat : Int) ≤ 57))) || decide ((b.toNat : Int) = 46)) || decide ((b.toNat : Int) = 95)
theorem word_con (b : UInt8) (d : Nat) : Con Tryz.prog 198 true [.one (.c (.lit (.int .u8 b.toNat)))] (.v (lb (wordB b))) none d := by
 unfold wordB
 refine con_of_HT Tryz.func198 rfl (by kernel_rfl) (Nat.le_of_ble_eq_true rfl) ?_
 simp only [Tryz.f198]
 refine HT_seq <| HT_runA ?_
 refine HT_seq <| HT_runA ?_
 exact HT_retA fun h => ⟨.inr rfl, h⟩
theorem namePo_con (s : ByteArray) (d : Nat) : Con Tryz.prog 182 true [sv s] (.v (lb (nameB s))) none d := by
 rcases Nat.eq_zero_or_pos s.size with h0 | h0
 · have hz : nameB s = false := by unfold nameB; simp [h0]
   have he : s = ⟨#[]⟩ := by rw [size_pos]; exact h0
   rw [hz]
   subst he
   clear hz h0
   refine con_of_HT Tryz.func182 rfl (by kernel_rfl) (Nat.le_of_ble_eq_true rfl) ?_
   simp only [Tryz.f182]
   refine HT_seq <| HT_runA ?_
   refine HT_seq <| HT_seq <| HT_runA ?_
   refine (HT_cond rfl (fun h2 => ?_) (fun h2 => HT_skip ?_))
   · try simp only [BN] at h2
     refine HT_seq <| HT_runA ?_
     exact HT_retA fun h => ⟨.inr rfl, h⟩
   · exact absurd h2 (by simp)
 have hne : ¬ s = ⟨#[]⟩ := by rw [size_pos]; omega
 have hb0 : s[0]? = some (s[0]'h0) := getElem?_pos s 0 h0
 refine con_of_HT Tryz.func182 rfl (by kernel_rfl) (Nat.le_of_ble_eq_true rfl) ?_
 simp only [Tryz.f182]
 refine HT_seq <| HT_runA ?_
 refine HT_seq <| HT_seq <| HT_runA ?_
 refine (HT_cond rfl (fun h2 => ?_) (fun h2 => HT_skip ?_))
 · try simp only [BN] at h2
   have hz : nameB s = false := by
    by_cases h40 : s.size ≤ 40
    · refine nameB_bad h0 ?_
      unfold chOk
      rw [hb0]
      simp only [Bool.or_eq_false_iff, Bool.and_eq_false_iff, decide_eq_false_iff_not]
      omega
    · unfold nameB
      simp [h40]
   refine HT_seq <| HT_runA ?_
   exact HT_retA fun h => ⟨.inr rfl, h⟩
 · try simp only [BN] at h2
   have h40 : s.size ≤ 40 := by omega
   have hb97 : 97 ≤ ((s[0]'h0).toNat : Int) ∧ ((s[0]'h0).toNat : Int) ≤ 122 := by omega
   refine HT_seq <| HT_seq <| HT_runA ?_
   refine HT_block <| (HT_loopU [0, 22] (fun (x : Nat) => [(23, .v (li x))]) (fun (x : Nat) => []) (fun (x : Nat) => x ≤ s.size ∧ ∀ j : Nat, j < x → chOk s j = true) (fun (x : Nat) => s.size - x) (0 : Nat) ⟨Nat.zero_le _, fun j hj => absurd hj (Nat.not_lt_zero j)⟩ ?_ ?_)
   · exact le_mkA (fun n => n) []
   rintro k ⟨hk, hall⟩
   simp only [upS, keepS, insS]
   try simp only [keepS, KN, Nat.reduceBEq, if_true, if_false, ins, Nat.reduceLT]
   refine HT_seq <| HT_runA ?_
   refine HT_seq <| (HT_cond rfl (fun h8 => HT_skip ?_) (fun h8 => ?_))
   · try simp only [BN] at h8
     have hlt : k < s.size := by omega
     obtain ⟨b, hb⟩ := get_bytes hlt
     have hw := wrap1 hlt (by omega)
     have hk1 : k + 1 ≤ s.size := hlt
     have cw := word_con b
     clear hlt h8
     refine HT_seq <| HT_block <| HT_seq <| HT_runA ?_
     refine HT_seq <| (HT_runcA [⟨true, .v (lb (wordB b)), none⟩] ?_ ?_)
     · first | exact cw _ | exact trivial | simpa [*] using cw _
     refine (HT_cond rfl (fun h11 => ?_) (fun h11 => HT_skip ?_))
     · try simp only [BN] at h11
       have hwb : wordB b = false := by simpa using h11
       have hbad : chOk s k = false := by
        unfold chOk
        rw [hb]
        unfold wordB at hwb
        simp only [Bool.or_eq_false_iff, Bool.and_eq_false_iff, decide_eq_false_iff_not] at hwb ⊢
        omega
       have hz := nameB_bad hk1 hbad
       refine HT_seq <| HT_runA ?_
       exact HT_retA fun h => ⟨.inr rfl, h⟩
     · try simp only [BN] at h11
       have hwb : wordB b = true := by simpa using h11
       have hgood : chOk s k = true := by
        by_cases hk0 : k = 0
        · subst hk0
          unfold chOk
          rw [hb0]
          simp only [Bool.or_eq_true, Bool.and_eq_true, decide_eq_true_eq]
          omega
        · unfold chOk
          rw [hb]
          unfold wordB at hwb
          simp only [Bool.or_eq_true, Bool.and_eq_true, decide_eq_true_eq] at hwb ⊢
          omega
       refine HT_runA ?_
       exact ⟨k + 1, ⟨by omega, fun j hj => (Nat.lt_succ_iff_lt_or_eq.1 hj).elim (hall j) (fun e => e ▸ hgood)⟩, by omega, le_mkA (fun n => n) []⟩
   · try simp only [BN] at h8
     have hz := nameB_good h0 h40 (fun j hj => hall j (by omega))
     refine (HT_exit ?_)
     refine HT_seq <| HT_runA ?_
     exact HT_retA fun h => ⟨.inr rfl, h⟩
end Go.Proofs.YtfjidddhehckoaaGreat

namespace Go.Proofs.YtfjidddhehckoaaGreat
open Go Go.Hl
structure Lb where
 name : ByteArray
 level : Int
structure Po where
 levels : List ByteArray
 order : List (Int × Int)
 inputs : List Lb
 hatches : List Lb
 observer : Int
 timed : Bool
def Lb.enc (x : Lb) : List CD := [sC x.name, iC x.level]
def encLs (l : List Lb) : List (List CD) := l.map Lb.enc
def encNs (l : List ByteArray) : List (List CD) := l.map fun s => [sC s]
def encPr (l : List (Int × Int)) : List (List CD) := l.map fun p => [iC p.1, iC p.2]
def Po.enc (p : Po) : List CD := [.sl 1 (encNs p.levels), .sl 2 (encPr p.order), .sl 2 (encLs p.inputs), .sl 2 (encLs p.hatches), iC p.observer, bC p.timed]
attribute [simp] Lb.enc Po.enc
abbrev aPo (p : Po) : TV := .agg (p.enc.map CV.c)
abbrev lLb (l : List Lb) : TV := .one (.c (.sl 2 (encLs l)))
@[simp] theorem len_encL (l : List Lb) : (encLs l).length = l.length := by simp [encLs]
theorem get_encL {l : List Lb} {k : Nat} {x : Lb} (h : l[k]? = some x) : (encLs l)[k]? = some x.enc := by simp [encLs, h]
def labC (n : Nat) : List ByteArray → List Lb → Int
 | _, [] => 0
 | seen, x :: l => if nameB x.name = false then 7 else if Lt.hasN seen x.name = true then 8 else if x.level < 0 ∨ (n : Int) ≤ x.level then 3 else labC n (seen ++ [x.name]) l
def polC (p : Po) : Int :=
 if Lt.newC p.levels p.order ≠ 0 then Lt.newC p.levels p.order else if 64 < p.inputs.length ∨ 64 < p.hatches.length then 4 else
 if labC p.levels.length [] p.inputs ≠ 0 then labC p.levels.length [] p.inputs else if labC p.levels.length [] p.hatches ≠ 0 then labC p.levels.length [] p.hatches else
 if p.observer < 0 ∨ (p.levels.length : Int) ≤ p.observer then 3 else 0
def bestF (v : Vr) : List Lb → Int × Int → Int × Int
 | [], r => r
 | x :: l, r => bestF v l (if v.kind ≠ 0 ∧ covB x.name v.name = true ∧ r.2 < (x.name.size : Int) then (x.level, (x.name.size : Int)) else r)
def usB (vars : List Vr) (x : Lb) : Bool := vars.any fun v => decide (v.kind ≠ 0) && covB x.name v.name
def hatI (hats : List Ht) (s : ByteArray) : Option Nat := hats.findIdx? fun h => decide (h.name = s)
def htF (hats : List Ht) : List Int → List Lb → Option (List Int)
 | out, [] => some out
 | out, x :: l => match hatI hats x.name with
   | none => none
   | some i => htF hats (out.set i x.level) l
mutual
def relS (hv : List Int) : St → Bool
 | .mk d _ _ n _ a b _ => !(decide (d = 5) && decide ((hv[n.toNat]?).getD 0 < 0)) && (relL hv a && relL hv b)
def relL (hv : List Int) : List St → Bool
 | [] => true
 | s :: l => relS hv s && relL hv l
end
end Go.Proofs.YtfjidddhehckoaaGreat

namespace Go.Proofs.YtfjidddhehckoaaGreat
open Go Go.Hl
def seenM (l : List ByteArray) : List (Value × CD) := l.map fun s => (.string s, bC true)
theorem seenM_app (l : List ByteArray) (s : ByteArray) : seenM (l ++ [s]) = seenM l ++ [(.string s, bC true)] := by simp [seenM]
theorem find_seen (s : ByteArray) : ∀ l : List ByteArray, findM .string (.string s) (seenM l) = some (if Lt.hasN l s = true then some (bC true) else none)
 | [] => by simp [seenM, findM, Lt.hasN]
 | x :: l => by
   have ih := find_seen s l
   by_cases e : s = x
   · subst e
     simp [seenM, findM, Lt.same_str, Lt.hasN]
   · have e' : ¬ x = s := fun h => e h.symm
     simp only [seenM, List.map_cons, findM, Lt.same_str, decide_eq_false e, Lt.hasN, List.any_cons, decide_eq_false e', Bool.false_or] at ih ⊢
     exact ih
theorem lab_con (n : Nat) (l : List Lb) (hl : l.length ≤ 1000000) (d : Nat) : Con Tryz.prog 151 true [lLb l, li n] (.v (li (labC n [] l))) none d := by
 obtain ⟨res, hres⟩ : ∃ r, labC n [] l = r := ⟨_, rfl⟩
 rw [hres]
 refine con_of_HT Tryz.func151 rfl (by kernel_rfl) (Nat.le_of_ble_eq_true rfl) ?_
 simp only [Tryz.f151]
 refine HT_seq <| HT_runA ?_
 refine HT_seq <| HT_runA ?_
 refine HT_seq <| HT_seq <| HT_runA ?_
 have hz : seenM [] = [] := rfl
 refine HT_block <| (HT_loopU [1, 5, 9, 10] (fun (x : Nat × List ByteArray) => [(11, .v (li x.1))]) (fun (x : Nat × List ByteArray) => [(8, .mp (seenM x.2))]) (fun (x : Nat × List ByteArray) => x.1 ≤ l.length ∧ labC n x.2 (l.drop x.1) = res) (fun (x : Nat × List ByteArray) => l.length - x.1) (0, []) ⟨Nat.zero_le _, hres⟩ ?_ ?_)
 · exact le_mkA (fun n => n) []
 rintro ⟨k, seen⟩ ⟨hk, hJ⟩
 simp only [upS, keepS, insS]
 try simp only [keepS, KN, Nat.reduceBEq, if_true, if_false, ins, Nat.reduceLT]
 simp only at hk hJ
 clear hres
 refine HT_seq <| HT_runA ?_
 refine HT_seq <| (HT_cond rfl (fun h5 => HT_skip ?_) (fun h5 => ?_))
 · try simp only [BN] at h5
   have hlt : k < l.length := by omega
   obtain ⟨x, he, hd⟩ := at_lt hlt
   have hw1 := wrap1 hlt (by omega)
   have hk1 : k + 1 ≤ l.length := hlt
   rw [hd] at hJ
   simp only [labC] at hJ
   have he' := get_encL he
   obtain ⟨nm, lv⟩ := x
   have cn := namePo_con nm
   have hfs := find_seen nm seen
   simp only [Lb.enc] at he' hJ cn hfs
   clear hlt h5 hd he
   refine HT_seq <| HT_block <| HT_seq <| HT_runA ?_
   refine HT_seq <| HT_block <| HT_seq <| (HT_runcA [⟨true, .v (lb (nameB nm)), none⟩] ?_ ?_)
   · first | exact cn _ | exact trivial | simpa [*] using cn _
   refine (HT_cond rfl (fun h8 => ?_) (fun h8 => ?_))
   · try simp only [BN] at h8
     have hnb : nameB nm = false := by simpa using h8
     rw [if_pos hnb] at hJ
     subst hJ
     refine HT_seq <| HT_runA ?_
     exact HT_retA fun h => ⟨.inr rfl, h⟩
   · try simp only [BN] at h8
     have hnb : nameB nm = true := by simpa using h8
     rw [if_neg (by rw [hnb]; decide)] at hJ
     rcases Bool.eq_false_or_eq_true (Lt.hasN seen nm) with hsn | hsn
     · rw [if_pos hsn] at hfs hJ
       subst hJ
       refine HT_seq <| HT_runA ?_
       refine (HT_cond rfl (fun h12 => ?_) (fun h12 => ?_))
       · try simp only [BN] at h12
         refine HT_seq <| HT_runA ?_
         exact HT_retA fun h => ⟨.inr rfl, h⟩
       · exact absurd h12 (by simp)
     · rw [if_neg (by rw [hsn]; decide)] at hfs hJ
       refine HT_seq <| HT_runA ?_
       refine (HT_cond rfl (fun h12 => ?_) (fun h12 => ?_))
       · exact absurd h12 (by simp)
       · try simp only [BN] at h12
         refine HT_seq <| HT_runA ?_
         refine (HT_cond rfl (fun h16 => ?_) (fun h16 => HT_skip ?_))
         · try simp only [BN] at h16
           rw [if_pos (by simpa using h16)] at hJ
           subst hJ
           refine HT_seq <| HT_runA ?_
           exact HT_retA fun h => ⟨.inr rfl, h⟩
         · try simp only [BN] at h16
           rw [if_neg (by simpa using h16)] at hJ
           have hap := seenM_app seen nm
           refine HT_runA ?_
           refine HT_runA ?_
           exact ⟨(k + 1, seen ++ [nm]), ⟨hk1, hJ⟩, by simp only; omega, le_mkA (fun n => n) []⟩
 · try simp only [BN] at h5
   have hkl : k = l.length := by omega
   rw [hkl, List.drop_length] at hJ
   simp only [labC] at hJ
   subst hJ
   refine (HT_exit ?_)
   refine HT_seq <| HT_runA ?_
   exact HT_retA fun h => ⟨.inr rfl, h⟩
end Go.Proofs.YtfjidddhehckoaaGreat

namespace Go.Proofs.YtfjidddhehckoaaGreat
open Go Go.Hl
abbrev nsP (l : List ByteArray) : TV := .one (.c (.sl 1 (encNs l)))
abbrev orP (l : List (Int × Int)) : TV := .one (.c (.sl 2 (encPr l)))
theorem newP_con (names : List ByteArray) (order : List (Int × Int)) (hlen : order.length ≤ 200) (d : Nat) :
  Con Tryz.prog 67 false [nsP names, orP order] (.tup [Lt.newR names order, li (Lt.newC names order)]) none d := Lt.new_con names order hlen d
def smP (p : Po) : Prop := p.order.length ≤ 200 ∧ p.inputs.length ≤ 1000000 ∧ p.hatches.length ≤ 1000000 ∧ p.levels.length ≤ 1000000
theorem polC_con (p : Po) (hs : smP p) (d : Nat) : Con Tryz.prog 102 true [aPo p] (.v (li (polC p))) none d := by
 obtain ⟨hs1, hs2, hs3, hs4⟩ := hs
 have cn := newP_con p.levels p.order hs1
 have c1 := lab_con p.levels.length p.inputs hs2
 have c2 := lab_con p.levels.length p.hatches hs3
 obtain ⟨res, hres⟩ : ∃ r, polC p = r := ⟨_, rfl⟩
 rw [hres]
 unfold polC at hres
 obtain ⟨N, hN⟩ : ∃ x, Lt.newR p.levels p.order = .one (.c x) := by
  unfold Lt.newR
  split
  · exact ⟨_, rfl⟩
  · exact ⟨_, rfl⟩
 obtain ⟨C, hC⟩ : ∃ x, Lt.newC p.levels p.order = x := ⟨_, rfl⟩
 obtain ⟨A, hA⟩ : ∃ x, labC p.levels.length [] p.inputs = x := ⟨_, rfl⟩
 obtain ⟨B, hB⟩ : ∃ x, labC p.levels.length [] p.hatches = x := ⟨_, rfl⟩
 rw [hN, hC] at cn
 rw [hA] at c1
 rw [hB] at c2
 rw [hC, hA, hB] at hres
 obtain ⟨ls, os, is, hs, ob, tm⟩ := p
 simp only at hres cn c1 c2
 have hln : (encNs ls).length = ls.length := by simp [encNs]
 clear hN hC hA hB
 refine con_of_HT Tryz.func102 rfl (by kernel_rfl) (Nat.le_of_ble_eq_true rfl) ?_
 simp only [Tryz.f102]
 simp only [aPo, Po.enc, List.map_cons, List.map_nil]
 refine HT_seq <| HT_runA ?_
 refine HT_seq <| HT_seq <| (HT_runcA [⟨false, .tup [.one (.c N), li C], none⟩] ?_ ?_)
 · first | exact cn _ | exact trivial | simpa [*] using cn _
 refine HT_seq <| HT_runA ?_
 refine (HT_cond rfl (fun h3 => ?_) (fun h3 => HT_skip ?_))
 · try simp only [BN] at h3
   rw [if_pos (by simpa using h3)] at hres
   subst hres
   refine HT_seq <| HT_runA ?_
   exact HT_retA fun h => ⟨.inr rfl, h⟩
 · try simp only [BN] at h3
   rw [if_neg (by simpa using h3)] at hres
   refine HT_seq <| HT_seq <| HT_runA ?_
   refine (HT_cond rfl (fun h7 => ?_) (fun h7 => HT_skip ?_))
   · try simp only [BN] at h7
     rw [if_pos (by omega)] at hres
     subst hres
     refine HT_seq <| HT_runA ?_
     exact HT_retA fun h => ⟨.inr rfl, h⟩
   · try simp only [BN] at h7
     rw [if_neg (by omega)] at hres
     refine HT_seq <| HT_seq <| (HT_runcA [⟨true, .v (li A), none⟩] ?_ ?_)
     · first | exact c1 _ | exact trivial | simpa [*] using c1 _
     refine HT_seq <| HT_runA ?_
     refine (HT_cond rfl (fun h12 => ?_) (fun h12 => HT_skip ?_))
     · try simp only [BN] at h12
       rw [if_pos (by simpa using h12)] at hres
       subst hres
       refine HT_seq <| HT_runA ?_
       exact HT_retA fun h => ⟨.inr rfl, h⟩
     · try simp only [BN] at h12
       rw [if_neg (by simpa using h12)] at hres
       refine HT_seq <| HT_seq <| (HT_runcA [⟨true, .v (li B), none⟩] ?_ ?_)
       · first | exact c2 _ | exact trivial | simpa [*] using c2 _
       refine HT_seq <| HT_runA ?_
       refine (HT_cond rfl (fun h17 => ?_) (fun h17 => HT_skip ?_))
       · try simp only [BN] at h17
         rw [if_pos (by simpa using h17)] at hres
         subst hres
         refine HT_seq <| HT_runA ?_
         exact HT_retA fun h => ⟨.inr rfl, h⟩
       · try simp only [BN] at h17
         rw [if_neg (by simpa using h17)] at hres
         refine HT_seq <| HT_seq <| HT_runA ?_
         refine (HT_cond rfl (fun h21 => ?_) (fun h21 => HT_skip ?_))
         · try simp only [BN] at h21
           rw [if_pos (by simpa [hln] using h21)] at hres
           subst hres
           refine HT_seq <| HT_runA ?_
           exact HT_retA fun h => ⟨.inr rfl, h⟩
         · try simp only [BN] at h21
           rw [if_neg (by simpa [hln] using h21)] at hres
           subst hres
           refine HT_seq <| HT_runA ?_
           exact HT_retA fun h => ⟨.inr rfl, h⟩
def ordR (p : Po) : TV := if polC p = 0 then .one (.c (Lt.latO p.levels p.order)) else .one (.c (.lit (.pointer none)))
theorem polC_new {p : Po} (h : polC p = 0) : Lt.newC p.levels p.order = 0 := by
 unfold polC at h
 split at h
 · rename_i h1; exact absurd h h1
 · rename_i h1; exact Decidable.not_not.1 h1
theorem ord_con (p : Po) (hs : smP p) (d : Nat) : Con Tryz.prog 97 false [aPo p] (.v (ordR p)) none d := by
 have cn := newP_con p.levels p.order hs.1
 have cc := polC_con p hs
 have hnr : polC p = 0 → Lt.newR p.levels p.order = .one (.c (Lt.latO p.levels p.order)) := fun h => by
  unfold Lt.newR
  rw [if_pos (polC_new h)]
 unfold ordR
 obtain ⟨C, hC⟩ : ∃ x, polC p = x := ⟨_, rfl⟩
 obtain ⟨D, hD⟩ : ∃ x, Lt.newC p.levels p.order = x := ⟨_, rfl⟩
 obtain ⟨L, hL⟩ : ∃ x, Lt.latO p.levels p.order = x := ⟨_, rfl⟩
 rw [hC] at cc hnr
 rw [hD] at cn
 rw [hL] at hnr
 rw [hC, hL]
 obtain ⟨ls, os, is, hs, ob, tm⟩ := p
 simp only at cc cn hnr
 clear hC hD hL
 refine con_of_HT Tryz.func97 rfl (by kernel_rfl) (Nat.le_of_ble_eq_true rfl) ?_
 simp only [Tryz.f97]
 simp only [aPo, Po.enc, List.map_cons, List.map_nil] at cc ⊢
 refine HT_seq <| HT_runA ?_
 refine HT_seq <| HT_seq <| (HT_runcA [⟨true, .v (li C), none⟩] ?_ ?_)
 · first | exact cc _ | exact trivial | simpa [*] using cc _
 refine (HT_cond rfl (fun h2 => ?_) (fun h2 => HT_skip ?_))
 · try simp only [BN] at h2
   rw [if_neg (by simpa using h2)]
   refine HT_seq <| HT_runA ?_
   exact HT_retA fun h => ⟨.inr rfl, h⟩
 · try simp only [BN] at h2
   have hc0 : C = 0 := by simpa using h2
   rw [if_pos hc0]
   rw [hnr hc0] at cn
   refine HT_seq <| (HT_runcA [⟨false, .tup [.one (.c L), li D], none⟩] ?_ ?_)
   · first | exact cn _ | exact trivial | simpa [*] using cn _
   refine HT_seq <| HT_runA ?_
   exact HT_retA fun h => ⟨.inr rfl, h⟩
end Go.Proofs.YtfjidddhehckoaaGreat

namespace Go.Proofs.YtfjidddhehckoaaGreat
open Go Go.Hl
mutual
def szS : St → Nat
 | .mk _ _ _ _ _ a b _ => 1 + szL a + szL b
def szL : List St → Nat
 | [] => 0
 | s :: l => szS s + szL l
end
mutual
theorem szS_le : ∀ s : St, szS s ≤ s.nodes
 | .mk _ _ _ _ t a b _ => by have := szL_le a; have := szL_le b; simp only [szS, St.nodes]; omega
theorem szL_le : ∀ l : List St, szL l ≤ nodesS l
 | [] => by simp [szL]
 | s :: l => by have := szS_le s; have := szL_le l; simp only [szL, nodesS]; omega
end
end Go.Proofs.YtfjidddhehckoaaGreat

namespace Go.Proofs.YtfjidddhehckoaaGreat.Lt
open Go Go.Hl
def rowsE (n k : Nat) : List (Option (List (List CD))) := (List.range k).map fun a => some (rowB n eqM a)
theorem rowsE_len (n k : Nat) : (rowsE n k).length = k := by simp [rowsE]
theorem rowsE_succ (n k : Nat) : rowsE n (k + 1) = rowsE n k ++ [some (rowB n eqM k)] := by simp [rowsE, List.range_succ]
theorem rowsE_full (n : Nat) : rowsE n n = rowsM n eqM := rfl
theorem up_same {M : Nat → Nat → Bool} {a b : Nat} : up M a b (M a b) = M := by
 funext x y
 unfold up
 split
 · rename_i h; rw [h.1, h.2]
 · rfl
def K1 (order : List (Int × Int)) (n k : Nat) : HS :=
 ⟨85, [(0, .v (li n)), (1, .v (.one (.c (orC order)))), (5, .v (.one (.own 1005))), (6, .v (li k))], [(1005, .mat 55 4 1 (rowsE n k))]⟩
def K2 (order : List (Int × Int)) (n k : Nat) : HS :=
 ⟨85, [(0, .v (li n)), (1, .v (.one (.c (orC order)))), (5, .v (.one (.own 1005))), (8, .v (li k))], [(1005, .mat 55 4 1 (rowsM n (pairsM (order.take k))))]⟩
def K3 (n : Nat) (M : Nat → Nat → Bool) (m : Nat) : HS :=
 ⟨85, [(0, .v (li n)), (5, .v (.one (.own 1005))), (9, .v (li m))], [(1005, .mat 55 4 1 (rowsM n (fwM n M m)))]⟩
def K4 (n : Nat) (M : Nat → Nat → Bool) (m a : Nat) : HS :=
 ⟨85, [(0, .v (li n)), (5, .v (.one (.own 1005))), (9, .v (li m)), (10, .v (li a))], [(1005, .mat 55 4 1 (rowsM n (fwA n M m a)))]⟩
def K5 (n : Nat) (M : Nat → Nat → Bool) (m a b : Nat) : HS :=
 ⟨85, [(0, .v (li n)), (5, .v (.one (.own 1005))), (9, .v (li m)), (10, .v (li a)), (11, .v (li b))], [(1005, .mat 55 4 1 (rowsM n (fwB M m a b)))]⟩
theorem closed_con (n : Nat) (h12 : n ≤ 12) (order : List (Int × Int)) (hlen : order.length ≤ 60) (hord : ∀ p ∈ order, (0 ≤ p.1 ∧ p.1 < n) ∧ 0 ≤ p.2 ∧ p.2 < n) (d : Nat) :
  Con Tryz.prog 80 false [li n, .one (.c (orC order))] (.v (.one (.c (matB n (closeM n order))))) none d := by
 refine con_of_HT Tryz.func80 rfl (by kernel_rfl) (Nat.le_of_ble_eq_true rfl) ?_
 simp only [Tryz.f80]
 refine HT_seq (HT_run (by simp [regsOf, orC, li, i64]; rfl) ?_)
 refine HT_seq (HT_run (by simp; rfl) ?_)
 refine HT_seq (HT_seq (HT_run (by simp; rfl) ?_))
 refine HT_le (le_mat (k := 0) 12 4 1 (by decide) (by decide) rfl (by simp [RV.menA, TV.menA, CV.menA]) (by simp [Ob.menA, CV.menA])) ?_
 refine HT_block (HT_loop (K1 order n) (fun k => k ≤ n) (fun k => n - k) 0 (Nat.zero_le _) ?_ ?_)
 · exact le_mk (fun n => 12) [] rfl (by simp [K1, li, i64, orC]) (by simp [K1, rowsE]) (by simp [K1])
 intro k hk
 simp only [K1]
 refine HT_seq (HT_seq (HT_run (by simp [li, i64]; rfl) ?_))
 refine HT_cond rfl (fun h => HT_skip ?_) (fun h => HT_exit ?_)
 · have hlt : k < n := by simpa using h
   have hw : IntKind.i64.wrap ((k : Int) + 1) = (k : Int) + 1 := wrap_in (by omega) (by omega)
   have hrow := row_eq hlt
   simp only [bC] at hrow
   refine HT_seq (HT_block (HT_seq (HT_run (by simp [show (n : Int) ≤ maxLen by unfold maxLen; omega, show (n : Int) ≤ 281474976710656 by omega]; rfl) ?_)))
   refine HT_seq (HT_run (by simp [hlt, hrow]; rfl) ?_)
   refine HT_run (by simp [rowsE_len, show room (k + 1) 24 from room_of (by omega) (by omega)]; rfl) ?_
   refine HT_run (by simp [hw]; rfl) ?_
   refine ⟨k + 1, hlt, by omega, ?_⟩
   exact le_mk (fun n => if n = 1005 then 26 else n) [] rfl (by simp [K1, li, i64, orC, hw]) (by simp [K1, rowsE_succ]) (by simp [K1])
 · have hkn : k = n := by simp at h; omega
   subst hkn
   rw [rowsE_full]
   refine HT_seq (HT_seq (HT_run (by simp [orC]; rfl) ?_))
   refine HT_block (HT_loop (K2 order k) (fun j => j ≤ order.length) (fun j => order.length - j) 0 (Nat.zero_le _) ?_ ?_)
   · exact le_mk (fun n => n) [] rfl (by simp [K2, li, i64, orC]) (by simp [K2, pairsM]) (by simp [K2])
   intro j hj
   simp only [K2]
   refine HT_seq (HT_seq (HT_run (by simp [li, i64, orC]; rfl) ?_))
   refine HT_cond rfl (fun h => HT_skip ?_) (fun h => HT_exit ?_)
   · have hlj : j < order.length := by simpa using h
     have hw : IntKind.i64.wrap ((j : Int) + 1) = (j : Int) + 1 := wrap_in (by omega) (by omega)
     obtain ⟨x, y, hv, hx, hy⟩ : ∃ x y : Nat, order[j]? = some ((x : Int), (y : Int)) ∧ x < k ∧ y < k := by
      have hm := hord order[j] (List.getElem_mem hlj)
      refine ⟨order[j].1.toNat, order[j].2.toNat, ?_, by omega, by omega⟩
      rw [List.getElem?_eq_getElem hlj]
      congr 1
      refine Prod.ext ?_ ?_
      · show order[j].1 = (order[j].1.toNat : Int); omega
      · show order[j].2 = (order[j].2.toNat : Int); omega
     have hps := pairs_succ hv
     simp only [Int.toNat_natCast] at hps
     generalize pairsM (order.take j) = M at *
     refine HT_seq (HT_block (HT_drun (by kernel_rfl) (by kernel_rfl) (by rfl) (by simp [hv, i64, rowsM_len, hx, hy, rowsM_get hx, rowB_len, rowB_get hy, bC]; rfl) ?_))
     refine HT_run (by simp [hw]; rfl) ?_
     refine ⟨j + 1, hlj, by omega, ?_⟩
     refine le_mk (fun n => n) [] rfl (by simp [K2, li, i64, orC, hw]) ?_ (by simp [K2])
     have h1 := @rowB_set k x y M true
     simp only [bC] at h1
     simp [K2, hps, h1, rowsM_set]
   · have hjl : j = order.length := by simp at h; omega
     subst hjl
     rw [List.take_length]
     refine HT_seq (HT_seq (HT_run (by simp; rfl) ?_))
     refine HT_block (HT_loop (K3 k (pairsM order)) (fun m => m ≤ k) (fun m => k - m) 0 (Nat.zero_le _) ?_ ?_)
     · exact le_mk (fun n => n) [] rfl (by simp [K3, li, i64]) (by simp [K3, fwM]) (by simp [K3])
     intro m hm
     simp only [K3]
     refine HT_seq (HT_seq (HT_run (by simp [li, i64]; rfl) ?_))
     refine HT_cond rfl (fun h => HT_skip ?_) (fun h => HT_exit ?_)
     · have hlm : m < k := by simpa using h
       have hwm : IntKind.i64.wrap ((m : Int) + 1) = (m : Int) + 1 := wrap_in (by omega) (by omega)
       have hsm := fwM_succ k (pairsM order) m
       generalize fwM k (pairsM order) m = M at *
       refine HT_seq (HT_block (HT_seq (HT_run (by simp; rfl) ?_)))
       refine HT_block (HT_loop (K4 k M m) (fun a => a ≤ k) (fun a => k - a) 0 (Nat.zero_le _) ?_ ?_)
       · exact le_mk (fun n => n) [] rfl (by simp [K4, li, i64]) (by simp [K4, fwA]) (by simp [K4])
       intro a ha
       simp only [K4]
       refine HT_seq (HT_seq (HT_run (by simp [li, i64]; rfl) ?_))
       refine HT_cond rfl (fun h => HT_skip ?_) (fun h => HT_exit ?_)
       · have hla : a < k := by simpa using h
         have hwa : IntKind.i64.wrap ((a : Int) + 1) = (a : Int) + 1 := wrap_in (by omega) (by omega)
         have hsa := fwA_succ k M m a
         generalize fwA k M m a = M2 at *
         refine HT_seq (HT_block (HT_seq (HT_run (by simp; rfl) ?_)))
         refine HT_block (HT_loop (K5 k M2 m a) (fun b => b ≤ k) (fun b => k - b) 0 (Nat.zero_le _) ?_ ?_)
         · exact le_mk (fun n => n) [] rfl (by simp [K5, li, i64]) (by simp [K5, fwB]) (by simp [K5])
         intro b hb
         simp only [K5]
         refine HT_seq (HT_seq (HT_run (by simp [li, i64]; rfl) ?_))
         refine HT_cond rfl (fun h => HT_skip ?_) (fun h => HT_exit ?_)
         · have hlb : b < k := by simpa using h
           have hwb : IntKind.i64.wrap ((b : Int) + 1) = (b : Int) + 1 := wrap_in (by omega) (by omega)
           have hsb := fwB_succ M2 m a b
           generalize fwB M2 m a b = M3 at *
           refine HT_seq (HT_block (HT_seq (HT_run (by simp [rowsM_len, hla, hlb, hlm, rowsM_get hla, rowsM_get hlm, rowB_len, rowB_get hlb, rowB_get hlm, bC]; rfl) ?_)))
           refine HT_cond rfl (fun h => ?_) (fun h => HT_skip ?_)
           · have h' : (M3 a m && M3 m b) = true := h
             refine HT_run (by simp [rowsM_len, hla, hlb, rowsM_get hla, rowB_len, rowB_get hlb, bC]; rfl) ?_
             refine HT_run (by simp [hwb]; rfl) ?_
             refine ⟨b + 1, hlb, by omega, ?_⟩
             refine le_mk (fun n => n) [] rfl (by simp [K5, li, i64, hwb]) ?_ (by simp [K5])
             have h1 := @rowB_set k a b M3 true
             simp only [bC] at h1
             simp [K5, hsb, stM, h', h1, rowsM_set]
           · have h' : (M3 a m && M3 m b) = false := h
             refine HT_run (by simp [hwb]; rfl) ?_
             refine ⟨b + 1, hlb, by omega, ?_⟩
             refine le_mk (fun n => n) [] rfl (by simp [K5, li, i64, hwb]) ?_ (by simp [K5])
             simp [K5, hsb, stM, h', up_same]
         · have hbk : b = k := by simp at h; omega
           subst hbk
           refine HT_run (by simp [hwa]; rfl) ?_
           refine ⟨a + 1, hla, by omega, ?_⟩
           exact le_mk (fun n => n) [] rfl (by simp [K4, li, i64, hwa]) (by simp [K4, hsa]) (by simp [K4])
       · have hak : a = k := by simp at h; omega
         subst hak
         refine HT_run (by simp [hwm]; rfl) ?_
         refine ⟨m + 1, hlm, by omega, ?_⟩
         exact le_mk (fun n => n) [] rfl (by simp [K3, li, i64, hwm]) (by simp [K3, hsm]) (by simp [K3])
     · have hmk : m = k := by simp at h; omega
       subst hmk
       refine HT_seq (HT_run (by simp; rfl) ?_)
       refine HT_ret ⟨.inr rfl, _, le_frzM 1005 rfl, ⟨_, rfl, ?_⟩, by simp, by simp⟩
       simp [resR, matC_rows, closeM, -matC]
end Go.Proofs.YtfjidddhehckoaaGreat.Lt

namespace Go.Proofs.YtfjidddhehckoaaGreat.Lt
open Go Go.Hl
def latT (names : List ByteArray) (M : Nat → Nat → Bool) : TV := .agg [.c (nsC names), .c (matB names.length M)]
def bndR (n : Nat) (R : Nat → Nat → Bool) (a b : Nat) : Int := match bndO n R a b with
 | some c => (c : Int)
 | none => -1
theorem in_con (names : List ByteArray) (M : Nat → Nat → Bool) (a : Int) (d : Nat) : Con Tryz.prog 17 true [latT names M, li a] (.v (lb (inB names.length a))) none d := by
 refine con_of_HT Tryz.func17 rfl (by kernel_rfl) (Nat.le_of_ble_eq_true rfl) ?_
 simp only [Tryz.f17]
 refine HT_seq (HT_run (by simp [regsOf, latT, nsC, li, i64]; rfl) ?_)
 refine HT_seq (HT_run (by simp; rfl) ?_)
 exact HT_ret ⟨.inr rfl, _, le_refl _, ⟨_, rfl, by simp [resR, lb, bC, inB]⟩, by simp, fun _ => ⟨rfl, by simp⟩⟩
def J1 (names : List ByteArray) (M : Nat → Nat → Bool) (a b k : Nat) : HS :=
 ⟨75, [(1, .v (li a)), (2, .v (li b)), (3, .v (.one (.at_ 1003 0))), (7, .v (li k))], [(1003, .box [.c (nsC names), .c (matB names.length M)])]⟩
def J2 (names : List ByteArray) (M : Nat → Nat → Bool) (a b k : Nat) (x : Nat × Bool) : HS :=
 ⟨75, [(1, .v (li a)), (2, .v (li b)), (3, .v (.one (.at_ 1003 0))), (7, .v (li k)), (8, .v (lb x.2)), (9, .v (li x.1))], [(1003, .box [.c (nsC names), .c (matB names.length M)])]⟩
theorem refjoin_con (names : List ByteArray) (n : Nat) (hn : names.length = n) (h12 : n ≤ 12) (M : Nat → Nat → Bool) (a b : Nat) (ha : a < n) (hb : b < n) (d : Nat) :
  Con Tryz.prog 81 true [latT names M, li a, li b] (.v (li (bndR n M a b))) none d := by
 subst hn
 have hbi : bndR names.length M a b = bndR names.length M a b := rfl
 conv at hbi => rhs; unfold bndR
 have hs := @bnd_some names.length M a b
 have hnn := @bnd_none names.length M a b
 generalize bndR names.length M a b = bi at *
 generalize bndO names.length M a b = bo at *
 refine con_of_HT Tryz.func81 rfl (by kernel_rfl) (Nat.le_of_ble_eq_true rfl) ?_
 simp only [Tryz.f81]
 refine HT_seq (HT_run (by simp [regsOf, latT, nsC, li, i64]; rfl) ?_)
 refine HT_seq (HT_seq (HT_run (by simp; rfl) ?_))
 refine HT_block (HT_loop (J1 names M a b) (fun k => k ≤ names.length ∧ ∀ c, c < k → goodB names.length M a b c = false) (fun k => names.length - k) 0 ⟨Nat.zero_le _, by simp⟩ ?_ ?_)
 · exact le_mk (fun n => 3) [] rfl (by simp [J1, li, i64]) (by simp [J1, nsC]) (by simp [J1])
 rintro k ⟨hk, hno⟩
 simp only [J1]
 refine HT_seq (HT_seq (HT_run (by simp [li, i64, nsC]; rfl) ?_))
 refine HT_cond rfl (fun h => HT_skip ?_) (fun h => HT_exit ?_)
 · have hlt : k < names.length := by simpa using h
   have hw : IntKind.i64.wrap ((k : Int) + 1) = (k : Int) + 1 := wrap_in (by omega) (by omega)
   have hnext : ∀ s', goodB names.length M a b k = false → le s' (J1 names M a b (k + 1)) → (∃ x', (x' ≤ names.length ∧ ∀ c, c < x' → goodB names.length M a b c = false) ∧ names.length - x' < names.length - k ∧ le s' (J1 names M a b x')) := by
    intro s' hg hl
    refine ⟨k + 1, ⟨hlt, fun c hc => ?_⟩, by omega, hl⟩
    by_cases e : c = k
    · subst e; exact hg
    · exact hno c (by omega)
   refine HT_seq (HT_block (HT_seq (HT_seq (HT_run (by simp [matB, ha, hb, hlt, rowB_get ha, rowB_get hb, rowB_get hlt, bC]; rfl) ?_))))
   refine HT_cond rfl (fun h2 => HT_exit ?_) (fun h2 => HT_skip ?_)
   · refine HT_run (by simp [hw]; rfl) ?_
     refine hnext _ ?_ ?_
     · have h' : (!M a k || !M b k) = true := h2
       unfold goodB
       try simp only [flp]
       cases h3 : M a k <;> cases h4 : M b k <;> simp_all
     · exact le_mk (fun n => n) [] rfl (by simp [J1, li, i64, hw]) (by simp [J1, nsC, matB]) (by simp [J1])
   · have hab : M a k = true ∧ M b k = true := by
      have h' : (!M a k || !M b k) = false := h2
      cases h3 : M a k <;> cases h4 : M b k <;> simp_all
     refine HT_seq (HT_run (by simp; rfl) ?_)
     refine HT_seq (HT_seq (HT_run (by simp; rfl) ?_))
     refine HT_block (HT_loop (J2 names M a b k) (fun x => x.1 ≤ names.length ∧ x.2 = (List.range x.1).all fun c => !(M a c && M b c && !M k c)) (fun x => names.length - x.1) (0, true) ⟨Nat.zero_le _, by simp⟩ ?_ ?_)
     · exact le_mk (fun n => n) [] rfl (by simp [J2, li, i64, lb, bC]) (by simp [J2, nsC, matB]) (by simp [J2])
     rintro ⟨j, ls⟩ ⟨hj, hall⟩
     simp only [J2] at *
     refine HT_seq (HT_seq (HT_run (by simp [li, i64, lb, bC, nsC]; rfl) ?_))
     refine HT_cond rfl (fun h => HT_skip ?_) (fun h => HT_exit ?_)
     · have hlj : j < names.length := by simpa using h
       have hwj : IntKind.i64.wrap ((j : Int) + 1) = (j : Int) + 1 := wrap_in (by omega) (by omega)
       refine HT_seq (HT_block (HT_seq (HT_run (by simp [matB, ha, hb, hlt, hlj, rowB_get ha, rowB_get hb, rowB_get hlt, rowB_get hlj, bC]; rfl) ?_)))
       refine HT_cond rfl (fun h2 => ?_) (fun h2 => HT_skip ?_)
       · have h' : (M a j && M b j && !M k j) = true := h2
         refine HT_run (by simp; rfl) ?_
         refine HT_run (by simp [hwj]; rfl) ?_
         refine ⟨(j + 1, false), ⟨hlj, ?_⟩, by simp only; omega, ?_⟩
         · simp only [List.range_succ, List.all_append, List.all_cons, List.all_nil, Bool.and_true, flp]
           rw [h']; simp
         · exact le_mk (fun n => n) [] rfl (by simp [J2, li, i64, lb, bC, hwj]) (by simp [J2, nsC, matB]) (by simp [J2])
       · have h' : (M a j && M b j && !M k j) = false := h2
         refine HT_run (by simp [hwj]; rfl) ?_
         refine ⟨(j + 1, ls), ⟨hlj, ?_⟩, by simp only; omega, ?_⟩
         · simp only [List.range_succ, List.all_append, List.all_cons, List.all_nil, Bool.and_true]
           rw [hall]
           try simp only [flp]
           rw [h']; simp
         · exact le_mk (fun n => n) [] rfl (by simp [J2, li, i64, lb, bC, hwj]) (by simp [J2, nsC, matB]) (by simp [J2])
     · have hjn : j = names.length := by simp at h; omega
       subst hjn
       have hgood : goodB names.length M a b k = ls := by
        unfold goodB
        rw [hall]
        simp only [flp, hab, Bool.true_and]
       refine HT_seq (HT_run (by simp; rfl) ?_)
       refine HT_cond rfl (fun h2 => ?_) (fun h2 => HT_skip ?_)
       · have h' : ls = true := h2
         refine HT_seq (HT_run (by simp; rfl) ?_)
         have := hs hlt hno (hgood.trans h')
         subst this
         rw [hbi]
         exact HT_ret ⟨.inr rfl, _, le_refl _, ⟨_, rfl, by simp [resR, li, i64]⟩, by simp, fun _ => ⟨rfl, by simp⟩⟩
       · have h' : ls = false := h2
         refine HT_run (by simp [hw]; rfl) ?_
         refine hnext _ (hgood.trans h') ?_
         exact le_mk (fun n => n) [] rfl (by simp [J1, li, i64, hw]) (by simp [J1, nsC, matB]) (by simp [J1])
 · have hkn : k = names.length := by simp at h; omega
   subst hkn
   refine HT_seq (HT_run (by simp; rfl) ?_)
   have := hnn hno
   subst this
   rw [hbi]
   exact HT_ret ⟨.inr rfl, _, le_refl _, ⟨_, rfl, by simp [resR, li, i64]⟩, by simp, fun _ => ⟨rfl, by simp⟩⟩
theorem refmeet_con (names : List ByteArray) (n : Nat) (hn : names.length = n) (h12 : n ≤ 12) (M : Nat → Nat → Bool) (a b : Nat) (ha : a < n) (hb : b < n) (d : Nat) :
  Con Tryz.prog 82 true [latT names M, li a, li b] (.v (li (bndR n (flp M) a b))) none d := by
 subst hn
 have hbi : bndR names.length (flp M) a b = bndR names.length (flp M) a b := rfl
 conv at hbi => rhs; unfold bndR
 have hs := @bnd_some names.length (flp M) a b
 have hnn := @bnd_none names.length (flp M) a b
 generalize bndR names.length (flp M) a b = bi at *
 generalize bndO names.length (flp M) a b = bo at *
 refine con_of_HT Tryz.func82 rfl (by kernel_rfl) (Nat.le_of_ble_eq_true rfl) ?_
 simp only [Tryz.f82]
 refine HT_seq (HT_run (by simp [regsOf, latT, nsC, li, i64]; rfl) ?_)
 refine HT_seq (HT_seq (HT_run (by simp; rfl) ?_))
 refine HT_block (HT_loop (J1 names M a b) (fun k => k ≤ names.length ∧ ∀ c, c < k → goodB names.length (flp M) a b c = false) (fun k => names.length - k) 0 ⟨Nat.zero_le _, by simp⟩ ?_ ?_)
 · exact le_mk (fun n => 3) [] rfl (by simp [J1, li, i64]) (by simp [J1, nsC]) (by simp [J1])
 rintro k ⟨hk, hno⟩
 simp only [J1]
 refine HT_seq (HT_seq (HT_run (by simp [li, i64, nsC]; rfl) ?_))
 refine HT_cond rfl (fun h => HT_skip ?_) (fun h => HT_exit ?_)
 · have hlt : k < names.length := by simpa using h
   have hw : IntKind.i64.wrap ((k : Int) + 1) = (k : Int) + 1 := wrap_in (by omega) (by omega)
   have hnext : ∀ s', goodB names.length (flp M) a b k = false → le s' (J1 names M a b (k + 1)) → (∃ x', (x' ≤ names.length ∧ ∀ c, c < x' → goodB names.length (flp M) a b c = false) ∧ names.length - x' < names.length - k ∧ le s' (J1 names M a b x')) := by
    intro s' hg hl
    refine ⟨k + 1, ⟨hlt, fun c hc => ?_⟩, by omega, hl⟩
    by_cases e : c = k
    · subst e; exact hg
    · exact hno c (by omega)
   refine HT_seq (HT_block (HT_seq (HT_seq (HT_run (by simp [matB, ha, hb, hlt, rowB_get ha, rowB_get hb, rowB_get hlt, bC]; rfl) ?_))))
   refine HT_cond rfl (fun h2 => HT_exit ?_) (fun h2 => HT_skip ?_)
   · refine HT_run (by simp [hw]; rfl) ?_
     refine hnext _ ?_ ?_
     · have h' : (!M k a || !M k b) = true := h2
       unfold goodB
       try simp only [flp]
       cases h3 : M k a <;> cases h4 : M k b <;> simp_all
     · exact le_mk (fun n => n) [] rfl (by simp [J1, li, i64, hw]) (by simp [J1, nsC, matB]) (by simp [J1])
   · have hab : M k a = true ∧ M k b = true := by
      have h' : (!M k a || !M k b) = false := h2
      cases h3 : M k a <;> cases h4 : M k b <;> simp_all
     refine HT_seq (HT_run (by simp; rfl) ?_)
     refine HT_seq (HT_seq (HT_run (by simp; rfl) ?_))
     refine HT_block (HT_loop (J2 names M a b k) (fun x => x.1 ≤ names.length ∧ x.2 = (List.range x.1).all fun c => !((flp M) a c && (flp M) b c && !(flp M) k c)) (fun x => names.length - x.1) (0, true) ⟨Nat.zero_le _, by simp⟩ ?_ ?_)
     · exact le_mk (fun n => n) [] rfl (by simp [J2, li, i64, lb, bC]) (by simp [J2, nsC, matB]) (by simp [J2])
     rintro ⟨j, ls⟩ ⟨hj, hall⟩
     simp only [J2] at *
     refine HT_seq (HT_seq (HT_run (by simp [li, i64, lb, bC, nsC]; rfl) ?_))
     refine HT_cond rfl (fun h => HT_skip ?_) (fun h => HT_exit ?_)
     · have hlj : j < names.length := by simpa using h
       have hwj : IntKind.i64.wrap ((j : Int) + 1) = (j : Int) + 1 := wrap_in (by omega) (by omega)
       refine HT_seq (HT_block (HT_seq (HT_run (by simp [matB, ha, hb, hlt, hlj, rowB_get ha, rowB_get hb, rowB_get hlt, rowB_get hlj, bC]; rfl) ?_)))
       refine HT_cond rfl (fun h2 => ?_) (fun h2 => HT_skip ?_)
       · have h' : (M j a && M j b && !M j k) = true := h2
         refine HT_run (by simp; rfl) ?_
         refine HT_run (by simp [hwj]; rfl) ?_
         refine ⟨(j + 1, false), ⟨hlj, ?_⟩, by simp only; omega, ?_⟩
         · simp only [List.range_succ, List.all_append, List.all_cons, List.all_nil, Bool.and_true, flp]
           rw [h']; simp
         · exact le_mk (fun n => n) [] rfl (by simp [J2, li, i64, lb, bC, hwj]) (by simp [J2, nsC, matB]) (by simp [J2])
       · have h' : (M j a && M j b && !M j k) = false := h2
         refine HT_run (by simp [hwj]; rfl) ?_
         refine ⟨(j + 1, ls), ⟨hlj, ?_⟩, by simp only; omega, ?_⟩
         · simp only [List.range_succ, List.all_append, List.all_cons, List.all_nil, Bool.and_true]
           rw [hall]
           try simp only [flp]
           rw [h']; simp
         · exact le_mk (fun n => n) [] rfl (by simp [J2, li, i64, lb, bC, hwj]) (by simp [J2, nsC, matB]) (by simp [J2])
     · have hjn : j = names.length := by simp at h; omega
       subst hjn
       have hgood : goodB names.length (flp M) a b k = ls := by
        unfold goodB
        rw [hall]
        simp only [flp, hab, Bool.true_and]
       refine HT_seq (HT_run (by simp; rfl) ?_)
       refine HT_cond rfl (fun h2 => ?_) (fun h2 => HT_skip ?_)
       · have h' : ls = true := h2
         refine HT_seq (HT_run (by simp; rfl) ?_)
         have := hs hlt hno (hgood.trans h')
         subst this
         rw [hbi]
         exact HT_ret ⟨.inr rfl, _, le_refl _, ⟨_, rfl, by simp [resR, li, i64]⟩, by simp, fun _ => ⟨rfl, by simp⟩⟩
       · have h' : ls = false := h2
         refine HT_run (by simp [hw]; rfl) ?_
         refine hnext _ (hgood.trans h') ?_
         exact le_mk (fun n => n) [] rfl (by simp [J1, li, i64, hw]) (by simp [J1, nsC, matB]) (by simp [J1])
 · have hkn : k = names.length := by simp at h; omega
   subst hkn
   refine HT_seq (HT_run (by simp; rfl) ?_)
   have := hnn hno
   subst this
   rw [hbi]
   exact HT_ret ⟨.inr rfl, _, le_refl _, ⟨_, rfl, by simp [resR, li, i64]⟩, by simp, fun _ => ⟨rfl, by simp⟩⟩
end Go.Proofs.YtfjidddhehckoaaGreat.Lt
