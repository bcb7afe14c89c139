/- Part 9: contracts of functions of the program and of the reference, and plain facts about what they compute; used by the proof of the claimed statement. Conditions: as each theorem states. -/
import Derived.Test.YtfjidddhehckoaaGreatT7
import Derived.Test.YtfjidddhehckoaaGreatT8
import Derived.Test.YtfjidddhehckoaaGreatT4
import Derived.Test.YtfjidddhehckoaaGreatT3
import Derived.Test.YtfjidddhehckoaaGreatT2
import Derived.Test.YtfjidddhehckoaaGreatT5
import Derived.Test.YtfjidddhehckoaaGreatT6
set_option linter.unusedSimpArgs false
set_option linter.unusedVariables false
set_option linter.unnecessarySimpa false
set_option maxRecDepth 100000
set_option maxHeartbeats 2000000
namespace Go.Proofs.YtfjidddhehckoaaGreat
open Go Go.Hl
def encBs (l : List Bool) : List (List CD) := l.map fun b => [bC b]
@[simp] theorem len_encBs (l : List Bool) : (encBs l).length = l.length := by simp [encBs]
theorem get_encBs {l : List Bool} {k : Nat} {b : Bool} (h : l[k]? = some b) : (encBs l)[k]? = some [bC b] := by simp [encBs, h]
@[simp] theorem encBs_get (l : List Bool) (i : Nat) (h : i < (encBs l).length) : (encBs l)[i]'h = [bC (l[i]'(by simpa using h))] := by simp [encBs]
theorem set_encBs (l : List Bool) (k : Nat) (b : Bool) : (encBs l).set k [bC b] = encBs (l.set k b) := by simp [encBs, List.map_set]
theorem rep_encBs (is : List Lb) : List.replicate is.length [bC false] = encBs (is.map (usB [])) := by
 have : ∀ l : List Lb, l.map (usB []) = List.replicate l.length false := fun l => by
  induction l with
  | nil => rfl
  | cons x l ih => rw [List.map_cons, List.length_cons, List.replicate_succ, ih]; rfl
 rw [this]
 simp [encBs]
abbrev lBs (l : List Bool) : TV := .one (.c (.sl 1 (encBs l)))
def fiB (l : List Bool) : Int := match l.findIdx? (fun b => !b) with | some i => (i : Int) | none => -1
theorem idxB_con (l : List Bool) (hl : l.length ≤ 1000000000) (d : Nat) : Con Tryz.prog 150 true [lBs l, lb false] (.v (li (fiB l))) none d := by
 obtain ⟨res, hres⟩ : ∃ r, fiB l = r := ⟨_, rfl⟩
 rw [hres]
 have hstep : ∀ k : Nat, (∀ j : Nat, j < k → ∀ v, l[j]? = some v → v = true) → l[k]? = some false → res = k := by
  intro k hno hv
  have hk : k < l.length := (List.getElem?_eq_some_iff.1 hv).1
  have : l.findIdx? (fun b => !b) = some k := by
   rw [List.findIdx?_eq_some_iff_getElem]
   refine ⟨hk, ?_, fun j hj => ?_⟩
   · rw [(List.getElem?_eq_some_iff.1 hv).2]; rfl
   · rw [hno j hj (l[j]'(by omega)) (by simp)]; decide
  rw [← hres]
  unfold fiB
  rw [this]
 have hnone : (∀ j : Nat, j < l.length → ∀ v, l[j]? = some v → v = true) → res = -1 := by
  intro hno
  have : l.findIdx? (fun b => !b) = none := by
   rw [List.findIdx?_eq_none_iff]
   intro v hv
   obtain ⟨j, hj⟩ := List.mem_iff_getElem?.1 hv
   rw [hno j (List.getElem?_eq_some_iff.1 hj).1 v hj]; rfl
  rw [← hres]
  unfold fiB
  rw [this]
 clear hres
 refine con_of_HT Tryz.func150 rfl (by kernel_rfl) (Nat.le_of_ble_eq_true rfl) ?_
 simp only [Tryz.f150]
 refine HT_seq <| HT_runA ?_
 refine HT_seq <| HT_seq <| HT_runA ?_
 refine HT_block <| (HT_loopU [0, 1, 7] (fun (x : Nat) => [(8, .v (li x))]) (fun (x : Nat) => []) (fun (x : Nat) => x ≤ l.length ∧ ∀ j : Nat, j < x → ∀ v, l[j]? = some v → v = true) (fun (x : Nat) => l.length - x) (0 : Nat) ⟨Nat.zero_le _, fun j hj => absurd hj (Nat.not_lt_zero j)⟩ ?_ ?_)
 · exact le_mkA (fun n => n) []
 rintro k ⟨hk, hJ⟩
 simp only [upS, keepS, insS]
 try simp only [keepS, KN, Nat.reduceBEq, if_true, if_false, ins, Nat.reduceLT]
 refine HT_seq <| HT_runA ?_
 refine HT_seq <| (HT_cond rfl (fun h4 => HT_skip ?_) (fun h4 => ?_))
 · try simp only [BN] at h4
   have hlt : k < l.length := by omega
   obtain ⟨v, he, hd⟩ := at_lt hlt
   have hw1 := wrap1 hlt (by omega)
   have hk1 : k + 1 ≤ l.length := hlt
   have he' := get_encBs he
   have hs := fun e : v = false => hstep k hJ (by rw [he, e])
   clear hlt h4 hstep hnone
   refine HT_seq <| HT_block <| HT_seq <| HT_runA ?_
   refine HT_seq <| HT_runA ?_
   refine (HT_cond rfl (fun h7 => ?_) (fun h7 => HT_skip ?_))
   · try simp only [BN] at h7
     have hs := hs (by cases v <;> simp_all)
     subst hs
     refine HT_seq <| HT_runA ?_
     exact HT_retA fun h => ⟨.inr rfl, h⟩
   · try simp only [BN] at h7
     have hv : v = true := by cases v <;> simp_all
     refine HT_runA ?_
     exact ⟨k + 1, ⟨hk1, fun j hj w hw => (Nat.lt_succ_iff_lt_or_eq.1 hj).elim (fun h => hJ j h w hw) (fun e => by subst e; rw [he] at hw; cases hw; exact hv)⟩, by omega, le_mkA (fun n => n) []⟩
 · try simp only [BN] at h4
   have hs := hnone fun j hj => hJ j (by omega)
   subst hs
   refine (HT_exit ?_)
   refine HT_seq <| HT_runA ?_
   exact HT_retA fun h => ⟨.inr rfl, h⟩
theorem fiB_iff (l : List Bool) : 0 ≤ fiB l ↔ ¬ l.all id = true := by
 unfold fiB
 cases h : l.findIdx? (fun b => !b) with
 | none =>
   rw [List.findIdx?_eq_none_iff] at h
   simp only [List.all_eq_true, id]
   constructor
   · intro h; omega
   · intro h1
     refine absurd (fun x hx => ?_) h1
     have := h x hx
     simpa using this
 | some i =>
   rw [List.findIdx?_eq_some_iff_getElem] at h
   obtain ⟨hi, hpi, _⟩ := h
   simp only [List.all_eq_true, id]
   refine ⟨fun _ h => ?_, fun _ => by omega⟩
   rw [h _ (List.getElem_mem hi)] at hpi
   cases hpi
theorem conB_con (l : List Bool) (hl : l.length ≤ 1000000000) (d : Nat) : Con Tryz.prog 101 true [lBs l, lb false] (.v (lb (!l.all id))) none d := by
 have hr := idxB_con l hl
 have hd : decide (0 ≤ fiB l) = !l.all id := by
  rw [Bool.eq_iff_iff, decide_eq_true_eq, fiB_iff]
  cases l.all id <;> simp
 obtain ⟨r, hR⟩ : ∃ r, fiB l = r := ⟨_, rfl⟩
 rw [hR] at hr hd
 rw [← hd]
 clear hd hR
 refine con_of_HT Tryz.func101 rfl (by kernel_rfl) (Nat.le_of_ble_eq_true rfl) ?_
 simp only [Tryz.f101]
 refine HT_seq <| HT_runA ?_
 refine HT_seq <| (HT_runcA [⟨true, .v (li r), none⟩] ?_ ?_)
 · first | exact hr _ | exact trivial | simpa [*] using hr _
 exact HT_retA fun h => ⟨.inr rfl, h⟩
theorem pol_new {p : Po} (h : polC p = 0) : Lt.Lat p.n p.M ∧ 0 < p.n ∧ p.n ≤ 12 := by
 have hn := polC_new h
 have h1 := Lt.new_out hn
 exact ⟨Lt.lat_of hn, by have := h1.1; unfold Po.n; omega, by have := h1.1; unfold Po.n; omega⟩
theorem botP_con (p : Po) (h : polC p = 0) (d : Nat) : Con Tryz.prog 68 true [.one (.c (Lt.latO p.levels p.order))] (.v (li p.bot)) none d :=
 Lt.bot_con p.levels p.M (pol_new h).1 (pol_new h).2 _ _ _ d
theorem topP_con (p : Po) (h : polC p = 0) (d : Nat) : Con Tryz.prog 99 true [.one (.c (Lt.latO p.levels p.order))] (.v (li p.top)) none d :=
 Lt.top_con p.levels p.M (pol_new h).1 (pol_new h).2 _ _ _ d
def mixF {α : Type} (f g : α → Bool) (l : List α) (i : Nat) : List Bool := (l.take i).map g ++ (l.drop i).map f
theorem mix_len {α : Type} (f g : α → Bool) (l : List α) (i : Nat) : (mixF f g l i).length = l.length := by
 simp only [mixF, List.length_append, List.length_map, List.length_take, List.length_drop]; omega
theorem mix_set {α : Type} (f g : α → Bool) : ∀ (l : List α) (i : Nat) (x : α), l[i]? = some x → mixF f g l (i + 1) = (mixF f g l i).set i (g x)
 | [], i, x, h => by simp at h
 | y :: l, 0, x, h => by
   simp only [List.getElem?_cons_zero, Option.some.injEq] at h
   subst h
   simp [mixF]
 | y :: l, i + 1, x, h => by
   have ih := mix_set f g l i x (by simpa using h)
   simp only [mixF, List.take_succ_cons, List.map_cons, List.drop_succ_cons, List.cons_append, List.set_cons_succ] at ih ⊢
   rw [ih]
theorem mix_same {α : Type} (f g : α → Bool) : ∀ (l : List α) (i : Nat) (x : α), l[i]? = some x → g x = f x → mixF f g l (i + 1) = mixF f g l i
 | [], i, x, h, _ => by simp at h
 | y :: l, 0, x, h, e => by
   simp only [List.getElem?_cons_zero, Option.some.injEq] at h
   subst h
   simp [mixF, e]
 | y :: l, i + 1, x, h, e => by
   have ih := mix_same f g l i x (by simpa using h) e
   simp only [mixF, List.take_succ_cons, List.map_cons, List.drop_succ_cons, List.cons_append] at ih ⊢
   rw [ih]
theorem mix_zero {α : Type} (f g : α → Bool) (l : List α) : mixF f g l 0 = l.map f := by simp [mixF]
theorem mix_all {α : Type} (f g : α → Bool) (l : List α) : mixF f g l l.length = l.map g := by simp [mixF]
theorem usB_snoc {vars : List Vr} {k : Nat} {v : Vr} (h : vars[k]? = some v) (x : Lb) : usB (vars.take (k + 1)) x = (usB (vars.take k) x || (decide (v.kind ≠ 0) && covB x.name v.name)) := by
 unfold usB
 rw [List.take_add_one, h]
 simp
theorem polIn_con (f : Fl) (p : Po) (hs : smP p) (hv : f.vars.length ≤ 1000000) (hh : f.hats.length ≤ 1000000) (hn : nodesS f.body + nodesH f.hats ≤ 900000000) (hb : bndL f.body = true) (d : Nat) :
  Con Tryz.prog 64 false [aF f, aPo p] (.tup [lI (pinF f p).1, li (pinF f p).2]) none d := by
 have co := ord_con p hs
 have cf := checkP_con f hv hh hn hb
 have cb := botP_con p
 have ct := topP_con p
 have hins := hs.2.1
 obtain ⟨res, hres⟩ : ∃ r, pinF f p = r := ⟨_, rfl⟩
 rw [hres]
 unfold pinF at hres
 unfold ordR at co
 obtain ⟨C, hC⟩ : ∃ x, polC p = x := ⟨_, rfl⟩
 obtain ⟨D, hD⟩ : ∃ x, codeC f = x := ⟨_, rfl⟩
 obtain ⟨L, hL⟩ : ∃ x, Lt.latO p.levels p.order = x := ⟨_, rfl⟩
 have hLp : ∃ cs, L = .ptr cs := ⟨_, hL.symm⟩
 obtain ⟨cs, hLp⟩ := hLp
 rw [hC, hL] at co
 rw [hC] at cb ct hres
 rw [hL] at cb ct
 rw [hD] at cf hres
 subst hLp
 obtain ⟨vars, hats, body⟩ := f
 obtain ⟨ls, os, is, hts, ob, tm⟩ := p
 simp only at hres hv hins
 clear hC hD hL hs hh hn hb
 refine con_of_HT Tryz.func64 rfl (by kernel_rfl) (Nat.le_of_ble_eq_true rfl) ?_
 simp only [Tryz.f64]
 simp only [aF, Fl.enc, aPo, Po.enc, List.map_cons, List.map_nil] at co cf ⊢
 refine HT_seq <| HT_runA ?_
 rcases Classical.em (C = 0) with hc0 | hc0
 · subst hc0
   simp only [if_true] at co
   have cb := cb rfl
   have ct := ct rfl
   refine HT_seq <| (HT_runcA [⟨false, .v (.one (.c (.ptr cs))), none⟩] ?_ ?_)
   · first | exact co _ | exact trivial | simpa [*] using co _
   refine HT_seq <| HT_seq <| (HT_runcA [⟨true, .v (li D), none⟩] ?_ ?_)
   · first | exact cf _ | exact trivial | simpa [*] using cf _
   refine (HT_cond rfl (fun h3 => ?_) (fun h3 => HT_skip ?_))
   · try simp only [BN] at h3
     rw [if_pos (.inr (by simpa using h3))] at hres
     subst hres
     refine HT_seq <| HT_runA ?_
     exact HT_ret ⟨.inr rfl, _, le_one 4 1 rfl, ⟨⟨_, by simp; rfl, by simp [resR]⟩, by simp, fun h => by cases h⟩⟩
   · try simp only [BN] at h3
     have hd0 : D = 0 := by simpa using h3
     subst hd0
     rw [if_neg (by simp)] at hres
     have hrep := rep_encBs is
     have hmk : is.length ≤ maxLen ∧ (is.length : Int) ≤ 281474976710656 := ⟨by unfold maxLen; omega, by omega⟩
     refine HT_seq <| HT_runA ?_
     refine HT_seq <| HT_runA ?_
     refine HT_seq <| HT_seq <| HT_runA ?_
     refine HT_block <| (HT_loopU [3, 6, 7, 29, 30] (fun (x : Nat) => [(8, .v (.one (.own 900001))), (31, .v (li x))]) (fun (x : Nat) => [(3, .box [.c (.sl 1 (encNs ls)), .c (.sl 2 (encPr os)), .c (.sl 2 (encLs is)), .c (.sl 2 (encLs hts)), .c (iC ob), .c (bC tm)]), (27, .row 4 1 (encBs (is.map (usB (vars.take x))))), (900001, .row 3 1 (encIs ((vars.map (levV ⟨ls, os, is, hts, ob, tm⟩)).take x)))]) (fun (x : Nat) => x ≤ vars.length) (fun (x : Nat) => vars.length - x) (0 : Nat) (Nat.zero_le _) ?_ ?_)
     · exact le_mkA (fun n => n) [900001]
     rintro k hk
     simp only [upS, keepS, insS]
     try simp only [keepS, KN, Nat.reduceBEq, if_true, if_false, ins, Nat.reduceLT]
     refine HT_seq <| HT_runA ?_
     refine HT_seq <| (HT_cond rfl (fun h11 => HT_skip ?_) (fun h11 => ?_))
     · try simp only [BN] at h11
       have hlt : k < vars.length := by omega
       obtain ⟨v, he, hd⟩ := at_lt hlt
       have hw1 := wrap1 hlt (by omega)
       have hk1 : k + 1 ≤ vars.length := hlt
       have hus := fun x => usB_snoc he x
       obtain ⟨nm, kd, lo, hi, ini⟩ := v
       have hmz := mix_zero (usB (vars.take k)) (usB (vars.take (k + 1))) is
       have hma := mix_all (usB (vars.take k)) (usB (vars.take (k + 1))) is
       obtain ⟨best, hbest⟩ : ∃ x, levV ⟨ls, os, is, hts, ob, tm⟩ ⟨nm, kd, lo, hi, ini⟩ = x := ⟨_, rfl⟩
       have hsn : encIs ((vars.map (levV ⟨ls, os, is, hts, ob, tm⟩)).take (k + 1)) = encIs ((vars.map (levV ⟨ls, os, is, hts, ob, tm⟩)).take k) ++ [[iC best]] := by
        rw [List.take_add_one, List.getElem?_map, he, ← hbest]
        simp [encIs]
       obtain ⟨O, hO⟩ : ∃ x, (vars.map (levV ⟨ls, os, is, hts, ob, tm⟩)).take k = x := ⟨_, rfl⟩
       have hOl : O.length = k := by rw [← hO, List.length_take, List.length_map]; omega
       have hroom : room (k + 1) 8 := room_of (by omega) (by omega)
       rw [hO] at hsn
       unfold levV at hbest
       obtain ⟨BOT, hBOT⟩ : ∃ x, Po.bot ⟨ls, os, is, hts, ob, tm⟩ = x := ⟨_, rfl⟩
       obtain ⟨TOP, hTOP⟩ : ∃ x, Po.top ⟨ls, os, is, hts, ob, tm⟩ = x := ⟨_, rfl⟩
       rw [hBOT] at cb
       rw [hTOP] at ct
       simp only [hBOT, hTOP] at hbest
       clear hlt h11 hd cf co hBOT hTOP
       refine HT_seq <| HT_block <| HT_seq <| HT_runA ?_
       refine HT_seq <| (HT_runcA [⟨true, .v (li BOT), none⟩] ?_ ?_)
       · first | exact cb _ | exact trivial | simpa [*] using cb _
       refine (HT_cutU [3, 6, 7, 8, 10, 12, 29, 30, 31] (fun z => [(11, .v (li z))]) (fun z => [(3, .box [.c (.sl 1 (encNs ls)), .c (.sl 2 (encPr os)), .c (.sl 2 (encLs is)), .c (.sl 2 (encLs hts)), .c (iC ob), .c (bC tm)]), (10, .box [.c (sC nm), .c (iC kd), .c (iC lo), .c (iC hi), .c (iC ini)]), (27, .row 4 1 (encBs (is.map (usB (vars.take k))))), (900001, .row 3 1 (encIs O))]) (fun z => z = if kd = 1 then TOP else BOT) ?_ ?_)
       ·
        refine HT_seq <| HT_runA ?_
        refine (HT_cond rfl (fun h16 => ?_) (fun h16 => HT_skip ?_))
        · try simp only [BN] at h16
          have hk1' : kd = 1 := by simpa using h16
          refine (HT_runcA [⟨true, .v (li TOP), none⟩] ?_ ?_)
          · first | exact ct _ | exact trivial | simpa [*] using ct _
          exact ⟨TOP, by rw [if_pos hk1'], le_mkA (fun n => n) []⟩
        · try simp only [BN] at h16
          have hk1' : ¬ kd = 1 := by simpa using h16
          exact ⟨BOT, by rw [if_neg hk1'], le_mkA (fun n => n) []⟩
       rintro z0 hz0
       simp only [upS, keepS, insS]
       try simp only [keepS, KN, Nat.reduceBEq, if_true, if_false, ins, Nat.reduceLT]
       rw [← hz0] at hbest
       clear cb ct hz0
       refine HT_seq <| HT_seq <| HT_runA ?_
       refine HT_block <| (HT_loopU [3, 6, 7, 8, 10, 29, 30, 31, 43, 44] (fun (x : Nat × Int × Int) => [(11, .v (li x.2.1)), (12, .v (li x.2.2)), (45, .v (li x.1))]) (fun (x : Nat × Int × Int) => [(3, .box [.c (.sl 1 (encNs ls)), .c (.sl 2 (encPr os)), .c (.sl 2 (encLs is)), .c (.sl 2 (encLs hts)), .c (iC ob), .c (bC tm)]), (10, .box [.c (sC nm), .c (iC kd), .c (iC lo), .c (iC hi), .c (iC ini)]), (27, .row 4 1 (encBs (mixF (usB (vars.take k)) (usB (vars.take (k + 1))) is x.1))), (900001, .row 3 1 (encIs O))]) (fun (x : Nat × Int × Int) => x.1 ≤ is.length ∧ (bestF ⟨nm, kd, lo, hi, ini⟩ (is.drop x.1) (x.2.1, x.2.2)).1 = best) (fun (x : Nat × Int × Int) => is.length - x.1) (0, z0, -1) ⟨Nat.zero_le _, by simpa using hbest⟩ ?_ ?_)
       · exact le_mkA (fun n => n) []
       rintro ⟨i, lv, lo2⟩ ⟨hi1, hJ⟩
       simp only [upS, keepS, insS]
       try simp only [keepS, KN, Nat.reduceBEq, if_true, if_false, ins, Nat.reduceLT]
       simp only at hi1 hJ
       clear hbest hmz
       refine HT_seq <| HT_runA ?_
       refine HT_seq <| (HT_cond rfl (fun h23 => HT_skip ?_) (fun h23 => ?_))
       · try simp only [BN] at h23
         have hlt : i < is.length := by omega
         obtain ⟨x, hx, hxd⟩ := at_lt hlt
         have hw2 := wrap1 hlt (by omega)
         have hi2 : i + 1 ≤ is.length := hlt
         have hx' := get_encL hx
         rw [hxd] at hJ
         simp only [bestF] at hJ
         have hms := mix_set (usB (vars.take k)) (usB (vars.take (k + 1))) is i x hx
         have hmm := mix_same (usB (vars.take k)) (usB (vars.take (k + 1))) is i x hx
         have hml := mix_len (usB (vars.take k)) (usB (vars.take (k + 1))) is i
         obtain ⟨MX, hMX⟩ : ∃ x, mixF (usB (vars.take k)) (usB (vars.take (k + 1))) is i = x := ⟨_, rfl⟩
         rw [hMX] at hms hmm hml
         rw [hus] at hms hmm
         have hlm : i < MX.length := by omega
         obtain ⟨xn, xl⟩ := x
         have cc := cov_con xn nm
         simp only [Lb.enc] at hx' hJ hms hmm cc
         obtain ⟨Cv, hCV⟩ : ∃ x, covB xn nm = x := ⟨_, rfl⟩
         rw [hCV] at hJ hms hmm cc
         clear hlt hml hxd h23 hCV hma hsn hus
         refine HT_seq <| HT_block <| HT_seq <| HT_runA ?_
         refine HT_seq <| HT_seq <| (HT_runcA [⟨true, .v (lb Cv), none⟩] ?_ ?_)
         · first | exact cc _ | exact trivial | simpa [*] using cc _
         refine (HT_cond rfl (fun h26 => ?_) (fun h26 => HT_skip ?_))
         · try simp only [BN] at h26
           have hno : ¬ (kd ≠ 0 ∧ Cv = true) := by
            rintro ⟨a, b⟩
            rcases h26 with h | h
            · exact a (by simpa using h)
            · rw [b] at h; simp at h
           rw [if_neg (fun h => hno ⟨h.1, h.2.1⟩)] at hJ
           have hmm := hmm (by
            have : (decide (kd ≠ 0) && Cv) = false := by
             rw [Bool.and_eq_false_iff, decide_eq_false_iff_not]
             by_cases hk0 : kd = 0
             · exact .inl (fun h => h hk0)
             · exact .inr (by cases Cv with
                | false => rfl
                | true => exact absurd ⟨hk0, rfl⟩ hno)
            rw [this, Bool.or_false])
           refine (HT_exit ?_)
           refine HT_runA ?_
           exact ⟨(i + 1, lv, lo2), ⟨hi2, hJ⟩, by simp only; omega, le_mkA (fun n => n) []⟩
         · try simp only [BN] at h26
           have hyes : kd ≠ 0 ∧ Cv = true := by simpa using h26
           have hms : mixF (usB (vars.take k)) (usB (vars.take (k + 1))) is (i + 1) = MX.set i true := by
            rw [hms, decide_eq_true hyes.1, hyes.2]; simp
           have hse : (encBs MX).set i [CD.lit (Value.bool true)] = encBs (MX.set i true) := set_encBs MX i true
           refine HT_seq <| HT_runA ?_
           refine HT_seq <| HT_runA ?_
           refine (HT_cond rfl (fun h31 => ?_) (fun h31 => HT_skip ?_))
           · try simp only [BN] at h31
             rw [if_pos ⟨hyes.1, hyes.2, by simpa using h31⟩] at hJ
             refine (HT_drun (by kernel_rfl) (by kernel_rfl) (by rfl) (by simp [*]; rfl) ?_)
             refine HT_runA ?_
             exact ⟨(i + 1, xl, (xn.size : Int)), ⟨hi2, hJ⟩, by simp only; omega, le_mkA (fun n => n) []⟩
           · try simp only [BN] at h31
             rw [if_neg (fun h => by have := h.2.2; simp at h31; omega)] at hJ
             refine HT_runA ?_
             exact ⟨(i + 1, lv, lo2), ⟨hi2, hJ⟩, by simp only; omega, le_mkA (fun n => n) []⟩
       · try simp only [BN] at h23
         have hil : i = is.length := by omega
         rw [hil, List.drop_length] at hJ
         simp only [bestF] at hJ
         subst hJ
         refine (HT_exit ?_)
         refine HT_runA ?_
         refine HT_runA ?_
         exact ⟨k + 1, hk1, by omega, le_mkA (fun n => if n = 900001 then 78 else n) []⟩
     · try simp only [BN] at h11
       have hkl : k = vars.length := by omega
       subst hkl
       have ccb := conB_con (is.map (usB (vars.take vars.length))) (by simpa using (by omega : is.length ≤ 1000000000))
       rw [List.take_length] at ccb ⊢
       have htk : (vars.map (levV ⟨ls, os, is, hts, ob, tm⟩)).take vars.length = vars.map (levV ⟨ls, os, is, hts, ob, tm⟩) := List.take_of_length_le (by simp)
       have hal : (is.map (usB vars)).all id = is.all (usB vars) := by simp [List.all_map]
       rw [hal] at ccb
       refine (HT_exit ?_)
       refine HT_seq <| HT_seq <| (HT_runcA [⟨true, .v (lb (!is.all (usB vars))), none⟩] ?_ ?_)
       · first | exact ccb _ | exact trivial | simpa [*] using ccb _
       refine (HT_cond rfl (fun h41 => ?_) (fun h41 => HT_skip ?_))
       · try simp only [BN] at h41
         rw [if_neg (by simpa using h41)] at hres
         subst hres
         refine HT_seq <| HT_runA ?_
         exact HT_ret ⟨.inr rfl, _, le_one 4 1 rfl, ⟨⟨_, by simp; rfl, by simp [resR]⟩, by simp, fun h => by cases h⟩⟩
       · try simp only [BN] at h41
         rw [if_pos (by simpa using h41)] at hres
         subst hres
         refine HT_seq <| HT_runA ?_
         exact HT_ret ⟨.inr rfl, _, le_frz 900001 rfl, ⟨⟨_, by simp; rfl, by simp [resR]⟩, by simp, fun h => by cases h⟩⟩
 · rw [if_neg hc0] at co
   rw [if_pos (.inl hc0)] at hres
   subst hres
   refine HT_seq <| (HT_runcA [⟨false, .v (.one (.c (.lit (.pointer none)))), none⟩] ?_ ?_)
   · first | exact co _ | exact trivial | simpa [*] using co _
   refine HT_seq <| HT_seq <| (HT_runcS [none] (by simp [*]; first | exact ⟨rfl, trivial⟩ | exact ⟨rfl, Iff.rfl⟩ | rfl) ?_ ?_)
   · trivial
   refine (HT_cond rfl (fun h3 => ?_) (fun h3 => HT_skip ?_))
   · try simp only [BN] at h3
     refine HT_seq <| HT_runA ?_
     exact HT_ret ⟨.inr rfl, _, le_one 4 1 rfl, ⟨⟨_, by simp; rfl, by simp [resR]⟩, by simp, fun h => by cases h⟩⟩
   · exact absurd h3 (by simp)
end Go.Proofs.YtfjidddhehckoaaGreat

namespace Go.Proofs.YtfjidddhehckoaaGreat
open Go Go.Hl
theorem cloneI_con (l : List Int) (hl : l.length ≤ 1000000000) (d : Nat) : Con Tryz.prog 36 false [lI l] (.v (lI l)) none d := by
 have hroom : room l.length 8 := ⟨by unfold maxLen; omega, by omega⟩
 cases l with
 | nil =>
   refine con_emp ?_ ?_
   · refine con_of_HT Tryz.func36 rfl (by kernel_rfl) (Nat.le_of_ble_eq_true rfl) ?_
     simp only [Tryz.f36]
     refine HT_seq <| HT_runA ?_
     refine HT_seq <| HT_seq <| HT_runA ?_
     refine (HT_cond rfl (fun h2 => ?_) (fun h2 => HT_skip ?_))
     · try simp only [BN] at h2
       refine HT_seq <| HT_runA ?_
       exact HT_ret ⟨.inr rfl, _, le_one 2 1 rfl, ⟨⟨_, by simp; rfl, by simp [resR]⟩, by simp, fun h => by cases h⟩⟩
     · exact absurd h2 (by simp)
   · intro a cap
     refine con_of_HT Tryz.func36 rfl (by kernel_rfl) (Nat.le_of_ble_eq_true rfl) ?_
     simp only [Tryz.f36]
     refine HT_seq <| HT_runA ?_
     refine HT_seq <| HT_seq <| HT_runA ?_
     refine (HT_cond rfl (fun h2 => ?_) (fun h2 => HT_skip ?_))
     · exact absurd h2 (by simp)
     · try simp only [BN] at h2
       refine HT_le (le_emp 0 1 rfl) ?_
       refine HT_seq <| HT_runA ?_
       exact HT_ret ⟨.inr rfl, _, le_frz 7 rfl, ⟨⟨_, by simp; rfl, by simp [resR]⟩, by simp, fun h => by cases h⟩⟩
 | cons v r =>
   refine con_of_HT Tryz.func36 rfl (by kernel_rfl) (Nat.le_of_ble_eq_true rfl) ?_
   simp only [Tryz.f36]
   rw [List.length_cons] at hroom
   refine HT_seq <| HT_runA ?_
   refine HT_seq <| HT_seq <| HT_runA ?_
   refine (HT_cond rfl (fun h2 => ?_) (fun h2 => HT_skip ?_))
   · exact absurd h2 (by simp)
   · try simp only [BN] at h2
     refine HT_seq <| HT_runA ?_
     exact HT_ret ⟨.inr rfl, _, le_frz 7 rfl, ⟨⟨_, by simp; rfl, by simp [resR]⟩, by simp, fun h => by cases h⟩⟩
end Go.Proofs.YtfjidddhehckoaaGreat

namespace Go.Proofs.YtfjidddhehckoaaGreat
open Go Go.Hl
attribute [simp] Ob.flat
theorem cloneO_con (l : List Int) (hl : l.length ≤ 1000000000) (d : Nat) (hd : d < 1000000) : Con Tryz.prog 36 false [lI l] (.v (.one (.own d))) (some (.row 3 1 (encIs l))) d := by
 have hroom : room l.length 8 := ⟨by unfold maxLen; omega, by omega⟩
 cases l with
 | nil =>
   refine con_emp ?_ ?_
   · refine con_of_HT Tryz.func36 rfl (by kernel_rfl) (Nat.le_of_ble_eq_true rfl) ?_
     simp only [Tryz.f36]
     refine HT_seq <| HT_runA ?_
     refine HT_seq <| HT_seq <| HT_runA ?_
     refine (HT_cond rfl (fun h2 => ?_) (fun h2 => HT_skip ?_))
     · try simp only [BN] at h2
       refine HT_seq <| HT_runA ?_
       exact HT_ret ⟨.inr rfl, _, le_nameN 2 d 3 1 rfl (by decide) hd, ⟨⟨_, by simp; rfl, by simp [resR]⟩, by simp, fun h => by cases h⟩⟩
     · exact absurd h2 (by simp)
   · intro a cap
     refine con_of_HT Tryz.func36 rfl (by kernel_rfl) (Nat.le_of_ble_eq_true rfl) ?_
     simp only [Tryz.f36]
     refine HT_seq <| HT_runA ?_
     refine HT_seq <| HT_seq <| HT_runA ?_
     refine (HT_cond rfl (fun h2 => ?_) (fun h2 => HT_skip ?_))
     · exact absurd h2 (by simp)
     · try simp only [BN] at h2
       refine HT_le (le_emp 0 1 rfl) ?_
       refine HT_seq <| HT_runA ?_
       exact HT_ret ⟨.inr rfl, _, le_name 2 7 d rfl rfl hd, ⟨⟨_, by simp; rfl, by simp [resR]⟩, by simp, fun h => by cases h⟩⟩
 | cons v r =>
   refine con_of_HT Tryz.func36 rfl (by kernel_rfl) (Nat.le_of_ble_eq_true rfl) ?_
   simp only [Tryz.f36]
   rw [List.length_cons] at hroom
   refine HT_seq <| HT_runA ?_
   refine HT_seq <| HT_seq <| HT_runA ?_
   refine (HT_cond rfl (fun h2 => ?_) (fun h2 => HT_skip ?_))
   · exact absurd h2 (by simp)
   · try simp only [BN] at h2
     refine HT_seq <| HT_runA ?_
     exact HT_ret ⟨.inr rfl, _, le_name 2 7 d rfl rfl hd, ⟨⟨_, by simp; rfl, by simp [resR]⟩, by simp, fun h => by cases h⟩⟩
@[simp] theorem encIs_getE (l : List Int) (i : Nat) (h : i < (encIs l).length) : (encIs l)[i]'h = [iC (l[i]'(by simpa using h))] := by simp [encIs]
def repC (n : Nat) : Prop := ∀ d, d < 1000000 → Con Tryz.prog 103 false [lI [-1], li n] (.v (.one (.own d))) (some (.row 3 1 (encIs (List.replicate n (-1))))) d
theorem idxH2_con (l : List Ht) (g : FuncId) (cap : List CD) (p : Ht → Bool) (hl : l.length ≤ 1000000000) (hp : ∀ v ∈ l, ∀ d, Con Tryz.prog g true (aH v :: cap.map fun c => .one (.c c)) (.v (lb (p v))) none d) (d : Nat) :
  Con Tryz.prog 104 true [.one (.c (.sl 6 (encHs l))), .one (.c (.fn g cap))] (.v (li (match l.findIdx? p with | some i => (i : Int) | none => -1))) none d := by
 have hstep : ∀ k : Nat, (∀ j : Nat, j < k → ∀ v, l[j]? = some v → p v = false) → ∀ v, l[k]? = some v → p v = true → l.findIdx? p = some k := by
  intro k hno v hv hpv
  rw [List.findIdx?_eq_some_iff_getElem]
  have hk : k < l.length := (List.getElem?_eq_some_iff.1 hv).1
  refine ⟨hk, ?_, fun j hj => ?_⟩
  · simp only [List.getElem?_eq_getElem hk, Option.some.injEq] at hv
    rw [hv]; exact hpv
  · have := hno j hj l[j] (by simp)
    simp [this]
 have hnone : (∀ j : Nat, j < l.length → ∀ v, l[j]? = some v → p v = false) → l.findIdx? p = none := by
  intro hno
  rw [List.findIdx?_eq_none_iff]
  intro v hv
  obtain ⟨j, hj⟩ := List.mem_iff_getElem?.1 hv
  exact hno j (List.getElem?_eq_some_iff.1 hj).1 v hj
 refine con_of_HT Tryz.func104 rfl (by kernel_rfl) (Nat.le_of_ble_eq_true rfl) ?_
 simp only [Tryz.f104]
 refine HT_seq <| HT_runA ?_
 refine HT_seq <| HT_seq <| HT_runA ?_
 refine HT_block <| (HT_loopU [0, 1, 7] (fun (x : Nat) => [(8, .v (li x))]) (fun (x : Nat) => []) (fun (x : Nat) => x ≤ l.length ∧ ∀ j : Nat, j < x → ∀ v, l[j]? = some v → p v = false) (fun (x : Nat) => l.length - x) (0 : Nat) ⟨Nat.zero_le _, fun j hj => absurd hj (Nat.not_lt_zero j)⟩ ?_ ?_)
 · exact le_mkA (fun n => n) []
 rintro k ⟨hk, hJ⟩
 simp only [upS, keepS, insS]
 try simp only [keepS, KN, Nat.reduceBEq, if_true, if_false, ins, Nat.reduceLT]
 refine HT_seq <| HT_runA ?_
 refine HT_seq <| (HT_cond rfl (fun h4 => HT_skip ?_) (fun h4 => ?_))
 · try simp only [BN] at h4
   have hlt : k < l.length := by omega
   obtain ⟨⟨nm, lo, hi, ⟨o, tn, ks⟩⟩, he, hd⟩ := at_lt hlt
   have hw1 := wrap1 hlt (by omega)
   have hk1 : k + 1 ≤ l.length := hlt
   have hpv := hp _ (List.mem_of_getElem? he)
   have hs := hstep k hJ _ he
   clear hlt h4 hstep hnone hp
   refine HT_seq <| HT_block <| HT_seq <| HT_runA ?_
   refine HT_seq <| (HT_runcA [⟨true, .v (lb (p ⟨nm, lo, hi, .mk o tn ks⟩)), none⟩] ?_ ?_)
   · first | exact hpv _ | exact trivial | simpa [*] using hpv _
   refine (HT_cond rfl (fun h7 => ?_) (fun h7 => HT_skip ?_))
   · try simp only [BN] at h7
     rw [hs h7]
     refine HT_seq <| HT_runA ?_
     exact HT_retA fun h => ⟨.inr rfl, h⟩
   · try simp only [BN] at h7
     refine HT_runA ?_
     exact ⟨k + 1, ⟨hk1, fun j hj w hw => (Nat.lt_succ_iff_lt_or_eq.1 hj).elim (fun h => hJ j h w hw) (fun e => by subst e; rw [he] at hw; cases hw; exact h7)⟩, by omega, le_mkA (fun n => n) []⟩
 · try simp only [BN] at h4
   rw [hnone fun j hj => hJ j (by omega)]
   refine (HT_exit ?_)
   refine HT_seq <| HT_runA ?_
   exact HT_retA fun h => ⟨.inr rfl, h⟩
theorem sameL_con (w : Ht) (x : Lb) (d : Nat) : Con Tryz.prog 105 true [aH w, .one (.c (.ptr x.enc))] (.v (lb (decide (w.name = x.name)))) none d := by
 obtain ⟨n1, l1, h1, ⟨o1, t1, k1⟩⟩ := w
 obtain ⟨n2, l2⟩ := x
 refine con_of_HT Tryz.func105 rfl (by kernel_rfl) (Nat.le_of_ble_eq_true rfl) ?_
 simp only [Tryz.f105]
 simp only [aH, Ht.enc, Tm.enc, List.cons_append, List.nil_append]
 refine HT_seq <| HT_runA ?_
 refine HT_seq <| HT_runA ?_
 exact HT_retA fun h => ⟨.inr rfl, h⟩
theorem htF_len (hats : List Ht) : ∀ (l : List Lb) (out r : List Int), htF hats out l = some r → r.length = out.length
 | [], out, r, h => by simp only [htF, Option.some.injEq] at h; rw [h]
 | x :: l, out, r, h => by
   simp only [htF] at h
   split at h
   · cases h
   · have := htF_len hats l _ r h
     simpa using this
def htR (r : Option (List Int)) : List Int × Int := match r with | none => ([], 7) | some l => (l, 0)
theorem polHt_con (f : Fl) (p : Po) (hs : smP p) (hrep : repC f.hats.length) (hv : f.vars.length ≤ 1000000) (hh : f.hats.length ≤ 1000000) (hn : nodesS f.body + nodesH f.hats ≤ 900000000) (hb : bndL f.body = true) (d : Nat) :
  Con Tryz.prog 65 false [aF f, aPo p] (.tup [lI (phtF f p).1, li (phtF f p).2]) none d := by
 have cp := polC_con p hs
 have cf := checkP_con f hv hh hn hb
 have hlh := hs.2.2.1
 unfold repC at hrep
 obtain ⟨res, hres⟩ : ∃ r, phtF f p = r := ⟨_, rfl⟩
 rw [hres]
 unfold phtF at hres
 obtain ⟨C, hC⟩ : ∃ x, polC p = x := ⟨_, rfl⟩
 obtain ⟨D, hD⟩ : ∃ x, codeC f = x := ⟨_, rfl⟩
 rw [hC] at cp hres
 rw [hD] at cf hres
 have hres : (if C ≠ 0 ∨ D ≠ 0 then ([], 1) else htR (htF f.hats (List.replicate f.hats.length (-1)) p.hatches)) = res := by
  rw [← hres]
  split
  · rfl
  · unfold htR
    rfl
 obtain ⟨vars, hats, body⟩ := f
 obtain ⟨ls, os, is, hts, ob, tm⟩ := p
 simp only at hres hv hh hlh hrep
 clear hC hD hs hn hb hv
 refine con_of_HT Tryz.func65 rfl (by kernel_rfl) (Nat.le_of_ble_eq_true rfl) ?_
 simp only [Tryz.f65]
 simp only [aF, Fl.enc, aPo, Po.enc, List.map_cons, List.map_nil] at cp cf ⊢
 refine HT_seq <| HT_runA ?_
 rcases Classical.em (C = 0) with hc0 | hc0
 · subst hc0
   refine HT_seq <| HT_seq <| (HT_runcA [⟨true, .v (li 0), none⟩, ⟨true, .v (li D), none⟩] ?_ ?_)
   · first | exact ⟨cp _, cf _⟩ | exact trivial | (repeat' first | exact trivial | exact cp _ | exact cf _ | apply And.intro)
   refine (HT_cond rfl (fun h2 => ?_) (fun h2 => HT_skip ?_))
   · try simp only [BN] at h2
     rw [if_pos (.inr (by simpa using h2))] at hres
     subst hres
     refine HT_seq <| HT_runA ?_
     exact HT_ret ⟨.inr rfl, _, le_one 4 1 rfl, ⟨⟨_, by simp; rfl, by simp [resR]⟩, by simp, fun h => by cases h⟩⟩
   · try simp only [BN] at h2
     rw [if_neg (by simpa using h2)] at hres
     clear cp cf h2
     have hrep := hrep 22 (by decide)
     refine HT_seq <| (HT_runF 1 [] [⟨false, .v (.one (.own 22)), some (.row 3 1 (encIs (List.replicate hats.length (-1))))⟩] (by simp [*]; rfl) trivial (le_frz 18 rfl) (by simp [*]; first | exact ⟨rfl, hrep⟩ | exact ⟨rfl, Iff.rfl⟩ | rfl) hrep ?_)
     clear hrep
     refine HT_seq <| HT_seq <| HT_runA ?_
     refine HT_block <| (HT_loopU [2, 6, 24, 25] (fun (x : Nat × List Int) => [(26, .v (li x.1))]) (fun (x : Nat × List Int) => [(2, .box [.c (.sl 5 (encVs vars)), .c (.sl 6 (encHs hats)), .c (.sl 10 (encSs body))]), (22, .row 3 1 (encIs x.2))]) (fun (x : Nat × List Int) => x.1 ≤ hts.length ∧ htR (htF hats x.2 (hts.drop x.1)) = res ∧ x.2.length = hats.length) (fun (x : Nat × List Int) => hts.length - x.1) (0, List.replicate hats.length (-1)) ⟨Nat.zero_le _, hres, by simp⟩ ?_ ?_)
     · exact le_mkA (fun n => n) []
     rintro ⟨k, out⟩ ⟨hk, hJ, hol⟩
     simp only [upS, keepS, insS]
     try simp only [keepS, KN, Nat.reduceBEq, if_true, if_false, ins, Nat.reduceLT]
     simp only at hk hJ hol
     clear hres
     refine HT_seq <| HT_runA ?_
     refine HT_seq <| (HT_cond rfl (fun h9 => HT_skip ?_) (fun h9 => ?_))
     · try simp only [BN] at h9
       have hlt : k < hts.length := by omega
       obtain ⟨x, he, hd⟩ := at_lt hlt
       have hw1 := wrap1 hlt (by omega)
       have hk1 : k + 1 ≤ hts.length := hlt
       rw [hd] at hJ
       simp only [htF] at hJ
       have he' := get_encL he
       have ci := idxH2_con hats 105 [.ptr x.enc] (fun w => decide (w.name = x.name)) (by omega) (fun w _ d => sameL_con w x d)
       have hhi : hats.findIdx? (fun w => decide (w.name = x.name)) = hatI hats x.name := rfl
       rw [hhi] at ci
       have hil : ∀ i, hatI hats x.name = some i → i < hats.length := by
        intro i hi
        unfold hatI at hi
        rw [List.findIdx?_eq_some_iff_getElem] at hi
        exact hi.1
       obtain ⟨Q, hQ⟩ : ∃ q, hatI hats x.name = q := ⟨_, rfl⟩
       rw [hQ] at hJ ci hil
       obtain ⟨xn, xl⟩ := x
       simp only [Lb.enc] at he' hJ ci
       clear hlt h9 hd he hhi hQ
       refine HT_seq <| HT_block <| HT_seq <| HT_runA ?_
       rcases Q with _ | i
       · simp only at hJ ci
         unfold htR at hJ
         simp only at hJ
         subst hJ
         refine HT_seq <| (HT_runcA [⟨true, .v (li (-1)), none⟩] ?_ ?_)
         · first | exact ci _ | exact trivial | simpa [*] using ci _
         refine HT_seq <| HT_seq <| HT_runA ?_
         refine (HT_cond rfl (fun h13 => ?_) (fun h13 => HT_skip ?_))
         · try simp only [BN] at h13
           refine HT_seq <| HT_runA ?_
           exact HT_ret ⟨.inr rfl, _, le_one 4 1 rfl, ⟨⟨_, by simp; rfl, by simp [resR]⟩, by simp, fun h => by cases h⟩⟩
         · exact absurd h13 (by simp)
       · simp only at hJ ci
         have hi := hil i rfl
         clear hil
         have hset : (encIs out).set i [iC xl] = encIs (out.set i xl) := by simp [encIs, List.map_set]
         have hio : i < out.length := by omega
         have hol2 : (out.set i xl).length = hats.length := by simp [hol]
         refine HT_seq <| (HT_runcA [⟨true, .v (li (i : Int)), none⟩] ?_ ?_)
         · first | exact ci _ | exact trivial | simpa [*] using ci _
         refine HT_seq <| HT_seq <| HT_runA ?_
         refine (HT_cond rfl (fun h13 => ?_) (fun h13 => HT_skip ?_))
         · exact absurd h13 (by simp)
         · try simp only [BN] at h13
           refine HT_runA ?_
           refine HT_runA ?_
           exact ⟨(k + 1, out.set i xl), ⟨hk1, hJ, hol2⟩, by simp only; omega, le_mkA (fun n => n) []⟩
     · try simp only [BN] at h9
       have hkl : k = hts.length := by omega
       rw [hkl, List.drop_length] at hJ
       simp only [htF, htR] at hJ
       subst hJ
       refine (HT_exit ?_)
       refine HT_seq <| HT_runA ?_
       exact HT_ret ⟨.inr rfl, _, le_frz 22 rfl, ⟨⟨_, by simp; rfl, by simp [resR]⟩, by simp, fun h => by cases h⟩⟩
 · rw [if_pos (.inl hc0)] at hres
   subst hres
   refine HT_seq <| HT_seq <| (HT_runcS [some ⟨true, .v (li C), none⟩, none] (by simp [*]; first | exact ⟨rfl, Iff.rfl⟩ | exact ⟨rfl, trivial⟩ | rfl) ?_ ?_)
   · first | exact trivial | exact cp _ | simpa using cp _
   refine (HT_cond rfl (fun h2 => ?_) (fun h2 => HT_skip ?_))
   · try simp only [BN] at h2
     refine HT_seq <| HT_runA ?_
     exact HT_ret ⟨.inr rfl, _, le_one 4 1 rfl, ⟨⟨_, by simp; rfl, by simp [resR]⟩, by simp, fun h => by cases h⟩⟩
   · exact absurd h2 (by simpa using hc0)
end Go.Proofs.YtfjidddhehckoaaGreat

namespace Go.Proofs.YtfjidddhehckoaaGreat
open Go Go.Hl
abbrev wr (x : Int) : Int := IntKind.i64.wrap x
end Go.Proofs.YtfjidddhehckoaaGreat

namespace Go.Proofs.YtfjidddhehckoaaGreat
open Go Go.Hl
end Go.Proofs.YtfjidddhehckoaaGreat

namespace Go.Proofs.YtfjidddhehckoaaGreat
open Go Go.Hl
end Go.Proofs.YtfjidddhehckoaaGreat

namespace Go.Proofs.YtfjidddhehckoaaGreat
open Go Go.Hl
@[simp] theorem encI_app (a b : List Int) : encIs (a ++ b) = encIs a ++ encIs b := by simp [encIs]
@[simp] theorem encI_one (x : Int) : encIs [x] = [[iC x]] := rfl
structure Inp where
 s : List Int
 p : List Int
 r : List Int
structure Pk where
 n : Int
 is_ : Bool
 a : Nat
 b : Nat
 c : Nat
end Go.Proofs.YtfjidddhehckoaaGreat

namespace Go.Proofs.YtfjidddhehckoaaGreat
open Go Go.Hl
structure Sta where
 vals : List Int
 outs : List Int
 time : Int
mutual
def wfS (vars : List Vr) (nh : Nat) : St → Bool
 | .mk d _ v n t a b bs => formB vars false t && ((decide (d ≠ 0 ∧ d ≠ 5) || localB vars v) && ((decide (d ≠ 5) || (decide (0 ≤ n) && decide (n < nh))) && ((decide (d ≠ 4) || decide (n ≤ 4096)) && (decide (bs.length ≤ 1000000000) && (wfL vars nh a && wfL vars nh b)))))
def wfL (vars : List Vr) (nh : Nat) : List St → Bool
 | [] => true
 | s :: l => wfS vars nh s && wfL vars nh l
end
mutual
def oUS : St → Nat
 | .mk d _ _ n _ a b _ => if d = 4 then n.toNat * oUL a else if d = 3 then max (oUL a) (oUL b) else if d = 1 then 1 else 0
def oUL : List St → Nat
 | [] => 0
 | s :: l => oUS s + oUL l
end
theorem wfL_mem {vars : List Vr} {nh : Nat} {l : List St} (h : wfL vars nh l = true) {s : St} (hs : s ∈ l) : wfS vars nh s = true := by
 induction l with
 | nil => cases hs
 | cons x l ih =>
   simp only [wfL, Bool.and_eq_true] at h
   rcases List.mem_cons.1 hs with rfl | h1
   · exact h.1
   · exact ih h.2 h1
end Go.Proofs.YtfjidddhehckoaaGreat

namespace Go.Proofs.YtfjidddhehckoaaGreat
open Go Go.Hl
theorem local_get {vars : List Vr} {v : Int} (h : localB vars v = true) : 0 ≤ v ∧ ∃ w, vars[v.toNat]? = some w := by
 unfold localB at h
 simp only [Bool.and_eq_true, decide_eq_true_eq] at h
 refine ⟨h.1, ?_⟩
 have h2 := h.2
 split at h2
 · exact ⟨_, by assumption⟩
 · cases h2
end Go.Proofs.YtfjidddhehckoaaGreat

namespace Go.Proofs.YtfjidddhehckoaaGreat
open Go Go.Hl
theorem sizes_con (f : Fl) (hv : f.vars.length ≤ 1000000) (hh : f.hats.length ≤ 1000000) (hn : nodesS f.body + nodesH f.hats ≤ 900000000) (d : Nat) :
  Con Tryz.prog 47 true [aF f] (.v (lb (sizesB f))) none d := by
 obtain ⟨res, hres⟩ : ∃ r, sizesB f = r := ⟨_, rfl⟩
 rw [hres]
 have cn := nodes_con f.body (by omega)
 have csd := sdepth_con f.body (by omega)
 have ctd := tdeep_con f.body (by omega)
 unfold sizesB at hres
 obtain ⟨vars, hats, body⟩ := f
 simp only at hv hh hn hres cn csd ctd
 refine con_of_HT Tryz.func47 rfl (by kernel_rfl) (Nat.le_of_ble_eq_true rfl) ?_
 simp only [Tryz.f47]
 simp only [aF, Fl.enc, List.map_cons, List.map_nil]
 refine HT_seq <| HT_runA ?_
 refine HT_seq <| HT_seq <| HT_runA ?_
 refine (HT_cond rfl (fun h2 => ?_) (fun h2 => HT_skip ?_))
 · try simp only [BN] at h2
   have hz : (decide (vars.length ≤ 64) && decide (hats.length ≤ 8)) = false := by
    simp only [Bool.and_eq_false_iff, decide_eq_false_iff_not]
    omega
   rw [hz] at hres
   simp only [Bool.false_and] at hres
   subst hres
   refine HT_seq <| HT_runA ?_
   exact HT_retA fun h => ⟨.inr rfl, h⟩
 · try simp only [BN] at h2
   have hz : (decide (vars.length ≤ 64) && decide (hats.length ≤ 8)) = true := by
    simp only [Bool.and_eq_true, decide_eq_true_eq]
    omega
   rw [hz] at hres
   simp only [Bool.true_and] at hres
   refine HT_seq <| (HT_runcA [⟨true, .v (li (nodesS body)), none⟩] ?_ ?_)
   · first | exact cn _ | exact trivial | simpa [*] using cn _
   refine HT_seq <| HT_seq <| HT_runA ?_
   refine HT_block <| (HT_loopU [1] (fun (x : Nat × Nat) => [(3, .v (li x.2)), (4, .v (li x.1))]) (fun (x : Nat × Nat) => [(1, .box [.c (.sl 5 (encVs vars)), .c (.sl 6 (encHs hats)), .c (.sl 10 (encSs body))])]) (fun (x : Nat × Nat) => x.1 ≤ hats.length ∧ x.2 + nodesH (hats.drop x.1) = nodesS body + nodesH hats ∧ deepH (hats.drop x.1) = deepH hats) (fun (x : Nat × Nat) => hats.length - x.1) (0, nodesS body) ⟨Nat.zero_le _, by simp, by simp⟩ ?_ ?_)
   · exact le_mkA (fun n => n) []
   rintro ⟨k, n⟩ ⟨hk, hJ, hJ2⟩
   simp only [upS, keepS, insS]
   try simp only [keepS, KN, Nat.reduceBEq, if_true, if_false, ins, Nat.reduceLT]
   simp only at hk hJ hJ2
   refine HT_seq <| HT_seq <| HT_runA ?_
   refine (HT_cond rfl (fun h9 => HT_skip ?_) (fun h9 => ?_))
   · try simp only [BN] at h9
     have hlt : k < hats.length := by omega
     obtain ⟨h, he, hd⟩ := at_lt hlt
     have hw1 := wrap1 hlt (by omega)
     have hk1 : k + 1 ≤ hats.length := hlt
     rw [hd] at hJ hJ2
     simp only [nodesH] at hJ
     have hJ2 : (decide (tdT h.term ≤ 12) && deepH (hats.drop (k + 1))) = deepH hats := hJ2
     have ctn := tnodes_con h.term (by omega)
     have ctd2 := tdepth_con h.term (by omega)
     have hw2 : IntKind.i64.wrap ((n : Int) + h.term.nodes) = ((n + h.term.nodes : Nat) : Int) := by rw [wrap_in (by omega) (by omega)]; simp
     obtain ⟨nm, lo, hi, ⟨o, tn, ks⟩⟩ := h
     simp only at hJ hJ2 ctn ctd2 hw2
     simp only [aT, Tm.enc, List.map_cons, List.map_nil] at ctn ctd2
     obtain ⟨N, hN⟩ : ∃ x, (Tm.mk o tn ks).nodes = x := ⟨_, rfl⟩
     obtain ⟨D, hD⟩ : ∃ x, tdT (Tm.mk o tn ks) = x := ⟨_, rfl⟩
     rw [hN] at ctn hJ hw2
     rw [hD] at ctd2 hJ2
     clear hlt h9 hd hN hD
     refine HT_seq <| HT_block <| HT_seq <| (HT_runcA [⟨true, .v (li N), none⟩] ?_ ?_)
     · first | exact ctn _ | exact trivial | simpa [*] using ctn _
     refine HT_seq <| (HT_runcA [⟨true, .v (li D), none⟩] ?_ ?_)
     · first | exact ctd2 _ | exact trivial | simpa [*] using ctd2 _
     refine (HT_cond rfl (fun h12 => ?_) (fun h12 => HT_skip ?_))
     · try simp only [BN] at h12
       have hz2 : deepH hats = false := by rw [← hJ2]; simp only [Bool.and_eq_false_iff, decide_eq_false_iff_not]; omega
       rw [hz2, Bool.and_false] at hres
       subst hres
       refine HT_seq <| HT_runA ?_
       exact HT_retA fun h => ⟨.inr rfl, h⟩
     · try simp only [BN] at h12
       rw [decide_eq_true (by omega), Bool.true_and] at hJ2
       refine HT_runA ?_
       exact ⟨(k + 1, n + N), ⟨hk1, by simp only; omega, hJ2⟩, by simp only; omega, le_mkA (fun n => n) []⟩
   · try simp only [BN] at h9
     have hkl : k = hats.length := by omega
     subst hkl
     rw [List.drop_length] at hJ hJ2
     simp only [nodesH, Nat.add_zero] at hJ
     have hJ2 : deepH hats = true := hJ2.symm
     rw [hJ2, Bool.and_true, ← hJ] at hres
     obtain ⟨S, hS⟩ : ∃ x, sdL body = x := ⟨_, rfl⟩
     obtain ⟨T, hT⟩ : ∃ x, tdeep body = x := ⟨_, rfl⟩
     rw [hS] at csd hres
     rw [hT] at ctd hres
     have e1 : decide (n ≤ 1024) = decide ((n : Int) ≤ 1024) := by rw [Bool.eq_iff_iff, decide_eq_true_eq, decide_eq_true_eq]; omega
     have e2 : decide (S ≤ 12) = decide ((S : Int) ≤ 12) := by rw [Bool.eq_iff_iff, decide_eq_true_eq, decide_eq_true_eq]; omega
     rw [e1, e2] at hres
     clear e1 e2 hS hT hJ2 h9 hJ
     refine (HT_exit ?_)
     refine HT_seq <| (HT_runcA [⟨true, .v (li S), none⟩, ⟨true, .v (lb T), none⟩] ?_ ?_)
     · first | exact ⟨csd _, ctd _⟩ | exact trivial | (repeat' first | exact trivial | exact csd _ | exact ctd _ | apply And.intro)
     exact (HT_retE (fun h => ⟨.inr rfl, h⟩) _ (by simp [*]; rfl) (by subst hres; simp [resR]) (by simp))
end Go.Proofs.YtfjidddhehckoaaGreat

namespace Go.Proofs.YtfjidddhehckoaaGreat
open Go Go.Hl
theorem checkR_con (f : Fl) (hv : f.vars.length ≤ 1000000) (hh : f.hats.length ≤ 1000000) (hn : nodesS f.body + nodesH f.hats ≤ 900000000) (hb : bndL f.body = true) (d : Nat) :
  Con Tryz.prog 22 true [aF f] (.v (li (codeC f))) none d := by
 obtain ⟨res, hres⟩ : ∃ r, codeC f = r := ⟨_, rfl⟩
 rw [hres]
 have csz := sizes_con f hv hh hn
 have cvars := varsR_con f.vars hv
 have ct := fun (hg : goodV f.vars) (h : Ht) (hm : h ∈ f.hats) => termR_con f.vars true hg (by omega) h.term (by have := nodesH_mem hm; omega)
 have cst := fun hg => stepsR_con f hg hv f.body (by omega) hb
 have cup := fun ho => boundsR_con f.body (by omega) ho
 have hgood : varsC f.vars = 0 → goodV f.vars := varsC_good
 have hok : ssC f.vars f.hats.length f.body true = 0 → okL f.body = true := ssC_ok _ _
 unfold codeC overL at hres
 obtain ⟨SZ, hSZ⟩ : ∃ x, sizesB f = x := ⟨_, rfl⟩
 rw [hSZ] at csz hres
 obtain ⟨vars, hats, body⟩ := f
 simp only at hv hh hn hb hres csz cvars ct cst cup hgood hok
 obtain ⟨VC, hVC⟩ : ∃ x, varsC vars = x := ⟨_, rfl⟩
 obtain ⟨HC, hHC⟩ : ∃ x, hcs vars [] hats = x := ⟨_, rfl⟩
 obtain ⟨SC, hSC⟩ : ∃ x, ssC vars hats.length body true = x := ⟨_, rfl⟩
 rw [hVC] at cvars hres hgood
 rw [hHC] at hres
 rw [hSC] at hres hok
 have cst := fun hg => cst hg true
 rw [hSC] at cst
 clear hVC hSC hSZ
 refine con_of_HT Tryz.func22 rfl (by kernel_rfl) (Nat.le_of_ble_eq_true rfl) ?_
 simp only [Tryz.f22]
 simp only [aF, Fl.enc, List.map_cons, List.map_nil] at csz cst ⊢
 refine HT_seq <| HT_runA ?_
 refine HT_seq <| HT_seq <| (HT_runcA [⟨true, .v (lb SZ), none⟩] ?_ ?_)
 · first | exact csz _ | exact trivial | simpa [*] using csz _
 refine (HT_cond rfl (fun h2 => ?_) (fun h2 => HT_skip ?_))
 · try simp only [BN] at h2
   have hz : SZ = false := by simpa using h2
   rw [if_pos hz] at hres
   subst hres
   refine HT_seq <| HT_runA ?_
   exact HT_retA fun h => ⟨.inr rfl, h⟩
 · try simp only [BN] at h2
   have hz : SZ = true := by simpa using h2
   rw [if_neg (by rw [hz]; decide)] at hres
   clear csz h2
   subst hz
   refine HT_seq <| (HT_runcA [⟨true, .v (li VC), none⟩] ?_ ?_)
   · first | exact cvars _ | exact trivial | simpa [*] using cvars _
   refine HT_seq <| HT_seq <| HT_runA ?_
   refine (HT_cond rfl (fun h7 => ?_) (fun h7 => HT_skip ?_))
   · try simp only [BN] at h7
     rw [if_neg h7] at hres
     subst hres
     refine HT_seq <| HT_runA ?_
     exact HT_retA fun h => ⟨.inr rfl, h⟩
   · try simp only [BN] at h7
     have hv0 : VC = 0 := by simpa using h7
     have hg := hgood hv0
     have ct := ct hg
     have cst := cst hg
     rw [if_pos hv0] at hres
     clear cvars hgood h7
     subst hv0
     refine HT_seq <| HT_seq <| HT_runA ?_
     refine HT_block <| (HT_loopU [1] (fun (x : Nat) => [(4, .v (li x))]) (fun (x : Nat) => [(1, .box [.c (.sl 5 (encVs vars)), .c (.sl 6 (encHs hats)), .c (.sl 10 (encSs body))])]) (fun (x : Nat) => x ≤ hats.length ∧ hcs vars (hats.take x) (hats.drop x) = HC) (fun (x : Nat) => hats.length - x) (0 : Nat) ⟨Nat.zero_le _, hHC⟩ ?_ ?_)
     · exact le_mkA (fun n => n) []
     rintro k ⟨hk, hJ⟩
     simp only [upS, keepS, insS]
     try simp only [keepS, KN, Nat.reduceBEq, if_true, if_false, ins, Nat.reduceLT]
     clear hHC
     refine HT_seq <| HT_seq <| HT_runA ?_
     refine (HT_cond rfl (fun h13 => HT_skip ?_) (fun h13 => ?_))
     · try simp only [BN] at h13
       have hlt : k < hats.length := by omega
       obtain ⟨h, he, hd⟩ := at_lt hlt
       have hw1 := wrap1 hlt (by omega)
       have hk1 : k + 1 ≤ hats.length := hlt
       have hkl : (hats.take k).length = k := by rw [List.length_take]; omega
       rw [hd] at hJ
       simp only [hcs] at hJ
       rw [← take_snoc he] at hJ
       have ct := ct h (List.mem_of_getElem? he)
       obtain ⟨nm, lo, hi, ⟨o, tn, ks⟩⟩ := h
       obtain ⟨C, hC⟩ : ∃ x, hcode vars (hats.take k) ⟨nm, lo, hi, .mk o tn ks⟩ = x := ⟨_, rfl⟩
       rw [hC] at hJ
       simp only [hcode] at hC
       simp only [aT, Tm.enc, List.map_cons, List.map_nil] at ct
       obtain ⟨TC, hTC⟩ : ∃ x, termC vars true (.mk o tn ks) = x := ⟨_, rfl⟩
       rw [hTC] at ct hC
       clear hlt h13 hd cup hok cst hTC
       refine HT_seq <| HT_block <| HT_seq <| HT_runA ?_
       refine HT_seq <| HT_seq <| (HT_runcA [⟨true, .v (lb (nameB nm)), none⟩] ?_ ?_)
       · first | exact nameR_con _ _ | exact trivial | simpa [*] using nameR_con _ _
       refine (HT_cond rfl (fun h16 => ?_) (fun h16 => HT_skip ?_))
       · try simp only [BN] at h16
         rw [if_pos h16] at hC
         subst hC
         rw [if_neg (by decide)] at hJ
         subst hJ
         rw [if_neg (by decide)] at hres
         subst hres
         refine HT_seq <| HT_runA ?_
         exact HT_retA fun h => ⟨.inr rfl, h⟩
       · try simp only [BN] at h16
         rw [if_neg (by simp [h16])] at hC
         clear h16
         refine HT_seq <| HT_seq <| HT_runA ?_
         refine HT_block <| (HT_loopU [1, 4, 5] (fun (x : Nat) => [(6, .v (li x))]) (fun (x : Nat) => [(1, .box [.c (.sl 5 (encVs vars)), .c (.sl 6 (encHs hats)), .c (.sl 10 (encSs body))]), (5, .box [.c (sC nm), .c (iC lo), .c (iC hi), .c (iC o), .c (iC tn), .c (.sl 3 (encTs ks))])]) (fun (x : Nat) => x ≤ k ∧ ∀ j : Nat, j < x → ∀ w, hats[j]? = some w → w.name ≠ nm) (fun (x : Nat) => k - x) (0 : Nat) ⟨Nat.zero_le _, fun j hj => absurd hj (Nat.not_lt_zero j)⟩ ?_ ?_)
         · exact le_mkA (fun n => n) []
         rintro j ⟨hj, hno⟩
         simp only [upS, keepS, insS]
         try simp only [keepS, KN, Nat.reduceBEq, if_true, if_false, ins, Nat.reduceLT]
         refine HT_seq <| HT_seq <| HT_runA ?_
         refine (HT_cond rfl (fun h22 => HT_skip ?_) (fun h22 => ?_))
         · try simp only [BN] at h22
           have hjk : j < k := by omega
           obtain ⟨w, hw⟩ : ∃ w, hats[j]? = some w := ⟨hats[j], by simp [show j < hats.length by omega]⟩
           have hwj := wrap1 hjk (by omega)
           have hj1 : j + 1 ≤ k := hjk
           have hmemw : w ∈ hats.take k := by
            have : (hats.take k)[j]? = some w := by rw [List.getElem?_take_of_lt hjk]; exact hw
            exact List.mem_of_getElem? this
           obtain ⟨n2, l2, i2, ⟨o2, t2, k2⟩⟩ := w
           clear hjk h22
           refine HT_seq <| HT_block <| HT_seq <| (HT_drun (by kernel_rfl) (by kernel_rfl) (by rfl) (by simp [*]; rfl) ?_)
           refine (HT_cond rfl (fun h24 => ?_) (fun h24 => HT_skip ?_))
           · try simp only [BN] at h24
             have hany : ((hats.take k).any fun w => decide (w.name = nm)) = true := by
              rw [List.any_eq_true]
              exact ⟨_, hmemw, by simpa using h24⟩
             rw [if_pos hany] at hC
             subst hC
             rw [if_neg (by decide)] at hJ
             subst hJ
             rw [if_neg (by decide)] at hres
             subst hres
             refine HT_seq <| HT_runA ?_
             exact HT_retA fun h => ⟨.inr rfl, h⟩
           · try simp only [BN] at h24
             refine HT_runA ?_
             exact ⟨j + 1, ⟨hj1, fun i hi u hu => by
              rcases Nat.lt_or_eq_of_le (Nat.le_of_lt_succ hi) with h | h
              · exact hno i h u hu
              · subst h
                rw [hw] at hu
                cases hu
                simpa using h24⟩, by omega, le_mkA (fun n => n) []⟩
         · try simp only [BN] at h22
           have hjk : j = k := by omega
           subst hjk
           have hany : ((hats.take j).any fun w => decide (w.name = nm)) = false := by
            rw [List.any_eq_false]
            intro w hw
            obtain ⟨i, hi⟩ := List.mem_iff_getElem?.1 hw
            have hij : i < j := by have := (List.getElem?_eq_some_iff.1 hi).1; omega
            rw [List.getElem?_take_of_lt hij] at hi
            simpa using hno i hij w hi
           rw [if_neg (by simp [hany])] at hC
           clear hno hkl hany
           refine (HT_exit ?_)
           refine HT_seq <| HT_seq <| (HT_runcA [⟨true, .v (lb (boundedB lo hi)), none⟩] ?_ ?_)
           · first | exact boundedR_con _ _ _ | exact trivial | simpa [*] using boundedR_con _ _ _
           refine (HT_cond rfl (fun h30 => ?_) (fun h30 => HT_skip ?_))
           · try simp only [BN] at h30
             rw [if_pos h30] at hC
             subst hC
             rw [if_neg (by decide)] at hJ
             subst hJ
             rw [if_neg (by decide)] at hres
             subst hres
             refine HT_seq <| HT_runA ?_
             exact HT_retA fun h => ⟨.inr rfl, h⟩
           · try simp only [BN] at h30
             rw [if_neg (by simp [h30])] at hC
             subst hC
             clear h30
             refine HT_seq <| (HT_runcA [⟨true, .v (li TC), none⟩] ?_ ?_)
             · first | exact ct _ | exact trivial | simpa [*] using ct _
             refine HT_seq <| HT_runA ?_
             refine (HT_cond rfl (fun h35 => ?_) (fun h35 => HT_skip ?_))
             · try simp only [BN] at h35
               rw [if_neg h35] at hJ
               subst hJ
               rw [if_neg h35] at hres
               subst hres
               refine HT_seq <| HT_runA ?_
               exact HT_retA fun h => ⟨.inr rfl, h⟩
             · try simp only [BN] at h35
               rw [if_pos (by simpa using h35)] at hJ
               refine HT_runA ?_
               exact ⟨j + 1, ⟨hk1, hJ⟩, by omega, le_mkA (fun n => n) []⟩
     · try simp only [BN] at h13
       have hkl : k = hats.length := by omega
       rw [hkl, List.drop_length] at hJ
       simp only [hcs] at hJ
       rw [if_pos hJ.symm] at hres
       clear hJ hkl hk h13 ct
       refine (HT_exit ?_)
       refine HT_seq <| (HT_runcA [⟨true, .v (li SC), none⟩] ?_ ?_)
       · first | exact cst _ | exact trivial | simpa [*] using cst _
       refine HT_seq <| HT_seq <| HT_runA ?_
       refine (HT_cond rfl (fun h42 => ?_) (fun h42 => HT_skip ?_))
       · try simp only [BN] at h42
         rw [if_neg h42] at hres
         subst hres
         refine HT_seq <| HT_runA ?_
         exact HT_retA fun h => ⟨.inr rfl, h⟩
       · try simp only [BN] at h42
         have hs0 : SC = 0 := by simpa using h42
         rw [if_pos hs0] at hres
         have hok := hok hs0
         have cup := cup hok
         obtain ⟨Y, hY⟩ : ∃ x, bdL CR body ⟨0, 0, 0⟩ = x := ⟨_, rfl⟩
         rw [hY] at hres cup
         obtain ⟨y1, y2, y3⟩ := Y
         simp only [Bool.or_eq_true, decide_eq_true_eq] at hres
         simp only at cup
         clear hY cst h42 hok
         refine HT_seq <| (HT_runcA [⟨true, .tup [li y1, li y2, li y3], none⟩] ?_ ?_)
         · first | exact cup _ | exact trivial | simpa [*] using cup _
         refine HT_seq <| HT_seq <| HT_runA ?_
         refine (HT_cond rfl (fun h47 => ?_) (fun h47 => HT_skip ?_))
         · try simp only [BN] at h47
           rw [if_pos (by omega)] at hres
           subst hres
           refine HT_seq <| HT_runA ?_
           exact HT_retA fun h => ⟨.inr rfl, h⟩
         · try simp only [BN] at h47
           rw [if_neg (by omega)] at hres
           subst hres
           refine HT_seq <| HT_runA ?_
           exact HT_retA fun h => ⟨.inr rfl, h⟩
end Go.Proofs.YtfjidddhehckoaaGreat

namespace Go.Proofs.YtfjidddhehckoaaGreat
open Go Go.Hl
structure Obs where
 outs : List Int
 time : Int
end Go.Proofs.YtfjidddhehckoaaGreat

namespace Go.Proofs.YtfjidddhehckoaaGreat
open Go Go.Hl
theorem termC_form {vars : List Vr} {inp : Bool} {t : Tm} (h : termC vars inp t = 0) : formB vars inp t = true := by
 unfold termC at h
 split at h
 · assumption
 · cases h
theorem hcs_form {vars : List Vr} : ∀ (l seen : List Ht), hcs vars seen l = 0 → ∀ h ∈ l, formB vars true h.term = true
 | [], _, _, h, hm => by cases hm
 | x :: l, seen, h0, h, hm => by
   simp only [hcs] at h0
   split at h0
   · rename_i hx
     rcases List.mem_cons.1 hm with rfl | h1
     · unfold hcode at hx
       split at hx
       · cases hx
       · split at hx
         · cases hx
         · split at hx
           · cases hx
           · exact termC_form hx
     · exact hcs_form l _ h0 h h1
   · rename_i hx
     exact absurd h0 hx
theorem ssC_split {vars : List Vr} {nh : Nat} {d c v n : Int} {t : Tm} {a b : List St} {bs : List Int} {l : List St} {top : Bool} (h : ssC vars nh (.mk d c v n t a b bs :: l) top = 0) :
  shB vars nh d v n t a.length b.length bs (top && l.isEmpty) = true ∧ numB d c n bs = true ∧ termC vars false t = 0 ∧ ssC vars nh a false = 0 ∧ ssC vars nh b false = 0 ∧ ssC vars nh l top = 0 := by
 simp only [ssC] at h
 split at h
 · rename_i h0
   split at h
   · rename_i ha
     split at h
     · rename_i hb
       unfold stC at h0
       split at h0
       · cases h0
       · rename_i hs
         split at h0
         · cases h0
         · rename_i hn
           exact ⟨by simpa using hs, by simpa using hn, h0, ha, hb, h⟩
     · rename_i hb; exact absurd h hb
   · rename_i ha; exact absurd h ha
 · rename_i h0; exact absurd h h0
theorem shB_local {vars : List Vr} {nh : Nat} {d v n : Int} {t : Tm} {la lb_ : Nat} {bs : List Int} {last : Bool} (h : shB vars nh d v n t la lb_ bs last = true) (hd : d = 0 ∨ d = 5) : localB vars v = true ∧ (d = 5 → 0 ≤ n ∧ n < nh) := by
 unfold shB at h
 rcases hd with rfl | rfl
 · simp only [if_true, Bool.and_eq_true] at h
   exact ⟨h.1.1.2, fun h => by cases h⟩
 · simp only [show ¬ (5 : Int) = 0 by decide, show ¬ (5 : Int) = 1 by decide, show ¬ (5 : Int) = 2 by decide, show ¬ (5 : Int) = 3 by decide, show ¬ (5 : Int) = 4 by decide, if_true, if_false, Bool.and_eq_true, decide_eq_true_eq] at h
   exact ⟨h.1.1.1.1.2, fun _ => ⟨h.1.1.1.2, h.1.1.2⟩⟩
theorem numB_in {d c n : Int} {bs : List Int} (h : numB d c n bs = true) : 0 ≤ c ∧ (d = 4 → 0 ≤ n ∧ n ≤ 4096) := by
 unfold numB at h
 simp only [Bool.and_eq_true, Bool.not_eq_true', Bool.or_eq_false_iff, Bool.and_eq_false_iff, decide_eq_false_iff_not] at h
 refine ⟨by omega, fun h4 => ?_⟩
 rcases h.1.2 with h1 | h1
 · exact absurd h4 h1
 · omega
theorem ssC_wf {vars : List Vr} {nh : Nat} : ∀ (l : List St) (top : Bool), ssC vars nh l top = 0 → bndL l = true → wfL vars nh l = true
 | [], _, _, _ => by simp [wfL]
 | .mk d c v n t a b bs :: l, top, h, hb => by
   obtain ⟨hs, hn, ht, ha, hb', hl⟩ := ssC_split h
   simp only [bndL, bndS, Bool.and_eq_true, decide_eq_true_eq] at hb
   have ia := ssC_wf a false ha hb.1.2.1
   have ib := ssC_wf b false hb' hb.1.2.2
   have il := ssC_wf l top hl hb.2
   have hn4 := (numB_in hn).2
   simp only [wfL, wfS, ia, ib, il, termC_form ht, Bool.and_true, Bool.true_and, Bool.and_eq_true, Bool.or_eq_true, decide_eq_true_eq]
   refine ⟨?_, ?_, ?_, hb.1.1⟩
   · by_cases hd : d = 0 ∨ d = 5
     · exact .inr (shB_local hs hd).1
     · exact .inl ⟨fun h => hd (.inl h), fun h => hd (.inr h)⟩
   · by_cases hd : d = 5
     · exact .inr ((shB_local hs (.inr hd)).2 hd)
     · exact .inl hd
   · by_cases hd : d = 4
     · exact .inr (hn4 hd).2
     · exact .inl hd
theorem oU_cut : ∀ (l : List St) (p : B3), okL l = true → 0 ≤ p.o → mn (bdL CR l p).o 9 = mn (p.o + (oUL l : Int)) 9
 | [], p, _, _ => by simp [bdL, oUL]
 | .mk d c v n t a b bs :: l, p, h, hp => by
   simp only [okL, okS, Bool.and_eq_true, Bool.or_eq_true, decide_eq_true_eq] at h
   have ha := oU_cut a ⟨0, 0, 0⟩ h.1.2.2.1 (Int.le_refl 0)
   have hb := oU_cut b ⟨0, 0, 0⟩ h.1.2.2.2 (Int.le_refl 0)
   have na := in3_nn (bdL_in nnCR a _ h.1.2.2.1 (in3_0 nnCR))
   have nb := in3_nn (bdL_in nnCR b _ h.1.2.2.2 (in3_0 nnCR))
   simp only [bdL, bdS, oUL, oUS]
   generalize bdL CR a ⟨0, 0, 0⟩ = A at *
   generalize bdL CR b ⟨0, 0, 0⟩ = B at *
   simp only [Int.zero_add] at ha hb
   have key : 0 ≤ (bd1 d c n A B).o ∧ mn (bd1 d c n A B).o 9 = mn (((if d = 4 then n.toNat * oUL a else if d = 3 then max (oUL a) (oUL b) else if d = 1 then 1 else 0 : Nat)) : Int) 9 := by
    unfold nn3 at na nb
    unfold bd1
    by_cases h4 : d = 4
    · have hn : 0 ≤ n := by omega
      rw [if_pos h4, if_pos h4]
      refine ⟨Int.mul_nonneg hn na.2.1, ?_⟩
      have e := mul_cut (C := 9) hn na.2.1 (Int.natCast_nonneg (oUL a)) (Int.le_refl 0) (Int.le_refl 0) ha
      simp only [Int.zero_add] at e
      rw [e, Int.natCast_mul, Int.toNat_of_nonneg hn]
    · rw [if_neg h4, if_neg h4]
      by_cases h3 : d = 3
      · rw [if_pos h3, if_pos h3]
        simp only [mx, mn] at ha hb ⊢
        have e : ((max (oUL a) (oUL b) : Nat) : Int) = max (oUL a : Int) (oUL b : Int) := by omega
        rw [e]
        refine ⟨by split <;> omega, ?_⟩
        (repeat' split at ha) <;> (repeat' split at hb) <;> (repeat' split) <;> omega
      · rw [if_neg h3, if_neg h3]
        split <;> exact ⟨by simp only; omega, rfl⟩
   obtain ⟨k0, k1⟩ := key
   generalize (bd1 d c n A B) = X at *
   generalize (if d = 4 then n.toNat * oUL a else if d = 3 then max (oUL a) (oUL b) else if d = 1 then 1 else 0 : Nat) = K at *
   have e : 0 ≤ (add3 CR p X).o ∧ mn (add3 CR p X).o 9 = mn (p.o + K) 9 := by
    simp only [add3, CR]
    simp only [mn] at k1 ⊢
    refine ⟨by split <;> omega, ?_⟩
    (repeat' split at k1) <;> (repeat' split) <;> omega
   have il := oU_cut l (add3 CR p X) h.2 e.1
   rw [il]
   have e2 := e.2
   generalize (add3 CR p X).o = Y at *
   simp only [mn] at e2 ⊢
   rw [Int.natCast_add]
   (repeat' split at e2) <;> (repeat' split) <;> omega
theorem code_split {f : Fl} (h : codeC f = 0) : sizesB f = true ∧ varsC f.vars = 0 ∧ hcs f.vars [] f.hats = 0 ∧ ssC f.vars f.hats.length f.body true = 0 ∧ overL f.body = false := by
 unfold codeC at h
 split at h
 · cases h
 · rename_i hs
   split at h
   · rename_i hv
     split at h
     · rename_i hh
       split at h
       · rename_i hb
         split at h
         · cases h
         · rename_i ho
           exact ⟨by simpa using hs, hv, hh, hb, by simpa using ho⟩
       · rename_i hb; exact absurd h hb
     · rename_i hh; exact absurd h hh
   · rename_i hv; exact absurd h hv
theorem over_split {l : List St} (h : overL l = false) : (bdL CR l ⟨0, 0, 0⟩).s ≤ 4096 ∧ (bdL CR l ⟨0, 0, 0⟩).o ≤ 8 ∧ (bdL CR l ⟨0, 0, 0⟩).t ≤ 67108864 := by
 unfold overL at h
 simp only [Bool.or_eq_false_iff, decide_eq_false_iff_not, Int.not_lt] at h
 exact ⟨h.1, h.2.1, h.2.2⟩
theorem code_wf {f : Fl} (hb : bndL f.body = true) (h : codeC f = 0) : wfL f.vars f.hats.length f.body = true ∧ oUL f.body ≤ 2000000 ∧ ∀ h ∈ f.hats, formB f.vars true h.term = true := by
 obtain ⟨_, _, hh, hs, ho⟩ := code_split h
 have h8 := (over_split ho).2.1
 have hc := oU_cut f.body ⟨0, 0, 0⟩ (ssC_ok _ _ hs) (Int.le_refl 0)
 refine ⟨ssC_wf _ _ hs hb, ?_, hcs_form _ _ hh⟩
 simp only [Int.zero_add, mn] at hc
 (repeat' split at hc) <;> omega
end Go.Proofs.YtfjidddhehckoaaGreat
