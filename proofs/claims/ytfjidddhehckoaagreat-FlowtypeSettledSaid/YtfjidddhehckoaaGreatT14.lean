/- Part 14: contracts of functions of the program and of the reference, and plain facts about what they compute; used by the proof of the claimed statement. Conditions: as each theorem states. -/
import Derived.Test.YtfjidddhehckoaaGreatT13
import Derived.Shelf.Bits.Mul64
import Derived.Test.YtfjidddhehckoaaGreatT7
import Derived.Test.YtfjidddhehckoaaGreatT12
import Derived.Test.YtfjidddhehckoaaGreatT11
import Derived.Test.YtfjidddhehckoaaGreatT10
import Derived.Test.YtfjidddhehckoaaGreatRows
set_option linter.unusedSimpArgs false
set_option linter.unusedVariables false
set_option linter.unnecessarySimpa false
set_option maxRecDepth 100000
set_option maxHeartbeats 2000000
namespace Go.Proofs.YtfjidddhehckoaaGreat
open Go Go.Hl Go.Shelf
def mulR : Ren := ⟨fun f => if f = 212 then 152 else if f = 264 then 184 else if f = 263 then 183 else f, fun t => if t = 46 then 157 else if t = 53 then 193 else if t = 51 then 191 else if t = 146 then 223 else if t = 148 then 225 else t, fun g => g⟩
theorem mulL : Lays.n212 Tryz.prog mulR where
 mixed := by kernel_rfl
 f212 := by kernel_rfl
 f263 := by kernel_rfl
 f264 := by kernel_rfl
 t46 := by kernel_rfl
 a46 := fun w => rfl
 z46 := fun w => rfl
 v46 := fun w => rfl
 t51 := by kernel_rfl
 a51 := fun w => rfl
 z51 := fun w => rfl
 v51 := fun w => rfl
 t53 := by kernel_rfl
 a53 := fun w => rfl
 z53 := fun w => rfl
 v53 := fun w => rfl
 t146 := by kernel_rfl
 a146 := fun w => rfl
 z146 := fun w => rfl
 v146 := fun w => rfl
 t148 := by kernel_rfl
 a148 := fun w => rfl
 z148 := fun w => rfl
 v148 := fun w => rfl
theorem mul_calls (n : Nat) (hn : n ≤ 1000) (w : World) : Calls Tryz.prog 152 #[.int .u64 1, .int .u64 n] w fun e w' => e = .returned (.tuple #[.int .u64 0, .int .u64 n]) ∧ w' = w := by
 have h := Any.bits_Mul mulL 1 n (by omega) (by omega) w
 rw [show 1 * n / 18446744073709551616 = 0 by omega, show 1 * n % 18446744073709551616 = n by omega] at h
 exact h
theorem repC_holds {n : Nat} (hn : n ≤ 1000) : repC n := by
 intro d hd
 refine ⟨by kernel_rfl, fun F w vs hF hsz hargs => ?_⟩
 obtain ⟨l⟩ := vs
 match l, hsz with
 | [v0, v1], _ =>
   have a0 : CRel F w (.sl 1 (encIs [-1])) v0 := hargs 0 _ v0 rfl rfl
   have a1 : CRel F w (.lit (.int .i64 n)) v1 := hargs 1 _ v1 rfl rfl
   cases a1
   rcases a0.sl_inv with ⟨h, _⟩ | ⟨b, o, cap, cells, rfl, hb, hcap, hmax, hs, hc, h1, hr⟩
   · cases h
   have hcell : w.cell? ⟨b, o, none⟩ = some (.int .i64 (-1)) := by
    have h0 := hc 0 0 (iC (-1)) rfl
    have h2 := hr 0 0 (iC (-1)) rfl
    have e : cells 0 0 = .int .i64 (-1) := by
     generalize cells 0 0 = z at h2
     cases h2
     rfl
    rw [e] at h0
    simpa using h0
   refine (rep_walk n hn ⟨b, o, none⟩ cap w hcell (hF b hb) (mul_calls n hn)).mono ?_
   rintro e w' ⟨rfl, hbl, hh⟩
   have hfil : filV n n = List.replicate n (Value.int .i64 (-1)) := by simp [filV]
   rw [hfil] at hh
   have hsize : w.heap.size < w'.heap.size := (Array.getElem?_eq_some_iff.1 hh).1
   let γ' : Nat → Value := fun k => if k = d then .slice (some ⟨w.heap.size, 0, none⟩) n n else .nilFunc
   have hγ : γ' d = .slice (some ⟨w.heap.size, 0, none⟩) n n := by simp [γ']
   refine ⟨_, fun _ => False, γ', rfl, hbl, fun b hb => hb.elim, ⟨by rw [hγ]; rfl, rfl⟩, fun o ho => ?_⟩
   cases ho
   refine ⟨⟨by decide, ?_, List.replicate n (Value.int .i64 (-1)), ⟨by simp, .inr ⟨w.heap.size, n, (List.replicate n (Value.int .i64 (-1))).toArray, ?_, Nat.lt_irrefl _, hh, by simp, ?_, by simp, ?_⟩⟩, ?_, ?_⟩, fun b _ hb => hb⟩
   · intro r hr
     simp only [encIs, List.mem_map] at hr
     obtain ⟨x, _, rfl⟩ := hr
     rfl
   · rw [hγ]; simp
   · unfold maxLen; omega
   · simp
   · intro u hu
     rw [List.mem_replicate] at hu
     rw [hu.2]
     rfl
   · intro i j c hcx
     unfold getRC at hcx
     rw [get_encI] at hcx
     cases hz : (List.replicate n (-1 : Int))[i]? with
     | none => rw [hz] at hcx; cases hcx
     | some x =>
       rw [hz] at hcx
       have hin : i < n := by have := (List.getElem?_eq_some_iff.1 hz).1; simpa using this
       have hx : x = -1 := by rw [List.getElem?_replicate, if_pos hin] at hz; cases hz; rfl
       subst hx
       cases j with
       | zero => cases hcx; exact ⟨.int .i64 (-1), by simp [hin], CRel.lit _⟩
       | succ j => cases hcx
end Go.Proofs.YtfjidddhehckoaaGreat

namespace Go.Proofs.YtfjidddhehckoaaGreat
open Go Go.Hl
mutual
def tL : Tm → Int → Int
 | .mk _ _ ks, left => tLs ks (left - 1)
def tLs : List Tm → Int → Int
 | [], left => left
 | t :: l, left => if 0 ≤ left then tLs l (tL t left) else left
end
def lo1 (x : Int) : Int := if x < 0 then x else -1
mutual
theorem tL_in : ∀ (t : Tm) (left : Int), lo1 (left - 1) ≤ tL t left ∧ tL t left ≤ left - 1
 | .mk _ _ ks, left => by
   simp only [tL]
   exact tLs_in ks (left - 1)
theorem tLs_in : ∀ (l : List Tm) (left : Int), lo1 left ≤ tLs l left ∧ tLs l left ≤ left
 | [], left => by
   simp only [tLs, lo1]
   split <;> omega
 | t :: l, left => by
   simp only [tLs]
   split
   · have h1 := tL_in t left
     have h2 := tLs_in l (tL t left)
     unfold lo1 at *
     refine ⟨?_, by omega⟩
     split
     · omega
     · refine Int.le_trans ?_ h2.1
       split <;> (try split at h1) <;> omega
   · unfold lo1
     split <;> omega
end
theorem tLs_neg (l : List Tm) (left : Int) (h : left < 0) : tLs l left = left := by
 cases l with
 | nil => rfl
 | cons t l => simp only [tLs]; rw [if_neg (by omega)]
mutual
theorem tL_pos : ∀ (t : Tm) (left : Int), 0 ≤ tL t left → tL t left = left - t.nodes
 | .mk _ _ ks, left => by
   simp only [tL, Tm.nodes]
   intro h
   have := tLs_pos ks (left - 1) h
   omega
theorem tLs_pos : ∀ (l : List Tm) (left : Int), 0 ≤ tLs l left → tLs l left = left - nodesT l
 | [], left => by simp [tLs, nodesT]
 | t :: l, left => by
   simp only [tLs, nodesT]
   split
   · intro h
     have h1 := tLs_pos l (tL t left) h
     have h2 := tLs_in l (tL t left)
     have h3 := tL_pos t left (by omega)
     omega
   · intro h; omega
end
def sL : List St → Int → Int
 | [], left => left
 | .mk _ _ _ _ t a b bs :: l, left =>
   if 0 ≤ left then (if tL t (left - 1) < bs.length then -1 else sL l (sL b (sL a (tL t (left - 1) - bs.length)))) else left
theorem sL_neg (l : List St) (left : Int) (h : left < 0) : sL l left = left := by
 cases l with
 | nil => simp [sL]
 | cons s l => obtain ⟨d, c, v, n, t, a, b, bs⟩ := s; simp only [sL]; rw [if_neg (by omega)]
theorem sL_in : ∀ (l : List St) (left : Int), lo1 left ≤ sL l left ∧ sL l left ≤ left
 | [], left => by
   simp only [sL, lo1]
   split <;> omega
 | .mk _ _ _ _ t a b bs :: l, left => by
   simp only [sL]
   by_cases h0 : 0 ≤ left
   · rw [if_pos h0]
     have e : lo1 left = -1 := by unfold lo1; rw [if_neg (by omega)]
     rw [e]
     split
     · omega
     · have h1 := tL_in t (left - 1)
       have ha := sL_in a (tL t (left - 1) - bs.length)
       have hb := sL_in b (sL a (tL t (left - 1) - bs.length))
       have hl := sL_in l (sL b (sL a (tL t (left - 1) - bs.length)))
       refine ⟨?_, by omega⟩
       generalize sL l (sL b (sL a (tL t (left - 1) - bs.length))) = z at *
       generalize sL b (sL a (tL t (left - 1) - bs.length)) = y at *
       generalize sL a (tL t (left - 1) - bs.length) = x at *
       generalize tL t (left - 1) = w at *
       unfold lo1 at ha hb hl
       (repeat' split at ha) <;> (repeat' split at hb) <;> (repeat' split at hl) <;> omega
   · rw [if_neg h0]
     unfold lo1
     split <;> omega
theorem sL_pos : ∀ (l : List St) (left : Int), left ≤ 1000000 → 0 ≤ sL l left → sL l left ≤ left - nodesS l ∧ bndL l = true
 | [], left, _, _ => by simp [sL, nodesS, bndL]
 | .mk _ _ _ _ t a b bs :: l, left, hle, h => by
   simp only [sL] at h ⊢
   by_cases h0 : 0 ≤ left
   · rw [if_pos h0] at h ⊢
     split at h
     · omega
     · rename_i hbs
       rw [if_neg hbs]
       have i0 := tL_in t (left - 1)
       have ia := sL_in a (tL t (left - 1) - bs.length)
       have ib := sL_in b (sL a (tL t (left - 1) - bs.length))
       have il := sL_in l (sL b (sL a (tL t (left - 1) - bs.length)))
       have p3 := sL_pos l (sL b (sL a (tL t (left - 1) - bs.length))) (by omega) h
       have p2 := sL_pos b (sL a (tL t (left - 1) - bs.length)) (by omega) (by omega)
       have p1 := sL_pos a (tL t (left - 1) - bs.length) (by omega) (by omega)
       have p0 := tL_pos t (left - 1) (by omega)
       simp only [nodesS, St.nodes, bndL, bndS, p1.2, p2.2, p3.2, Bool.and_true, decide_eq_true_eq]
       omega
   · rw [if_neg h0] at h
     omega
def hL : List Ht → Int → Int
 | [], m => m
 | h :: l, m => hL l (tL h.term m)
theorem hL_le : ∀ (l : List Ht) (m : Int), hL l m ≤ m
 | [], m => by simp [hL]
 | h :: l, m => by
   have h1 := hL_le l (tL h.term m)
   have h2 := tL_in h.term m
   simp only [hL]
   omega
theorem hL_pos : ∀ (l : List Ht) (m : Int), 0 ≤ hL l m → hL l m = m - nodesH l
 | [], m, _ => by simp [hL, nodesH]
 | h :: l, m, h0 => by
   simp only [hL, nodesH] at h0 ⊢
   have h1 := hL_pos l _ h0
   have h2 := hL_le l (tL h.term m)
   have h3 := tL_pos h.term m (by omega)
   omega
def fewB (f : Fl) (vars nodes : Int) : Bool := if vars < f.vars.length ∨ vars < f.hats.length then false else decide (0 ≤ hL f.hats (sL f.body nodes))
theorem fewB_in {f : Fl} {vars nodes : Int} (hn : nodes ≤ 1000000) (h : fewB f vars nodes = true) : f.vars.length ≤ vars ∧ f.hats.length ≤ vars ∧ nodesS f.body + nodesH f.hats ≤ nodes ∧ bndL f.body = true := by
 unfold fewB at h
 split at h
 · cases h
 · rename_i h1
   simp only [decide_eq_true_eq] at h
   have e1 := hL_pos _ _ h
   have e2 := hL_le f.hats (sL f.body nodes)
   have e3 := sL_pos f.body nodes hn (by omega)
   exact ⟨by omega, by omega, by omega, e3.2⟩
theorem tleft_con (t : Tm) : ∀ left : Int, -1000000 ≤ left → left ≤ 1000000 → ∀ d : Nat, Con Tryz.prog 59 true [aT t, li left] (.v (li (tL t left))) none d := by
 induction t using Tm.ind with
 | h o n ks ih =>
 intro left h1 h2 d
 obtain ⟨res, hres⟩ : ∃ r, tL (.mk o n ks) left = r := ⟨_, rfl⟩
 rw [hres]
 simp only [tL] at hres
 have hw0 : IntKind.i64.wrap (left - 1) = left - 1 := wrap_in (by omega) (by omega)
 refine con_of_HT Tryz.func59 rfl (by kernel_rfl) (Nat.le_of_ble_eq_true rfl) ?_
 simp only [Tryz.f59]
 simp only [aT, Tm.enc]
 refine HT_seq <| HT_runA ?_
 refine HT_seq <| HT_runA ?_
 refine HT_seq <| HT_seq <| HT_runA ?_
 refine HT_block <| (HT_loopU [2] (fun (x : Nat × Int) => [(1, .v (li x.2)), (5, .v (li x.1))]) (fun (x : Nat × Int) => [(2, .box [.c (iC o), .c (iC n), .c (.sl 3 (encTs ks))])]) (fun (x : Nat × Int) => x.1 ≤ ks.length ∧ tLs (ks.drop x.1) x.2 = res ∧ -1000001 ≤ x.2 ∧ x.2 + x.1 ≤ 1000000) (fun (x : Nat × Int) => ks.length - x.1) (0, left - 1) ⟨Nat.zero_le _, by simpa using hres, by simp only; omega, by simp only; omega⟩ ?_ ?_)
 · exact le_mkA (fun n => n) []
 rintro ⟨k, m⟩ ⟨hk, hJ, hm, hm2⟩
 simp only [upS, keepS, insS]
 try simp only [keepS, KN, Nat.reduceBEq, if_true, if_false, ins, Nat.reduceLT]
 simp only at hk hJ hm hm2
 refine HT_seq <| HT_seq <| HT_runA ?_
 refine (HT_cond rfl (fun h5 => HT_skip ?_) (fun h5 => ?_))
 · try simp only [BN] at h5
   have hlt : k < ks.length := by omega
   have hm0 : 0 ≤ m := by omega
   obtain ⟨⟨eo, en, ek⟩, he, hd⟩ := at_lt hlt
   have he' := get_encT he
   simp only [Tm.enc] at he'
   have hw1 : IntKind.i64.wrap ((k : Int) + 1) = (k : Int) + 1 := wrap_in (by omega) (by omega)
   rw [hd] at hJ
   simp only [tLs] at hJ
   rw [if_pos hm0] at hJ
   have hk1 : k + 1 ≤ ks.length := hlt
   have c := ih _ (List.mem_of_getElem? he) m (by omega) (by omega)
   have hti := tL_in (.mk eo en ek) m
   have hlo : -1 ≤ lo1 (m - 1) := by unfold lo1; split <;> omega
   obtain ⟨M, hM⟩ : ∃ x, tL (.mk eo en ek) m = x := ⟨_, rfl⟩
   rw [hM] at c hJ hti
   clear hlt h5 hM ih hd
   refine HT_seq <| HT_block <| (HT_runcA [⟨true, .v (li M), none⟩] ?_ ?_)
   · first | exact c _ | exact trivial | simpa [*] using c _
   refine HT_runA ?_
   exact ⟨(k + 1, M), ⟨hk1, hJ, by simp only; omega, by simp only; omega⟩, by simp only; omega, le_mkA (fun n => n) []⟩
 · try simp only [BN] at h5
   have hz : tLs (ks.drop k) m = m := by
    by_cases hm0 : m < 0
    · exact tLs_neg _ _ hm0
    · have hkl : k = ks.length := by omega
      rw [hkl, List.drop_length]
      rfl
   rw [hz] at hJ
   subst hJ
   refine (HT_exit ?_)
   refine HT_seq <| HT_runA ?_
   exact HT_retA fun h => ⟨.inr rfl, h⟩
theorem sleft_con (l : List St) : ∀ left : Int, -1000000 ≤ left → left ≤ 1000000 → ∀ d : Nat, Con Tryz.prog 58 true [lS l, li left] (.v (li (sL l left))) none d := by
 revert l
 apply St.lists
 intro l ih left h1 h2 d
 obtain ⟨res, hres⟩ : ∃ r, sL l left = r := ⟨_, rfl⟩
 rw [hres]
 refine con_of_HT Tryz.func58 rfl (by kernel_rfl) (Nat.le_of_ble_eq_true rfl) ?_
 simp only [Tryz.f58]
 refine HT_seq <| HT_runA ?_
 refine HT_seq <| HT_seq <| HT_runA ?_
 refine HT_block <| (HT_loopU [0] (fun (x : Nat × Int) => [(1, .v (li x.2)), (5, .v (li x.1))]) (fun (x : Nat × Int) => []) (fun (x : Nat × Int) => x.1 ≤ l.length ∧ sL (l.drop x.1) x.2 = res ∧ -1000001 ≤ x.2 ∧ x.2 + x.1 ≤ 1000000) (fun (x : Nat × Int) => l.length - x.1) (0, left) ⟨Nat.zero_le _, hres, by simp only; omega, by simp only; omega⟩ ?_ ?_)
 · exact le_mkA (fun n => n) []
 rintro ⟨k, m⟩ ⟨hk, hJ, hm, hm2⟩
 simp only [upS, keepS, insS]
 try simp only [keepS, KN, Nat.reduceBEq, if_true, if_false, ins, Nat.reduceLT]
 simp only at hk hJ hm hm2
 clear hres
 refine HT_seq <| HT_seq <| HT_runA ?_
 refine (HT_cond rfl (fun h4 => HT_skip ?_) (fun h4 => ?_))
 · try simp only [BN] at h4
   have hlt : k < l.length := by omega
   have hm0 : 0 ≤ m := by omega
   obtain ⟨s, he, hd⟩ := at_lt hlt
   have hmem : s ∈ l := List.mem_of_getElem? he
   have iha := (ih s hmem).1
   have ihb := (ih s hmem).2
   have hw1 : IntKind.i64.wrap ((k : Int) + 1) = (k : Int) + 1 := wrap_in (by omega) (by omega)
   have hk1 : k + 1 ≤ l.length := hlt
   have he' := get_encS he
   obtain ⟨sd, sc, sv, sn, ⟨so, stn, sks⟩, sa, sb, sbs⟩ := s
   simp only [St.then_, St.else_] at iha ihb
   simp only [St.enc, Tm.enc, List.cons_append, List.nil_append] at he'
   rw [hd] at hJ
   simp only [sL] at hJ
   rw [if_pos hm0] at hJ
   have hw2 : IntKind.i64.wrap (m - 1) = m - 1 := wrap_in (by omega) (by omega)
   have c := tleft_con (.mk so stn sks) (m - 1) (by omega) (by omega)
   have hti := tL_in (.mk so stn sks) (m - 1)
   have hlo : -2 ≤ lo1 (m - 1 - 1) := by unfold lo1; split <;> omega
   obtain ⟨M, hM⟩ : ∃ x, tL (.mk so stn sks) (m - 1) = x := ⟨_, rfl⟩
   rw [hM] at c hJ hti
   simp only [aT, Tm.enc, List.map_cons, List.map_nil] at c
   clear hlt h4 hM ih hd hmem
   refine HT_seq <| HT_block <| HT_seq <| (HT_runcA [⟨true, .v (li M), none⟩] ?_ ?_)
   · first | exact c _ | exact trivial | simpa [*] using c _
   refine HT_seq <| HT_seq <| HT_runA ?_
   refine (HT_cond rfl (fun h7 => ?_) (fun h7 => HT_skip ?_))
   · try simp only [BN] at h7
     rw [if_pos h7] at hJ
     subst hJ
     refine HT_seq <| HT_runA ?_
     exact HT_retA fun h => ⟨.inr rfl, h⟩
   · try simp only [BN] at h7
     rw [if_neg (by omega)] at hJ
     have hw3 : IntKind.i64.wrap (M - (sbs.length : Int)) = M - (sbs.length : Int) := wrap_in (by omega) (by omega)
     have c1 := iha (M - sbs.length) (by omega) (by omega)
     have s1 := sL_in sa (M - sbs.length)
     have hl1 : -1 ≤ lo1 (M - sbs.length) := by unfold lo1; split <;> omega
     obtain ⟨M1, hM1⟩ : ∃ x, sL sa (M - sbs.length) = x := ⟨_, rfl⟩
     rw [hM1] at c1 s1 hJ
     have c2 := ihb M1 (by omega) (by omega)
     have s2 := sL_in sb M1
     have hl2 : -1 ≤ lo1 M1 := by unfold lo1; split <;> omega
     obtain ⟨M2, hM2⟩ : ∃ x, sL sb M1 = x := ⟨_, rfl⟩
     rw [hM2] at c2 s2 hJ
     clear iha ihb hM1 hM2 h7 c
     refine (HT_drunc [⟨true, .v (li M1), none⟩, ⟨true, .v (li M2), none⟩] (by kernel_rfl) (by kernel_rfl) (by rfl) (by simp [*]; first | exact ⟨rfl, Iff.rfl⟩ | exact ⟨rfl, trivial⟩ | rfl) ?_ ?_)
     · first | exact ⟨c1 _, c2 _⟩ | exact trivial | (repeat' first | exact trivial | exact c1 _ | exact c2 _ | apply And.intro)
     refine HT_runA ?_
     exact ⟨(k + 1, M2), ⟨hk1, hJ, by simp only; omega, by simp only; omega⟩, by simp only; omega, le_mkA (fun n => n) []⟩
 · try simp only [BN] at h4
   have hz : sL (l.drop k) m = m := by
    by_cases hm0 : m < 0
    · exact sL_neg _ _ hm0
    · have hkl : k = l.length := by omega
      rw [hkl, List.drop_length]
      simp [sL]
   rw [hz] at hJ
   subst hJ
   refine (HT_exit ?_)
   refine HT_seq <| HT_runA ?_
   exact HT_retA fun h => ⟨.inr rfl, h⟩
theorem few_con (f : Fl) (vars nodes : Int) (hv : 0 ≤ vars ∧ vars ≤ 1000) (hn : 0 ≤ nodes ∧ nodes ≤ 1000) (d : Nat) : Con Tryz.prog 32 true [aF f, li vars, li nodes] (.v (lb (fewB f vars nodes))) none d := by
 obtain ⟨vs, hats, body⟩ := f
 obtain ⟨res, hres⟩ : ∃ r, fewB ⟨vs, hats, body⟩ vars nodes = r := ⟨_, rfl⟩
 rw [hres]
 unfold fewB at hres
 simp only at hres
 have cs := sleft_con body nodes (by omega) (by omega)
 have hsi := sL_in body nodes
 have hlo : -2 ≤ lo1 nodes := by unfold lo1; split <;> omega
 obtain ⟨S, hS⟩ : ∃ x, sL body nodes = x := ⟨_, rfl⟩
 rw [hS] at hres cs hsi
 clear hS
 refine con_of_HT Tryz.func32 rfl (by kernel_rfl) (Nat.le_of_ble_eq_true rfl) ?_
 simp only [Tryz.f32]
 simp only [aF, Fl.enc, List.map_cons, List.map_nil]
 refine HT_seq <| HT_runA ?_
 refine HT_seq <| HT_seq <| HT_runA ?_
 refine (HT_cond rfl (fun h2 => ?_) (fun h2 => HT_skip ?_))
 · try simp only [BN] at h2
   rw [if_pos (by omega)] at hres
   subst hres
   refine HT_seq <| HT_runA ?_
   exact HT_retA fun h => ⟨.inr rfl, h⟩
 · try simp only [BN] at h2
   rw [if_neg (by omega)] at hres
   obtain ⟨E, hE⟩ : ∃ x, hL hats S = x := ⟨_, rfl⟩
   rw [hE] at hres
   refine HT_seq <| (HT_runcA [⟨true, .v (li S), none⟩] ?_ ?_)
   · first | exact cs _ | exact trivial | simpa [*] using cs _
   refine HT_seq <| HT_seq <| HT_runA ?_
   refine HT_block <| (HT_loopU [27, 28] (fun (x : Nat × Int) => [(7, .v (li x.2)), (29, .v (li x.1))]) (fun (x : Nat × Int) => []) (fun (x : Nat × Int) => x.1 ≤ hats.length ∧ hL (hats.drop x.1) x.2 = E ∧ -2 - (x.1 : Int) ≤ x.2 ∧ x.2 ≤ 1000) (fun (x : Nat × Int) => hats.length - x.1) (0, S) ⟨Nat.zero_le _, hE, by simp only; omega, by simp only; omega⟩ ?_ ?_)
   · exact le_mkA (fun n => n) []
   rintro ⟨k, m⟩ ⟨hk, hJ, hm, hm2⟩
   simp only [upS, keepS, insS]
   try simp only [keepS, KN, Nat.reduceBEq, if_true, if_false, ins, Nat.reduceLT]
   simp only at hk hJ hm hm2
   clear hE
   refine HT_seq <| HT_runA ?_
   refine HT_seq <| (HT_cond rfl (fun h9 => HT_skip ?_) (fun h9 => ?_))
   · try simp only [BN] at h9
     have hlt : k < hats.length := by omega
     obtain ⟨h, he, hd⟩ := at_lt hlt
     have hw1 : IntKind.i64.wrap ((k : Int) + 1) = (k : Int) + 1 := wrap_in (by omega) (by omega)
     have hk1 : k + 1 ≤ hats.length := hlt
     have c := tleft_con h.term m (by omega) (by omega)
     have hti := tL_in h.term m
     have hl1 : -3 - (k : Int) ≤ lo1 (m - 1) := by unfold lo1; split <;> omega
     rw [hd] at hJ
     simp only [hL] at hJ
     obtain ⟨nm, lo, hi, ⟨o, tn, ks⟩⟩ := h
     simp only at c hti hJ
     obtain ⟨M, hM⟩ : ∃ x, tL (.mk o tn ks) m = x := ⟨_, rfl⟩
     rw [hM] at c hJ hti
     simp only [aT, Tm.enc, List.map_cons, List.map_nil] at c
     clear hlt h9 hM hd
     refine HT_seq <| HT_block <| HT_seq <| HT_runA ?_
     refine (HT_runcA [⟨true, .v (li M), none⟩] ?_ ?_)
     · first | exact c _ | exact trivial | simpa [*] using c _
     refine HT_runA ?_
     exact ⟨(k + 1, M), ⟨hk1, hJ, by simp only; omega, by simp only; omega⟩, by simp only; omega, le_mkA (fun n => n) []⟩
   · try simp only [BN] at h9
     have hkl : k = hats.length := by omega
     rw [hkl, List.drop_length] at hJ
     simp only [hL] at hJ
     subst hJ
     subst hres
     refine (HT_exit ?_)
     refine HT_seq <| HT_runA ?_
     exact HT_retA fun h => ⟨.inr rfl, h⟩
end Go.Proofs.YtfjidddhehckoaaGreat

namespace Go.Proofs.YtfjidddhehckoaaGreat
open Go Go.Hl
def xVs : List Vr := [⟨⟨#[120]⟩, 1, 0, 1, 0⟩, ⟨⟨#[121]⟩, 0, 0, 1, 0⟩]
def xS : St := .mk 0 0 1 0 (.mk 0 1 []) [] [] []
def x0 : St := .mk 3 0 0 0 (.mk 24 0 []) [xS] [] []
def x1 : St := .mk 1 0 0 0 (.mk 24 1 []) [] [] []
def XF : Fl := ⟨xVs, [], [x0, x1]⟩
def XP (o : Int) : Po := ⟨[⟨#[108, 111, 119]⟩, ⟨#[104, 105, 103, 104]⟩], [(0, 1)], [], [], o, false⟩
theorem xcode : codeC XF = 0 := by
 simp only [XF, codeC, sizesB, x0, x1, xS, sdL, tdeep, ssC]
 kernel_rfl
theorem xpol0 : polC (XP 0) = 0 := by kernel_rfl
theorem xpol1 : polC (XP 1) = 0 := by kernel_rfl
theorem xpin0 : pinF XF (XP 0) = ([1, 0], 0) := by
 unfold pinF
 rw [xpol0, xcode]
 kernel_rfl
theorem xpin1 : pinF XF (XP 1) = ([1, 0], 0) := by
 unfold pinF
 rw [xpol1, xcode]
 kernel_rfl
theorem xpht0 : phtF XF (XP 0) = ([], 0) := by
 unfold phtF
 rw [xpol0, xcode]
 kernel_rfl
theorem xpht1 : phtF XF (XP 1) = ([], 0) := by
 unfold phtF
 rw [xpol1, xcode]
 kernel_rfl
theorem xask0 : askC XF (XP 0) = 0 := by
 unfold askC
 rw [xpin0, xpht0]
 simp only [XF, x0, x1, xS, relL, relS]
 kernel_rfl
theorem xask1 : askC XF (XP 1) = 0 := by
 unfold askC
 rw [xpin1, xpht1]
 simp only [XF, x0, x1, xS, relL, relS]
 kernel_rfl
theorem xset : setlB XF = false := by kernel_rfl
theorem xty0 : (tyR XF (XP 0)).1 = [1, 1] ∧ (tyR XF (XP 0)).2.faults = [2] := by
 unfold tyR envF
 rw [xpin0, xpht0]
 simp only [XF, x0, x1, xS, tyL, tyS]
 exact ⟨by kernel_rfl, by kernel_rfl⟩
theorem xty1 : (tyR XF (XP 1)).1 = [1, 1] ∧ (tyR XF (XP 1)).2.faults = [] := by
 unfold tyR envF
 rw [xpin1, xpht1]
 simp only [XF, x0, x1, xS, tyL, tyS]
 exact ⟨by kernel_rfl, by kernel_rfl⟩
theorem tyE_of {f : Fl} {p : Po} (h : setlB f = false) : tyE f p = tyR f p := by
 unfold tyE
 rw [h]
 rfl
theorem xchk0 : ∃ t, chkR XF (XP 0) = .tup [aTg false [2] t [1, 1], li 0] := by
 unfold chkR accB
 rw [if_pos xask0, tyE_of xset, xty0.1, xty0.2]
 exact ⟨_, rfl⟩
theorem xchk1 : ∃ t, chkR XF (XP 1) = .tup [aTg true [] t [1, 1], li 0] := by
 unfold chkR accB
 rw [if_pos xask1, tyE_of xset, xty1.1, xty1.2]
 exact ⟨_, rfl⟩
def fitP (f : Fl) (p : Po) : Bool := fewB f 10 80 && decide (p.levels.length ≤ 8) && decide (p.order.length ≤ 20) && decide (p.inputs.length ≤ 20) && decide (p.hatches.length ≤ 20)
structure Sm (f : Fl) (p : Po) : Prop where
 sf : smF f
 sp : smQ p
 rep : repC f.hats.length
 nv : f.vars.length ≤ 10
 nn : nodesS f.body + nodesH f.hats ≤ 80
 nl : p.levels.length ≤ 8
theorem fit_in {f : Fl} {p : Po} (h : fitP f p = true) : Sm f p := by
 unfold fitP at h
 simp only [Bool.and_eq_true, decide_eq_true_eq] at h
 obtain ⟨⟨⟨⟨h1, h2⟩, h3⟩, h4⟩, h5⟩ := h
 obtain ⟨k1, k2, k3, k4⟩ := fewB_in (nodes := 80) (by decide) h1
 exact ⟨⟨by omega, by omega, by omega, k4⟩, ⟨by omega, by omega, by omega, by omega⟩, repC_holds (by omega), by omega, by omega, h2⟩
theorem chkS_con {f : Fl} {p : Po} (h : Sm f p) (d : Nat) : Con Tryz.prog 12 false [aF f, aPo p] (chkR f p) none d := by
 refine checkT_con f p (smQ_smP h.sp) h.rep h.sf.hv h.sf.hh h.sf.hn h.sf.hb (fun ha => ?_) d
 have hJ : ∀ a b, okI (envF f p).n ((envF f p).J a b) := by
  have hp : (pinF f p).2 = 0 := by
   unfold askC at ha
   split at ha
   · rename_i h1; exact absurd ha h1
   · rename_i h1; simpa using h1
  obtain ⟨hM, h1, _⟩ := pol_new (pin_out hp).1
  exact J_ok h1 hM
 have hp : (pinF f p).2 = 0 := by
  unfold askC at ha
  split at ha
  · rename_i h1; exact absurd ha h1
  · rename_i h1; simpa using h1
 obtain ⟨hpol, _, hpin⟩ := pin_out hp
 have hg := tyL_gd hJ (fuF f p) f.body p.bot (pinF f p).1 (t0F p) (bot_ok hpol) (by
  rw [hpin]
  intro x hx
  obtain ⟨v, _, rfl⟩ := List.mem_map.1 hx
  exact lev_ok hpol v)
 have : (tyE f p).1.length = f.vars.length := by
  show (tyR f p).1.length = _
  unfold tyR
  rw [hg.1, hpin, List.length_map]
 have := h.nv
 omega
theorem fit_con (f : Fl) (p : Po) (d : Nat) : Con Tryz.prog 10 true [aF f, aPo p] (.v (lb (fitP f p))) none d := by
 have cf := few_con f 10 80 (by decide) (by decide)
 unfold fitP
 obtain ⟨FW, hFW⟩ : ∃ x, fewB f 10 80 = x := ⟨_, rfl⟩
 rw [hFW] at cf ⊢
 obtain ⟨vars, hats, body⟩ := f
 obtain ⟨ls, os, is, hts, ob, tm⟩ := p
 have hln : (encNs ls).length = ls.length := by simp [encNs]
 have hol : (encPr os).length = os.length := by simp [encPr]
 have e1 : (decide ((ls.length : Int) ≤ 8)) = decide (ls.length ≤ 8) := by simp; omega
 have e2 : (decide ((os.length : Int) ≤ 20)) = decide (os.length ≤ 20) := by simp; omega
 have e3 : (decide ((is.length : Int) ≤ 20)) = decide (is.length ≤ 20) := by simp; omega
 have e4 : (decide ((hts.length : Int) ≤ 20)) = decide (hts.length ≤ 20) := by simp; omega
 clear hFW
 refine con_of_HT Tryz.func10 rfl (by kernel_rfl) (Nat.le_of_ble_eq_true rfl) ?_
 simp only [Tryz.f10]
 simp only [aF, Fl.enc, aPo, Po.enc, List.map_cons, List.map_nil] at cf ⊢
 refine HT_seq <| HT_runA ?_
 refine HT_seq <| (HT_runcA [⟨true, .v (lb FW), none⟩] ?_ ?_)
 · first | exact cf _ | exact trivial | simpa [*] using cf _
 exact HT_retA fun h => ⟨.inr rfl, h⟩
end Go.Proofs.YtfjidddhehckoaaGreat

namespace Go.Proofs.YtfjidddhehckoaaGreat
open Go Go.Hl
section
variable {e : En}
theorem ouL_ok (hJ : ∀ a b, okI e.n (e.J a b)) (fu : Nat) (l : List St) (pc : Int) (st : List Int) (hp : okI e.n pc) (ho : okV e.n st) : (ouL e fu l pc st).length = st.length ∧ okV e.n (ouL e fu l pc st) := by
 have h := tyL_gd hJ fu l pc st ⟨0, [], 0, false, [], []⟩ hp ho
 have k := (tyL_lg e fu l pc st ⟨0, [], 0, false, [], []⟩).out
 rw [← k]
 exact ⟨h.1, h.2.1⟩
theorem ouS_ok (hJ : ∀ a b, okI e.n (e.J a b)) (fu : Nat) (s : St) (pc : Int) (st : List Int) (hp : okI e.n pc) (ho : okV e.n st) : (ouS e fu s pc st).length = st.length ∧ okV e.n (ouS e fu s pc st) := by
 have h := ouL_ok hJ fu [s] pc st hp ho
 simpa only [ouL] using h
theorem fx_ok (hJ : ∀ a b, okI e.n (e.J a b)) {nl : List Int → Int} {g : Int → List Int → List Int} (hnl : ∀ st, okV e.n st → okI e.n (nl st)) (hg : ∀ pc st, okI e.n pc → okV e.n st → (g pc st).length = st.length ∧ okV e.n (g pc st)) :
  ∀ (k : Nat) (st : List Int), okV e.n st → (fxF e.J nl g k st).length = st.length ∧ okV e.n (fxF e.J nl g k st)
 | 0, st, ho => ⟨rfl, ho⟩
 | k + 1, st, ho => by
   simp only [fxF]
   obtain ⟨h1, h2⟩ := hg (nl st) st (hnl st ho) ho
   split
   · exact ⟨rfl, ho⟩
   · have := fx_ok hJ hnl hg k (mgF e.J st (g (nl st) st)) (mgF_ok hJ _ _)
     rw [mgF_len _ h1] at this
     exact this
def fuel (e : En) (k fu : Nat) : Prop := e.n * k < fu
end
end Go.Proofs.YtfjidddhehckoaaGreat

namespace Go.Proofs.YtfjidddhehckoaaGreat
open Go Go.Hl
section
variable {e : En}
def okE (e : En) (k : Nat) (x : Ent) : Prop := okI e.n x.2.2 ∧ okV e.n x.2.1 ∧ x.2.1.length = k
theorem fx_okN (hJ : ∀ a b, okI e.n (e.J a b)) {fu : Nat} {tm : Tm} {a : List St} {pc : Int} {st : List Int} (hp : okI e.n pc) (ho : okV e.n st) :
  (fxF e.J (fun s => tlT e.J s tm pc) (ouL e fu a) fu st).length = st.length ∧ okV e.n (fxF e.J (fun s => tlT e.J s tm pc) (ouL e fu a) fu st) :=
 fx_ok hJ (nl := fun s => tlT e.J s tm pc) (fun s _ => tlT_ok hJ s tm pc hp) (fun p s h1 h2 => ouL_ok hJ fu a p s h1 h2) fu st ho
mutual
theorem lgS_ok (hJ : ∀ a b, okI e.n (e.J a b)) (fu : Nat) : ∀ (s : St) (pc : Int) (st : List Int), okI e.n pc → okV e.n st → ∀ x ∈ lgS e fu s pc st, okE e st.length x
 | .mk d c v n tm a b bs, pc, st, hp, ho => by
   simp only [lgS]
   intro x hx
   split at hx
   · obtain ⟨x1, x2⟩ := fx_okN (fu := fu) (tm := tm) (a := a) hJ hp ho
     obtain ⟨X, hX⟩ : ∃ x, fxF e.J (fun s => tlT e.J s tm pc) (ouL e fu a) fu st = x := ⟨_, rfl⟩
     rw [hX] at x1 x2 hx
     rcases List.mem_cons.1 hx with rfl | hx
     · exact ⟨hp, x2, x1⟩
     · have := lgL_ok hJ fu a _ X (tlT_ok hJ X tm pc hp) x2 x hx
       rwa [x1] at this
   split at hx
   · rcases List.mem_cons.1 hx with rfl | hx
     · exact ⟨hp, ho, rfl⟩
     · rcases List.mem_append.1 hx with hx | hx
       · exact lgL_ok hJ fu a _ st (tlT_ok hJ st tm pc hp) ho x hx
       · exact lgL_ok hJ fu b _ st (tlT_ok hJ st tm pc hp) ho x hx
   · rw [List.mem_singleton] at hx
     subst hx
     exact ⟨hp, ho, rfl⟩
theorem lgL_ok (hJ : ∀ a b, okI e.n (e.J a b)) (fu : Nat) : ∀ (l : List St) (pc : Int) (st : List Int), okI e.n pc → okV e.n st → ∀ x ∈ lgL e fu l pc st, okE e st.length x
 | [], pc, st, hp, ho => by intro x hx; simp [lgL] at hx
 | s :: l, pc, st, hp, ho => by
   simp only [lgL]
   intro x hx
   obtain ⟨h1, h2⟩ := ouS_ok hJ fu s pc st hp ho
   rcases List.mem_append.1 hx with hx | hx
   · exact lgS_ok hJ fu s pc st hp ho x hx
   · have := lgL_ok hJ fu l pc _ hp h2 x hx
     rwa [h1] at this
end
theorem fxT_ok (hJ : ∀ a b, okI e.n (e.J a b)) {nl : List Int → Int} {g m : Int → List Int → List Int} (hnl : ∀ st, okV e.n st → okI e.n (nl st))
  (hm : ∀ pc st, okI e.n pc → okV e.n st → okV e.n (m pc st)) : ∀ (k : Nat) (st : List Int), okV e.n st → okV e.n (fxT e.J nl g m k st)
 | 0, st, ho => by intro x hx; simp [fxT] at hx
 | k + 1, st, ho => by
   simp only [fxT]
   intro x hx
   rcases List.mem_append.1 hx with hx | hx
   · exact hm _ _ (hnl st ho) ho x hx
   · split at hx
     · cases hx
     · exact fxT_ok hJ hnl hm k _ (mgF_ok hJ _ _) x hx
mutual
theorem tmS_ok (hJ : ∀ a b, okI e.n (e.J a b)) (fu : Nat) : ∀ (s : St) (pc : Int) (st : List Int), okI e.n pc → okV e.n st → okV e.n (tmS e fu s pc st)
 | .mk d c v n tm a b bs, pc, st, hp, ho => by
   simp only [tmS]
   intro x hx
   split at hx
   · obtain ⟨x1, x2⟩ := fx_okN (fu := fu) (tm := tm) (a := a) hJ hp ho
     obtain ⟨X, hX⟩ : ∃ x, fxF e.J (fun s => tlT e.J s tm pc) (ouL e fu a) fu st = x := ⟨_, rfl⟩
     rw [hX] at x1 x2 hx
     rcases List.mem_append.1 hx with hx | hx
     · exact fxT_ok hJ (nl := fun s => tlT e.J s tm pc) (fun s _ => tlT_ok hJ s tm pc hp) (fun p s h1 h2 => tmL_ok hJ fu a p s h1 h2) fu st ho x hx
     rcases List.mem_append.1 hx with hx | hx
     · exact tmL_ok hJ fu a _ X (tlT_ok hJ X tm pc hp) x2 x hx
     · split at hx
       · rw [List.mem_singleton] at hx; subst hx; exact tlT_ok hJ X tm pc hp
       · cases hx
   split at hx
   · rcases List.mem_append.1 hx with hx | hx
     · exact tmL_ok hJ fu a _ st (tlT_ok hJ st tm pc hp) ho x hx
     rcases List.mem_append.1 hx with hx | hx
     · exact tmL_ok hJ fu b _ st (tlT_ok hJ st tm pc hp) ho x hx
     · split at hx
       · cases hx
       · rw [List.mem_singleton] at hx; subst hx; exact tlT_ok hJ st tm pc hp
   · cases hx
theorem tmL_ok (hJ : ∀ a b, okI e.n (e.J a b)) (fu : Nat) : ∀ (l : List St) (pc : Int) (st : List Int), okI e.n pc → okV e.n st → okV e.n (tmL e fu l pc st)
 | [], pc, st, hp, ho => by intro x hx; simp [tmL] at hx
 | s :: l, pc, st, hp, ho => by
   simp only [tmL]
   intro x hx
   obtain ⟨h1, h2⟩ := ouS_ok hJ fu s pc st hp ho
   rcases List.mem_append.1 hx with hx | hx
   · exact tmS_ok hJ fu s pc st hp ho x hx
   · exact tmL_ok hJ fu l pc _ hp h2 x hx
end
end
end Go.Proofs.YtfjidddhehckoaaGreat

namespace Go.Proofs.YtfjidddhehckoaaGreat
open Go Go.Hl
structure Gd0 (f : Fl) (p : Po) : Prop where
 hp : polC p = 0
 hc : codeC f = 0
 hin : (pinF f p).1 = f.vars.map (levV p)
 hhl : (phtF f p).1.length = f.hats.length
 hn : 0 < p.n
 hM : Lt.Lat p.n p.M
 h12 : p.n ≤ 12
 ho : okI p.n p.observer
theorem ask_gd {f : Fl} {p : Po} (h : askC f p = 0) : Gd0 f p := by
 have h1 : (pinF f p).2 = 0 := by
  unfold askC at h
  split at h
  · rename_i h1; exact absurd h h1
  · rename_i h1; simpa using h1
 have h2 : (phtF f p).2 = 0 := by
  unfold askC at h
  rw [if_neg (by rw [h1]; simp)] at h
  split at h
  · rename_i h2; exact absurd h h2
  · rename_i h2; simpa using h2
 obtain ⟨hp, hc, hi⟩ := pin_out h1
 obtain ⟨hM, hn, h12⟩ := pol_new hp
 refine ⟨hp, hc, hi, pht_out h2, hn, hM, h12, ?_⟩
 unfold polC at hp
 split at hp
 · rename_i h; exact absurd hp h
 split at hp
 · cases hp
 split at hp
 · rename_i h; exact absurd hp h
 split at hp
 · rename_i h; exact absurd hp h
 split at hp
 · cases hp
 · exact ⟨by omega, by unfold Po.n; omega⟩
section
variable {f : Fl} {p : Po}
def s0F (f : Fl) (p : Po) : List Int := f.vars.map (levV p)
def ouE (f : Fl) (p : Po) : List Int := ouL (envF f p) (fuF f p) f.body p.bot (s0F f p)
def tmE (f : Fl) (p : Po) : List Int := tmL (envF f p) (fuF f p) f.body p.bot (s0F f p)
def lgE (f : Fl) (p : Po) : List Ent := lgL (envF f p) (fuF f p) f.body p.bot (s0F f p)
theorem tyR_lg (h : Gd0 f p) : (tyR f p).1 = ouE f p ∧ (tyR f p).2.time = (tmE f p).foldl (envF f p).J p.bot ∧ (tyR f p).2.faults = fltF (envF f p) 0 (lgE f p) ∧ (tyR f p).2.states = (lgE f p).map (·.2.1) ∧ (tyR f p).2.counts = (lgE f p).map (·.2.2) := by
 have hl := tyL_lg (envF f p) (fuF f p) f.body p.bot (s0F f p) (t0F p)
 unfold tyR
 rw [show (pinF f p).1 = s0F f p from h.hin]
 refine ⟨hl.out, hl.time, ?_, ?_, ?_⟩
 · have := hl.faults
   simpa [t0F, lgE] using this
 · have := hl.states
   simpa [t0F, lgE] using this
 · have := hl.counts
   simpa [t0F, lgE] using this
theorem s0_ok (h : Gd0 f p) : okV p.n (s0F f p) ∧ (s0F f p).length = f.vars.length :=
 ⟨fun x hx => by
  obtain ⟨v, _, rfl⟩ := List.mem_map.1 hx
  exact lev_ok h.hp v, by simp [s0F]⟩
theorem env_J (h : Gd0 f p) : ∀ a b, okI (envF f p).n ((envF f p).J a b) := J_ok (e := envF f p) h.hn h.hM
theorem lgE_ok (h : Gd0 f p) : ∀ x ∈ lgE f p, okE (envF f p) f.vars.length x := by
 have := lgL_ok (env_J h) (fuF f p) f.body p.bot (s0F f p) (bot_ok h.hp) (s0_ok h).1
 rwa [(s0_ok h).2] at this
theorem tmE_ok (h : Gd0 f p) : okV (envF f p).n (tmE f p) := tmL_ok (env_J h) (fuF f p) f.body p.bot (s0F f p) (bot_ok h.hp) (s0_ok h).1
theorem tyE_out : (tyE f p).1 = (tyR f p).1 ∧ (tyE f p).2.faults = (tyR f p).2.faults ∧ (tyE f p).2.states = (tyR f p).2.states ∧ (tyE f p).2.counts = (tyR f p).2.counts ∧ (tyE f p).2.time = if setlB f = true then p.bot else (tyR f p).2.time := by
 unfold tyE
 split
 · exact ⟨rfl, rfl, rfl, rfl, rfl⟩
 · exact ⟨rfl, rfl, rfl, rfl, rfl⟩
theorem time_ok (h : Gd0 f p) : okI p.n (tyE f p).2.time := by
 rw [tyE_out.2.2.2.2]
 split
 · exact bot_ok h.hp
 · rw [(tyR_lg h).2.1]
   exact fold_ok (e := envF f p) h.hn h.hM _ _ (bot_ok h.hp) (tmE_ok h)
theorem fltF_len (e : En) : ∀ (l : List Ent) (k : Nat), (fltF e k l).length ≤ l.length
 | [], k => Nat.le_refl _
 | x :: l, k => by
   have := fltF_len e l (k + 1)
   simp only [fltF, List.length_append, List.length_cons]
   split
   · simp only [List.length_singleton]; omega
   · simp only [List.length_nil]; omega
theorem lgE_len (h : Gd0 f p) : (lgE f p).length = szL f.body := lgL_len (ssC_fr _ _ (code_split h.hc).2.2.2.1)
theorem fa_len (h : Gd0 f p) : (tyE f p).2.faults.length ≤ nodesS f.body := by
 rw [tyE_out.2.1, (tyR_lg h).2.2.1]
 have h1 := fltF_len (envF f p) (lgE f p) 0
 have h2 := lgE_len h
 have h3 := szL_le f.body
 omega
theorem fin_len (h : Gd0 f p) : (tyE f p).1.length = f.vars.length := by
 rw [tyE_out.1, (tyR_lg h).1]
 unfold ouE
 rw [(ouL_ok (env_J h) (fuF f p) f.body p.bot (s0F f p) (bot_ok h.hp) (s0_ok h).1).1, (s0_ok h).2]
theorem pol_obs {o : Int} (h : polC p = 0) (ho : okI p.n o) : polC { p with observer := o } = 0 := by
 unfold polC at h ⊢
 simp only
 split at h
 · rename_i h1; exact absurd h h1
 rename_i h1
 rw [if_neg h1]
 split at h
 · cases h
 rename_i h2
 rw [if_neg h2]
 split at h
 · rename_i h3; exact absurd h h3
 rename_i h3
 rw [if_neg h3]
 split at h
 · rename_i h4; exact absurd h h4
 rename_i h4
 rw [if_neg h4]
 obtain ⟨h5, h6⟩ := ho
 unfold Po.n at h6
 rw [if_neg (by omega)]
theorem ask_obs {o : Int} (h : askC f p = 0) (ho : okI p.n o) : askC f { p with observer := o } = 0 ∧ pinF f { p with observer := o } = pinF f p ∧ phtF f { p with observer := o } = phtF f p := by
 have hg := ask_gd h
 have hp2 := pol_obs hg.hp ho
 have e1 : pinF f { p with observer := o } = pinF f p := by
  unfold pinF
  rw [hp2, hg.hp]
  rfl
 have e2 : phtF f { p with observer := o } = phtF f p := by
  unfold phtF
  rw [hp2, hg.hp]
 refine ⟨?_, e1, e2⟩
 unfold askC at h ⊢
 rw [e1, e2]
 exact h
theorem flt_W {e : En} {W : Int} (hW : ∀ x, okI e.n x → e.B x e.W = true → e.B x W = true) : ∀ (E : List Ent) (k : Nat), (∀ x ∈ E, okI e.n (tlT e.J x.2.1 x.1.term x.2.2)) → ∀ i ∈ fltF { e with W := W } k E, i ∈ fltF e k E
 | [], k, _, i, hi => by simp [fltF] at hi
 | x :: l, k, h, i, hi => by
   simp only [fltF, List.mem_append] at hi ⊢
   rcases hi with hi | hi
   · refine .inl ?_
     have hx : fltB { e with W := W } x = true := by
      cases hf : fltB { e with W := W } x
      · rw [hf] at hi; simp at hi
      · rfl
     rw [if_pos hx] at hi
     have hy : fltB e x = true := by
      simp only [fltB, Bool.and_eq_true, decide_eq_true_eq, Bool.not_eq_true'] at hx ⊢
      refine ⟨hx.1, ?_⟩
      cases hb : e.B (tlT e.J x.2.1 x.1.term x.2.2) e.W
      · rfl
      · have h2 : e.B (tlT e.J x.2.1 x.1.term x.2.2) W = false := hx.2
        rw [hW _ (h x (List.mem_cons_self ..)) hb] at h2
        cases h2
     rw [if_pos hy]
     exact hi
   · exact .inr (flt_W hW l (k + 1) (fun y hy => h y (List.mem_cons_of_mem _ hy)) i hi)
theorem flt_top {e : En} (hW : ∀ x, okI e.n x → e.B x e.W = true) : ∀ (E : List Ent) (k : Nat), (∀ x ∈ E, okI e.n (tlT e.J x.2.1 x.1.term x.2.2)) → fltF e k E = []
 | [], k, _ => rfl
 | x :: l, k, h => by
   simp only [fltF]
   rw [if_neg, List.nil_append]
   · exact flt_top hW l (k + 1) fun y hy => h y (List.mem_cons_of_mem _ hy)
   · simp only [fltB, hW _ (h x (List.mem_cons_self ..)), Bool.not_true, Bool.and_false]
     decide
theorem raised_facts {o : Int} (h : askC f p = 0) (ho : okI p.n o) (hle : p.M p.observer.toNat o.toNat = true) :
  askC f { p with observer := o } = 0 ∧ (tyE f { p with observer := o }).1 = (tyE f p).1 ∧ (tyE f { p with observer := o }).2.time = (tyE f p).2.time ∧
  (∀ i ∈ (tyE f { p with observer := o }).2.faults, i ∈ (tyE f p).2.faults) ∧ (accB f p = true → accB f { p with observer := o } = true) ∧ (o = p.top → accB f { p with observer := o } = true) := by
 have hg := ask_gd h
 obtain ⟨h1, e1, e2⟩ := ask_obs h ho
 have hg2 := ask_gd h1
 obtain ⟨a1, a2, a3, _, _⟩ := tyR_lg hg
 obtain ⟨b1, b2, b3, _, _⟩ := tyR_lg hg2
 have hs : s0F f { p with observer := o } = s0F f p := rfl
 have henv : envF f { p with observer := o } = { envF f p with W := o } := by
  unfold envF
  rw [e2]
  rfl
 have hou : ouE f { p with observer := o } = ouE f p := by
  unfold ouE
  rw [henv, hs]
  exact congrFun (congrFun (ouL_W (envF f p) o (fuF f p) f.body) _) _
 have htm : tmE f { p with observer := o } = tmE f p := by
  unfold tmE
  rw [henv, hs]
  exact congrFun (congrFun (tmL_W (envF f p) o (fuF f p) f.body) _) _
 have hlg : lgE f { p with observer := o } = lgE f p := by
  unfold lgE
  rw [henv, hs]
  exact congrFun (congrFun (lgL_W (envF f p) o (fuF f p) f.body) _) _
 have hout : (tyE f { p with observer := o }).1 = (tyE f p).1 := by rw [tyE_out.1, tyE_out.1, a1, b1, hou]
 have htime : (tyE f { p with observer := o }).2.time = (tyE f p).2.time := by
  rw [tyE_out.2.2.2.2, tyE_out.2.2.2.2, a2, b2, htm, henv]
  rfl
 have hok : ∀ x ∈ lgE f p, okI (envF f p).n (tlT (envF f p).J x.2.1 x.1.term x.2.2) := fun x hx => tlT_ok (env_J hg) _ _ _ (lgE_ok hg x hx).1
 have hW : ∀ x, okI (envF f p).n x → (envF f p).B x (envF f p).W = true → (envF f p).B x o = true := fun x hx hb => by
  exact (B_iff (e := envF f p) hx ho).2 (L_trans (e := envF f p) hg.hM hx hg.ho ho ((B_iff (e := envF f p) hx hg.ho).1 hb) hle)
 have hfa : ∀ i ∈ (tyE f { p with observer := o }).2.faults, i ∈ (tyE f p).2.faults := by
  rw [tyE_out.2.1, tyE_out.2.1, a3, b3, hlg, henv]
  exact flt_W hW _ 0 hok
 have hB : ∀ x, okI p.n x → p.B x p.observer = true → p.B x o = true := hW
 refine ⟨h1, hout, htime, hfa, fun hacc => ?_, fun htop => ?_⟩
 · unfold accB at hacc ⊢
   simp only [Bool.and_eq_true, decide_eq_true_eq, Bool.or_eq_true, Bool.not_eq_true'] at hacc ⊢
   refine ⟨?_, hacc.2.imp id fun hb => ?_⟩
   · have h0 := List.length_eq_zero_iff.1 hacc.1
     rw [h0] at hfa
     exact List.length_eq_zero_iff.2 (List.eq_nil_iff_forall_not_mem.2 fun i hi => by simpa using hfa i hi)
   · rw [htime]
     exact hB _ (time_ok hg) hb
 · have hall : ∀ x, okI p.n x → p.B x o = true := fun x hx => by
    have := (hg.hM.top hg.hn p.n (Nat.le_refl _)).2 x.toNat (by obtain ⟨_, _⟩ := hx; omega)
    refine (B_iff (e := envF f p) hx ho).2 ?_
    unfold En.L
    rw [htop]
    exact this
   unfold accB
   have hf0 : (tyE f { p with observer := o }).2.faults = [] := by
    rw [tyE_out.2.1, b3, hlg, henv]
    exact flt_top (e := { envF f p with W := o }) hall _ 0 hok
   simp only [hf0, List.length_nil, decide_true, Bool.true_and, Bool.or_eq_true, Bool.not_eq_true']
   refine .inr ?_
   rw [htime]
   exact hall _ (time_ok hg)
end
end Go.Proofs.YtfjidddhehckoaaGreat

namespace Go.Proofs.YtfjidddhehckoaaGreat
open Go Go.Hl
theorem known_con (d : Nat) : Con Tryz.prog 9 true [] (.v (lb true)) none d := by
 obtain ⟨t0, h0⟩ := xchk0
 obtain ⟨t1, h1⟩ := xchk1
 have c0 := checkT_con XF (XP 0) ⟨by decide, by decide, by decide, by decide⟩ (repC_holds (by decide)) (by decide) (by decide) (by decide) (by kernel_rfl) (fun _ => by rw [tyE_of xset, xty0.1]; decide)
 have c1 := checkT_con XF (XP 1) ⟨by decide, by decide, by decide, by decide⟩ (repC_holds (by decide)) (by decide) (by decide) (by decide) (by kernel_rfl) (fun _ => by rw [tyE_of xset, xty1.1]; decide)
 rw [h0] at c0
 rw [h1] at c1
 have he1 := eqSl_con [2] [2] (by decide) (by decide)
 have he2 := eqSl_con [1, 1] [1, 1] (by decide) (by decide)
 have hq1 : room 1 144 := room_of (by decide) (by decide)
 have hq2 : room 2 144 := room_of (by decide) (by decide)
 have hq3 : room 2 48 := room_of (by decide) (by decide)
 have hq4 : room 2 16 := room_of (by decide) (by decide)
 have hq5 : room 1 16 := room_of (by decide) (by decide)
 have hq6 : room 1 8 := room_of (by decide) (by decide)
 have hq7 : room 2 8 := room_of (by decide) (by decide)
 clear h0 h1
 simp only [XF, XP, xVs, x0, x1, xS, aF, aPo, Po.enc, encNs, encPr, encLs, Fl.enc, Vr.enc, encVs, encHs, encIs, encSs, encTs, St.enc, Tm.enc, aT, aTg, List.map_cons, List.map_nil, List.cons_append, List.nil_append] at c0 c1 he1 he2
 refine con_of_HT Tryz.func9 rfl (by kernel_rfl) (Nat.le_of_ble_eq_true rfl) ?_
 simp only [Tryz.f9]
 refine HT_seq <| HT_runA ?_
 refine HT_seq <| (HT_runsF ?_)
 refine RunsF.cutE 6 [] (by simp [*, allTyped, fillC, placeOf]; rfl) trivial (le_agg 13 [.c (iC 0), .c (iC 0), .c (iC 1), .c (iC 0), .c (iC 0), .c (iC 1), .c (.sl 3 []), .c (.sl 10 []), .c (.sl 10 []), .c (.sl 1 [])] rfl (by (repeat' (first | exact LWk.nil | apply LWk.cons | exact CWk.refl _ | exact CWk.nil _)))) ?_
 refine RunsF.cutE 1 [] (by simp [*, allTyped, fillC, placeOf]; rfl) trivial (le_frz 14 rfl) ?_
 refine RunsF.cutE 3 [] (by simp [*, allTyped, fillC, placeOf]; rfl) trivial (le_trans (le_agg 15 [.c (iC 3), .c (iC 0), .c (iC 0), .c (iC 0), .c (iC 24), .c (iC 0), .c (.sl 3 []), .c (.sl 10 [[iC 0, iC 0, iC 1, iC 0, iC 0, iC 1, .sl 3 [], .sl 10 [], .sl 10 [], .sl 1 []]]), .c (.sl 10 []), .c (.sl 1 [])] rfl (by (repeat' (first | exact LWk.nil | apply LWk.cons | exact CWk.refl _ | exact CWk.nil _)))) (le_agg 17 [.c (iC 1), .c (iC 0), .c (iC 0), .c (iC 0), .c (iC 24), .c (iC 1), .c (.sl 3 []), .c (.sl 10 []), .c (.sl 10 []), .c (.sl 1 [])] rfl (by (repeat' (first | exact LWk.nil | apply LWk.cons | exact CWk.refl _ | exact CWk.nil _))))) ?_
 refine RunsF.cutE 1 [] (by simp [*, allTyped, fillC, placeOf]; rfl) trivial (le_trans (le_frz 10 rfl) (le_frz 18 rfl)) ?_
 refine RunsF.cutE 1 [] (by simp [*, allTyped, fillC, placeOf]; rfl) trivial (le_agg 19 [.c (.sl 5 [[sC ⟨#[120]⟩, iC 1, iC 0, iC 1, iC 0], [sC ⟨#[121]⟩, iC 0, iC 0, iC 1, iC 0]]), .c (.sl 6 []), .c (.sl 10 [[iC 3, iC 0, iC 0, iC 0, iC 24, iC 0, .sl 3 [], .sl 10 [[iC 0, iC 0, iC 1, iC 0, iC 0, iC 1, .sl 3 [], .sl 10 [], .sl 10 [], .sl 1 []]], .sl 10 [], .sl 1 []], [iC 1, iC 0, iC 0, iC 0, iC 24, iC 1, .sl 3 [], .sl 10 [], .sl 10 [], .sl 1 []]])] rfl (by (repeat' (first | exact LWk.nil | apply LWk.cons | exact CWk.refl _ | exact CWk.nil _)))) ?_
 refine RunsF.doneE [] (by simp [*, allTyped, fillC, placeOf]; rfl) trivial ?_
 refine HT_seq <| (HT_runsF ?_)
 refine RunsF.cutE 3 [] (by simp [*, allTyped, fillC, placeOf]; rfl) trivial (le_trans (le_frz 20 rfl) (le_frz 22 rfl)) ?_
 refine RunsF.cutE 1 [] (by simp [*, allTyped, fillC, placeOf]; rfl) trivial (le_agg 23 [.c (.sl 1 [[sC ⟨#[108, 111, 119]⟩], [sC ⟨#[104, 105, 103, 104]⟩]]), .c (.sl 2 [[iC 0, iC 1]]), .c (.sl 2 []), .c (.sl 2 []), .c (iC 0), .c (bC false)] rfl (by (repeat' (first | exact LWk.nil | apply LWk.cons | exact CWk.refl _ | exact CWk.nil _)))) ?_
 refine RunsF.doneE [] (by simp [*, allTyped, fillC, placeOf]; rfl) trivial ?_
 refine HT_seq <| (HT_runcA [⟨false, .tup [.agg [.c (bC false), .c (.sl 1 [[iC 2]]), .c (iC t0), .c (.sl 1 [[iC 1], [iC 1]])], li 0], none⟩] ?_ ?_)
 · first | exact c0 _ | exact trivial | simpa [*] using c0 _
 refine HT_seq <| HT_runA ?_
 refine HT_seq <| HT_runA ?_
 refine HT_seq <| (HT_runcA [⟨false, .tup [.agg [.c (bC true), .c (.sl 1 []), .c (iC t1), .c (.sl 1 [[iC 1], [iC 1]])], li 0], none⟩] ?_ ?_)
 · first | exact c1 _ | exact trivial | simpa [*] using c1 _
 refine HT_seq <| (HT_runcA [⟨true, .v (lb true), none⟩, ⟨true, .v (lb true), none⟩] ?_ ?_)
 · first | exact ⟨he1 _, he2 _⟩ | exact trivial | (repeat' first | exact trivial | exact he1 _ | exact he2 _ | apply And.intro)
 exact HT_retA fun h => ⟨.inr rfl, h⟩
end Go.Proofs.YtfjidddhehckoaaGreat

namespace Go.Proofs.YtfjidddhehckoaaGreat
open Go Go.Hl Go.RowKit Go.ChangeShapes Go.Proofs.YtfjidddhehckoaaGreat
theorem tiled : Tiled Tryz.prog := tiled_mk (by kernel_rfl)
theorem own : ownKnob Tryz.prog.godebug = none := by kernel_rfl
theorem laidOut : laidOutB Tryz.prog = true := by kernel_rfl
section
variable {P : Program} {k : Nat} {t : TypeId} {ds : List CD}
theorem shape_slK {α : Type} {enc : α → List CD} {e : TypeId} {c : Nat} (hu : P.underlying t = some (.slice e)) (hc : P.cellsOf e = c) (he : ∀ k', k' < k → ∀ r, Shape P k' e r → ∃ x, r = enc x) (h : Shape P k t ds) : ∃ xs : List α, ds = [.sl c (xs.map enc)] := by
 cases k with
 | zero => exact h.elim
 | succ k =>
   unfold Shape at h
   rw [hu] at h
   obtain ⟨rows, h1, _, h3⟩ := h
   obtain ⟨xs, hxs⟩ := rows_enc (enc := enc) fun r hr => he k (Nat.lt_succ_self k) r (h3 r hr).2
   subst hxs
   exact ⟨xs, by rw [h1, hc]⟩
theorem shape_structK {fs : Array Field} {l : List (Nat × Nat × TypeId)} {c : Nat} (hu : P.underlying t = some (.struct fs)) (hl : segsF P fs = l) (hc : P.cellsOf t = c) (h : Shape P k t ds) : ds.length = c ∧ ∃ k', k' < k ∧ ∀ x ∈ l, Shape P k' x.2.2 ((ds.drop x.1).take x.2.1) := by
 cases k with
 | zero => exact h.elim
 | succ k =>
   unfold Shape at h
   rw [hu] at h
   have h' : ds.length = P.cellsOf t ∧ ∀ x ∈ segsF P fs, Shape P k x.2.2 ((ds.drop x.1).take x.2.1) := h
   exact ⟨hc ▸ h'.1, k, Nat.lt_succ_self k, fun x hx => h'.2 x (hl ▸ hx)⟩
end
theorem dec_i {k : Nat} {t : TypeId} {ds : List CD} (hu : Tryz.prog.underlying t = some (.int .i64)) (h : Shape Tryz.prog k t ds) : ∃ n : Int, ds = [iC n] := by
 obtain ⟨n, h1, _⟩ := shape_int hu h
 exact ⟨n, h1⟩
theorem dec_s {k : Nat} {ds : List CD} (h : Shape Tryz.prog k 9 ds) : ∃ s : ByteArray, ds = [sC s] := by
 obtain ⟨s, h1, _⟩ := shape_str Tryz.underlying9 h
 exact ⟨s, h1⟩
theorem dec_I {k : Nat} {ds : List CD} (h : Shape Tryz.prog k 32 ds) : ∃ l : List Int, ds = [.sl 1 (encIs l)] :=
 shape_slK (enc := fun x => [iC x]) Tryz.underlying32 (by kernel_rfl : Tryz.prog.cellsOf 3 = 1) (fun _ _ _ hr => dec_i Tryz.underlying3 hr) h
theorem dec_T : ∀ (k : Nat) (ds : List CD), Shape Tryz.prog k 63 ds → ∃ t : Tm, ds = t.enc := by
 intro k
 induction k using Nat.strongRecOn with
 | ind k ih =>
   intro ds h
   obtain ⟨hl, k1, hk1, hx⟩ := shape_structK (l := [(0, 1, 60), (1, 1, 3), (2, 1, 61)]) Tryz.underlying63 (by kernel_rfl) (by kernel_rfl : Tryz.prog.cellsOf 63 = 3) h
   match ds, hl with
   | [a, b, c], _ =>
     obtain ⟨n1, h1⟩ := dec_i Tryz.underlying60 (hx (0, 1, 60) (by simp))
     obtain ⟨n2, h2⟩ := dec_i Tryz.underlying3 (hx (1, 1, 3) (by simp))
     obtain ⟨ks, h3⟩ := shape_slK (enc := Tm.enc) Tryz.underlying61 (by kernel_rfl : Tryz.prog.cellsOf 63 = 3) (fun k' hk' r hr => ih k' (by omega) r hr) (hx (2, 1, 61) (by simp))
     simp only [List.drop, List.take, List.cons.injEq, and_true] at h1 h2 h3
     subst h1 h2 h3
     exact ⟨.mk n1 n2 ks, by simp only [Tm.enc, encTs_map]⟩
theorem dec_S : ∀ (k : Nat) (ds : List CD), Shape Tryz.prog k 65 ds → ∃ s : St, ds = s.enc := by
 intro k
 induction k using Nat.strongRecOn with
 | ind k ih =>
   intro ds h
   obtain ⟨hl, k1, hk1, hx⟩ := shape_structK (l := [(0, 1, 59), (1, 1, 3), (2, 1, 3), (3, 1, 3), (4, 3, 63), (7, 1, 24), (8, 1, 24), (9, 1, 32)]) Tryz.underlying65 (by kernel_rfl) (by kernel_rfl : Tryz.prog.cellsOf 65 = 10) h
   match ds, hl with
   | [a0, a1, a2, a3, a4, a5, a6, a7, a8, a9], _ =>
     obtain ⟨n0, h0⟩ := dec_i Tryz.underlying59 (hx (0, 1, 59) (by simp))
     obtain ⟨n1, h1⟩ := dec_i Tryz.underlying3 (hx (1, 1, 3) (by simp))
     obtain ⟨n2, h2⟩ := dec_i Tryz.underlying3 (hx (2, 1, 3) (by simp))
     obtain ⟨n3, h3⟩ := dec_i Tryz.underlying3 (hx (3, 1, 3) (by simp))
     obtain ⟨t, h4⟩ := dec_T _ _ (hx (4, 3, 63) (by simp))
     obtain ⟨la, h7⟩ := shape_slK (enc := St.enc) Tryz.underlying24 (by kernel_rfl : Tryz.prog.cellsOf 65 = 10) (fun k' hk' r hr => ih k' (by omega) r hr) (hx (7, 1, 24) (by simp))
     obtain ⟨lb', h8⟩ := shape_slK (enc := St.enc) Tryz.underlying24 (by kernel_rfl : Tryz.prog.cellsOf 65 = 10) (fun k' hk' r hr => ih k' (by omega) r hr) (hx (8, 1, 24) (by simp))
     obtain ⟨lc, h9⟩ := dec_I (hx (9, 1, 32) (by simp))
     simp only [List.drop, List.take, List.cons.injEq, and_true] at h0 h1 h2 h3 h4 h7 h8 h9
     subst h0 h1 h2 h3 h7 h8 h9
     refine ⟨.mk n0 n1 n2 n3 t la lb' lc, ?_⟩
     simp only [St.enc, encSs_map, ← h4, List.cons_append, List.nil_append]
theorem dec_V {k : Nat} {ds : List CD} (h : Shape Tryz.prog k 88 ds) : ∃ v : Vr, ds = v.enc := by
 obtain ⟨hl, k1, _, hx⟩ := shape_structK (l := [(0, 1, 9), (1, 1, 86), (2, 1, 3), (3, 1, 3), (4, 1, 3)]) Tryz.underlying88 (by kernel_rfl) (by kernel_rfl : Tryz.prog.cellsOf 88 = 5) h
 match ds, hl with
 | [a0, a1, a2, a3, a4], _ =>
   obtain ⟨n0, h0⟩ := dec_s (hx (0, 1, 9) (by simp))
   obtain ⟨n1, h1⟩ := dec_i Tryz.underlying86 (hx (1, 1, 86) (by simp))
   obtain ⟨n2, h2⟩ := dec_i Tryz.underlying3 (hx (2, 1, 3) (by simp))
   obtain ⟨n3, h3⟩ := dec_i Tryz.underlying3 (hx (3, 1, 3) (by simp))
   obtain ⟨n4, h4⟩ := dec_i Tryz.underlying3 (hx (4, 1, 3) (by simp))
   simp only [List.drop, List.take, List.cons.injEq, and_true] at h0 h1 h2 h3 h4
   subst h0 h1 h2 h3 h4
   exact ⟨⟨n0, n1, n2, n3, n4⟩, rfl⟩
theorem dec_H {k : Nat} {ds : List CD} (h : Shape Tryz.prog k 111 ds) : ∃ v : Ht, ds = v.enc := by
 obtain ⟨hl, k1, _, hx⟩ := shape_structK (l := [(0, 1, 9), (1, 1, 3), (2, 1, 3), (3, 3, 63)]) Tryz.underlying111 (by kernel_rfl) (by kernel_rfl : Tryz.prog.cellsOf 111 = 6) h
 match ds, hl with
 | [a0, a1, a2, a3, a4, a5], _ =>
   obtain ⟨n0, h0⟩ := dec_s (hx (0, 1, 9) (by simp))
   obtain ⟨n1, h1⟩ := dec_i Tryz.underlying3 (hx (1, 1, 3) (by simp))
   obtain ⟨n2, h2⟩ := dec_i Tryz.underlying3 (hx (2, 1, 3) (by simp))
   obtain ⟨t, h3⟩ := dec_T _ _ (hx (3, 3, 63) (by simp))
   simp only [List.drop, List.take, List.cons.injEq, and_true] at h0 h1 h2 h3
   subst h0 h1 h2
   exact ⟨⟨n0, n1, n2, t⟩, by simp only [Ht.enc, ← h3, List.cons_append, List.nil_append]⟩
theorem dec_F {k : Nat} {ds : List CD} (h : Shape Tryz.prog k 26 ds) : ∃ f : Fl, ds = f.enc := by
 obtain ⟨hl, k1, _, hx⟩ := shape_structK (l := [(0, 1, 22), (1, 1, 23), (2, 1, 24)]) Tryz.underlying26 (by kernel_rfl) (by kernel_rfl : Tryz.prog.cellsOf 26 = 3) h
 match ds, hl with
 | [a0, a1, a2], _ =>
   obtain ⟨lv, h0⟩ := shape_slK (enc := Vr.enc) Tryz.underlying22 (by kernel_rfl : Tryz.prog.cellsOf 88 = 5) (fun _ _ _ hr => dec_V hr) (hx (0, 1, 22) (by simp))
   obtain ⟨lh, h1⟩ := shape_slK (enc := Ht.enc) Tryz.underlying23 (by kernel_rfl : Tryz.prog.cellsOf 111 = 6) (fun _ _ _ hr => dec_H hr) (hx (1, 1, 23) (by simp))
   obtain ⟨ls, h2⟩ := shape_slK (enc := St.enc) Tryz.underlying24 (by kernel_rfl : Tryz.prog.cellsOf 65 = 10) (fun k' _ r hr => dec_S k' r hr) (hx (2, 1, 24) (by simp))
   simp only [List.drop, List.take, List.cons.injEq, and_true] at h0 h1 h2
   subst h0 h1 h2
   exact ⟨⟨lv, lh, ls⟩, by simp only [Fl.enc, encVs, encHs, encSs_map]⟩
theorem aggF : aggT Tryz.prog 26 = true := by unfold aggT; rw [Tryz.underlying26]
theorem dec_b {k : Nat} {ds : List CD} (h : Shape Tryz.prog k 4 ds) : ∃ b : Bool, ds = [bC b] := by
 obtain ⟨b, h1⟩ := shape_bool Tryz.underlying4 h
 exact ⟨b, h1⟩
theorem dec_A {k : Nat} {ds : List CD} (h : Shape Tryz.prog k 89 ds) : ∃ p : Int × Int, ds = [iC p.1, iC p.2] := by
 obtain ⟨hl, k, hx⟩ := shape_array (l := [(0, 1, 3), (1, 1, 3)]) Tryz.underlying89 (by kernel_rfl) (by kernel_rfl : Tryz.prog.cellsOf 89 = 2) h
 match ds, hl with
 | [a0, a1], _ =>
   obtain ⟨n0, h0⟩ := dec_i Tryz.underlying3 (hx (0, 1, 3) (by simp))
   obtain ⟨n1, h1⟩ := dec_i Tryz.underlying3 (hx (1, 1, 3) (by simp))
   simp only [List.drop, List.take, List.cons.injEq, and_true] at h0 h1
   subst h0 h1
   exact ⟨(n0, n1), rfl⟩
theorem dec_L {k : Nat} {ds : List CD} (h : Shape Tryz.prog k 124 ds) : ∃ x : Lb, ds = x.enc := by
 obtain ⟨hl, k1, _, hx⟩ := shape_structK (l := [(0, 1, 9), (1, 1, 3)]) Tryz.underlying124 (by kernel_rfl) (by kernel_rfl : Tryz.prog.cellsOf 124 = 2) h
 match ds, hl with
 | [a0, a1], _ =>
   obtain ⟨n0, h0⟩ := dec_s (hx (0, 1, 9) (by simp))
   obtain ⟨n1, h1⟩ := dec_i Tryz.underlying3 (hx (1, 1, 3) (by simp))
   simp only [List.drop, List.take, List.cons.injEq, and_true] at h0 h1
   subst h0 h1
   exact ⟨⟨n0, n1⟩, rfl⟩
theorem dec_P {k : Nat} {ds : List CD} (h : Shape Tryz.prog k 31 ds) : ∃ p : Po, ds = p.enc := by
 obtain ⟨hl, k1, _, hx⟩ := shape_structK (l := [(0, 1, 27), (1, 1, 28), (2, 1, 29), (3, 1, 29), (4, 1, 3), (5, 1, 4)]) Tryz.underlying31 (by kernel_rfl) (by kernel_rfl : Tryz.prog.cellsOf 31 = 6) h
 match ds, hl with
 | [a0, a1, a2, a3, a4, a5], _ =>
   obtain ⟨l0, h0⟩ := shape_slK (enc := fun s => [sC s]) Tryz.underlying27 (by kernel_rfl : Tryz.prog.cellsOf 9 = 1) (fun _ _ _ hr => dec_s hr) (hx (0, 1, 27) (by simp))
   obtain ⟨l1, h1⟩ := shape_slK (enc := fun p : Int × Int => [iC p.1, iC p.2]) Tryz.underlying28 (by kernel_rfl : Tryz.prog.cellsOf 89 = 2) (fun _ _ _ hr => dec_A hr) (hx (1, 1, 28) (by simp))
   obtain ⟨l2, h2⟩ := shape_slK (enc := Lb.enc) Tryz.underlying29 (by kernel_rfl : Tryz.prog.cellsOf 124 = 2) (fun _ _ _ hr => dec_L hr) (hx (2, 1, 29) (by simp))
   obtain ⟨l3, h3⟩ := shape_slK (enc := Lb.enc) Tryz.underlying29 (by kernel_rfl : Tryz.prog.cellsOf 124 = 2) (fun _ _ _ hr => dec_L hr) (hx (3, 1, 29) (by simp))
   obtain ⟨n4, h4⟩ := dec_i Tryz.underlying3 (hx (4, 1, 3) (by simp))
   obtain ⟨b5, h5⟩ := dec_b (hx (5, 1, 4) (by simp))
   simp only [List.drop, List.take, List.cons.injEq, and_true] at h0 h1 h2 h3 h4 h5
   subst h0 h1 h2 h3 h4 h5
   exact ⟨⟨l0, l1, l2, l3, n4, b5⟩, rfl⟩
theorem aggP : aggT Tryz.prog 31 = true := by unfold aggT; rw [Tryz.underlying31]
end Go.Proofs.YtfjidddhehckoaaGreat
