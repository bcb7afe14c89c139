/- Part 14: contracts of functions of the program and of the reference, and plain facts about what they compute; used by the proof of the claimed statement. Conditions: as each theorem states. -/
import Derived.Test.YtfjidddhehckoaaGreatS6
import Derived.Test.YtfjidddhehckoaaGreatS12
import Derived.Test.YtfjidddhehckoaaGreatS13
import Derived.Test.YtfjidddhehckoaaGreatS11
import Derived.Test.YtfjidddhehckoaaGreatS9
set_option linter.unusedSimpArgs false
set_option linter.unusedVariables false
set_option linter.unnecessarySimpa false
set_option maxRecDepth 100000
set_option maxHeartbeats 2000000
namespace Go.Proofs.YtfjidddhehckoaaGreat
open Go Go.Hl
mutual
def tL : Tm → Int → Int
 | .mk _ _ ks, left => tLs ks (left - 1)
def tLs : List Tm → Int → Int
 | [], left => left
 | t :: l, left => if 0 ≤ left then tLs l (tL t left) else left
end
def lo1 (x : Int) : Int := if x < 0 then x else -1
mutual
theorem tL_in : ∀ (t : Tm) (left : Int), lo1 (left - 1) ≤ tL t left ∧ tL t left ≤ left - 1
 | .mk _ _ ks, left => by
   simp only [tL];exact tLs_in ks (left - 1)
theorem tLs_in : ∀ (l : List Tm) (left : Int), lo1 left ≤ tLs l left ∧ tLs l left ≤ left
 | [], left => by
   simp only [tLs, lo1];split <;> omega
 | t :: l, left => by
   simp only [tLs];split
   · have h1 := tL_in t left;have h2 := tLs_in l (tL t left);unfold lo1 at *;refine ⟨?_, by omega⟩;split
     · omega
     refine Int.le_trans ?_ h2.1;split <;> (try split at h1) <;> omega
   unfold lo1;split <;> omega
end
theorem tLs_neg (l : List Tm) (left : Int) (h : left < 0) : tLs l left = left := by
 cases l with
 | nil => rfl
 | cons t l => simp only [tLs]; rw [if_neg (by omega)]
mutual
theorem tL_pos : ∀ (t : Tm) (left : Int), 0 ≤ tL t left → tL t left = left - t.nodes
 | .mk _ _ ks, left => by
   simp only [tL, Tm.nodes];intro h;have := tLs_pos ks (left - 1) h;omega
theorem tLs_pos : ∀ (l : List Tm) (left : Int), 0 ≤ tLs l left → tLs l left = left - nodesT l
 | [], left => by simp [tLs, nodesT]
 | t :: l, left => by
   simp only [tLs, nodesT];split
   · intro h;have h1 := tLs_pos l (tL t left) h;have h2 := tLs_in l (tL t left);have h3 := tL_pos t left (by omega);omega
   intro h; omega
end
def sL : List St → Int → Int
 | [], left => left
 | .mk _ _ _ _ t a b bs :: l, left =>
   if 0 ≤ left then (if tL t (left - 1) < bs.length then -1 else sL l (sL b (sL a (tL t (left - 1) - bs.length)))) else left
theorem sL_neg (l : List St) (left : Int) (h : left < 0) : sL l left = left := by
 cases l with
 | nil => simp [sL]
 | cons s l => obtain ⟨d, c, v, n, t, a, b, bs⟩ := s; simp only [sL]; rw [if_neg (by omega)]
theorem sL_in : ∀ (l : List St) (left : Int), lo1 left ≤ sL l left ∧ sL l left ≤ left
 | [], left => by
   simp only [sL, lo1];split <;> omega
 | .mk _ _ _ _ t a b bs :: l, left => by
   simp only [sL];by_cases h0 : 0 ≤ left
   · rw [if_pos h0];have e : lo1 left = -1 := by unfold lo1; rw [if_neg (by omega)]
     rw [e];split
     · omega
     have h1 := tL_in t (left - 1);have ha := sL_in a (tL t (left - 1) - bs.length);have hb := sL_in b (sL a (tL t (left - 1) - bs.length));have hl := sL_in l (sL b (sL a (tL t (left - 1) - bs.length)));refine ⟨?_, by omega⟩;generalize sL l (sL b (sL a (tL t (left - 1) - bs.length))) = z at *;generalize sL b (sL a (tL t (left - 1) - bs.length)) = y at *;generalize sL a (tL t (left - 1) - bs.length) = x at *;generalize tL t (left - 1) = w at *;unfold lo1 at ha hb hl
     (repeat' split at ha) <;> (repeat' split at hb) <;> (repeat' split at hl) <;> omega
   rw [if_neg h0];unfold lo1;split <;> omega
theorem sL_pos : ∀ (l : List St) (left : Int), left ≤ 1000000 → 0 ≤ sL l left → sL l left ≤ left - nodesS l ∧ bndL l = true
 | [], left, _, _ => by simp [sL, nodesS, bndL]
 | .mk _ _ _ _ t a b bs :: l, left, hle, h => by
   simp only [sL] at h ⊢;by_cases h0 : 0 ≤ left
   · rw [if_pos h0] at h ⊢;split at h
     · omega
     rename_i hbs;rw [if_neg hbs];have i0 := tL_in t (left - 1);have ia := sL_in a (tL t (left - 1) - bs.length);have ib := sL_in b (sL a (tL t (left - 1) - bs.length));have il := sL_in l (sL b (sL a (tL t (left - 1) - bs.length)));have p3 := sL_pos l (sL b (sL a (tL t (left - 1) - bs.length))) (by omega) h;have p2 := sL_pos b (sL a (tL t (left - 1) - bs.length)) (by omega) (by omega);have p1 := sL_pos a (tL t (left - 1) - bs.length) (by omega) (by omega);have p0 := tL_pos t (left - 1) (by omega);simp only [nodesS, St.nodes, bndL, bndS, p1.2, p2.2, p3.2, Bool.and_true, decide_eq_true_eq];omega
   rw [if_neg h0] at h;omega
def hL : List Ht → Int → Int
 | [], m => m
 | h :: l, m => hL l (tL h.term m)
theorem hL_le : ∀ (l : List Ht) (m : Int), hL l m ≤ m
 | [], m => by simp [hL]
 | h :: l, m => by
   have h1 := hL_le l (tL h.term m);have h2 := tL_in h.term m;simp only [hL];omega
theorem hL_pos : ∀ (l : List Ht) (m : Int), 0 ≤ hL l m → hL l m = m - nodesH l
 | [], m, _ => by simp [hL, nodesH]
 | h :: l, m, h0 => by
   simp only [hL, nodesH] at h0 ⊢;have h1 := hL_pos l _ h0;have h2 := hL_le l (tL h.term m);have h3 := tL_pos h.term m (by omega);omega
def fewB (f : Fl) (vars nodes : Int) : Bool := if vars < f.vars.length ∨ vars < f.hats.length then false else decide (0 ≤ hL f.hats (sL f.body nodes))
theorem fewB_in {f : Fl} {vars nodes : Int} (hn : nodes ≤ 1000000) (h : fewB f vars nodes = true) : f.vars.length ≤ vars ∧ f.hats.length ≤ vars ∧ nodesS f.body + nodesH f.hats ≤ nodes ∧ bndL f.body = true := by
 unfold fewB at h;split at h
 · cases h
 rename_i h1;simp only [decide_eq_true_eq] at h;have e1 := hL_pos _ _ h;have e2 := hL_le f.hats (sL f.body nodes);have e3 := sL_pos f.body nodes hn (by omega);exact ⟨by omega, by omega, by omega, e3.2⟩
theorem tleft_con (t : Tm) : ∀ left : Int, -1000000 ≤ left → left ≤ 1000000 → ∀ d : Nat, Con Tryz.prog 59 true [aT t, li left] (.v (li (tL t left))) none d := by
 induction t using Tm.ind with
 | h o n ks ih =>
 intro left h1 h2 d;obtain ⟨res, hres⟩ : ∃ r, tL (.mk o n ks) left = r := ⟨_, rfl⟩;rw [hres];simp only [tL] at hres;have hw0 : IntKind.i64.wrap (left - 1) = left - 1 := wrap_in (by omega) (by omega);refine con_of_HTA Tryz.func59 ?_;simp only [Tryz.f59];simp only [aT, Tm.enc];refine HT_sA ?_;refine HT_sA ?_;refine HT_seq <| HT_seq <| HT_runA ?_;refine HT_block <| (HT_loopU [2] (fun (x : Nat × Int) => [(1, .v (li x.2)), (5, .v (li x.1))]) (fun x => [(2, .box [.c (iC o), .c (iC n), .c (.sl 3 (encTs ks))])]) (fun x => x.1 ≤ ks.length ∧ tLs (ks.drop x.1) x.2 = res ∧ -1000001 ≤ x.2 ∧ x.2 + x.1 ≤ 1000000) (fun x => ks.length - x.1) (0, left - 1) ⟨Nat.zero_le _, by simpa using hres, by simp only; omega, by simp only; omega⟩ ?_ ?_)
 · exact le_mkA (fun n => n) []
 rintro ⟨k, m⟩ ⟨hk, hJ, hm, hm2⟩;simp only [upS, keepS, insS]
 try simp only [keepS, KN, Nat.reduceBEq, if_true, if_false, ins, Nat.reduceLT]
 simp only at hk hJ hm hm2;refine HT_seq <| HT_seq <| HT_runA ?_;refine (HT_cond rfl (fun h5 => HT_skip ?_) (fun h5 => ?_))
 · (try simp only[BN]at h5);have hlt : k < ks.length := by omega
   have hm0 : 0 ≤ m := by omega
   obtain ⟨⟨eo, en, ek⟩, he, hd⟩ := at_lt hlt;have he' := get_encT he;simp only [Tm.enc] at he';have hw1 : IntKind.i64.wrap ((k : Int) + 1) = (k : Int) + 1 := wrap_in (by omega) (by omega);rw [hd] at hJ;simp only [tLs] at hJ;rw [if_pos hm0] at hJ;have hk1 : k + 1 ≤ ks.length := hlt;have c := ih _ (List.mem_of_getElem? he) m (by omega) (by omega);have hti := tL_in (.mk eo en ek) m;have hlo : -1 ≤ lo1 (m - 1) := by unfold lo1; split <;> omega
   obtain ⟨M, hM⟩ : ∃ x, tL (.mk eo en ek) m = x := ⟨_, rfl⟩;rw [hM] at c hJ hti;clear hlt h5 hM ih hd;refine HT_seq <| HT_block <| (HT_runcA [⟨true, .v (li M), none⟩] ?_ ?_)
   · first | exact c _ | exact trivial | simpa [*] using c _
   refine HT_runA ?_;exact ⟨(k + 1, M), ⟨hk1, hJ, by simp only; omega, by simp only; omega⟩, by simp only; omega, le_mkA (fun n => n) []⟩
 try simp only[BN]at h5
 have hz : tLs (ks.drop k) m = m := by
  by_cases hm0 : m < 0
  · exact tLs_neg _ _ hm0
  have hkl : k = ks.length := by omega
  rw [hkl, List.drop_length];rfl
 rw [hz] at hJ;subst hJ;refine (HT_exit ?_);refine HT_sA ?_;exact HT_rA
theorem sleft_con (l : List St) : ∀ left : Int, -1000000 ≤ left → left ≤ 1000000 → ∀ d : Nat, Con Tryz.prog 58 true [lS l, li left] (.v (li (sL l left))) none d := by
 revert l
 apply St.lists;intro l ih left h1 h2 d;obtain ⟨res, hres⟩ : ∃ r, sL l left = r := ⟨_, rfl⟩;rw [hres];refine con_of_HTA Tryz.func58 ?_;simp only [Tryz.f58];refine HT_sA ?_;refine HT_seq <| HT_seq <| HT_runA ?_;refine HT_block <| (HT_loopU [0] (fun (x : Nat × Int) => [(1, .v (li x.2)), (5, .v (li x.1))]) (fun x => []) (fun x => x.1 ≤ l.length ∧ sL (l.drop x.1) x.2 = res ∧ -1000001 ≤ x.2 ∧ x.2 + x.1 ≤ 1000000) (fun x => l.length - x.1) (0, left) ⟨Nat.zero_le _, hres, by simp only; omega, by simp only; omega⟩ ?_ ?_)
 · exact le_mkA (fun n => n) []
 rintro ⟨k, m⟩ ⟨hk, hJ, hm, hm2⟩;simp only [upS, keepS, insS]
 try simp only [keepS, KN, Nat.reduceBEq, if_true, if_false, ins, Nat.reduceLT]
 simp only at hk hJ hm hm2;clear hres;refine HT_seq <| HT_seq <| HT_runA ?_;refine (HT_cond rfl (fun h4 => HT_skip ?_) (fun h4 => ?_))
 · (try simp only[BN]at h4);have hlt : k < l.length := by omega
   have hm0 : 0 ≤ m := by omega
   obtain ⟨s, he, hd⟩ := at_lt hlt;have hmem : s ∈ l := List.mem_of_getElem? he;have iha := (ih s hmem).1;have ihb := (ih s hmem).2;have hw1 : IntKind.i64.wrap ((k : Int) + 1) = (k : Int) + 1 := wrap_in (by omega) (by omega);have hk1 : k + 1 ≤ l.length := hlt;have he' := get_encS he;obtain ⟨sd, sc, sv, sn, ⟨so, stn, sks⟩, sa, sb, sbs⟩ := s;simp only [St.then_, St.else_] at iha ihb;simp only [St.enc, Tm.enc, List.cons_append, List.nil_append] at he';rw [hd] at hJ;simp only [sL] at hJ;rw [if_pos hm0] at hJ;have hw2 : IntKind.i64.wrap (m - 1) = m - 1 := wrap_in (by omega) (by omega);have c := tleft_con (.mk so stn sks) (m - 1) (by omega) (by omega);have hti := tL_in (.mk so stn sks) (m - 1);have hlo : -2 ≤ lo1 (m - 1 - 1) := by unfold lo1; split <;> omega
   obtain ⟨M, hM⟩ : ∃ x, tL (.mk so stn sks) (m - 1) = x := ⟨_, rfl⟩;rw [hM] at c hJ hti;simp only [aT, Tm.enc, List.map_cons, List.map_nil] at c;clear hlt h4 hM ih hd hmem;refine HT_seq <| HT_block <| HT_seq <| (HT_runcA [⟨true, .v (li M), none⟩] ?_ ?_)
   · first | exact c _ | exact trivial | simpa [*] using c _
   refine HT_seq <| HT_seq <| HT_runA ?_;refine (HT_cs rfl (fun h7 => ?_) fun h7 => ?_)
   · (try simp only[BN]at h7);rw [if_pos h7] at hJ;subst hJ;refine HT_sA ?_;exact HT_rA
   (try simp only[BN]at h7);rw [if_neg (by omega)] at hJ;have hw3 : IntKind.i64.wrap (M - (sbs.length : Int)) = M - (sbs.length : Int) := wrap_in (by omega) (by omega);have c1 := iha (M - sbs.length) (by omega) (by omega);have s1 := sL_in sa (M - sbs.length);have hl1 : -1 ≤ lo1 (M - sbs.length) := by unfold lo1; split <;> omega
   obtain ⟨M1, hM1⟩ : ∃ x, sL sa (M - sbs.length) = x := ⟨_, rfl⟩;rw [hM1] at c1 s1 hJ;have c2 := ihb M1 (by omega) (by omega);have s2 := sL_in sb M1;have hl2 : -1 ≤ lo1 M1 := by unfold lo1; split <;> omega
   obtain ⟨M2, hM2⟩ : ∃ x, sL sb M1 = x := ⟨_, rfl⟩;rw [hM2] at c2 s2 hJ;clear iha ihb hM1 hM2 h7 c;refine (HT_drunc [⟨true, .v (li M1), none⟩, ⟨true, .v (li M2), none⟩] (by kernel_rfl) (by kernel_rfl) (by rfl) (by simp [*]; first | exact ⟨rfl, Iff.rfl⟩ | exact ⟨rfl, trivial⟩ | rfl) ?_ ?_)
   · first | exact ⟨c1 _, c2 _⟩ | exact trivial | (repeat' first | exact trivial | exact c1 _ | exact c2 _ | apply And.intro)
   refine HT_runA ?_;exact ⟨(k + 1, M2), ⟨hk1, hJ, by simp only; omega, by simp only; omega⟩, by simp only; omega, le_mkA (fun n => n) []⟩
 try simp only[BN]at h4
 have hz : sL (l.drop k) m = m := by
  by_cases hm0 : m < 0
  · exact sL_neg _ _ hm0
  have hkl : k = l.length := by omega
  rw [hkl, List.drop_length];simp [sL]
 rw [hz] at hJ;subst hJ;refine (HT_exit ?_);refine HT_sA ?_;exact HT_rA
theorem few_con (f : Fl) (vars nodes : Int) (hv : 0 ≤ vars ∧ vars ≤ 1000) (hn : 0 ≤ nodes ∧ nodes ≤ 1000) (d : Nat) : Con Tryz.prog 32 true [aF f, li vars, li nodes] (.v (lb (fewB f vars nodes))) none d := by
 obtain ⟨vs, hats, body⟩ := f;obtain ⟨res, hres⟩ : ∃ r, fewB ⟨vs, hats, body⟩ vars nodes = r := ⟨_, rfl⟩;rw [hres];unfold fewB at hres;simp only at hres;have cs := sleft_con body nodes (by omega) (by omega);have hsi := sL_in body nodes;have hlo : -2 ≤ lo1 nodes := by unfold lo1; split <;> omega
 obtain ⟨S, hS⟩ : ∃ x, sL body nodes = x := ⟨_, rfl⟩;rw [hS] at hres cs hsi;clear hS;refine con_of_HTA Tryz.func32 ?_;simp only [Tryz.f32];simp only [aF, Fl.enc, List.map_cons, List.map_nil];refine HT_sA ?_;refine HT_seq <| HT_seq <| HT_runA ?_;refine (HT_cs rfl (fun h2 => ?_) fun h2 => ?_)
 · (try simp only[BN]at h2);rw [if_pos (by omega)] at hres;subst hres;refine HT_sA ?_;exact HT_rA
 (try simp only[BN]at h2);rw [if_neg (by omega)] at hres;obtain ⟨E, hE⟩ : ∃ x, hL hats S = x := ⟨_, rfl⟩;rw [hE] at hres;refine HT_scA [⟨true, .v (li S), none⟩] ?_ ?_
 · first | exact cs _ | exact trivial | simpa [*] using cs _
 refine HT_seq <| HT_seq <| HT_runA ?_;refine HT_block <| (HT_loopU [27, 28] (fun (x : Nat × Int) => [(7, .v (li x.2)), (29, .v (li x.1))]) (fun x => []) (fun x => x.1 ≤ hats.length ∧ hL (hats.drop x.1) x.2 = E ∧ -2 - (x.1 : Int) ≤ x.2 ∧ x.2 ≤ 1000) (fun x => hats.length - x.1) (0, S) ⟨Nat.zero_le _, hE, by simp only; omega, by simp only; omega⟩ ?_ ?_)
 · exact le_mkA (fun n => n) []
 rintro ⟨k, m⟩ ⟨hk, hJ, hm, hm2⟩;simp only [upS, keepS, insS]
 try simp only [keepS, KN, Nat.reduceBEq, if_true, if_false, ins, Nat.reduceLT]
 simp only at hk hJ hm hm2;clear hE;refine HT_sA ?_;refine HT_seq <| (HT_cond rfl (fun h9 => HT_skip ?_) (fun h9 => ?_))
 · (try simp only[BN]at h9);have hlt : k < hats.length := by omega
   obtain ⟨h, he, hd⟩ := at_lt hlt;have hw1 : IntKind.i64.wrap ((k : Int) + 1) = (k : Int) + 1 := wrap_in (by omega) (by omega);have hk1 : k + 1 ≤ hats.length := hlt;have c := tleft_con h.term m (by omega) (by omega);have hti := tL_in h.term m;have hl1 : -3 - (k : Int) ≤ lo1 (m - 1) := by unfold lo1; split <;> omega
   rw [hd] at hJ;simp only [hL] at hJ;obtain ⟨nm, lo, hi, ⟨o, tn, ks⟩⟩ := h;simp only at c hti hJ;obtain ⟨M, hM⟩ : ∃ x, tL (.mk o tn ks) m = x := ⟨_, rfl⟩;rw [hM] at c hJ hti;simp only [aT, Tm.enc, List.map_cons, List.map_nil] at c;clear hlt h9 hM hd;refine HT_seq <| HT_block <| HT_seq <| HT_runA ?_;refine (HT_runcA [⟨true, .v (li M), none⟩] ?_ ?_)
   · first | exact c _ | exact trivial | simpa [*] using c _
   refine HT_runA ?_;exact ⟨(k + 1, M), ⟨hk1, hJ, by simp only; omega, by simp only; omega⟩, by simp only; omega, le_mkA (fun n => n) []⟩
 (try simp only[BN]at h9);have hkl : k = hats.length := by omega
 rw [hkl, List.drop_length] at hJ;simp only [hL] at hJ;subst hJ;subst hres;refine (HT_exit ?_);refine HT_sA ?_;exact HT_rA
end Go.Proofs.YtfjidddhehckoaaGreat

namespace Go.Proofs.YtfjidddhehckoaaGreat
open Go Go.Hl
def xVs : List Vr := [⟨⟨#[120]⟩, 1, 0, 1, 0⟩, ⟨⟨#[121]⟩, 0, 0, 1, 0⟩]
def xS : St := .mk 0 0 1 0 (.mk 0 1 []) [] [] []
def x0 : St := .mk 3 0 0 0 (.mk 24 0 []) [xS] [] []
def x1 : St := .mk 1 0 0 0 (.mk 24 1 []) [] [] []
def XF : Fl := ⟨xVs, [], [x0, x1]⟩
def XP (o : Int) : Po := ⟨[⟨#[108, 111, 119]⟩, ⟨#[104, 105, 103, 104]⟩], [(0, 1)], [], [], o, false⟩
theorem xcode : codeC XF = 0 := by
 simp only [XF, codeC, sizesB, x0, x1, xS, sdL, tdeep, ssC];kernel_rfl
theorem xpol0 : polC (XP 0) = 0 := by kernel_rfl
theorem xpol1 : polC (XP 1) = 0 := by kernel_rfl
theorem xpin0 : pinF XF (XP 0) = ([1, 0], 0) := by
 unfold pinF;rw [xpol0, xcode];kernel_rfl
theorem xpin1 : pinF XF (XP 1) = ([1, 0], 0) := by
 unfold pinF;rw [xpol1, xcode];kernel_rfl
theorem xpht0 : phtF XF (XP 0) = ([], 0) := by
 unfold phtF;rw [xpol0, xcode];kernel_rfl
theorem xpht1 : phtF XF (XP 1) = ([], 0) := by
 unfold phtF;rw [xpol1, xcode];kernel_rfl
theorem xask0 : askC XF (XP 0) = 0 := by
 unfold askC;rw [xpin0, xpht0];simp only [XF, x0, x1, xS, relL, relS];kernel_rfl
theorem xask1 : askC XF (XP 1) = 0 := by
 unfold askC;rw [xpin1, xpht1];simp only [XF, x0, x1, xS, relL, relS];kernel_rfl
theorem xset : setlB XF = false := by kernel_rfl
theorem xty0 : (tyR XF (XP 0)).1 = [1, 1] ∧ (tyR XF (XP 0)).2.faults = [2] := by
 unfold tyR envF;rw [xpin0, xpht0];simp only [XF, x0, x1, xS, tyL, tyS];exact ⟨by kernel_rfl, by kernel_rfl⟩
theorem xty1 : (tyR XF (XP 1)).1 = [1, 1] ∧ (tyR XF (XP 1)).2.faults = [] := by
 unfold tyR envF;rw [xpin1, xpht1];simp only [XF, x0, x1, xS, tyL, tyS];exact ⟨by kernel_rfl, by kernel_rfl⟩
theorem tyE_of {f : Fl} {p : Po} (h : setlB f = false) : tyE f p = tyR f p := by
 unfold tyE;rw [h];rfl
theorem xchk0 : ∃ t, chkR XF (XP 0) = .tup [aTg false [2] t [1, 1], li 0] := by
 unfold chkR accB;rw [if_pos xask0, tyE_of xset, xty0.1, xty0.2];exact ⟨_, rfl⟩
theorem xchk1 : ∃ t, chkR XF (XP 1) = .tup [aTg true [] t [1, 1], li 0] := by
 unfold chkR accB;rw [if_pos xask1, tyE_of xset, xty1.1, xty1.2];exact ⟨_, rfl⟩
def fitP (f : Fl) (p : Po) : Bool := fewB f 10 80 && decide (p.levels.length ≤ 8) && decide (p.order.length ≤ 20) && decide (p.inputs.length ≤ 20) && decide (p.hatches.length ≤ 20)
structure Sm (f : Fl) (p : Po) : Prop where
 sf : smF f
 sp : smQ p
 rep : repC f.hats.length
 nv : f.vars.length ≤ 10
 nn : nodesS f.body + nodesH f.hats ≤ 80
 nl : p.levels.length ≤ 8
theorem fit_in {f : Fl} {p : Po} (h : fitP f p = true) : Sm f p := by
 unfold fitP at h;simp only [Bool.and_eq_true, decide_eq_true_eq] at h;obtain ⟨⟨⟨⟨h1, h2⟩, h3⟩, h4⟩, h5⟩ := h;obtain ⟨k1, k2, k3, k4⟩ := fewB_in (nodes := 80) (by decide) h1;exact ⟨⟨by omega, by omega, by omega, k4⟩, ⟨by omega, by omega, by omega, by omega⟩, repC_holds (by omega), by omega, by omega, h2⟩
theorem chkS_con {f : Fl} {p : Po} (h : Sm f p) (d : Nat) : Con Tryz.prog 12 false [aF f, aPo p] (chkR f p) none d := by
 refine checkT_con f p (smQ_smP h.sp) h.rep h.sf.hv h.sf.hh h.sf.hn h.sf.hb (fun ha => ?_) d
 have hJ : ∀ a b, okI (envF f p).n ((envF f p).J a b) := by
  have hp : (pinF f p).2 = 0 := by
   unfold askC at ha;split at ha
   · rename_i h1; exact absurd ha h1
   rename_i h1; simpa using h1
  obtain ⟨hM, h1, _⟩ := pol_new (pin_out hp).1;exact J_ok h1 hM
 have hp : (pinF f p).2 = 0 := by
  unfold askC at ha;split at ha
  · rename_i h1; exact absurd ha h1
  rename_i h1; simpa using h1
 obtain ⟨hpol, _, hpin⟩ := pin_out hp
 have hg := tyL_gd hJ (fuF f p) f.body p.bot (pinF f p).1 (t0F p) (bot_ok hpol) (by
  rw [hpin];intro x hx;obtain ⟨v, _, rfl⟩ := List.mem_map.1 hx
  exact lev_ok hpol v)
 have : (tyE f p).1.length = f.vars.length := by
  show (tyR f p).1.length = _;unfold tyR;rw [hg.1, hpin, List.length_map]
 have := h.nv;omega
theorem fit_con (f : Fl) (p : Po) (d : Nat) : Con Tryz.prog 10 true [aF f, aPo p] (.v (lb (fitP f p))) none d := by
 have cf := few_con f 10 80 (by decide) (by decide);unfold fitP;obtain ⟨FW, hFW⟩ : ∃ x, fewB f 10 80 = x := ⟨_, rfl⟩;rw [hFW] at cf ⊢;obtain ⟨vars, hats, body⟩ := f;obtain ⟨ls, os, is, hts, ob, tm⟩ := p;have hln : (encNs ls).length = ls.length := by simp [encNs]
 have hol : (encPr os).length = os.length := by simp [encPr]
 have e1 : (decide ((ls.length : Int) ≤ 8)) = decide (ls.length ≤ 8) := by simp; omega
 have e2 : (decide ((os.length : Int) ≤ 20)) = decide (os.length ≤ 20) := by simp; omega
 have e3 : (decide ((is.length : Int) ≤ 20)) = decide (is.length ≤ 20) := by simp; omega
 have e4 : (decide ((hts.length : Int) ≤ 20)) = decide (hts.length ≤ 20) := by simp; omega
 clear hFW;refine con_of_HTA Tryz.func10 ?_;simp only [Tryz.f10];simp only [aF, Fl.enc, aPo, Po.enc, List.map_cons, List.map_nil] at cf ⊢;refine HT_sA ?_;refine HT_scA [⟨true, .v (lb FW), none⟩] ?_ ?_
 · first | exact cf _ | exact trivial | simpa [*] using cf _
 exact HT_rA
end Go.Proofs.YtfjidddhehckoaaGreat

namespace Go.Proofs.YtfjidddhehckoaaGreat
open Go Go.Hl
section
variable {e : En}
theorem ouL_ok (hJ : ∀ a b, okI e.n (e.J a b)) (fu : Nat) (l : List St) (pc : Int) (st : List Int) (hp : okI e.n pc) (ho : okV e.n st) : (ouL e fu l pc st).length = st.length ∧ okV e.n (ouL e fu l pc st) := by
 have h := tyL_gd hJ fu l pc st ⟨0, [], 0, false, [], []⟩ hp ho;have k := (tyL_lg e fu l pc st ⟨0, [], 0, false, [], []⟩).out;rw [← k];exact ⟨h.1, h.2.1⟩
theorem ouS_ok (hJ : ∀ a b, okI e.n (e.J a b)) (fu : Nat) (s : St) (pc : Int) (st : List Int) (hp : okI e.n pc) (ho : okV e.n st) : (ouS e fu s pc st).length = st.length ∧ okV e.n (ouS e fu s pc st) := by
 have h := ouL_ok hJ fu [s] pc st hp ho;simpa only [ouL] using h
theorem fx_ok (hJ : ∀ a b, okI e.n (e.J a b)) {nl : List Int → Int} {g : Int → List Int → List Int} (hnl : ∀ st, okV e.n st → okI e.n (nl st)) (hg : ∀ pc st, okI e.n pc → okV e.n st → (g pc st).length = st.length ∧ okV e.n (g pc st)) :
  ∀ (k : Nat) (st : List Int), okV e.n st → (fxF e.J nl g k st).length = st.length ∧ okV e.n (fxF e.J nl g k st)
 | 0, st, ho => ⟨rfl, ho⟩
 | k + 1, st, ho => by
   simp only [fxF];obtain ⟨h1, h2⟩ := hg (nl st) st (hnl st ho) ho;split
   · exact ⟨rfl, ho⟩
   have := fx_ok hJ hnl hg k (mgF e.J st (g (nl st) st)) (mgF_ok hJ _ _);rw [mgF_len _ h1] at this;exact this
theorem fx_fix (hn : 0 < e.n) (hM : Lt.Lat e.n e.M) {nl : List Int → Int} {g : Int → List Int → List Int} (hnl : ∀ st, okV e.n st → okI e.n (nl st)) (hg : ∀ pc st, okI e.n pc → okV e.n st → (g pc st).length = st.length ∧ okV e.n (g pc st)) :
  ∀ (k : Nat) (st : List Int), okV e.n st → muV e.n e.M st < k → mgF e.J (fxF e.J nl g k st) (g (nl (fxF e.J nl g k st)) (fxF e.J nl g k st)) = fxF e.J nl g k st
 | 0, st, ho, h => absurd h (Nat.not_lt_zero _)
 | k + 1, st, ho, h => by
   simp only [fxF];obtain ⟨h1, h2⟩ := hg (nl st) st (hnl st ho) ho;by_cases hm : mgF e.J st (g (nl st) st) = st
   · rw [if_pos hm]; exact hm
   rw [if_neg hm];have := (mu_mg hM h1 ho h2).2 hm;exact fx_fix hn hM hnl hg k _ (mgF_ok (J_ok hn hM) _ _) (by omega)
def LV (e : En) (a b : List Int) : Prop := a.length = b.length ∧ ∀ (i : Nat) (x y : Int), a[i]? = some x → b[i]? = some y → e.L x y
theorem LV_refl (hM : Lt.Lat e.n e.M) {a : List Int} (ha : okV e.n a) : LV e a a := ⟨rfl, fun i x y hx hy => by rw [hx] at hy; cases hy; exact L_refl hM (ha x (List.mem_of_getElem? hx))⟩
theorem LV_trans (hM : Lt.Lat e.n e.M) {a b c : List Int} (ha : okV e.n a) (hb : okV e.n b) (hc : okV e.n c) (h : LV e a b) (k : LV e b c) : LV e a c :=
 ⟨h.1.trans k.1, fun i x y hx hy => by
  have hi := (List.getElem?_eq_some_iff.1 hx).1;obtain ⟨z, hz⟩ : ∃ z, b[i]? = some z := ⟨_, List.getElem?_eq_getElem (by have := h.1; omega)⟩
  exact L_trans hM (ha x (List.mem_of_getElem? hx)) (hb z (List.mem_of_getElem? hz)) (hc y (List.mem_of_getElem? hy)) (h.2 i x z hx hz) (k.2 i z y hz hy)⟩
theorem mg_get2 {J : Int → Int → Int} {a b : List Int} {i : Nat} {x : Int} (h : (mgF J a b)[i]? = some x) : ∃ y z, a[i]? = some y ∧ b[i]? = some z ∧ x = J y z := by
 unfold mgF at h;rw [List.getElem?_zipWith] at h;cases ha : a[i]? with
 | none => rw [ha] at h; simp at h
 | some y => cases hb : b[i]? with
   | none => rw [ha, hb] at h; simp at h
   | some z => rw [ha, hb] at h; simp at h; exact ⟨y, z, rfl, rfl, h.symm⟩
theorem mg_l (hn : 0 < e.n) (hM : Lt.Lat e.n e.M) {a b : List Int} (ha : okV e.n a) (hb : okV e.n b) (hl : b.length = a.length) : LV e a (mgF e.J a b) :=
 ⟨(mgF_len _ hl).symm, fun i x y hx hy => by
   obtain ⟨u, v, h1, h2, rfl⟩ := mg_get2 hy;rw [hx] at h1; cases h1
   exact J_l hM (ha x (List.mem_of_getElem? hx)) (hb v (List.mem_of_getElem? h2))⟩
theorem mg_r (hn : 0 < e.n) (hM : Lt.Lat e.n e.M) {a b : List Int} (ha : okV e.n a) (hb : okV e.n b) (hl : b.length = a.length) : LV e b (mgF e.J a b) :=
 ⟨by rw [mgF_len _ hl, hl], fun i x y hx hy => by
  obtain ⟨u, v, h1, h2, rfl⟩ := mg_get2 hy;rw [hx] at h2; cases h2
  exact J_r hM (ha u (List.mem_of_getElem? h1)) (hb x (List.mem_of_getElem? hx))⟩
def fuel (e : En) (k fu : Nat) : Prop := e.n * k < fu
theorem fx_le (hn : 0 < e.n) (hM : Lt.Lat e.n e.M) {nl : List Int → Int} {g : Int → List Int → List Int} (hnl : ∀ st, okV e.n st → okI e.n (nl st)) (hg : ∀ pc st, okI e.n pc → okV e.n st → (g pc st).length = st.length ∧ okV e.n (g pc st)) :
  ∀ (k : Nat) (st : List Int), okV e.n st → LV e st (fxF e.J nl g k st)
 | 0, st, ho => LV_refl hM ho
 | k + 1, st, ho => by
   simp only [fxF];obtain ⟨h1, h2⟩ := hg (nl st) st (hnl st ho) ho;split
   · exact LV_refl hM ho
   have hm := mgF_ok (J_ok hn hM) st (g (nl st) st);exact LV_trans hM ho hm (fx_ok (J_ok hn hM) hnl hg k _ hm).2 (mg_l hn hM ho h2 h1) (fx_le hn hM hnl hg k _ hm)
theorem fx_out (hn : 0 < e.n) (hM : Lt.Lat e.n e.M) {fu : Nat} {tm : Tm} {a : List St} {pc : Int} {st : List Int} (hp : okI e.n pc) (ho : okV e.n st) (hf : fuel e st.length fu) :
  (fxF e.J (fun s => tlT e.J s tm pc) (ouL e fu a) fu st).length = st.length ∧ okV e.n (fxF e.J (fun s => tlT e.J s tm pc) (ouL e fu a) fu st) ∧ LV e st (fxF e.J (fun s => tlT e.J s tm pc) (ouL e fu a) fu st) ∧
  mgF e.J (fxF e.J (fun s => tlT e.J s tm pc) (ouL e fu a) fu st) (ouL e fu a (tlT e.J (fxF e.J (fun s => tlT e.J s tm pc) (ouL e fu a) fu st) tm pc) (fxF e.J (fun s => tlT e.J s tm pc) (ouL e fu a) fu st)) = fxF e.J (fun s => tlT e.J s tm pc) (ouL e fu a) fu st ∧
  LV e (ouL e fu a (tlT e.J (fxF e.J (fun s => tlT e.J s tm pc) (ouL e fu a) fu st) tm pc) (fxF e.J (fun s => tlT e.J s tm pc) (ouL e fu a) fu st)) (fxF e.J (fun s => tlT e.J s tm pc) (ouL e fu a) fu st) := by
 have hJ := J_ok hn hM;have hnl : ∀ s, okV e.n s → okI e.n (tlT e.J s tm pc) := fun s _ => tlT_ok hJ s tm pc hp;have hg := fun p s h1 h2 => ouL_ok hJ fu a p s h1 h2;have h1 := fx_ok hJ (nl := fun s => tlT e.J s tm pc) hnl hg fu st ho;have h2 := fx_fix hn hM (nl := fun s => tlT e.J s tm pc) hnl hg fu st ho (by have := muV_le e.n e.M st; unfold fuel at hf; omega);have h3 := fx_le hn hM (nl := fun s => tlT e.J s tm pc) hnl hg fu st ho;obtain ⟨X, hX⟩ : ∃ x, fxF e.J (fun s => tlT e.J s tm pc) (ouL e fu a) fu st = x := ⟨_, rfl⟩;rw [hX] at h1 h2 h3 ⊢;obtain ⟨k1, k2⟩ := hg (tlT e.J X tm pc) X (hnl X h1.2) h1.2;exact ⟨h1.1, h1.2, h3, h2, by have := mg_r hn hM h1.2 k2 k1; rwa [h2] at this⟩
end
end Go.Proofs.YtfjidddhehckoaaGreat

namespace Go.Proofs.YtfjidddhehckoaaGreat
open Go Go.Hl
section
variable {e : En}
theorem fx_okN (hJ : ∀ a b, okI e.n (e.J a b)) {fu : Nat} {tm : Tm} {a : List St} {pc : Int} {st : List Int} (hp : okI e.n pc) (ho : okV e.n st) :
  (fxF e.J (fun s => tlT e.J s tm pc) (ouL e fu a) fu st).length = st.length ∧ okV e.n (fxF e.J (fun s => tlT e.J s tm pc) (ouL e fu a) fu st) :=
 fx_ok hJ (nl := fun s => tlT e.J s tm pc) (fun s _ => tlT_ok hJ s tm pc hp) (fun p s h1 h2 => ouL_ok hJ fu a p s h1 h2) fu st ho
theorem fxT_ok (hJ : ∀ a b, okI e.n (e.J a b)) {nl : List Int → Int} {g m : Int → List Int → List Int} (hnl : ∀ st, okV e.n st → okI e.n (nl st))
  (hm : ∀ pc st, okI e.n pc → okV e.n st → okV e.n (m pc st)) : ∀ (k : Nat) (st : List Int), okV e.n st → okV e.n (fxT e.J nl g m k st)
 | 0, st, ho => by intro x hx; simp [fxT] at hx
 | k + 1, st, ho => by
   simp only [fxT];intro x hx;rcases List.mem_append.1 hx with hx | hx
   · exact hm _ _ (hnl st ho) ho x hx
   split at hx
   · cases hx
   exact fxT_ok hJ hnl hm k _ (mgF_ok hJ _ _) x hx
mutual
theorem tmS_ok (hJ : ∀ a b, okI e.n (e.J a b)) (fu : Nat) : ∀ (s : St) (pc : Int) (st : List Int), okI e.n pc → okV e.n st → okV e.n (tmS e fu s pc st)
 | .mk d c v n tm a b bs, pc, st, hp, ho => by
   simp only [tmS];intro x hx;split at hx
   · obtain ⟨x1, x2⟩ := fx_okN (fu := fu) (tm := tm) (a := a) hJ hp ho;obtain ⟨X, hX⟩ : ∃ x, fxF e.J (fun s => tlT e.J s tm pc) (ouL e fu a) fu st = x := ⟨_, rfl⟩;rw [hX] at x1 x2 hx;rcases List.mem_append.1 hx with hx | hx
     · exact fxT_ok hJ (nl := fun s => tlT e.J s tm pc) (fun s _ => tlT_ok hJ s tm pc hp) (fun p s h1 h2 => tmL_ok hJ fu a p s h1 h2) fu st ho x hx
     rcases List.mem_append.1 hx with hx | hx
     · exact tmL_ok hJ fu a _ X (tlT_ok hJ X tm pc hp) x2 x hx
     split at hx
     · rw [List.mem_singleton] at hx; subst hx; exact tlT_ok hJ X tm pc hp
     cases hx
   split at hx
   · rcases List.mem_append.1 hx with hx | hx
     · exact tmL_ok hJ fu a _ st (tlT_ok hJ st tm pc hp) ho x hx
     rcases List.mem_append.1 hx with hx | hx
     · exact tmL_ok hJ fu b _ st (tlT_ok hJ st tm pc hp) ho x hx
     split at hx
     · cases hx
     rw [List.mem_singleton] at hx; subst hx; exact tlT_ok hJ st tm pc hp
   cases hx
theorem tmL_ok (hJ : ∀ a b, okI e.n (e.J a b)) (fu : Nat) : ∀ (l : List St) (pc : Int) (st : List Int), okI e.n pc → okV e.n st → okV e.n (tmL e fu l pc st)
 | [], pc, st, hp, ho => by intro x hx; simp [tmL] at hx
 | s :: l, pc, st, hp, ho => by
   simp only [tmL];intro x hx;obtain ⟨h1, h2⟩ := ouS_ok hJ fu s pc st hp ho;rcases List.mem_append.1 hx with hx | hx
   · exact tmS_ok hJ fu s pc st hp ho x hx
   exact tmL_ok hJ fu l pc _ hp h2 x hx
end
end
end Go.Proofs.YtfjidddhehckoaaGreat

namespace Go.Proofs.YtfjidddhehckoaaGreat
open Go Go.Hl
structure Gd0 (f : Fl) (p : Po) : Prop where
 hp : polC p = 0
 hc : codeC f = 0
 hin : (pinF f p).1 = f.vars.map (levV p)
 hhl : (phtF f p).1.length = f.hats.length
 hn : 0 < p.n
 hM : Lt.Lat p.n p.M
 h12 : p.n ≤ 12
 ho : okI p.n p.observer
theorem ask_gd {f : Fl} {p : Po} (h : askC f p = 0) : Gd0 f p := by
 have h1 : (pinF f p).2 = 0 := by
  unfold askC at h;split at h
  · rename_i h1; exact absurd h h1
  rename_i h1; simpa using h1
 have h2 : (phtF f p).2 = 0 := by
  unfold askC at h;rw [if_neg (by rw [h1]; simp)] at h;split at h
  · rename_i h2; exact absurd h h2
  rename_i h2; simpa using h2
 obtain ⟨hp, hc, hi⟩ := pin_out h1;obtain ⟨hM, hn, h12⟩ := pol_new hp;refine ⟨hp, hc, hi, pht_out h2, hn, hM, h12, ?_⟩;unfold polC at hp;split at hp
 · rename_i h; exact absurd hp h
 split at hp
 · cases hp
 split at hp
 · rename_i h; exact absurd hp h
 split at hp
 · rename_i h; exact absurd hp h
 split at hp
 · cases hp
 exact ⟨by omega, by unfold Po.n; omega⟩
section
variable {f : Fl} {p : Po}
def s0F (f : Fl) (p : Po) : List Int := f.vars.map (levV p)
def ouE (f : Fl) (p : Po) : List Int := ouL (envF f p) (fuF f p) f.body p.bot (s0F f p)
def tmE (f : Fl) (p : Po) : List Int := tmL (envF f p) (fuF f p) f.body p.bot (s0F f p)
def lgE (f : Fl) (p : Po) : List Ent := lgL (envF f p) (fuF f p) f.body p.bot (s0F f p)
theorem tyR_lg (h : Gd0 f p) : (tyR f p).1 = ouE f p ∧ (tyR f p).2.time = (tmE f p).foldl (envF f p).J p.bot ∧ (tyR f p).2.faults = fltF (envF f p) 0 (lgE f p) ∧ (tyR f p).2.states = (lgE f p).map (·.2.1) ∧ (tyR f p).2.counts = (lgE f p).map (·.2.2) := by
 have hl := tyL_lg (envF f p) (fuF f p) f.body p.bot (s0F f p) (t0F p);unfold tyR;rw [show (pinF f p).1 = s0F f p from h.hin];refine ⟨hl.out, hl.time, ?_, ?_, ?_⟩
 · have := hl.faults;simpa [t0F, lgE] using this
 · have := hl.states;simpa [t0F, lgE] using this
 have := hl.counts;simpa [t0F, lgE] using this
theorem s0_ok (h : Gd0 f p) : okV p.n (s0F f p) ∧ (s0F f p).length = f.vars.length :=
 ⟨fun x hx => by
  obtain ⟨v, _, rfl⟩ := List.mem_map.1 hx
  exact lev_ok h.hp v, by simp [s0F]⟩
theorem env_J (h : Gd0 f p) : ∀ a b, okI (envF f p).n ((envF f p).J a b) := J_ok (e := envF f p) h.hn h.hM
theorem tmE_ok (h : Gd0 f p) : okV (envF f p).n (tmE f p) := tmL_ok (env_J h) (fuF f p) f.body p.bot (s0F f p) (bot_ok h.hp) (s0_ok h).1
theorem tyE_out : (tyE f p).1 = (tyR f p).1 ∧ (tyE f p).2.faults = (tyR f p).2.faults ∧ (tyE f p).2.states = (tyR f p).2.states ∧ (tyE f p).2.counts = (tyR f p).2.counts ∧ (tyE f p).2.time = if setlB f = true then p.bot else (tyR f p).2.time := by
 unfold tyE;split
 · exact ⟨rfl, rfl, rfl, rfl, rfl⟩
 exact ⟨rfl, rfl, rfl, rfl, rfl⟩
theorem time_ok (h : Gd0 f p) : okI p.n (tyE f p).2.time := by
 rw [tyE_out.2.2.2.2];split
 · exact bot_ok h.hp
 rw [(tyR_lg h).2.1];exact fold_ok (e := envF f p) h.hn h.hM _ _ (bot_ok h.hp) (tmE_ok h)
end
end Go.Proofs.YtfjidddhehckoaaGreat

namespace Go.Proofs.YtfjidddhehckoaaGreat
open Go Go.Hl
section
variable {e : En}
mutual
theorem vT_eq {σ τ : List Int} : ∀ t : Tm, (∀ v : Nat, menB t v = true → σ[v]? = τ[v]?) → vT σ t = vT τ t
 | .mk o n ks, h => by
   simp only [menB, Bool.or_eq_true, Bool.and_eq_true, decide_eq_true_eq] at h;have hk := vTs_eq ks fun v hv => h v (.inr hv);simp only [vT, hk];unfold valN;by_cases h24 : o = 24
   · simp only [h24, if_true, h n.toNat (.inl ⟨h24, rfl⟩)]
   simp only [if_neg h24]
theorem vTs_eq {σ τ : List Int} : ∀ l : List Tm, (∀ v : Nat, menBs l v = true → σ[v]? = τ[v]?) → vTs σ l = vTs τ l
 | [], _ => rfl
 | t :: l, h => by
   simp only [menBs, Bool.or_eq_true] at h;simp only [vTs, vT_eq t fun v hv => h v (.inl hv), vTs_eq l fun v hv => h v (.inr hv)]
end
def lowE (e : En) (st σ τ : List Int) : Prop := ∀ (i : Nat) (x : Int), st[i]? = some x → e.L x e.W → σ[i]? = τ[i]?
def unch (e : En) (st st' σ σ' : List Int) : Prop := ∀ (i : Nat) (x' : Int), st'[i]? = some x' → e.L x' e.W → σ'[i]? = σ[i]? ∧ ∃ x, st[i]? = some x ∧ e.L x e.W
theorem setV_len2 (vars : List Vr) (vs : List Int) (v n : Int) : (setV vars vs v n).length = vs.length := by
 unfold setV;split
 · simp
 rfl
theorem setV_ne {vars : List Vr} {vs : List Int} {v n : Int} {i : Nat} (h : v.toNat ≠ i) : (setV vars vs v n)[i]? = vs[i]? := by
 unfold setV;split
 · rw [List.getElem?_set_ne h]
 rfl
theorem steps_len2 (vars : List Vr) (hv : List Int) : ∀ (l : List St) (S : Sta), (stepsF vars hv l S).vals.length = S.vals.length
 | [], S => by simp only [stepsF]
 | .mk d c v n t a b bs :: l, S => by
   simp only [stepsF];rw [steps_len2 vars hv l]
   have hr : ∀ (k : Nat) (S : Sta), (rndF c t (stepsF vars hv a) k S).vals.length = S.vals.length := by
    intro k
    induction k with
    | zero => intro S; rfl
    | succ k ih =>
      intro S;simp only [rndF];split
      · rfl
      rw [ih, steps_len2 vars hv a]; rfl
   split
   · exact hr _ _
   split
   · split
     · rw [steps_len2 vars hv b]; rfl
     rw [steps_len2 vars hv a]; rfl
   unfold leafF;split
   · exact setV_len2 _ _ _ _
   split
   · rfl
   split
   · exact setV_len2 _ _ _ _
   split
   · rfl
   rfl
def okH (n : Nat) (hv : List Int) : Prop := ∀ x ∈ hv, x = -1 ∨ okI n x
theorem hv_ok {hv : List Int} (ho : okH e.n hv) {k : Nat} (hk : k < hv.length) (h : ¬ (hv[k]?).getD 0 < 0) : okI e.n ((hv[k]?).getD 0) := by
 rw [List.getElem?_eq_getElem hk, Option.getD_some] at h ⊢;rcases ho _ (List.getElem_mem hk) with h1 | h1
 · omega
 exact h1
structure Fm (e : En) (vars : List Vr) (fu : Nat) (l : List St) : Prop where
 wf : wfL vars e.hv.length l = true
 rel : relL e.hv l = true
theorem Fm.head {vars : List Vr} {fu : Nat} {d c v n : Int} {t : Tm} {a b : List St} {bs : List Int} {l : List St} (h : Fm e vars fu (.mk d c v n t a b bs :: l)) :
  formB vars false t = true ∧ Fm e vars fu a ∧ Fm e vars fu b ∧ Fm e vars fu l ∧ (d = 5 → n.toNat < e.hv.length ∧ ¬ (e.hv[n.toNat]?).getD 0 < 0) := by
 obtain ⟨h1, h2⟩ := h;simp only [wfL, wfS, Bool.and_eq_true, Bool.or_eq_true, decide_eq_true_eq] at h1;simp only [relL, relS, Bool.and_eq_true, Bool.not_eq_true', Bool.and_eq_false_iff, decide_eq_false_iff_not] at h2;refine ⟨h1.1.1, ⟨h1.1.2.2.2.2.2.1, h2.1.2.1⟩, ⟨h1.1.2.2.2.2.2.2, h2.1.2.2⟩, ⟨h1.2, h2.2⟩, fun h5 => ⟨?_, ?_⟩⟩
 · have := h1.1.2.2.1.resolve_left (fun h => h h5);omega
 exact h2.1.1.resolve_left (fun h => h h5)
variable {vars : List Vr} {fu : Nat}
theorem unch_trans {st st1 st2 σ σ1 σ2 : List Int} (h : unch e st st1 σ σ1) (k : unch e st1 st2 σ1 σ2) : unch e st st2 σ σ2 := by
 intro i x hx hl;obtain ⟨h1, y, hy, hly⟩ := k i x hx hl;obtain ⟨h2, z⟩ := h i y hy hly;exact ⟨h1.trans h2, z⟩
theorem rnd_hi {c : Int} {t : Tm} {body : Sta → Sta} {X : List Int} (hb : ∀ S : Sta, (body S).outs = S.outs ∧ ∀ (i : Nat) (x : Int), X[i]? = some x → e.L x e.W → (body S).vals[i]? = S.vals[i]?) :
  ∀ (k : Nat) (S : Sta), (rndF c t body k S).outs = S.outs ∧ ∀ (i : Nat) (x : Int), X[i]? = some x → e.L x e.W → (rndF c t body k S).vals[i]? = S.vals[i]?
 | 0, S => ⟨rfl, fun _ _ _ _ => rfl⟩
 | k + 1, S => by
   simp only [rndF];split
   · exact ⟨rfl, fun _ _ _ _ => rfl⟩
   obtain ⟨h1, h2⟩ := rnd_hi hb k (body (tick S c));obtain ⟨h3, h4⟩ := hb (tick S c);exact ⟨h1.trans h3, fun i x hx hl => (h2 i x hx hl).trans (h4 i x hx hl)⟩
theorem lowX {X Y : List Int} (hM : Lt.Lat e.n e.M) (hW : okI e.n e.W) (hY : okV e.n Y) (hX : okV e.n X) (h : LV e Y X) {i : Nat} {x : Int} (hx : X[i]? = some x) (hl : e.L x e.W) : ∃ y, Y[i]? = some y ∧ e.L y e.W := by
 have hi := (List.getElem?_eq_some_iff.1 hx).1;obtain ⟨y, hy⟩ : ∃ y, Y[i]? = some y := ⟨_, List.getElem?_eq_getElem (by have := h.1; omega)⟩;exact ⟨y, hy, L_trans hM (hY y (List.mem_of_getElem? hy)) (hX x (List.mem_of_getElem? hx)) hW (h.2 i y x hy hx) hl⟩
theorem tl_hi (hn : 0 < e.n) (hM : Lt.Lat e.n e.M) (hW : okI e.n e.W) {st : List Int} (ho : okV e.n st) (hl : st.length = vars.length) {t : Tm} (hf : formB vars false t = true) {pc : Int} (hp : okI e.n pc) (h : ¬ e.L pc e.W) : ¬ e.L (tlT e.J st t pc) e.W :=
 fun k => h ((tl_iff hn hM ho hl hW t pc hf hp).1 k).1
theorem set_unch {st : List Int} {k : Nat} {x : Int} {σ : List Int} {v w : Int} (hv : v.toNat = k) (hx : ¬ e.L x e.W) : unch e st (st.set k x) σ (setV vars σ v w) := by
 intro i y hy hl;by_cases hi : k = i
 · subst hi;rw [List.getElem?_set] at hy;simp only [if_true] at hy;split at hy
   · cases hy; exact absurd hl hx
   cases hy
 rw [List.getElem?_set_ne hi] at hy;exact ⟨setV_ne (by omega), y, hy, hl⟩
theorem hi_steps (hn : 0 < e.n) (hM : Lt.Lat e.n e.M) (hW : okI e.n e.W) (hH : okH e.n e.hv) (hx : List Int) : ∀ (l : List St) (pc : Int) (st : List Int) (S : Sta), okI e.n pc → okV e.n st → st.length = vars.length → fuel e st.length fu → Fm e vars fu l → ¬ e.L pc e.W → (∀ x ∈ lgL e fu l pc st, fltB e x = false) →
  (stepsF vars hx l S).outs = S.outs ∧ unch e st (ouL e fu l pc st) S.vals (stepsF vars hx l S).vals
 | [], pc, st, S, hp, ho, hl, hf, hF, hh, hno => by
   simp only [stepsF, ouL];exact ⟨trivial, fun i x hx hlo => ⟨rfl, x, hx, hlo⟩⟩
 | .mk d c v n t a b bs :: l, pc, st, S, hp, ho, hl, hf, hF, hh, hno => by
   have hJ := J_ok hn hM;obtain ⟨f1, f2, f3, f4, f5⟩ := hF.head;have hX := ouS_ok hJ fu (.mk d c v n t a b bs) pc st hp ho;simp only [lgL, List.mem_append] at hno;have hnt := tl_hi hn hM hW ho hl f1 hp hh;simp only [stepsF, ouL]
   have step : ∀ S1 : Sta, S1.outs = S.outs → unch e st (ouS e fu (.mk d c v n t a b bs) pc st) S.vals S1.vals →
     (stepsF vars hx l S1).outs = S.outs ∧ unch e st (ouL e fu l pc (ouS e fu (.mk d c v n t a b bs) pc st)) S.vals (stepsF vars hx l S1).vals := by
    intro S1 h1 h2;obtain ⟨h3, h4⟩ := hi_steps hn hM hW hH hx l pc (ouS e fu (.mk d c v n t a b bs) pc st) S1 hp hX.2 (by rw [hX.1, hl]) (by rw [hX.1]; exact hf) f4 hh (fun x hx => hno x (.inr hx));exact ⟨h3.trans h1, unch_trans h2 h4⟩
   have hnoS := fun x hx => hno x (.inl hx);clear hno;apply step
   all_goals (clear step)
   · by_cases h4 : d = 4
     · rw [if_pos h4];simp only [lgS, if_pos h4] at hnoS;obtain ⟨x1, x2, x3, x4, x5⟩ := fx_out (tm := t) (a := a) hn hM hp ho hf;obtain ⟨X, hXe⟩ : ∃ x, fxF e.J (fun s => tlT e.J s t pc) (ouL e fu a) fu st = x := ⟨_, rfl⟩;rw [hXe] at x1 x2 x3 x4 x5 hnoS;have hn' := tl_hi hn hM hW x2 (by rw [x1, hl]) f1 hp hh
       exact (rnd_hi (X := X) (fun S => by
        obtain ⟨k1, k2⟩ := hi_steps hn hM hW hH hx a (tlT e.J X t pc) X S (tlT_ok hJ X t pc hp) x2 (by rw [x1, hl]) (by rw [x1]; exact hf) f2 hn' (fun x hx => hnoS x (List.mem_cons_of_mem _ hx));refine ⟨k1, fun i x hxi hlo => ?_⟩;obtain ⟨y, hy, hly⟩ := lowX hM hW (ouL_ok hJ fu a _ X (tlT_ok hJ X t pc hp) x2).2 x2 x5 hxi hlo
        exact (k2 i y hy hly).1) n.toNat S).1
     rw [if_neg h4];by_cases h3 : d = 3
     · rw [if_pos h3];simp only [lgS, if_neg h4, if_pos h3, List.mem_cons, List.mem_append] at hnoS;split
       · exact (hi_steps hn hM hW hH hx b _ st (tick S c) (tlT_ok hJ st t pc hp) ho hl hf f3 hnt (fun x hx => hnoS x (.inr (.inr hx)))).1
       exact (hi_steps hn hM hW hH hx a _ st (tick S c) (tlT_ok hJ st t pc hp) ho hl hf f2 hnt (fun x hx => hnoS x (.inr (.inl hx)))).1
     rw [if_neg h3];simp only [lgS, if_neg h4, if_neg h3, List.mem_singleton] at hnoS;unfold leafF;by_cases h0 : d = 0
     · rw [if_pos h0]; rfl
     rw [if_neg h0];by_cases h1 : d = 1
     · exfalso;have hfl := hnoS _ rfl;simp only [fltB, St.do_, St.term, h1, decide_true, Bool.true_and, Bool.not_eq_false'] at hfl;exact hnt ((B_iff (tlT_ok hJ st t pc hp) hW).1 hfl)
     rw [if_neg h1];by_cases h5 : d = 5
     · rw [if_pos h5]; rfl
     rw [if_neg h5];split <;> rfl
   by_cases h4 : d = 4
   · rw [if_pos h4];simp only [lgS, if_pos h4] at hnoS;simp only [ouS, if_pos h4];obtain ⟨x1, x2, x3, x4, x5⟩ := fx_out (tm := t) (a := a) hn hM hp ho hf;obtain ⟨X, hXe⟩ : ∃ x, fxF e.J (fun s => tlT e.J s t pc) (ouL e fu a) fu st = x := ⟨_, rfl⟩;rw [hXe] at x1 x2 x3 x4 x5 hnoS ⊢;have hn' := tl_hi hn hM hW x2 (by rw [x1, hl]) f1 hp hh
     have hr := (rnd_hi (c := c) (t := t) (X := X) (fun S => by
      obtain ⟨k1, k2⟩ := hi_steps hn hM hW hH hx a (tlT e.J X t pc) X S (tlT_ok hJ X t pc hp) x2 (by rw [x1, hl]) (by rw [x1]; exact hf) f2 hn' (fun x hx => hnoS x (List.mem_cons_of_mem _ hx));refine ⟨k1, fun i x hxi hlo => ?_⟩;obtain ⟨y, hy, hly⟩ := lowX hM hW (ouL_ok hJ fu a _ X (tlT_ok hJ X t pc hp) x2).2 x2 x5 hxi hlo
      exact (k2 i y hy hly).1) n.toNat S).2
     intro i x hxi hlo;exact ⟨hr i x hxi hlo, lowX hM hW ho x2 x3 hxi hlo⟩
   rw [if_neg h4];by_cases h3 : d = 3
   · rw [if_pos h3];simp only [lgS, if_neg h4, if_pos h3, List.mem_cons, List.mem_append] at hnoS;have hau := fun x hx => hnoS x (.inr (.inl hx));have hbu := fun x hx => hnoS x (.inr (.inr hx));simp only [ouS, if_neg h4, if_pos h3, if_neg (show ¬ d = 0 by omega), if_neg (show ¬ d = 5 by omega)];have hoa := ouL_ok hJ fu a _ st (tlT_ok hJ st t pc hp) ho;have hob := ouL_ok hJ fu b _ st (tlT_ok hJ st t pc hp) ho;intro i x hxi hlo;have hmok := mgF_ok hJ (ouL e fu a (tlT e.J st t pc) st) (ouL e fu b (tlT e.J st t pc) st);split
     · obtain ⟨y, hy, hly⟩ := lowX hM hW hob.2 hmok (mg_r hn hM hoa.2 hob.2 (by rw [hob.1, hoa.1])) hxi hlo;exact (hi_steps hn hM hW hH hx b _ st (tick S c) (tlT_ok hJ st t pc hp) ho hl hf f3 hnt hbu).2 i y hy hly
     obtain ⟨y, hy, hly⟩ := lowX hM hW hoa.2 hmok (mg_l hn hM hoa.2 hob.2 (by rw [hob.1, hoa.1])) hxi hlo;exact (hi_steps hn hM hW hH hx a _ st (tick S c) (tlT_ok hJ st t pc hp) ho hl hf f2 hnt hau).2 i y hy hly
   rw [if_neg h3];unfold leafF;by_cases h0 : d = 0
   · simp only [ouS, if_neg h4, if_pos h0];exact set_unch rfl hnt
   by_cases h5 : d = 5
   · simp only [ouS, if_neg h4, if_neg h0, if_pos h5, if_neg (show ¬ d = 1 by omega)];obtain ⟨g1, g2⟩ := f5 h5;exact set_unch rfl fun k => hh ((J_iff hn hM hp (hv_ok hH g1 g2) hW).1 k).1
   simp only [ouS, if_neg h4, if_neg h0, if_neg h5, if_neg h3];intro i x hxi hlo;refine ⟨?_, x, hxi, hlo⟩;split
   · rfl
   split
   · rfl
   rfl
end
end Go.Proofs.YtfjidddhehckoaaGreat

namespace Go.Proofs.YtfjidddhehckoaaGreat
open Go Go.Hl
section
variable {e : En}
structure Low (e : En) (K : Nat) (st : List Int) (S S' : Sta) : Prop where
 vals : lowE e st S.vals S'.vals
 outs : S.outs = S'.outs
 l1 : S.vals.length = K
 l2 : S'.vals.length = K
structure tmP (e : En) (ms : List Int) (l : List St) (S S' : Sta) : Prop where
 eq : S.time = S'.time
 h0 : 0 ≤ S.time
 h1 : S.time + BT l ≤ 1000000000000
 hb : BT l ≤ 67108864
 no : noS l = true
 ok : okL l = true
 lo : ∀ x ∈ ms, e.L x e.W
variable {vars : List Vr} {fu : Nat}
theorem low_vT (hn : 0 < e.n) (hM : Lt.Lat e.n e.M) (hW : okI e.n e.W) {st : List Int} {S S' : Sta} (ho : okV e.n st) (hl : st.length = vars.length) {t : Tm} (hf : formB vars false t = true) {pc : Int} (hp : okI e.n pc) (h : e.L (tlT e.J st t pc) e.W) (hL : Low e vars.length st S S') : vT S.vals t = vT S'.vals t := by
 have hm := ((tl_iff hn hM ho hl hW t pc hf hp).1 h).2;refine vT_eq t fun v hv => ?_;by_cases hvl : v < vars.length
 · obtain ⟨y, hy⟩ : ∃ y, st[v]? = some y := ⟨_, List.getElem?_eq_getElem (by omega)⟩;exact hL.vals v y hy (hm v y hv hy)
 rw [List.getElem?_eq_none (by have := hL.l1; omega), List.getElem?_eq_none (by have := hL.l2; omega)]
theorem low_up (hM : Lt.Lat e.n e.M) (hW : okI e.n e.W) {X Y : List Int} {K : Nat} {S S' : Sta} (hY : okV e.n Y) (hX : okV e.n X) (h : LV e Y X) (hL : Low e K Y S S') : Low e K X S S' :=
 ⟨fun i x hx hl => by
  obtain ⟨y, hy, hly⟩ := lowX hM hW hY hX h hx hl
  exact hL.vals i y hy hly, hL.outs, hL.l1, hL.l2⟩
theorem low_tick {K : Nat} {st : List Int} {S S' : Sta} (c : Int) (h : Low e K st S S') : Low e K st (tick S c) (tick S' c) := ⟨h.vals, h.outs, h.l1, h.l2⟩
theorem tick_eq {S S' : Sta} {c : Int} (h : S.time = S'.time) : (tick S c).time = (tick S' c).time := by simp only [tick, h]
theorem rnd_lo {c A : Int} {t : Tm} {body body' : Sta → Sta} {X : List Int} {K : Nat} {TT : Prop} (hc : 0 ≤ c) (hA : 0 ≤ A) (ht : ∀ S S', Low e K X S S' → vT S.vals t = vT S'.vals t)
  (hb : ∀ S S', Low e K X S S' → Low e K X (body S) (body' S') ∧ (TT → S.time = S'.time → 0 ≤ S.time → S.time + A ≤ 1000000000000 → (body S).time = (body' S').time))
  (hbt : TT → ∀ S : Sta, 0 ≤ S.time → S.time + A ≤ 1000000000000 → S.time ≤ (body S).time ∧ (body S).time ≤ S.time + A) :
  ∀ (k : Nat) (S S' : Sta), Low e K X S S' → Low e K X (rndF c t body k S) (rndF c t body' k S') ∧ (TT → S.time = S'.time → 0 ≤ S.time → S.time + k * (c + A) ≤ 1000000000000 → (rndF c t body k S).time = (rndF c t body' k S').time)
 | 0, S, S', h => ⟨h, fun _ he _ _ => he⟩
 | k + 1, S, S', h => by
   simp only [rndF, ht S S' h];split
   · exact ⟨low_tick c h, fun _ he _ _ => tick_eq he⟩
   obtain ⟨h1, h2⟩ := hb (tick S c) (tick S' c) (low_tick c h);obtain ⟨h3, h4⟩ := rnd_lo hc hA ht hb hbt k _ _ h1;refine ⟨h3, fun hT he h0 hm => ?_⟩;have e1 : ((k + 1 : Nat) : Int) * (c + A) = k * (c + A) + (c + A) := by rw [show ((k + 1 : Nat) : Int) = (k : Int) + 1 by omega, Int.add_mul, Int.one_mul]
   have hk := Int.mul_nonneg (Int.natCast_nonneg k) (show 0 ≤ c + A by omega);rw [e1] at hm;obtain ⟨Q, hQ⟩ : ∃ Q, (k : Int) * (c + A) = Q := ⟨_, rfl⟩;rw [hQ] at hm hk h4;have t1 := tick_time (s := S) (c := c) h0 hc (by omega);have t2 := hbt hT (tick S c) (by omega) (by omega);exact h4 hT (h2 hT (tick_eq he) (by omega) (by omega)) (by omega) (by omega)
theorem rnd_even {hx : List Int} {c n tn : Int} {ks : List Tm} {a : List St} {S : Sta} (hc : 0 ≤ c) (hn : 0 ≤ n) (hS : noS a = true) (hok : okL a = true) (hev : evenB a = true) (h0 : 0 ≤ S.time) (hb : n * (c + BT a) ≤ 67108864) (h1 : S.time + n * (c + BT a) ≤ 1000000000000) :
  (rndF c (.mk 0 tn ks) (stepsF vars hx a) n.toNat S).time = S.time + (if tn ≠ 0 then n * (c + SX a) else onceI n c) := by
 have sa := SX_BT a hok;by_cases ht : tn ≠ 0
 · rw [if_pos ht];by_cases hn0 : n = 0
   · subst hn0;simp [rndF]
   have hnn : ((n.toNat : Nat) : Int) = n := by omega
   have hba : BT a ≤ 67108864 := by
    have := mul_pos_le (n := n) (x := c + BT a) (by omega) (by omega);omega
   have hbody : ∀ s : Sta, 0 ≤ s.time → s.time + BT a ≤ 1000000000000 → s.time + SX a ≤ (stepsF vars hx a s).time ∧ (stepsF vars hx a s).time ≤ s.time + SX a := fun s x y => by
    have := even_time (vars := vars) (hv := hx) hS hok hba hev x y;omega
   have r1 := rnd_sp1 (t := .mk 0 tn ks) (body := stepsF vars hx a) (A := BT a) hc sa.1 sa.2 (by omega) sa.1 hbody n.toNat S h0 (by rw [hnn]; omega);have r2 := rnd_sp2 (t := .mk 0 tn ks) (body := stepsF vars hx a) (A := BT a) hc sa.1 sa.2 (by omega) (fun vs => by rw [vT_lit]; exact ht) (fun s x y => by have := hbody s x y; omega) n.toNat S h0 (by rw [hnn]; omega);rw [hnn] at r1 r2;omega
 rw [if_neg ht];have ho := once_le hn hc (x := BT a) (by omega);exact rnd_once (t := .mk 0 tn ks) (body := stepsF vars hx a) hc (fun vs => by rw [vT_lit]; exact Decidable.not_not.1 ht) n S h0 hn (by omega)
theorem low_hi (hn : 0 < e.n) (hM : Lt.Lat e.n e.M) {K : Nat} {st X : List Int} {S S' R R' : Sta} (hL : Low e K st S S') (h1 : R.outs = S.outs) (h2 : R'.outs = S'.outs) (u1 : unch e st X S.vals R.vals) (u2 : unch e st X S'.vals R'.vals) (l1 : R.vals.length = K) (l2 : R'.vals.length = K) : Low e K X R R' :=
 ⟨fun i x hx hl => by
  obtain ⟨a1, y, hy, hly⟩ := u1 i x hx hl;obtain ⟨a2, _⟩ := u2 i x hx hl;rw [a1, a2]
  exact hL.vals i y hy hly, by rw [h1, h2, hL.outs], l1, l2⟩
theorem lo_steps (hn : 0 < e.n) (hM : Lt.Lat e.n e.M) (hW : okI e.n e.W) (hH : okH e.n e.hv) {hx hy : List Int} (hhat : ∀ k : Nat, k < e.hv.length → ¬ (e.hv[k]?).getD 0 < 0 → e.L ((e.hv[k]?).getD 0) e.W → (hx[k]?).getD 0 = (hy[k]?).getD 0) :
  ∀ (l : List St) (pc : Int) (st : List Int) (S S' : Sta), okI e.n pc → okV e.n st → st.length = vars.length → fuel e st.length fu → Fm e vars fu l → e.L pc e.W → (∀ x ∈ lgL e fu l pc st, fltB e x = false) → Low e vars.length st S S' →
  Low e vars.length (ouL e fu l pc st) (stepsF vars hx l S) (stepsF vars hy l S') ∧ (tmP e (tmL e fu l pc st) l S S' → (stepsF vars hx l S).time = (stepsF vars hy l S').time)
 | [], pc, st, S, S', hp, ho, hl, hf, hF, hlo, hno, hL => by
   simp only [stepsF, ouL];exact ⟨hL, fun h => h.eq⟩
 | .mk d c v n t a b bs :: l, pc, st, S, S', hp, ho, hl, hf, hF, hlo, hno, hL => by
   have hJ := J_ok hn hM;obtain ⟨f1, f2, f3, f4, f5⟩ := hF.head;have hX := ouS_ok hJ fu (.mk d c v n t a b bs) pc st hp ho;simp only [lgL, List.mem_append] at hno;have hnl := tlT_ok hJ st t pc hp;have sp1 := fun h1 h2 => sp_time vars hx [.mk d c v n t a b bs] h1 h2 S;simp only [stepsF] at sp1;simp only [stepsF, ouL]
   have step : ∀ S1 S1' : Sta, (noS [.mk d c v n t a b bs] = true → okL [.mk d c v n t a b bs] = true → 0 ≤ S.time → S.time + BT [.mk d c v n t a b bs] ≤ 1000000000000 → S.time + SX [.mk d c v n t a b bs] ≤ S1.time ∧ S1.time ≤ S.time + LX [.mk d c v n t a b bs]) →
     Low e vars.length (ouS e fu (.mk d c v n t a b bs) pc st) S1 S1' ∧ (tmP e (tmS e fu (.mk d c v n t a b bs) pc st) [.mk d c v n t a b bs] S S' → S1.time = S1'.time) →
     Low e vars.length (ouL e fu l pc (ouS e fu (.mk d c v n t a b bs) pc st)) (stepsF vars hx l S1) (stepsF vars hy l S1') ∧ (tmP e (tmL e fu (.mk d c v n t a b bs :: l) pc st) (.mk d c v n t a b bs :: l) S S' → (stepsF vars hx l S1).time = (stepsF vars hy l S1').time) := by
    intro S1 S1' hsp hs;obtain ⟨h3, h4⟩ := lo_steps hn hM hW hH hhat l pc (ouS e fu (.mk d c v n t a b bs) pc st) S1 S1' hp hX.2 (by rw [hX.1, hl]) (by rw [hX.1]; exact hf) f4 hlo (fun x hx => hno x (.inr hx)) hs.1;refine ⟨h3, fun hT => ?_⟩;obtain ⟨q1, q2, q3, q4, q5, q6, q7⟩ := hT;rw [BT_cons] at q3 q4
    have hno1 : noS [.mk d c v n t a b bs] = true := by
     simp only [noS, Bool.and_eq_true, Bool.and_true] at q5 ⊢;exact ⟨q5.1, q5.2.1, q5.2.2.1⟩
    have hok1 : okL [.mk d c v n t a b bs] = true := by
     simp only [okL, Bool.and_eq_true, Bool.and_true] at q6 ⊢;exact q6.1
    have hno2 : noS l = true := by simp only [noS, Bool.and_eq_true] at q5; exact q5.2.2.2
    have hok2 : okL l = true := by simp only [okL, Bool.and_eq_true] at q6; exact q6.2
    have b1 := SX_BT _ hok1;have b2 := SX_BT _ hok2;have b3 := LX_BT _ hok1;simp only [tmL, List.mem_append] at q7;have e1 := hs.2 ⟨q1, q2, by omega, by omega, hno1, hok1, fun x hx => q7 x (.inl hx)⟩;have e2 := hsp hno1 hok1 q2 (by omega);exact h4 ⟨e1, by omega, by omega, by omega, hno2, hok2, fun x hx => q7 x (.inr hx)⟩
   have hnoS := fun x hx => hno x (.inl hx);clear hno;refine step _ _ sp1 ?_;clear step sp1;by_cases h4 : d = 4
   · rw [if_pos h4, if_pos h4];simp only [lgS, if_pos h4] at hnoS;simp only [ouS, tmS, if_pos h4];obtain ⟨x1, x2, x3, x4, x5⟩ := fx_out (tm := t) (a := a) hn hM hp ho hf;obtain ⟨X, hXe⟩ : ∃ x, fxF e.J (fun s => tlT e.J s t pc) (ouL e fu a) fu st = x := ⟨_, rfl⟩;obtain ⟨Q, hQ⟩ : ∃ x, fxT e.J (fun s => tlT e.J s t pc) (ouL e fu a) (tmL e fu a) fu st = x := ⟨_, rfl⟩;rw [hXe] at x1 x2 x3 x4 x5 hnoS ⊢;rw [hQ];have hLX := low_up hM hW ho x2 x3 hL;have hnX := tlT_ok hJ X t pc hp;have hoX := (ouL_ok hJ fu a _ X hnX x2).2;by_cases hlow : e.L (tlT e.J X t pc) e.W
     · have hbody := fun S S' (h : Low e vars.length X S S') => lo_steps hn hM hW hH hhat a (tlT e.J X t pc) X S S' hnX x2 (by rw [x1, hl]) (by rw [x1]; exact hf) f2 hlow (fun x hx => hnoS x (List.mem_cons_of_mem _ hx)) h;by_cases hokc : 0 ≤ c ∧ okL a = true ∧ noS a = true ∧ 0 ≤ n
       · obtain ⟨hc, hoka, hnoa, hn0⟩ := hokc;have sa := SX_BT a hoka;have la := LX_BT a hoka
         have hr := rnd_lo (c := c) (A := BT a) (t := t) (body := stepsF vars hx a) (body' := stepsF vars hy a) (X := X) (K := vars.length) (TT := (∀ x ∈ tmL e fu a (tlT e.J X t pc) X, e.L x e.W) ∧ BT a ≤ 67108864) hc (by omega)
          (fun S S' h => low_vT hn hM hW x2 (by rw [x1, hl]) f1 hp hlow h) (fun S S' h => by
           obtain ⟨k1, k2⟩ := hbody S S' h
           exact ⟨low_up hM hW hoX x2 x5 k1, fun hT he h0 h1 => k2 ⟨he, h0, h1, hT.2, hnoa, hoka, hT.1⟩⟩)
          (fun _ S h0 h1 => by have := sp_time vars hx a hnoa hoka S h0 h1; omega) n.toNat S S' hLX
         refine ⟨hr.1, fun hT => ?_⟩;obtain ⟨q1, q2, q3, q4, q5, q6, q7⟩ := hT;simp only [BT, if_pos h4, Int.add_zero] at q3 q4;by_cases hn00 : n = 0
         · subst hn00;simpa [rndF] using q1
         have hba := mul_pos_le (n := n) (x := c + BT a) (by omega) (by omega);exact hr.2 ⟨fun x hx => q7 x (List.mem_append_right _ (List.mem_append_left _ hx)), by omega⟩ q1 q2 (by rw [show ((n.toNat : Nat) : Int) = n by omega]; omega)
       have hr := rnd_lo (c := 0) (A := 0) (t := t) (body := fun S => stepsF vars hx a (tick S c)) (body' := fun S => stepsF vars hy a (tick S c)) (X := X) (K := vars.length) (TT := False) (Int.le_refl 0) (Int.le_refl 0)
        (fun S S' h => low_vT hn hM hW x2 (by rw [x1, hl]) f1 hp hlow h) (fun S S' h => ⟨low_up hM hW hoX x2 x5 (hbody _ _ (low_tick c h)).1, fun h => h.elim⟩) (fun h => h.elim)
       have hr2 : ∀ (k : Nat) (S S' : Sta), Low e vars.length X S S' → Low e vars.length X (rndF c t (stepsF vars hx a) k S) (rndF c t (stepsF vars hy a) k S') := by
        intro k
        induction k with
        | zero => exact fun S S' h => h
        | succ k ih =>
          intro S S' h;simp only [rndF, low_vT hn hM hW x2 (by rw [x1, hl]) f1 hp hlow h];split
          · exact low_tick c h
          exact ih _ _ (low_up hM hW hoX x2 x5 (hbody _ _ (low_tick c h)).1)
       refine ⟨hr2 _ _ _ hLX, fun hT => ?_⟩;exfalso;apply hokc;have q5 := hT.no;have q6 := hT.ok;simp only [noS, Bool.and_eq_true, decide_eq_true_eq] at q5;simp only [okL, okS, Bool.and_eq_true, Bool.or_eq_true, decide_eq_true_eq] at q6;exact ⟨q6.1.1.1, q6.1.2.2.1, q5.2.1, by omega⟩
     have hbody := fun hz S => hi_steps hn hM hW hH hz a (tlT e.J X t pc) X S hnX x2 (by rw [x1, hl]) (by rw [x1]; exact hf) f2 hlow (fun x hx => hnoS x (List.mem_cons_of_mem _ hx))
     have hrh := fun hz S => rnd_hi (c := c) (t := t) (X := X) (fun S => by
      obtain ⟨k1, k2⟩ := hbody hz S;refine ⟨k1, fun i x hxi hlo => ?_⟩;obtain ⟨y, hy, hly⟩ := lowX hM hW hoX x2 x5 hxi hlo
      exact (k2 i y hy hly).1) n.toNat S
     have hlen : ∀ hz S, (rndF c t (stepsF vars hz a) n.toNat S).vals.length = S.vals.length := fun hz S => by
      have := steps_len2 vars hz [.mk 4 c v n t a [] []] S;simpa only [stepsF, if_true] using this
     refine ⟨⟨fun i x hxi hlo => ?_, ?_, ?_, ?_⟩, fun hT => ?_⟩
     · rw [(hrh hx S).2 i x hxi hlo, (hrh hy S').2 i x hxi hlo];exact hLX.vals i x hxi hlo
     · rw [(hrh hx S).1, (hrh hy S').1, hL.outs]
     · rw [hlen, hL.l1]
     · rw [hlen, hL.l2]
     obtain ⟨q1, q2, q3, q4, q5, q6, q7⟩ := hT
     have hcon : ¬ (t.op ≠ 0 ∨ evenB a = false) := fun h => by
      refine hlow (q7 _ (List.mem_append_right _ (List.mem_append_right _ ?_)));rw [if_pos h];exact List.mem_singleton.2 rfl
     obtain ⟨o, tn, ks⟩ := t;have ho0 : o = 0 := Decidable.not_not.1 fun h => hcon (.inl h)
     have hev : evenB a = true := by
      cases h : evenB a
      · exact absurd (.inr h) hcon
      rfl
     subst ho0;simp only [BT, if_pos h4, Int.add_zero] at q3 q4;simp only [noS, Bool.and_eq_true, decide_eq_true_eq] at q5;simp only [okL, okS, Bool.and_eq_true, Bool.or_eq_true, decide_eq_true_eq] at q6;have hc := q6.1.1.1;have hn0 : 0 ≤ n := by omega
     have r1 := rnd_even (vars := vars) (hx := hx) (tn := tn) (ks := ks) (S := S) hc hn0 q5.2.1 q6.1.2.2.1 hev q2 q4 q3;have r2 := rnd_even (vars := vars) (hx := hy) (tn := tn) (ks := ks) (S := S') hc hn0 q5.2.1 q6.1.2.2.1 hev (by omega) q4 (by omega);rw [r1, r2, q1]
   rw [if_neg h4, if_neg h4];by_cases h3 : d = 3
   · rw [if_pos h3, if_pos h3];simp only [lgS, if_neg h4, if_pos h3, List.mem_cons, List.mem_append] at hnoS;have hau := fun x hx => hnoS x (.inr (.inl hx));have hbu := fun x hx => hnoS x (.inr (.inr hx));have hoa := ouL_ok hJ fu a _ st hnl ho;have hob := ouL_ok hJ fu b _ st hnl ho;have hmok := mgF_ok hJ (ouL e fu a (tlT e.J st t pc) st) (ouL e fu b (tlT e.J st t pc) st);have hml := mg_l hn hM hoa.2 hob.2 (by rw [hob.1, hoa.1]);have hmr := mg_r hn hM hoa.2 hob.2 (by rw [hob.1, hoa.1]);simp only [ouS, tmS, if_neg h4, if_pos h3, if_neg (show ¬ d = 0 by omega), if_neg (show ¬ d = 5 by omega)]
     have tsub : ∀ {m : List Int} {g : List St}, (∀ x ∈ m, x ∈ tmL e fu a (tlT e.J st t pc) st ++ (tmL e fu b (tlT e.J st t pc) st ++ if alikeB a b = true then [] else [tlT e.J st t pc])) → (g = a ∨ g = b) →
       tmP e (tmL e fu a (tlT e.J st t pc) st ++ (tmL e fu b (tlT e.J st t pc) st ++ if alikeB a b = true then [] else [tlT e.J st t pc])) [.mk d c v n t a b bs] S S' → tmP e m g (tick S c) (tick S' c) := by
      intro m g hm hg hT;obtain ⟨q1, q2, q3, q4, q5, q6, q7⟩ := hT;simp only [BT, if_neg h4, if_pos h3, Int.add_zero] at q3 q4;simp only [noS, Bool.and_eq_true, decide_eq_true_eq] at q5;simp only [okL, okS, Bool.and_eq_true, Bool.or_eq_true, decide_eq_true_eq] at q6;have hc := q6.1.1.1;have ba := SX_BT a q6.1.2.2.1;have bb := SX_BT b q6.1.2.2.2;have hmx : BT a ≤ mx (BT a) (BT b) ∧ BT b ≤ mx (BT a) (BT b) := by unfold mx; split <;> omega
      have t1 := tick_time (s := S) (c := c) q2 hc (by omega);rcases hg with rfl | rfl
      · exact ⟨tick_eq q1, by omega, by omega, by omega, q5.2.1, q6.1.2.2.1, fun x hx => q7 x (hm x hx)⟩
      exact ⟨tick_eq q1, by omega, by omega, by omega, q5.2.2.1, q6.1.2.2.2, fun x hx => q7 x (hm x hx)⟩
     by_cases hlow : e.L (tlT e.J st t pc) e.W
     · rw [← low_vT hn hM hW ho hl f1 hp hlow hL];split
       · obtain ⟨k1, k2⟩ := lo_steps hn hM hW hH hhat b _ st (tick S c) (tick S' c) hnl ho hl hf f3 hlow hbu (low_tick c hL);exact ⟨low_up hM hW hob.2 hmok hmr k1, fun hT => k2 (tsub (fun x hx => List.mem_append_right _ (List.mem_append_left _ hx)) (.inr rfl) hT)⟩
       obtain ⟨k1, k2⟩ := lo_steps hn hM hW hH hhat a _ st (tick S c) (tick S' c) hnl ho hl hf f2 hlow hau (low_tick c hL);exact ⟨low_up hM hW hoa.2 hmok hml k1, fun hT => k2 (tsub (fun x hx => List.mem_append_left _ hx) (.inl rfl) hT)⟩
     have hi := fun hz S => And.intro (hi_steps hn hM hW hH hz a _ st S hnl ho hl hf f2 hlow hau) (hi_steps hn hM hW hH hz b _ st S hnl ho hl hf f3 hlow hbu)
     have hun : ∀ hz (S : Sta) (z : Prop) [Decidable z], (if z then stepsF vars hz b (tick S c) else stepsF vars hz a (tick S c)).outs = S.outs ∧ unch e st (mgF e.J (ouL e fu a (tlT e.J st t pc) st) (ouL e fu b (tlT e.J st t pc) st)) S.vals (if z then stepsF vars hz b (tick S c) else stepsF vars hz a (tick S c)).vals ∧
       (if z then stepsF vars hz b (tick S c) else stepsF vars hz a (tick S c)).vals.length = S.vals.length := by
      intro hz S z _;obtain ⟨⟨a1, a2⟩, b1, b2⟩ := hi hz (tick S c);split
      · exact ⟨b1, fun i x hxi hlo => by
         obtain ⟨y, hy, hly⟩ := lowX hM hW hob.2 hmok hmr hxi hlo
         exact b2 i y hy hly, by rw [steps_len2]; rfl⟩
      exact ⟨a1, fun i x hxi hlo => by
       obtain ⟨y, hy, hly⟩ := lowX hM hW hoa.2 hmok hml hxi hlo
       exact a2 i y hy hly, by rw [steps_len2]; rfl⟩
     obtain ⟨u1, u2, u3⟩ := hun hx S (vT S.vals t = 0);obtain ⟨w1, w2, w3⟩ := hun hy S' (vT S'.vals t = 0);refine ⟨low_hi hn hM hL u1 w1 u2 w2 (by rw [u3, hL.l1]) (by rw [w3, hL.l2]), fun hT => ?_⟩
     have hal : alikeB a b = true := by
      cases h : alikeB a b
      · exfalso;refine hlow (hT.lo _ (List.mem_append_right _ (List.mem_append_right _ ?_)));rw [h];exact List.mem_singleton.2 rfl
      rfl
     have ta := tsub (m := []) (g := a) (fun x hx => by cases hx) (.inl rfl) hT;have tb := tsub (m := []) (g := b) (fun x hx => by cases hx) (.inr rfl) hT;unfold alikeB at hal;rw [decide_eq_true_eq] at hal;have eva : evenB a = true := by unfold evenB; exact decide_eq_true hal.1
     have evb : evenB b = true := by unfold evenB; exact decide_eq_true hal.2.1
     have hsx : SX b = SX a := by rw [← SX_sp tb.ok tb.hb, ← SX_sp ta.ok ta.hb]; exact hal.2.2
     have e1 := fun hz => even_time (vars := vars) (hv := hz) ta.no ta.ok ta.hb eva (s := tick S c) ta.h0 ta.h1;have e2 := fun hz => even_time (vars := vars) (hv := hz) tb.no tb.ok tb.hb evb (s := tick S c) tb.h0 tb.h1;have e3 := fun hz => even_time (vars := vars) (hv := hz) ta.no ta.ok ta.hb eva (s := tick S' c) (by rw [← ta.eq]; exact ta.h0) (by rw [← ta.eq]; exact ta.h1);have e4 := fun hz => even_time (vars := vars) (hv := hz) tb.no tb.ok tb.hb evb (s := tick S' c) (by rw [← ta.eq]; exact ta.h0) (by rw [← ta.eq]; exact tb.h1);have hteq := ta.eq
     have g1 : (if vT S.vals t = 0 then stepsF vars hx b (tick S c) else stepsF vars hx a (tick S c)).time = (tick S c).time + SX a := by
      split
      · rw [e2, hsx]
      rw [e1]
     have g2 : (if vT S'.vals t = 0 then stepsF vars hy b (tick S' c) else stepsF vars hy a (tick S' c)).time = (tick S' c).time + SX a := by
      split
      · rw [e4, hsx]
      rw [e3]
     rw [g1, g2, hteq]
   rw [if_neg h3, if_neg h3];simp only [lgS, if_neg h4, if_neg h3, List.mem_singleton] at hnoS;simp only [tmS, if_neg h4, if_neg h3];have hLt := low_tick c hL
   have setL : ∀ (x y : Int), (e.L x e.W → y = y) → ∀ (z z' : Int), (e.L x e.W → z = z') → Low e vars.length (st.set v.toNat x) ⟨setV vars S.vals v z, S.outs, (tick S c).time⟩ ⟨setV vars S'.vals v z', S'.outs, (tick S' c).time⟩ := by
    intro x _ _ z z' hz;refine ⟨fun i y hy hly => ?_, hL.outs, by rw [← hL.l1]; exact setV_len2 _ _ _ _, by rw [← hL.l2]; exact setV_len2 _ _ _ _⟩;by_cases hi : v.toNat = i
    · subst hi;rw [List.getElem?_set] at hy;simp only [if_true] at hy;split at hy
      · cases hy;rw [hz hly];simp only;unfold setV;split
        · rw [List.getElem?_set, List.getElem?_set, hL.l1, hL.l2];simp only [if_true]
        rename_i hnone;have := List.getElem?_eq_none_iff.1 hnone;rw [List.getElem?_eq_none (by rw [hL.l1]; exact this), List.getElem?_eq_none (by rw [hL.l2]; exact this)]
      cases hy
    rw [List.getElem?_set_ne hi] at hy;simp only;rw [setV_ne hi, setV_ne hi];exact hL.vals i y hy hly
   by_cases h0 : d = 0
   · simp only [leafF, if_pos h0, ouS, if_neg h4];exact ⟨setL _ 0 (fun _ => rfl) _ _ fun h => low_vT hn hM hW ho hl f1 hp h hLt, fun hT => tick_eq hT.eq⟩
   by_cases h1 : d = 1
   · have hfl := hnoS _ rfl;simp only [fltB, St.do_, St.term, h1, decide_true, Bool.true_and, Bool.not_eq_false'] at hfl;have hlow := (B_iff hnl hW).1 hfl;have hv := low_vT hn hM hW ho hl f1 hp hlow hL;simp only [leafF, if_neg h0, if_pos h1, ouS, if_neg h4, if_neg h3, if_neg (show ¬ d = 5 by omega)];refine ⟨⟨hL.vals, ?_, hL.l1, hL.l2⟩, fun hT => tick_eq hT.eq⟩;show S.outs ++ [vT S.vals t] = S'.outs ++ [vT S'.vals t];rw [hv, hL.outs]
   by_cases h5 : d = 5
   · simp only [leafF, if_neg h0, if_neg h1, if_pos h5, ouS, if_neg h4];obtain ⟨g1, g2⟩ := f5 h5;exact ⟨setL _ 0 (fun _ => rfl) _ _ fun h => hhat _ g1 g2 ((J_iff hn hM hp (hv_ok hH g1 g2) hW).1 h).2, fun hT => tick_eq hT.eq⟩
   simp only [leafF, if_neg h0, if_neg h1, if_neg h5, ouS, if_neg h4, if_neg h3];by_cases h6 : d = 6
   · simp only [if_pos h6];refine ⟨⟨hL.vals, hL.outs, hL.l1, hL.l2⟩, fun hT => ?_⟩;have := hT.no;simp [noS, h6] at this
   simp only [if_neg h6];exact ⟨hLt, fun hT => tick_eq hT.eq⟩
end
end Go.Proofs.YtfjidddhehckoaaGreat

namespace Go.Proofs.YtfjidddhehckoaaGreat
open Go Go.Hl
theorem bd_eqT {l : List St} (h : okL l = true) (hq : (bdL CR l ⟨0, 0, 0⟩).t ≤ 67108864) : (bdL CP l ⟨0, 0, 0⟩).t = (bdL CR l ⟨0, 0, 0⟩).t := by
 have := bdL_cut nnCR nnCP (by decide) l _ _ h (in3_0 nnCP) (in3_0 nnCR) rfl;unfold cut3 at this;simp only [B3.mk.injEq] at this;obtain ⟨h1, h2, h3⟩ := this;generalize bdL CP l ⟨0, 0, 0⟩ = p at *;generalize bdL CR l ⟨0, 0, 0⟩ = q at *;unfold CR at h1 h2 h3;clear h1 h2;unfold mn at *;simp only at h3
 (repeat' split at h3) <;> omega
theorem relL_app (hv : List Int) : ∀ l m : List St, relL hv (l ++ m) = (relL hv l && relL hv m)
 | [], m => by simp [relL]
 | s :: l, m => by simp only [List.cons_append, relL, relL_app hv l m, Bool.and_assoc]
section
variable {f : Fl} {p : Po}
end
end Go.Proofs.YtfjidddhehckoaaGreat
