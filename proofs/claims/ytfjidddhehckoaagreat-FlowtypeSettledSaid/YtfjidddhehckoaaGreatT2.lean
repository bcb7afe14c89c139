/- Part 2: contracts of functions of the program and of the reference, and plain facts about what they compute; used by the proof of the claimed statement. Conditions: as each theorem states. -/
import Derived.Test.YtfjidddhehckoaaGreatT1
set_option linter.unusedSimpArgs false
set_option linter.unusedVariables false
set_option linter.unnecessarySimpa false
set_option maxRecDepth 100000
set_option maxHeartbeats 2000000
namespace Go.Proofs.YtfjidddhehckoaaGreat.Lt
open Go Go.Hl
def hasN (seen : List ByteArray) (s : ByteArray) : Bool := seen.any fun t => decide (t = s)
theorem hasN_iff {l : List ByteArray} {s : ByteArray} : hasN l s = true ↔ s ∈ l := by simp [hasN]
def scanN : List ByteArray → List ByteArray → Int
 | _, [] => 0
 | seen, s :: l => if nameB s = false then 7 else if hasN seen s = true then 8 else scanN (seen ++ [s]) l
def ordOk (n : Nat) (order : List (Int × Int)) : Bool := order.all fun p => inB n p.1 && inB n p.2
def antiB (n : Nat) (M : Nat → Nat → Bool) : Bool := (List.range n).all fun a => (List.range a).all fun b => !(M a b && M b a)
def newC (names : List ByteArray) (order : List (Int × Int)) : Int :=
 if names.length = 0 ∨ 12 < names.length then 4 else if scanN [] names ≠ 0 then scanN [] names else if ordOk names.length order = false then 3 else
 if antiB names.length (closeM names.length order) = false then 10 else if badRow names.length (closeM names.length order) ≠ names.length then 11 else 0
def latO (names : List ByteArray) (order : List (Int × Int)) : CD :=
 latD names (.mp (idxL names)) (matB names.length (closeM names.length order)) (matI names.length (bndI names.length (closeM names.length order))) (matI names.length (bndI names.length (flp (closeM names.length order))))
def newR (names : List ByteArray) (order : List (Int × Int)) : TV := if newC names order = 0 then .one (.c (latO names order)) else .one (.c (.lit (.pointer none)))
theorem idx_append (l : List ByteArray) (s : ByteArray) : idxL (l ++ [s]) = idxL l ++ [(.string s, i64 l.length)] := by simp [idxL, List.zipIdx_append]
theorem same_str (a b : ByteArray) : Instr.sameNow .string (.string a) (.string b) = some (decide (a = b)) := by
 unfold Instr.sameNow
 simp only [Option.some.injEq]
 obtain ⟨a⟩ := a
 obtain ⟨b⟩ := b
 show (a == b) = decide ((⟨a⟩ : ByteArray) = ⟨b⟩)
 by_cases h : a = b
 · subst h; simp
 · simp [h]
theorem find_zip {s : ByteArray} : ∀ (l : List ByteArray) (k : Nat), (s ∉ l → findM .string (.string s) ((l.zipIdx k).map fun p => (.string p.1, i64 p.2)) = some none) ∧
  ∀ i : Nat, l[i]? = some s → (∀ j : Nat, j < i → l[j]? ≠ some s) → findM .string (.string s) ((l.zipIdx k).map fun p => (.string p.1, i64 p.2)) = some (some (i64 ((k + i : Nat) : Int)))
 | [], k => by simp [findM]
 | x :: l, k => by
   obtain ⟨h1, h2⟩ := find_zip l (k + 1)
   refine ⟨fun h => ?_, fun i hi hj => ?_⟩
   · simp only [List.mem_cons, not_or] at h
     simp only [List.zipIdx_cons, List.map_cons, findM, same_str, decide_eq_false h.1]
     exact h1 h.2
   · cases i with
     | zero =>
       simp only [List.getElem?_cons_zero, Option.some.injEq] at hi
       subst hi
       simp [findM, same_str]
     | succ i =>
       have hx : ¬ s = x := by
        intro e
        exact hj 0 (by omega) (by simp [e])
       simp only [List.zipIdx_cons, List.map_cons, findM, same_str, decide_eq_false hx]
       have := h2 i (by simpa using hi) (fun j hjl => by have := hj (j + 1) (by omega); simpa using this)
       rw [this]
       congr 3; omega
theorem first_at {s : ByteArray} : ∀ {l : List ByteArray}, s ∈ l → ∃ i : Nat, l[i]? = some s ∧ ∀ j : Nat, j < i → l[j]? ≠ some s
 | x :: l, h => by
   by_cases e : x = s
   · exact ⟨0, by simp [e], by simp⟩
   · have hl : s ∈ l := by
      rcases List.mem_cons.1 h with h | h
      · exact absurd h.symm e
      · exact h
     obtain ⟨i, h1, h2⟩ := first_at hl
     refine ⟨i + 1, by simpa using h1, fun j hj => ?_⟩
     cases j with
     | zero => simpa using e
     | succ j => simpa using h2 j (by omega)
theorem find_none {s : ByteArray} {l : List ByteArray} (h : s ∉ l) : findM .string (.string s) (idxL l) = some none := (find_zip l 0).1 h
theorem find_at {s : ByteArray} {l : List ByteArray} {i : Nat} (h : l[i]? = some s) (hf : ∀ j : Nat, j < i → l[j]? ≠ some s) : findM .string (.string s) (idxL l) = some (some (i64 i)) := by
 have := (find_zip l 0).2 i h hf
 simpa [idxL] using this
theorem find_some {s : ByteArray} {l : List ByteArray} (h : s ∈ l) : ∃ i : Nat, findM .string (.string s) (idxL l) = some (some (i64 i)) := by
 obtain ⟨i, h1, h2⟩ := first_at h
 exact ⟨i, find_at h1 h2⟩
theorem scan_step {names : List ByteArray} {k : Nat} {s : ByteArray} (h : names[k]? = some s) : scanN (names.take k) (names.drop k) = if nameB s = false then 7 else if hasN (names.take k) s = true then 8 else scanN (names.take (k + 1)) (names.drop (k + 1)) := by
 have hlt : k < names.length := (List.getElem?_eq_some_iff.1 h).1
 have : names.drop k = s :: names.drop (k + 1) := by
  rw [List.drop_eq_getElem_cons hlt]
  congr 1
  exact (List.getElem?_eq_some_iff.1 h).2
 rw [this, scanN, List.take_add_one, h]
 rfl
def nrow (l : List ByteArray) : List (List CD) := l.map fun s => [sC s]
theorem nrow_len (l : List ByteArray) : (nrow l).length = l.length := by simp [nrow]
theorem nrow_append (l : List ByteArray) (s : ByteArray) : nrow (l ++ [s]) = nrow l ++ [[sC s]] := by simp [nrow]
def nilC : CD := .lit (.slice none 0 0)
def L1 (names : List ByteArray) (order : List (Int × Int)) (k : Nat) : HS :=
 ⟨122, [(0, .v (.one (.c (nsC names)))), (1, .v (.one (.c (orC order)))), (6, .v (.one (.at_ 1006 0))), (26, .v (.one (.c (nsC names)))), (27, .v (li names.length)), (28, .v (li k))],
  [(1000, .row 9 1 (nrow (names.take k))), (1002, .mp (idxL (names.take k))), (1006, .box [.own 1000, .own 1002, .c nilC, .c nilC, .c nilC])]⟩
def L2 (names : List ByteArray) (order : List (Int × Int)) (k : Nat) : HS :=
 ⟨122, [(0, .v (.one (.c (nsC names)))), (1, .v (.one (.c (orC order)))), (6, .v (.one (.at_ 1006 0))), (63, .v (.one (.c (orC order)))), (64, .v (li order.length)), (65, .v (li k))],
  [(1006, .box [.c (nsC names), .c (.mp (idxL names)), .c nilC, .c nilC, .c nilC])]⟩
def L3 (names : List ByteArray) (M : Nat → Nat → Bool) (a : Nat) : HS :=
 ⟨122, [(6, .v (.one (.at_ 1006 0))), (86, .v (li names.length)), (87, .v (li a))],
  [(1006, .box [.c (nsC names), .c (.mp (idxL names)), .c (matB names.length M), .c nilC, .c nilC])]⟩
def L4 (names : List ByteArray) (M : Nat → Nat → Bool) (a b : Nat) : HS :=
 ⟨122, [(6, .v (.one (.at_ 1006 0))), (13, .v (li a)), (86, .v (li names.length)), (87, .v (li a)), (90, .v (li a)), (91, .v (li b))],
  [(1006, .box [.c (nsC names), .c (.mp (idxL names)), .c (matB names.length M), .c nilC, .c nilC])]⟩
theorem new_con (names : List ByteArray) (order : List (Int × Int)) (hlen : order.length ≤ 200) (d : Nat) :
  Con Tryz.prog 67 false [.one (.c (nsC names)), .one (.c (orC order))] (.tup [newR names order, li (newC names order)]) none d := by
 have hrf : newC names order = newC names order := rfl
 conv at hrf => rhs; unfold newC
 have hrr : newR names order = newR names order := rfl
 conv at hrr => rhs; unfold newR
 generalize newC names order = code at *
 generalize newR names order = res at *
 refine con_of_HT Tryz.func67 rfl (by kernel_rfl) (Nat.le_of_ble_eq_true rfl) ?_
 simp only [Tryz.f67]
 refine HT_seq (HT_run (by simp [regsOf, nsC, orC, sC, i64]; rfl) ?_)
 refine HT_seq (HT_seq (HT_run (by simp; rfl) ?_))
 refine HT_cond rfl (fun h => ?_) (fun hcd => HT_skip ?_)
 · refine HT_seq (HT_run (by simp; rfl) ?_)
   have h' : names.length = 0 ∨ 12 < names.length := by
    simp at h
    rcases h with h | h
    · left; rw [h]; rfl
    · right; omega
   rw [if_pos h'] at hrf
   subst hrf
   rw [if_neg (by decide)] at hrr
   rw [hrr]
   exact HT_ret ⟨.inr rfl, _, le_refl _, ⟨_, rfl, rfl⟩, by simp, by simp⟩
 have hn : 1 ≤ names.length ∧ names.length ≤ 12 := by
  simp at hcd
  have : names.length ≠ 0 := by rintro e; exact hcd.1 (List.eq_nil_of_length_eq_zero e)
  omega
 rw [if_neg (show ¬ (names.length = 0 ∨ 12 < names.length) by omega)] at hrf
 refine HT_seq (HT_run (by simp; rfl) ?_)
 refine HT_seq (HT_seq (HT_run (by simp; rfl) ?_))
 refine HT_block (HT_loop (L1 names order) (fun k => k ≤ names.length ∧ scanN (names.take k) (names.drop k) = scanN [] names) (fun k => names.length - k) 0 ⟨Nat.zero_le _, by simp⟩ ?_ ?_)
 · exact le_mk (fun n => if n = 1002 then 23 else if n = 1006 then 25 else n) [1000] rfl (by simp [L1, li, i64, nsC, orC, sC]) (by simp [L1, nilC, idxL, nrow]) (by simp [L1])
 rintro k ⟨hk, hscan⟩
 simp only [L1]
 refine HT_seq (HT_run (by simp [li, i64]; rfl) ?_)
 refine HT_seq (HT_cond rfl (fun h => HT_skip ?_) (fun h => HT_exit ?_))
 · have hlt : k < names.length := by simpa using h
   have hw : IntKind.i64.wrap ((k : Int) + 1) = (k : Int) + 1 := wrap_in (by omega) (by omega)
   obtain ⟨s, hs⟩ : ∃ s, names[k]? = some s := ⟨names[k], List.getElem?_eq_getElem hlt⟩
   rw [scan_step hs] at hscan
   have hcn := fun d => isname_con s d
   have htl : (names.take k).length = k := by simp; omega
   have htk : names.take (k + 1) = names.take k ++ [s] := by rw [List.take_add_one, hs]; rfl
   generalize hT : names.take k = T at *
   refine HT_seq (HT_block (HT_seq (HT_run (by simp [nsC, hs]; rfl) ?_)))
   refine HT_seq (HT_seq (HT_runc [⟨true, .v (lb (nameB s)), none⟩] (by simp [sC, lb, bC]; first | exact ⟨rfl, Iff.rfl⟩ | rfl) (by simpa only [sC, lb, bC] using hcn _) ?_))
   refine HT_cond rfl (fun h => ?_) (fun hc2 => HT_skip ?_)
   · refine HT_seq (HT_run (by simp; rfl) ?_)
     rw [if_pos (by simpa using h)] at hscan
     rw [← hscan, if_pos (by decide)] at hrf
     subst hrf
     rw [if_neg (by decide)] at hrr
     rw [hrr]
     exact HT_ret ⟨.inr rfl, _, le_refl _, ⟨_, rfl, rfl⟩, by simp, by simp⟩
   rw [if_neg (by simpa using hc2)] at hscan
   by_cases hm : s ∈ T
   · obtain ⟨i, hi⟩ := find_some hm
     refine HT_seq (HT_seq (HT_run (by simp [hi, i64]; rfl) ?_))
     refine HT_seq (HT_run (by simp; rfl) ?_)
     refine HT_cond rfl (fun h => ?_) (fun h => by cases h)
     refine HT_seq (HT_run (by simp; rfl) ?_)
     rw [if_pos (hasN_iff.2 hm)] at hscan
     rw [← hscan, if_pos (by decide)] at hrf
     subst hrf
     rw [if_neg (by decide)] at hrr
     rw [hrr]
     exact HT_ret ⟨.inr rfl, _, le_refl _, ⟨_, rfl, rfl⟩, by simp, by simp⟩
   · have hi := find_none hm
     rw [if_neg (by rw [hasN_iff]; exact hm)] at hscan
     refine HT_seq (HT_seq (HT_run (by simp [hi]; rfl) ?_))
     refine HT_seq (HT_run (by simp; rfl) ?_)
     refine HT_cond rfl (fun h => by cases h) (fun h => HT_skip ?_)
     refine HT_seq (HT_run (by simp [hi]; rfl) ?_)
     refine HT_run (by simp [htl, nrow_len, show room (k + 1) 16 from room_of (by omega) (by omega)]; rfl) ?_
     refine HT_run (by simp [hw]; rfl) ?_
     refine ⟨k + 1, ⟨hlt, hscan⟩, by omega, ?_⟩
     refine le_mk (fun n => if n = 1000 then 59 else n) [] rfl (by simp [L1, li, i64, nsC, orC, sC, hw]) ?_ (by simp [L1])
     simp [L1, htk, idx_append, nrow_append, sC, i64, htl]
 · have hkn : k = names.length := by simp at h; omega
   subst hkn
   rw [List.drop_length] at hscan
   simp only [scanN] at hscan
   rw [if_neg (by rw [← hscan]; simp)] at hrf
   simp only [List.take_length]
   refine HT_seq (HT_seq (HT_run (by simp [orC]; rfl) ?_))
   refine HT_block (HT_loop (L2 names order) (fun k => k ≤ order.length ∧ ∀ p ∈ order.take k, (inB names.length p.1 && inB names.length p.2) = true) (fun k => order.length - k) 0 ⟨Nat.zero_le _, by simp⟩ ?_ ?_)
   · refine le_trans (le_frz 1000 rfl) (le_trans (le_frzP 1002 rfl) (le_mk (fun n => n) [] rfl ?_ ?_ ?_))
     · simp [L2, li, i64, nsC, orC, sC]
     · simp [L2, nsC, nrow]
     · simp [L2]
   rintro k ⟨hk2, hall⟩
   simp only [L2]
   refine HT_seq (HT_run (by simp [li, i64]; rfl) ?_)
   refine HT_seq (HT_cond rfl (fun h => HT_skip ?_) (fun h => HT_exit ?_))
   · have hlt : k < order.length := by simpa using h
     have hw : IntKind.i64.wrap ((k : Int) + 1) = (k : Int) + 1 := wrap_in (by omega) (by omega)
     obtain ⟨p, hp⟩ : ∃ p, order[k]? = some p := ⟨order[k], List.getElem?_eq_getElem hlt⟩
     have hh := fun a d => has_con names (.mp (idxL names)) nilC nilC nilC a d
     refine HT_seq (HT_block (HT_seq (HT_run (by simp [orC, hp, i64]; rfl) ?_)))
     refine HT_seq (HT_runc [⟨true, .v (lb (inB names.length p.1)), none⟩, ⟨true, .v (lb (inB names.length p.2)), none⟩] (by simp [nsC, nilC, lb, bC]; first | exact ⟨rfl, Iff.rfl⟩ | rfl) ?_ ?_)
     · constructor
       · simpa only [latD, nsC, nilC, li, i64, lb, bC] using hh p.1 _
       · simpa only [latD, nsC, nilC, li, i64, lb, bC] using hh p.2 _
     refine HT_cond rfl (fun h => ?_) (fun hc2 => HT_skip ?_)
     · refine HT_seq (HT_run (by simp; rfl) ?_)
       have ho : ordOk names.length order = false := by
        unfold ordOk
        rw [List.all_eq_false]
        refine ⟨p, List.mem_of_getElem? hp, ?_⟩
        cases h3 : inB names.length p.1 <;> cases h4 : inB names.length p.2 <;> simp_all
       rw [if_pos ho] at hrf
       subst hrf
       rw [if_neg (by decide)] at hrr
       rw [hrr]
       exact HT_ret ⟨.inr rfl, _, le_refl _, ⟨_, rfl, rfl⟩, by simp, by simp⟩
     · refine HT_run (by simp [hw]; rfl) ?_
       refine ⟨k + 1, ⟨hlt, fun q hq => ?_⟩, by omega, ?_⟩
       · rw [List.take_add_one, hp] at hq
         rcases List.mem_append.1 hq with hq | hq
         · exact hall q hq
         · simp only [Option.toList_some, List.mem_singleton] at hq
           subst hq
           cases h3 : inB names.length q.1 <;> cases h4 : inB names.length q.2 <;> simp_all
       · exact le_mk (fun n => n) [] rfl (by simp [L2, li, i64, nsC, orC, hw]) (by simp [L2, nsC, nilC]) (by simp [L2])
   · have hkl : k = order.length := by simp at h; omega
     subst hkl
     rw [List.take_length] at hall
     have ho : ordOk names.length order = true := by
      unfold ordOk
      rw [List.all_eq_true]
      exact hall
     rw [if_neg (by rw [ho]; simp)] at hrf
     have hord : ∀ p ∈ order, (0 ≤ p.1 ∧ p.1 < names.length) ∧ 0 ≤ p.2 ∧ p.2 < names.length := by
      intro p hp
      have := hall p hp
      simpa [inB] using this
     have hcl := close_con names names.length rfl hn.2 order hlen hord (.mp (idxL names)) nilC nilC nilC
     have hbn := bounds_con names names.length rfl hn.2 (closeM names.length order) (idxL names)
     have hlat : latO names order = latD names (.mp (idxL names)) (matB names.length (closeM names.length order)) (.sl 1 (rowsJ names.length (bndI names.length (closeM names.length order)) names.length)) (.sl 1 (rowsJ names.length (bndI names.length (flp (closeM names.length order))) names.length)) := rfl
     rw [hlat] at hrr
     generalize closeM names.length order = M at *
     refine HT_seq (HT_runIO 2 (.tup []) _ rfl (by simp [orC]; rfl) (by simp [ioOf, nsC, nilC]; exact ⟨rfl, rfl, rfl, rfl, rfl⟩) (by simpa only [nsC, orC, nilC, i64] using hcl) rfl (by simp; rfl) ?_)
     refine HT_seq (HT_seq (HT_run (by simp [nsC]; rfl) ?_))
     refine HT_block (HT_loop (L3 names M) (fun a => a ≤ names.length ∧ ∀ x, x < a → ((List.range x).all fun b => !(M x b && M b x)) = true) (fun a => names.length - a) 0 ⟨Nat.zero_le _, by simp⟩ ?_ ?_)
     · exact le_mk (fun n => n) [] rfl (by simp [L3, li, i64]) (by simp [L3, nsC, nilC]) (by simp [L3])
     rintro a ⟨ha, han⟩
     simp only [L3]
     refine HT_seq (HT_run (by simp [li, i64]; rfl) ?_)
     refine HT_seq (HT_cond rfl (fun h => HT_skip ?_) (fun h => HT_exit ?_))
     · have hla : a < names.length := by simpa using h
       have hwa : IntKind.i64.wrap ((a : Int) + 1) = (a : Int) + 1 := wrap_in (by omega) (by omega)
       refine HT_seq (HT_block (HT_seq (HT_run (by simp; rfl) ?_)))
       refine HT_seq (HT_run (by simp; rfl) ?_)
       refine HT_block (HT_loop (L4 names M a) (fun b => b ≤ a ∧ ∀ x, x < b → (!(M a x && M x a)) = true) (fun b => a - b) 0 ⟨Nat.zero_le _, by simp⟩ ?_ ?_)
       · exact le_mk (fun n => n) [] rfl (by simp [L4, li, i64]) (by simp [L4]) (by simp [L4])
       rintro b ⟨hb, hbn2⟩
       simp only [L4]
       refine HT_seq (HT_run (by simp [li, i64]; rfl) ?_)
       refine HT_seq (HT_cond rfl (fun h => HT_skip ?_) (fun h => HT_exit ?_))
       · have hlb : b < a := by simpa using h
         have hlb2 : b < names.length := by omega
         have hwb : IntKind.i64.wrap ((b : Int) + 1) = (b : Int) + 1 := wrap_in (by omega) (by omega)
         refine HT_seq (HT_block (HT_seq (HT_run (by simp; rfl) ?_)))
         refine HT_seq (HT_run (by simp [matB, hla, hlb2, rowB_get hla, rowB_get hlb2, bC]; rfl) ?_)
         refine HT_cond rfl (fun h => ?_) (fun hc2 => HT_skip ?_)
         · refine HT_seq (HT_run (by simp; rfl) ?_)
           have hx : antiB names.length M = false := by
            unfold antiB
            rw [List.all_eq_false]
            refine ⟨a, by simpa using hla, ?_⟩
            simp only [Bool.not_eq_true, List.all_eq_false]
            refine ⟨b, by simpa using hlb, ?_⟩
            have h' : (M a b && M b a) = true := h
            rw [h']; simp
           rw [if_pos hx] at hrf
           subst hrf
           rw [if_neg (by decide)] at hrr
           rw [hrr]
           exact HT_ret ⟨.inr rfl, _, le_refl _, ⟨_, rfl, rfl⟩, by simp, by simp⟩
         · refine HT_run (by simp [hwb]; rfl) ?_
           refine ⟨b + 1, ⟨hlb, fun x hx => ?_⟩, by omega, ?_⟩
           · by_cases e : x = b
             · subst e
               have h' : (M a x && M x a) = false := hc2
               rw [h']; rfl
             · exact hbn2 x (by omega)
           · exact le_mk (fun n => n) [] rfl (by simp [L4, li, i64, hwb]) (by simp [L4, matB]) (by simp [L4])
       · have hba : b = a := by simp at h; omega
         subst hba
         refine HT_run (by simp [hwa]; rfl) ?_
         refine ⟨b + 1, ⟨hla, fun x hx => ?_⟩, by omega, ?_⟩
         · by_cases e : x = b
           · subst e
             rw [List.all_eq_true]
             intro y hy
             exact hbn2 y (by simpa using hy)
           · exact han x (by omega)
         · exact le_mk (fun n => n) [] rfl (by simp [L3, li, i64, hwa]) (by simp [L3]) (by simp [L3])
     · have hak : a = names.length := by simp at h; omega
       subst hak
       have hx : antiB names.length M = true := by
        unfold antiB
        rw [List.all_eq_true]
        intro x hx
        exact han x (by simpa using hx)
       rw [if_neg (by rw [hx]; simp)] at hrf
       refine HT_seq (HT_seq (HT_runIO 1 (.v (lb (decide (badRow names.length M = names.length)))) _ rfl (by simp; rfl) (by simp [ioOf, nsC, nilC]; exact ⟨rfl, rfl, rfl, rfl, rfl⟩) (by simpa only [nsC, nilC, nilS] using hbn) rfl (by simp [lb, bC]; rfl) ?_))
       refine HT_cond rfl (fun h => ?_) (fun hc2 => HT_skip ?_)
       · refine HT_seq (HT_run (by simp; rfl) ?_)
         have h' : badRow names.length M ≠ names.length := by simpa using h
         rw [if_pos h'] at hrf
         subst hrf
         rw [if_neg (by decide)] at hrr
         rw [hrr]
         exact HT_ret ⟨.inr rfl, _, le_refl _, ⟨_, rfl, rfl⟩, by simp, by simp⟩
       · refine HT_seq (HT_run (by simp; rfl) ?_)
         have h' : badRow names.length M = names.length := by simpa using hc2
         rw [if_neg (by rw [h']; simp)] at hrf
         subst hrf
         rw [if_pos rfl] at hrr
         rw [hrr, h']
         refine HT_ret ⟨.inr rfl, _, le_frzB 1006 rfl rfl rfl, ⟨_, rfl, ?_⟩, by simp, by simp⟩
         simp [resR, latD, nsC, li, i64]
end Go.Proofs.YtfjidddhehckoaaGreat.Lt

namespace Go.Proofs.YtfjidddhehckoaaGreat
open Go Go.Hl
def boundedB (a b : Int) : Bool := decide (a ≤ b) && (decide (-1048576 ≤ a) && decide (b ≤ 1048576))
theorem boundedP_con (a b : Int) (d : Nat) : Con Tryz.prog 174 true [li a, li b] (.v (lb (boundedB a b))) none d := by
 refine con_of_HT Tryz.func174 rfl (by kernel_rfl) (Nat.le_of_ble_eq_true rfl) ?_
 simp only [Tryz.f174]
 refine HT_seq <| HT_runA ?_
 refine HT_seq <| HT_runA ?_
 exact (HT_retE (fun h => ⟨.inr rfl, h⟩) _ (by simp [*]; rfl) (by first | rfl | (simp [*, boundedB, Bool.and_assoc]; done) | (simp only [resR, boundedB, Bool.and_assoc]; (repeat' split) <;> first | rfl | (exfalso; omega) | simp_all)) (by simp))
theorem boundedR_con (a b : Int) (d : Nat) : Con Tryz.prog 50 true [li a, li b] (.v (lb (boundedB a b))) none d := by
 refine con_of_HT Tryz.func50 rfl (by kernel_rfl) (Nat.le_of_ble_eq_true rfl) ?_
 simp only [Tryz.f50]
 refine HT_seq <| HT_runA ?_
 refine HT_seq <| HT_runA ?_
 exact (HT_retE (fun h => ⟨.inr rfl, h⟩) _ (by simp [*]; rfl) (by first | rfl | (simp [*, boundedB, Bool.and_assoc]; done) | (simp only [resR, boundedB, Bool.and_assoc]; (repeat' split) <;> first | rfl | (exfalso; omega) | simp_all)) (by simp))
def kidsP (o : Int) : Int × Int := if o = 0 ∨ o = 24 then (0, 0) else if o = 6 ∨ o = 7 then (1, 1) else if 8 ≤ o ∧ o ≤ 22 then (2, 2) else if o = 23 then (3, 3) else if o = 25 then (2, 33) else (-1, -1)
theorem kidsP_con (o : Int) (d : Nat) : Con Tryz.prog 200 true [li o] (.tup [li (kidsP o).1, li (kidsP o).2]) none d := by
 refine con_of_HT Tryz.func200 rfl (by kernel_rfl) (Nat.le_of_ble_eq_true rfl) ?_
 simp only [Tryz.f200]
 refine HT_seq <| HT_runA ?_
 refine HT_seq <| HT_block <| HT_seq <| HT_runA ?_
 refine (HT_cond rfl (fun h2 => ?_) (fun h2 => ?_))
 · try simp only [BN] at h2
   refine HT_seq <| HT_runA ?_
   exact (HT_retE (fun h => ⟨.inr rfl, h⟩) _ (by simp [*]; rfl) (by first | rfl | (simp [*, kidsP]; done) | (simp only [resR, kidsP]; (repeat' split) <;> first | rfl | (exfalso; omega) | simp_all)) (by simp))
 · try simp only [BN] at h2
   refine HT_seq <| HT_runA ?_
   refine (HT_cond rfl (fun h6 => ?_) (fun h6 => ?_))
   · try simp only [BN] at h6
     refine HT_seq <| HT_runA ?_
     exact (HT_retE (fun h => ⟨.inr rfl, h⟩) _ (by simp [*]; rfl) (by first | rfl | (simp [*, kidsP]; done) | (simp only [resR, kidsP]; (repeat' split) <;> first | rfl | (exfalso; omega) | simp_all)) (by simp))
   · try simp only [BN] at h6
     refine HT_seq <| HT_runA ?_
     refine (HT_cond rfl (fun h10 => ?_) (fun h10 => ?_))
     · try simp only [BN] at h10
       refine HT_seq <| HT_runA ?_
       exact (HT_retE (fun h => ⟨.inr rfl, h⟩) _ (by simp [*]; rfl) (by first | rfl | (simp [*, kidsP]; done) | (simp only [resR, kidsP]; (repeat' split) <;> first | rfl | (exfalso; omega) | simp_all)) (by simp))
     · try simp only [BN] at h10
       refine HT_seq <| HT_runA ?_
       refine (HT_cond rfl (fun h14 => ?_) (fun h14 => ?_))
       · try simp only [BN] at h14
         refine HT_seq <| HT_runA ?_
         exact (HT_retE (fun h => ⟨.inr rfl, h⟩) _ (by simp [*]; rfl) (by first | rfl | (simp [*, kidsP]; done) | (simp only [resR, kidsP]; (repeat' split) <;> first | rfl | (exfalso; omega) | simp_all)) (by simp))
       · try simp only [BN] at h14
         refine HT_seq <| HT_runA ?_
         refine (HT_cond rfl (fun h18 => ?_) (fun h18 => HT_skip ?_))
         · try simp only [BN] at h18
           refine HT_seq <| HT_runA ?_
           exact (HT_retE (fun h => ⟨.inr rfl, h⟩) _ (by simp [*]; rfl) (by first | rfl | (simp [*, kidsP]; done) | (simp only [resR, kidsP]; (repeat' split) <;> first | rfl | (exfalso; omega) | simp_all)) (by simp))
         · try simp only [BN] at h18
           refine HT_seq <| HT_runA ?_
           exact (HT_retE (fun h => ⟨.inr rfl, h⟩) _ (by simp [*]; rfl) (by first | rfl | (simp [*, kidsP]; done) | (simp only [resR, kidsP]; (repeat' split) <;> first | rfl | (exfalso; omega) | simp_all)) (by simp))
theorem overP_con (n : Int) (b : Bool) (d : Nat) : Con Tryz.prog 144 true [.one (.c (.ptr [iC n, bC b]))] (.v (lb (b || decide (1024 < n)))) none d := by
 refine con_of_HT Tryz.func144 rfl (by kernel_rfl) (Nat.le_of_ble_eq_true rfl) ?_
 simp only [Tryz.f144]
 refine HT_seq <| HT_runA ?_
 refine HT_seq <| HT_runA ?_
 exact HT_retA fun h => ⟨.inr rfl, h⟩
def chOk (s : ByteArray) (i : Nat) : Bool :=
 match s[i]? with
 | some b => (decide (97 ≤ (b.toNat : Int)) && decide ((b.toNat : Int) ≤ 122)) || (decide (i ≠ 0) && ((decide (48 ≤ (b.toNat : Int)) && decide ((b.toNat : Int) ≤ 57)) || decide ((b.toNat : Int) = 46) || decide ((b.toNat : Int) = 95)))
 | none => false
def nameB (s : ByteArray) : Bool := decide (1 ≤ s.size) && decide (s.size ≤ 40) && (List.range s.size).all (chOk s)
theorem get_bytes {s : ByteArray} {k : Nat} (h : k < s.size) : ∃ b, s[k]? = some b := ⟨s[k], by simp [h]⟩
theorem size_pos {s : ByteArray} : s = ⟨#[]⟩ ↔ s.size = 0 := by
 obtain ⟨a⟩ := s
 constructor
 · intro h; cases h; rfl
 · intro h
   have : a = #[] := Array.eq_empty_of_size_eq_zero h
   rw [this]
theorem nameB_bad {s : ByteArray} {k : Nat} (hk : k < s.size) (h : chOk s k = false) : nameB s = false := by
 unfold nameB
 rw [Bool.and_eq_false_iff]
 refine .inr ?_
 rw [List.all_eq_false]
 exact ⟨k, by simpa using hk, by simp [h]⟩
theorem nameB_good {s : ByteArray} (h1 : 1 ≤ s.size) (h2 : s.size ≤ 40) (h : ∀ j : Nat, j < s.size → chOk s j = true) : nameB s = true := by
 unfold nameB
 simp only [h1, h2, decide_true, Bool.true_and, List.all_eq_true, List.mem_range]
 exact h
theorem nameP_con (s : ByteArray) (d : Nat) : Con Tryz.prog 172 true [sv s] (.v (lb (nameB s))) none d := by
 refine con_of_HT Tryz.func172 rfl (by kernel_rfl) (Nat.le_of_ble_eq_true rfl) ?_
 simp only [Tryz.f172]
 refine HT_seq <| HT_runA ?_
 refine HT_seq <| HT_seq <| HT_runA ?_
 refine (HT_cond rfl (fun h2 => ?_) (fun h2 => HT_skip ?_))
 · try simp only [BN] at h2
   have hz : nameB s = false := by
    unfold nameB
    simp only [size_pos] at h2
    rw [Bool.and_eq_false_iff, Bool.and_eq_false_iff]
    simp only [decide_eq_false_iff_not]
    omega
   refine HT_seq <| HT_runA ?_
   exact HT_retA fun h => ⟨.inr rfl, h⟩
 · try simp only [BN] at h2
   simp only [size_pos] at h2
   have h1 : 1 ≤ s.size := by omega
   have h40 : s.size ≤ 40 := by omega
   refine HT_seq <| HT_seq <| HT_runA ?_
   refine HT_block <| (HT_loopU [0, 14] (fun (x : Nat) => [(15, .v (li x))]) (fun (x : Nat) => []) (fun (x : Nat) => x ≤ s.size ∧ ∀ j : Nat, j < x → chOk s j = true) (fun (x : Nat) => s.size - x) (0 : Nat) ⟨Nat.zero_le _, fun j hj => absurd hj (Nat.not_lt_zero j)⟩ ?_ ?_)
   · exact le_mkA (fun n => n) []
   rintro k ⟨hk, hall⟩
   simp only [upS, keepS, insS]
   try simp only [keepS, KN, Nat.reduceBEq, if_true, if_false, ins, Nat.reduceLT]
   refine HT_seq <| HT_runA ?_
   refine HT_seq <| (HT_cond rfl (fun h8 => HT_skip ?_) (fun h8 => ?_))
   · try simp only [BN] at h8
     have hlt : k < s.size := by omega
     obtain ⟨b, hb⟩ := get_bytes hlt
     have hw := wrap1 hlt (by omega)
     have hk1 : k + 1 ≤ s.size := hlt
     clear hlt h8
     refine HT_seq <| HT_block <| HT_seq <| HT_runA ?_
     refine HT_seq <| HT_runA ?_
     refine HT_seq <| HT_runA ?_
     refine HT_seq <| HT_runA ?_
     refine (HT_cond rfl (fun h13 => ?_) (fun h13 => HT_skip ?_))
     · try simp only [BN] at h13
       have hbad : chOk s k = false := by
        unfold chOk
        rw [hb]
        simp only [Bool.or_eq_false_iff, Bool.and_eq_false_iff, decide_eq_false_iff_not]
        omega
       have hz := nameB_bad hk1 hbad
       refine HT_seq <| HT_runA ?_
       exact HT_retA fun h => ⟨.inr rfl, h⟩
     · try simp only [BN] at h13
       have hgood : chOk s k = true := by
        unfold chOk
        rw [hb]
        simp only [Bool.or_eq_true, Bool.and_eq_true, decide_eq_true_eq]
        omega
       refine HT_runA ?_
       exact ⟨k + 1, ⟨by omega, fun j hj => (Nat.lt_succ_iff_lt_or_eq.1 hj).elim (hall j) (fun e => e ▸ hgood)⟩, by omega, le_mkA (fun n => n) []⟩
   · try simp only [BN] at h8
     have hz := nameB_good h1 h40 (fun j hj => hall j (by omega))
     refine (HT_exit ?_)
     refine HT_seq <| HT_runA ?_
     exact HT_retA fun h => ⟨.inr rfl, h⟩
end Go.Proofs.YtfjidddhehckoaaGreat

namespace Go.Proofs.YtfjidddhehckoaaGreat
open Go Go.Hl
mutual
def Tm.nodes : Tm → Nat
 | .mk _ _ ks => 1 + nodesT ks
def nodesT : List Tm → Nat
 | [] => 0
 | t :: l => t.nodes + nodesT l
end
mutual
def St.nodes : St → Nat
 | .mk _ _ _ _ t a b bs => 1 + t.nodes + nodesS a + nodesS b
def nodesS : List St → Nat
 | [] => 0
 | s :: l => s.nodes + nodesS l
end
theorem nodes_pos (t : Tm) : 1 ≤ t.nodes := by cases t; simp [Tm.nodes]
theorem nodesS_pos (t : St) : 1 ≤ t.nodes := by cases t; simp [St.nodes]; omega
theorem len_nodesT : ∀ l : List Tm, l.length ≤ nodesT l
 | [] => by simp [nodesT]
 | t :: l => by have := len_nodesT l; have := nodes_pos t; simp only [nodesT, List.length_cons]; omega
theorem len_nodesS : ∀ l : List St, l.length ≤ nodesS l
 | [] => by simp [nodesS]
 | t :: l => by have := len_nodesS l; have := nodesS_pos t; simp only [nodesS, List.length_cons]; omega
mutual
def mTm : Tm → Int → Int × Bool → Int × Bool
 | .mk _ _ ks, dep, s => if ((s.2 || decide (12 < dep)) || decide (1024 < s.1 + 1)) = true then (s.1 + 1, s.2 || decide (12 < dep)) else mTms ks (dep + 1) (s.1 + 1, s.2 || decide (12 < dep))
def mTms : List Tm → Int → Int × Bool → Int × Bool
 | [], _, s => s
 | t :: l, dep, s => mTms l dep (mTm t dep s)
end
mutual
theorem mTm_le : ∀ (t : Tm) (dep : Int) (s : Int × Bool), s.1 ≤ (mTm t dep s).1 ∧ (mTm t dep s).1 ≤ s.1 + t.nodes
 | .mk o n ks, dep, s => by
   have := mTms_le ks (dep + 1) (s.1 + 1, s.2 || decide (12 < dep))
   simp only [mTm, Tm.nodes]
   split
   · simp only; omega
   · simp only at this; omega
theorem mTms_le : ∀ (l : List Tm) (dep : Int) (s : Int × Bool), s.1 ≤ (mTms l dep s).1 ∧ (mTms l dep s).1 ≤ s.1 + nodesT l
 | [], dep, s => by simp [mTms, nodesT]
 | t :: l, dep, s => by
   have h1 := mTm_le t dep s
   have h2 := mTms_le l dep (mTm t dep s)
   simp only [mTms, nodesT]
   omega
end
theorem mterm_con (t : Tm) : ∀ (dep c : Int) (b : Bool), 0 ≤ dep → 0 ≤ c → c + t.nodes ≤ 1000000000 →
  ConIO Tryz.prog 145 [iC c, bC b] [aT t, li dep] (.tup []) [iC (mTm t dep (c, b)).1, bC (mTm t dep (c, b)).2] := by
 induction t using Tm.ind with
 | h o n ks ih =>
 intro dep c b hdep hc hn
 simp only [Tm.nodes] at hn
 obtain ⟨res, hres⟩ : ∃ r, mTm (.mk o n ks) dep (c, b) = r := ⟨_, rfl⟩
 rw [hres]
 simp only [mTm] at hres
 have hlen := len_nodesT ks
 have hw : IntKind.i64.wrap (c + 1) = c + 1 := wrap_in (by omega) (by omega)
 refine con_io_of_HT Tryz.func145 rfl (by kernel_rfl) (Nat.le_of_ble_eq_true rfl) ?_
 simp only [Tryz.f145, aT, Tm.enc]
 refine HT_seq <| HT_runA ?_
 refine HT_seq <| HT_runA ?_
 refine HT_seq <| HT_runA ?_
 refine HT_seq <| HT_seq <| (HT_runcA [⟨true, .v (lb ((b || decide (12 < dep)) || decide (1024 < c + 1))), none⟩] ?_ ?_)
 · first | exact overP_con _ _ _ | exact trivial | simpa [*] using overP_con _ _ _
 refine (HT_cond rfl (fun h4 => ?_) (fun h4 => HT_skip ?_))
 · try simp only [BN] at h4
   rw [if_pos (by simpa using h4)] at hres
   subst hres
   exact HT_ret (⟨.inr rfl, _, le_refl _, ⟨_, by simp [*]; rfl, by simp [resR]⟩, by simp [*]⟩)
 · try simp only [BN] at h4
   rw [if_neg (by simpa using h4)] at hres
   have hdep2 : dep ≤ 12 := by omega
   have hwd : IntKind.i64.wrap (dep + 1) = dep + 1 := wrap_in (by omega) (by omega)
   refine HT_seq <| HT_runA ?_
   refine HT_block <| (HT_loopU [0, 2, 29, 30] (fun (x : Nat × Int × Bool) => [(31, .v (li x.1))]) (fun (x : Nat × Int × Bool) => [(1000000, .box [.c (iC x.2.1), .c (bC x.2.2)])]) (fun (x : Nat × Int × Bool) => x.1 ≤ ks.length ∧ mTms (ks.drop x.1) (dep + 1) x.2 = res ∧ 0 ≤ x.2.1 ∧ x.2.1 + nodesT (ks.drop x.1) ≤ 1000000000) (fun (x : Nat × Int × Bool) => ks.length - x.1) (0, c + 1, b || decide (12 < dep)) ⟨Nat.zero_le _, hres, by simp only; omega, by simp only [List.drop_zero]; omega⟩ ?_ ?_)
   · exact le_mkA (fun n => n) []
   rintro ⟨k, m, q⟩ ⟨hk, hJ, hm, hb⟩
   simp only [upS, keepS, insS]
   try simp only [keepS, KN, Nat.reduceBEq, if_true, if_false, ins, Nat.reduceLT]
   simp only at hk hJ hm hb
   refine HT_seq <| HT_runA ?_
   refine HT_seq <| (HT_cond rfl (fun h9 => HT_skip ?_) (fun h9 => ?_))
   · try simp only [BN] at h9
     have hlt : k < ks.length := by omega
     obtain ⟨⟨eo, en, ek⟩, he, hd⟩ := at_lt hlt
     have he' := get_encT he
     simp only [Tm.enc] at he'
     have hw1 := wrap1 hlt (by omega)
     rw [hd] at hJ hb
     simp only [mTms, nodesT] at hJ hb
     have hk1 : k + 1 ≤ ks.length := hlt
     have hmem : Tm.mk eo en ek ∈ ks := List.mem_of_getElem? he
     have hle := mTm_le (.mk eo en ek) (dep + 1) (m, q)
     clear hlt h9
     refine HT_seq <| HT_block <| HT_seq <| HT_runA ?_
     refine (HT_runIO 4 (.tup []) ([iC (mTm (.mk eo en ek) (dep + 1) (m, q)).1, bC (mTm (.mk eo en ek) (dep + 1) (m, q)).2]) rfl (by simp [*]; rfl) (by simp [ioOf, *]; first | exact ⟨rfl, rfl, rfl, rfl, rfl⟩ | exact ⟨rfl, rfl, rfl, rfl⟩ | exact ⟨rfl, rfl, rfl⟩ | exact ⟨rfl, rfl⟩ | rfl) (ih _ hmem (dep + 1) m q (by omega) hm (by omega)) (by simp) (by simp [*]; rfl) ?_)
     refine HT_runA ?_
     exact ⟨(k + 1, mTm (.mk eo en ek) (dep + 1) (m, q)), ⟨hk1, hJ, by simp only at hle ⊢; omega, by simp only at hle ⊢; omega⟩, by simp only; omega, le_mkA (fun n => n) []⟩
   · try simp only [BN] at h9
     have hkl : k = ks.length := by omega
     subst hkl
     rw [List.drop_length] at hJ
     simp only [mTms] at hJ
     subst hJ
     refine (HT_exit ?_)
     exact (⟨.inl rfl, _, le_refl _, ⟨_, by simp [*]; rfl, by simp [resR]⟩, by simp [*]⟩)
end Go.Proofs.YtfjidddhehckoaaGreat

namespace Go.Proofs.YtfjidddhehckoaaGreat
open Go Go.Hl
def encPs (k : List (Int × Int)) : List (List CD) := k.map fun p => [iC p.1, iC p.2]
@[simp] theorem len_encP (k : List (Int × Int)) : (encPs k).length = k.length := by simp [encPs]
@[simp] theorem get_encP (k : List (Int × Int)) (i : Nat) : (encPs k)[i]? = k[i]?.map fun p => [iC p.1, iC p.2] := by simp [encPs]
@[simp] theorem encP_nil : encPs [] = [] := rfl
abbrev aP (p : Int × Int) : TV := .agg [.c (iC p.1), .c (iC p.2)]
def mn (a b : Int) : Int := if b < a then b else a
def mx (a b : Int) : Int := if a < b then b else a
def hullP (p q : Int × Int) : Int × Int := (mn p.1 q.1, mx p.2 q.2)
def hullL : List (Int × Int) → Int × Int → Int × Int
 | [], p => p
 | q :: l, p => hullL l (hullP p q)
def mulP (a b : Int × Int) : Int × Int := hullP (hullP (hullP (a.1 * b.1, a.1 * b.1) (a.1 * b.2, a.1 * b.2)) (a.2 * b.1, a.2 * b.1)) (a.2 * b.2, a.2 * b.2)
def bnd (p : Int × Int) : Prop := -1048576 ≤ p.1 ∧ p.1 ≤ p.2 ∧ p.2 ≤ 1048576
theorem hull_con (p q : Int × Int) (d : Nat) : Con Tryz.prog 204 true [aP p, aP q] (.v (aP (hullP p q))) none d := by
 refine con_of_HT Tryz.func204 rfl (by kernel_rfl) (Nat.le_of_ble_eq_true rfl) ?_
 simp only [Tryz.f204]
 refine HT_seq <| HT_runA ?_
 refine HT_seq <| HT_runA ?_
 exact (HT_retE (fun h => ⟨.inr rfl, h⟩) _ (by simp [*]; rfl) (by simp [resR, hullP, mn, mx]) (by simp))
theorem mul_le {x y : Int} (hx : -1048576 ≤ x ∧ x ≤ 1048576) (hy : -1048576 ≤ y ∧ y ≤ 1048576) : -1099511627776 ≤ x * y ∧ x * y ≤ 1099511627776 := by
 have h1 : x.natAbs ≤ 1048576 := by omega
 have h2 : y.natAbs ≤ 1048576 := by omega
 have h3 := Nat.mul_le_mul h1 h2
 rw [← Int.natAbs_mul] at h3
 omega
theorem mul_con (x y : Int) (hx : -1048576 ≤ x ∧ x ≤ 1048576) (hy : -1048576 ≤ y ∧ y ≤ 1048576) (d : Nat) : Con Tryz.prog 203 true [li x, li y] (.v (li (x * y))) none d := by
 have hm := mul_le hx hy
 have hw : IntKind.i64.wrap (x * y) = x * y := wrap_in (by omega) (by omega)
 refine con_of_HT Tryz.func203 rfl (by kernel_rfl) (Nat.le_of_ble_eq_true rfl) ?_
 simp only [Tryz.f203]
 refine HT_seq <| HT_runA ?_
 refine HT_seq <| HT_runA ?_
 exact HT_retA fun h => ⟨.inr rfl, h⟩
def hullI : List Int → Int × Int → Int × Int
 | [], p => p
 | q :: l, p => hullI l (hullP p (q, q))
theorem corners_con (a b : Int × Int) (ha : bnd a) (hb : bnd b) (d : Nat) : Con Tryz.prog 202 true [aP a, aP b, .one (.fn 203 [])] (.v (aP (mulP a b))) none d := by
 obtain ⟨a1, a2⟩ := a
 obtain ⟨b1, b2⟩ := b
 simp only [bnd] at ha hb
 refine con_of_HT Tryz.func202 rfl (by kernel_rfl) (Nat.le_of_ble_eq_true rfl) ?_
 simp only [Tryz.f202]
 obtain ⟨L, hL⟩ : ∃ L, L = [a1 * b2, a2 * b1, a2 * b2] := ⟨_, rfl⟩
 have hlen : L.length = 3 := by rw [hL]; rfl
 obtain ⟨res, hres⟩ : ∃ res, mulP (a1, a2) (b1, b2) = res := ⟨_, rfl⟩
 rw [hres]
 have hres2 : hullI L (a1 * b1, a1 * b1) = res := by rw [← hres, hL]; rfl
 clear hres
 refine HT_seq <| HT_runA ?_
 refine HT_seq <| (HT_runcA [⟨true, .v (li (a1 * b1)), none⟩] ?_ ?_)
 · first | exact mul_con _ _ (by omega) (by omega) _ | exact trivial | simpa [*] using mul_con _ _ (by omega) (by omega) _
 refine HT_seq <| HT_runA ?_
 refine HT_seq <| HT_seq <| (HT_drunc [⟨true, .v (li (a1 * b2)), none⟩, ⟨true, .v (li (a2 * b1)), none⟩, ⟨true, .v (li (a2 * b2)), none⟩] (by kernel_rfl) (by kernel_rfl) (by rfl) (by simp [*]; first | exact ⟨rfl, Iff.rfl⟩ | exact ⟨rfl, trivial⟩ | rfl) ?_ ?_)
 · first | exact trivial | exact trivial | (repeat' first | exact trivial | exact mul_con _ _ (by omega) (by omega) _ | exact mul_con _ _ (by omega) (by omega) _ | exact mul_con _ _ (by omega) (by omega) _ | apply And.intro)
 refine HT_block <| (HT_loopU [6, 8, 38, 39] (fun (x : Nat × Int × Int) => [(40, .v (li x.1))]) (fun (x : Nat × Int × Int) => [(6, .box [.c (iC 0), .c (iC 0)]), (8, .box [.c (iC x.2.1), .c (iC x.2.2)]), (38, .row 3 1 (encIs L))]) (fun (x : Nat × Int × Int) => x.1 ≤ 3 ∧ hullI (L.drop x.1) x.2 = res) (fun (x : Nat × Int × Int) => 3 - x.1) (0, a1 * b1, a1 * b1) ⟨Nat.zero_le _, hres2⟩ ?_ ?_)
 · exact le_mk (fun n => n) [] rfl (by simp [*, upS, keepS]) (by simp [upS, encIs, hL]) (by simp [upS])
 rintro ⟨k, m, q⟩ ⟨hk, hJ⟩
 simp only [upS, keepS, insS]
 try simp only [keepS, KN, Nat.reduceBEq, if_true, if_false, ins, Nat.reduceLT]
 simp only at hk hJ
 clear hres2 hL
 refine HT_seq <| HT_runA ?_
 refine HT_seq <| (HT_cond rfl (fun h6 => HT_skip ?_) (fun h6 => ?_))
 · try simp only [BN] at h6
   have hlt : k < L.length := by omega
   obtain ⟨e, he, hd⟩ := at_lt hlt
   have hw1 := wrap1 hlt (by omega)
   rw [hd] at hJ
   simp only [hullI] at hJ
   have hk1 : k + 1 ≤ 3 := by omega
   clear hlt h6
   refine HT_seq <| HT_block <| HT_seq <| HT_runA ?_
   refine (HT_runcA [⟨true, .v (aP (hullP (m, q) (e, e))), none⟩] ?_ ?_)
   · first | exact hull_con (m, q) (e, e) _ | exact trivial | simpa [*] using hull_con (m, q) (e, e) _
   refine HT_runA ?_
   exact ⟨(k + 1, hullP (m, q) (e, e)), ⟨hk1, hJ⟩, by simp only; omega, le_mkA (fun n => n) []⟩
 · try simp only [BN] at h6
   have hkl : k = L.length := by omega
   rw [hkl, List.drop_length] at hJ
   simp only [hullI] at hJ
   refine (HT_exit ?_)
   refine HT_seq <| HT_runA ?_
   exact (HT_retE (fun h => ⟨.inr rfl, h⟩) _ (by simp [*]; rfl) (by subst hJ; rfl) (by simp))
end Go.Proofs.YtfjidddhehckoaaGreat

namespace Go.Proofs.YtfjidddhehckoaaGreat
open Go Go.Hl
def refB (vars : List Vr) (inp : Bool) (n : Int) : Bool :=
 decide (0 ≤ n) && match vars[n.toNat]? with
  | some v => !(inp && decide (v.kind = 0))
  | none => false
def nodeB (vars : List Vr) (inp : Bool) (o n : Int) (len : Nat) : Bool :=
 (!decide ((kidsP o).1 < 0) && (!decide ((len : Int) < (kidsP o).1) && !decide ((kidsP o).2 < (len : Int)))) && (if o = 0 then true else if o = 24 then refB vars inp n else decide (n = 0))
mutual
def formB (vars : List Vr) (inp : Bool) : Tm → Bool
 | .mk o n ks => nodeB vars inp o n ks.length && formBs vars inp ks
def formBs (vars : List Vr) (inp : Bool) : List Tm → Bool
 | [] => true
 | t :: l => formB vars inp t && formBs vars inp l
end
theorem formBs_mem {vars : List Vr} {inp : Bool} : ∀ {l : List Tm}, formBs vars inp l = true → ∀ t ∈ l, formB vars inp t = true
 | [], _, t, ht => by cases ht
 | a :: l, h, t, ht => by
   simp only [formBs, Bool.and_eq_true] at h
   rcases List.mem_cons.1 ht with rfl | h1
   · exact h.1
   · exact formBs_mem h.2 t h1
theorem get_vars {vars : List Vr} {n : Int} : (0 ≤ n ∧ n < vars.length) → ∃ v, vars[n.toNat]? = some v := by
 rintro ⟨h1, h2⟩
 have : n.toNat < vars.length := by omega
 exact ⟨vars[n.toNat], by simp [this]⟩
theorem get_none {vars : List Vr} {n : Int} (h1 : 0 ≤ n) (h2 : ¬ n < vars.length) : vars[n.toNat]? = none := by
 rw [List.getElem?_eq_none]
 omega
theorem formP_con (vars : List Vr) (inp : Bool) (hv : vars.length ≤ 1000000000) (t : Tm) : t.nodes ≤ 1000000000 → ∀ d : Nat,
  Con Tryz.prog 190 true [lV vars, aT t, lb inp] (.v (lb (formB vars inp t))) none d := by
 induction t using Tm.ind with
 | h o n ks ih =>
 intro hn d
 simp only [Tm.nodes] at hn
 have hlen := len_nodesT ks
 obtain ⟨res, hres⟩ : ∃ r, formB vars inp (.mk o n ks) = r := ⟨_, rfl⟩
 rw [hres]
 simp only [formB] at hres
 have ih' : ∀ t ∈ ks, ∀ d, Con Tryz.prog 190 true [lV vars, aT t, lb inp] (.v (lb (formB vars inp t))) none d := by
  intro t ht d
  refine ih t ht ?_ d
  have : t.nodes ≤ nodesT ks := by
   clear hres ih hn hlen
   induction ks with
   | nil => cases ht
   | cons a l ih =>
     simp only [nodesT]
     rcases List.mem_cons.1 ht with rfl | h
     · omega
     · have := ih h; omega
  omega
 clear ih
 refine con_of_HT Tryz.func190 rfl (by kernel_rfl) (Nat.le_of_ble_eq_true rfl) ?_
 simp only [Tryz.f190]
 simp only [aT, Tm.enc]
 refine HT_seq <| HT_runA ?_
 refine HT_seq <| (HT_runcA [⟨true, .tup [li (kidsP o).1, li (kidsP o).2], none⟩] ?_ ?_)
 · first | exact kidsP_con o _ | exact trivial | simpa [*] using kidsP_con o _
 refine HT_seq <| HT_seq <| HT_runA ?_
 refine (HT_cond rfl (fun h3 => ?_) (fun h3 => HT_skip ?_))
 · try simp only [BN] at h3
   have hz : nodeB vars inp o n ks.length = false := by
    unfold nodeB
    rw [Bool.and_eq_false_iff]
    refine .inl ?_
    simp only [Bool.and_eq_false_iff, Bool.not_eq_false', decide_eq_true_eq]
    omega
   rw [hz, Bool.false_and] at hres
   refine HT_seq <| HT_runA ?_
   exact (HT_retE (fun h => ⟨.inr rfl, h⟩) _ (by simp [*]; rfl) (by first | rfl | simp [*]) (by simp))
 · try simp only [BN] at h3
   have hz : (!decide ((kidsP o).1 < 0) && (!decide ((ks.length : Int) < (kidsP o).1) && !decide ((kidsP o).2 < (ks.length : Int)))) = true := by
    simp only [Bool.and_eq_true, Bool.not_eq_true', decide_eq_false_iff_not]
    omega
   refine (HT_cutU [0, 2, 4] (fun (z : Unit) => []) (fun (z : Unit) => [(4, .box [.c (iC o), .c (iC n), .c (.sl 3 (encTs ks))])]) (fun (z : Unit) => nodeB vars inp o n ks.length = true) ?_ ?_)
   ·
    refine HT_seq <| HT_runA ?_
    refine HT_block <| HT_seq <| HT_runA ?_
    refine (HT_cond rfl (fun h9 => HT_skip ?_) (fun h9 => ?_))
    · try simp only [BN] at h9
      exact ⟨(), by unfold nodeB; rw [hz, Bool.true_and, if_pos h9], le_mkA (fun n => n) []⟩
    · try simp only [BN] at h9
      refine HT_seq <| HT_runA ?_
      refine (HT_cond rfl (fun h12 => ?_) (fun h12 => ?_))
      · try simp only [BN] at h12
        by_cases hn0 : 0 ≤ n
        · by_cases hn3 : n < vars.length
          · obtain ⟨v, hv1⟩ := get_vars ⟨hn0, hn3⟩
            have hn1 : ¬ (vars.length : Int) ≤ n := by omega
            have hn2 : ¬ n < 0 := by omega
            clear hn3
            refine HT_seq <| HT_runA ?_
            refine (HT_cond rfl (fun h14 => ?_) (fun h14 => HT_skip ?_))
            · try simp only [BN] at h14
              have hz3 : nodeB vars inp o n ks.length = false := by
               unfold nodeB refB
               rw [hz, Bool.true_and, if_neg h9, if_pos h12, hv1]
               simp [h14]
              rw [hz3, Bool.false_and] at hres
              refine HT_seq <| HT_runA ?_
              exact (HT_retE (fun h => ⟨.inr rfl, h⟩) _ (by simp [*]; rfl) (by first | rfl | simp [*]) (by simp))
            · try simp only [BN] at h14
              exact ⟨(), by
               unfold nodeB refB
               rw [hz, Bool.true_and, if_neg h9, if_pos h12, hv1]
               simp only [Bool.and_eq_true, Bool.not_eq_true', Bool.and_eq_false_iff, decide_eq_true_eq, decide_eq_false_iff_not]
               exact ⟨hn0, h14⟩, le_mkA (fun n => n) []⟩
          · cases inp
            · have hv1 := get_none hn0 hn3
              have hn1 : (vars.length : Int) ≤ n := by omega
              have hn2 : ¬ n < 0 := by omega
              have hz2 : ∀ i, refB vars i n = false := by intro i; simp [refB, hv1]
              clear hn3
              refine HT_seq <| HT_runA ?_
              refine (HT_cond rfl (fun h14 => ?_) (fun h14 => HT_skip ?_))
              · try simp only [BN] at h14
                have hz3 : ∀ i, nodeB vars i o n ks.length = false := by
                 intro i
                 unfold nodeB
                 rw [hz, Bool.true_and, if_neg h9, if_pos h12, hz2]
                rw [hz3, Bool.false_and] at hres
                refine HT_seq <| HT_runA ?_
                exact (HT_retE (fun h => ⟨.inr rfl, h⟩) _ (by simp [*]; rfl) (by first | rfl | simp [*]) (by simp))
              · exact absurd h14 (by simp)
            · have hv1 := get_none hn0 hn3
              have hn1 : (vars.length : Int) ≤ n := by omega
              have hn2 : ¬ n < 0 := by omega
              have hz2 : ∀ i, refB vars i n = false := by intro i; simp [refB, hv1]
              clear hn3
              refine HT_seq <| HT_runA ?_
              refine (HT_cond rfl (fun h14 => ?_) (fun h14 => HT_skip ?_))
              · try simp only [BN] at h14
                have hz3 : ∀ i, nodeB vars i o n ks.length = false := by
                 intro i
                 unfold nodeB
                 rw [hz, Bool.true_and, if_neg h9, if_pos h12, hz2]
                rw [hz3, Bool.false_and] at hres
                refine HT_seq <| HT_runA ?_
                exact (HT_retE (fun h => ⟨.inr rfl, h⟩) _ (by simp [*]; rfl) (by first | rfl | simp [*]) (by simp))
              · exact absurd h14 (by simp)
        · cases inp
          · have hn2 : n < 0 := by omega
            have hz2 : ∀ i, refB vars i n = false := by intro i; simp [refB, hn0]
            refine HT_seq <| HT_runA ?_
            refine (HT_cond rfl (fun h14 => ?_) (fun h14 => HT_skip ?_))
            · try simp only [BN] at h14
              have hz3 : ∀ i, nodeB vars i o n ks.length = false := by
               intro i
               unfold nodeB
               rw [hz, Bool.true_and, if_neg h9, if_pos h12, hz2]
              rw [hz3, Bool.false_and] at hres
              refine HT_seq <| HT_runA ?_
              exact (HT_retE (fun h => ⟨.inr rfl, h⟩) _ (by simp [*]; rfl) (by first | rfl | simp [*]) (by simp))
            · exact absurd h14 (by simp)
          · have hn2 : n < 0 := by omega
            have hz2 : ∀ i, refB vars i n = false := by intro i; simp [refB, hn0]
            refine HT_seq <| HT_runA ?_
            refine (HT_cond rfl (fun h14 => ?_) (fun h14 => HT_skip ?_))
            · try simp only [BN] at h14
              have hz3 : ∀ i, nodeB vars i o n ks.length = false := by
               intro i
               unfold nodeB
               rw [hz, Bool.true_and, if_neg h9, if_pos h12, hz2]
              rw [hz3, Bool.false_and] at hres
              refine HT_seq <| HT_runA ?_
              exact (HT_retE (fun h => ⟨.inr rfl, h⟩) _ (by simp [*]; rfl) (by first | rfl | simp [*]) (by simp))
            · exact absurd h14 (by simp)
      · try simp only [BN] at h12
        refine HT_seq <| HT_runA ?_
        refine (HT_cond rfl (fun h19 => ?_) (fun h19 => HT_skip ?_))
        · try simp only [BN] at h19
          have hz3 : nodeB vars inp o n ks.length = false := by
           unfold nodeB
           rw [hz, Bool.true_and, if_neg h9, if_neg h12]
           simpa using h19
          rw [hz3, Bool.false_and] at hres
          refine HT_seq <| HT_runA ?_
          exact (HT_retE (fun h => ⟨.inr rfl, h⟩) _ (by simp [*]; rfl) (by first | rfl | simp [*]) (by simp))
        · try simp only [BN] at h19
          exact ⟨(), by
           unfold nodeB
           rw [hz, Bool.true_and, if_neg h9, if_neg h12]
           simpa using h19, le_mkA (fun n => n) []⟩
   rintro z hz
   simp only [upS, keepS, insS]
   try simp only [keepS, KN, Nat.reduceBEq, if_true, if_false, ins, Nat.reduceLT]
   rw [hz, Bool.true_and] at hres
   refine HT_seq <| HT_seq <| HT_runA ?_
   refine HT_block <| (HT_loopU [0, 2, 65, 66] (fun (x : Nat) => [(67, .v (li x))]) (fun (x : Nat) => []) (fun (x : Nat) => x ≤ ks.length ∧ formBs vars inp (ks.drop x) = res) (fun (x : Nat) => ks.length - x) (0 : Nat) ⟨Nat.zero_le _, hres⟩ ?_ ?_)
   · exact le_mkA (fun n => n) []
   rintro k ⟨hk, hJ⟩
   simp only [upS, keepS, insS]
   try simp only [keepS, KN, Nat.reduceBEq, if_true, if_false, ins, Nat.reduceLT]
   refine HT_seq <| HT_runA ?_
   refine HT_seq <| (HT_cond rfl (fun h26 => HT_skip ?_) (fun h26 => ?_))
   · try simp only [BN] at h26
     have hlt : k < ks.length := by omega
     obtain ⟨⟨eo, en, ek⟩, he, hd⟩ := at_lt hlt
     have he' := get_encT he
     simp only [Tm.enc] at he'
     have hw1 := wrap1 hlt (by omega)
     rw [hd] at hJ
     simp only [formBs] at hJ
     have hk1 : k + 1 ≤ ks.length := hlt
     have hmem : Tm.mk eo en ek ∈ ks := List.mem_of_getElem? he
     clear hlt h26
     refine HT_seq <| HT_block <| HT_seq <| HT_runA ?_
     refine HT_seq <| (HT_runcA [⟨true, .v (lb (formB vars inp (.mk eo en ek))), none⟩] ?_ ?_)
     · first | exact ih' _ hmem _ | exact trivial | simpa [*] using ih' _ hmem _
     refine (HT_cond rfl (fun h29 => ?_) (fun h29 => HT_skip ?_))
     · try simp only [BN] at h29
       rw [h29, Bool.false_and] at hJ
       subst hJ
       refine HT_seq <| HT_runA ?_
       exact (HT_retE (fun h => ⟨.inr rfl, h⟩) _ (by simp [*]; rfl) (by first | rfl | simp [*]) (by simp))
     · try simp only [BN] at h29
       rw [h29, Bool.true_and] at hJ
       refine HT_runA ?_
       exact ⟨k + 1, ⟨hk1, hJ⟩, by omega, le_mkA (fun n => n) []⟩
   · try simp only [BN] at h26
     have hkl : k = ks.length := by omega
     subst hkl
     rw [List.drop_length] at hJ
     simp only [formBs] at hJ
     subst hJ
     refine (HT_exit ?_)
     refine HT_seq <| HT_runA ?_
     exact (HT_retE (fun h => ⟨.inr rfl, h⟩) _ (by simp [*]; rfl) (by first | rfl | simp [*]) (by simp))
end Go.Proofs.YtfjidddhehckoaaGreat

namespace Go.Proofs.YtfjidddhehckoaaGreat
open Go Go.Hl
theorem takeM {α β : Type} (f : α → β) (l : List α) : (l.map f).take l.length = l.map f := by
 rw [List.take_of_length_le (by simp)]
def modL (b : Int × Int) : Int := if b.1 < 0 then mn (b.1 + 1) 0 else 0
def modH (b : Int × Int) : Int := if 0 < b.2 then mx (b.2 - 1) 0 else 0
@[simp] def g2 (k : List (Int × Int)) (i : Nat) : Int × Int := k[i]?.getD ((0 : Int), (0 : Int))
def ruleP (vars : List Vr) (o n : Int) (k : List (Int × Int)) : Int × Int :=
 if o = 0 then (n, n) else if o = 24 then (match vars[n.toNat]? with | some v => (v.low, v.high) | none => (0, 0))
 else if o = 6 then (-(g2 k 0).2, -(g2 k 0).1)
 else if o = 8 then ((g2 k 0).1 + (g2 k 1).1, (g2 k 0).2 + (g2 k 1).2)
 else if o = 9 then ((g2 k 0).1 - (g2 k 1).2, (g2 k 0).2 - (g2 k 1).1)
 else if o = 10 then mulP (g2 k 0) (g2 k 1)
 else if o = 11 then (if 0 ≤ (g2 k 0).1 ∧ 0 ≤ (g2 k 1).1 then (0, mx (g2 k 0).2 (-(g2 k 0).1)) else (-(mx (g2 k 0).2 (-(g2 k 0).1)), mx (g2 k 0).2 (-(g2 k 0).1)))
 else if o = 12 then (modL (g2 k 1), modH (g2 k 1))
 else if o = 21 then (mn (g2 k 0).1 (g2 k 1).1, mn (g2 k 0).2 (g2 k 1).2)
 else if o = 22 then (mx (g2 k 0).1 (g2 k 1).1, mx (g2 k 0).2 (g2 k 1).2)
 else if o = 23 ∨ o = 25 then hullL (k.drop 2) (g2 k 1) else (0, 1)
theorem kid {k : List (Int × Int)} (hk : ∀ p ∈ k, bnd p) {i : Nat} (h : i + 1 ≤ k.length) : ∃ a1 a2, k[i]? = some (a1, a2) ∧ -1048576 ≤ a1 ∧ a1 ≤ a2 ∧ a2 ≤ 1048576 := by
 have : k[i]? = some k[i] := by simp [show i < k.length from h]
 have h2 := hk k[i] (List.getElem_mem _)
 exact ⟨k[i].1, k[i].2, this, h2⟩
theorem node_ar {vars : List Vr} {inp : Bool} {o n : Int} {len : Nat} (h : nodeB vars inp o n len = true) : 0 ≤ (kidsP o).1 ∧ (kidsP o).1 ≤ len ∧ (len : Int) ≤ (kidsP o).2 := by
 unfold nodeB at h
 simp only [Bool.and_eq_true, Bool.not_eq_true', decide_eq_false_iff_not] at h
 omega
theorem node_ref {vars : List Vr} {inp : Bool} {n : Int} {len : Nat} (h : nodeB vars inp 24 n len = true) : 0 ≤ n ∧ ∃ v, vars[n.toNat]? = some v ∧ (inp = true → v.kind ≠ 0) := by
 unfold nodeB refB at h
 simp only [Bool.and_eq_true, Int.reduceEq, if_false, if_true, decide_eq_true_eq] at h
 obtain ⟨_, h0, h⟩ := h
 refine ⟨h0, ?_⟩
 split at h
 · rename_i v hv
   refine ⟨v, hv, fun hi hk => ?_⟩
   simp [hi, hk] at h
 · cases h
theorem kids1 {o : Int} (h : o = 6 ∨ o = 7) : kidsP o = (1, 1) := by
 unfold kidsP; rw [if_neg (by omega), if_pos h]
theorem kids2 {o : Int} (h : 8 ≤ o ∧ o ≤ 22) : kidsP o = (2, 2) := by
 unfold kidsP; rw [if_neg (by omega), if_neg (by omega), if_pos h]
theorem kids3 : kidsP 23 = (3, 3) := by decide
theorem kids4 : kidsP 25 = (2, 33) := by decide
theorem rule_con (vars : List Vr) (inp : Bool) (o n : Int) (K : CD) (k : List (Int × Int)) (hf : nodeB vars inp o n k.length = true) (hk : ∀ p ∈ k, bnd p) (d : Nat) :
  Con Tryz.prog 201 true [lV vars, .agg [.c (iC o), .c (iC n), .c K], .one (.c (.sl 2 (encPs k)))] (.v (aP (ruleP vars o n k))) none d := by
 have har := node_ar hf
 have hrf : o = 24 → 0 ≤ n ∧ ∃ v, vars[n.toNat]? = some v ∧ (inp = true → v.kind ≠ 0) := fun h => node_ref (by rw [← h]; exact hf)
 clear hf
 have ar1 : o = 6 → 0 + 1 ≤ k.length := fun h => by have := kids1 (.inl h); rw [this] at har; simp only at har; omega
 have ar2 : 8 ≤ o ∧ o ≤ 22 → 0 + 1 ≤ k.length ∧ 1 + 1 ≤ k.length := fun h => by have := kids2 h; rw [this] at har; simp only at har; omega
 have ar3 : o = 23 ∨ o = 25 → 2 ≤ k.length ∧ k.length ≤ 33 := fun h => by
  rcases h with h | h
  · have := kids3; rw [h, this] at har; simp only at har; omega
  · have := kids4; rw [h, this] at har; simp only at har; omega
 clear har
 refine con_of_HT Tryz.func201 rfl (by kernel_rfl) (Nat.le_of_ble_eq_true rfl) ?_
 simp only [Tryz.f201]
 refine HT_seq <| HT_runA ?_
 refine HT_seq <| HT_seq <| HT_runA ?_
 refine HT_block <| HT_seq <| HT_runA ?_
 refine (HT_cond rfl (fun h3 => ?_) (fun h3 => ?_))
 · try simp only [BN] at h3
   refine HT_seq <| HT_runA ?_
   exact (HT_retE (fun h => ⟨.inr rfl, h⟩) _ (by simp [*]; rfl) (by first | rfl | (simp [*, ruleP]; done) | (simp only [resR, ruleP]; (repeat' split) <;> first | rfl | (exfalso; omega) | simp_all)) (by simp))
 · try simp only [BN] at h3
   refine HT_seq <| HT_runA ?_
   refine (HT_cond rfl (fun h7 => ?_) (fun h7 => ?_))
   · try simp only [BN] at h7
     obtain ⟨hn0, v, hv, _⟩ := hrf h7
     clear hrf
     refine HT_seq <| (HT_drun (by kernel_rfl) (by kernel_rfl) (by rfl) (by simp [*]; rfl) ?_)
     exact (HT_retE (fun h => ⟨.inr rfl, h⟩) _ (by simp [*]; rfl) (by first | rfl | (simp [*, ruleP]; done) | (simp only [resR, ruleP]; (repeat' split) <;> first | rfl | (exfalso; omega) | simp_all)) (by simp))
   · try simp only [BN] at h7
     refine HT_seq <| HT_runA ?_
     refine (HT_cond rfl (fun h11 => ?_) (fun h11 => ?_))
     · try simp only [BN] at h11
       obtain ⟨a1, a2, ha, hb1, hb2, hb3⟩ := kid hk (ar1 h11)
       have hw1 : IntKind.i64.wrap (-a1) = -a1 := wrap_in (by omega) (by omega)
       have hw2 : IntKind.i64.wrap (-a2) = -a2 := wrap_in (by omega) (by omega)
       clear ar1 ar2 ar3
       refine HT_seq <| (HT_drun (by kernel_rfl) (by kernel_rfl) (by rfl) (by simp [*]; rfl) ?_)
       exact (HT_retE (fun h => ⟨.inr rfl, h⟩) _ (by simp [*]; rfl) (by first | rfl | (simp [*, ruleP]; done) | (simp only [resR, ruleP]; (repeat' split) <;> first | rfl | (exfalso; omega) | simp_all)) (by simp))
     · try simp only [BN] at h11
       refine HT_seq <| HT_runA ?_
       refine (HT_cond rfl (fun h15 => ?_) (fun h15 => ?_))
       · try simp only [BN] at h15
         obtain ⟨a1, a2, ha, hb1, hb2, hb3⟩ := kid hk (ar2 (by omega)).1
         obtain ⟨c1, c2, hc, hc1, hc2, hc3⟩ := kid hk (ar2 (by omega)).2
         have hw1 : IntKind.i64.wrap (a1 + c1) = a1 + c1 := wrap_in (by omega) (by omega)
         have hw2 : IntKind.i64.wrap (a2 + c2) = a2 + c2 := wrap_in (by omega) (by omega)
         clear ar1 ar2 ar3
         refine HT_seq <| (HT_drun (by kernel_rfl) (by kernel_rfl) (by rfl) (by simp [*]; rfl) ?_)
         exact (HT_retE (fun h => ⟨.inr rfl, h⟩) _ (by simp [*]; rfl) (by first | rfl | (simp [*, ruleP]; done) | (simp only [resR, ruleP]; (repeat' split) <;> first | rfl | (exfalso; omega) | simp_all)) (by simp))
       · try simp only [BN] at h15
         refine HT_seq <| HT_runA ?_
         refine (HT_cond rfl (fun h19 => ?_) (fun h19 => ?_))
         · try simp only [BN] at h19
           obtain ⟨a1, a2, ha, hb1, hb2, hb3⟩ := kid hk (ar2 (by omega)).1
           obtain ⟨c1, c2, hc, hc1, hc2, hc3⟩ := kid hk (ar2 (by omega)).2
           have hw1 : IntKind.i64.wrap (a1 - c2) = a1 - c2 := wrap_in (by omega) (by omega)
           have hw2 : IntKind.i64.wrap (a2 - c1) = a2 - c1 := wrap_in (by omega) (by omega)
           clear ar1 ar2 ar3
           refine HT_seq <| (HT_drun (by kernel_rfl) (by kernel_rfl) (by rfl) (by simp [*]; rfl) ?_)
           exact (HT_retE (fun h => ⟨.inr rfl, h⟩) _ (by simp [*]; rfl) (by first | rfl | (simp [*, ruleP]; done) | (simp only [resR, ruleP]; (repeat' split) <;> first | rfl | (exfalso; omega) | simp_all)) (by simp))
         · try simp only [BN] at h19
           refine HT_seq <| HT_runA ?_
           refine (HT_cond rfl (fun h23 => ?_) (fun h23 => ?_))
           · try simp only [BN] at h23
             obtain ⟨a1, a2, ha, hb1, hb2, hb3⟩ := kid hk (ar2 (by omega)).1
             obtain ⟨c1, c2, hc, hc1, hc2, hc3⟩ := kid hk (ar2 (by omega)).2
             clear ar1 ar2 ar3
             refine HT_seq <| (HT_drunc [⟨true, .v (aP (mulP (a1, a2) (c1, c2))), none⟩] (by kernel_rfl) (by kernel_rfl) (by rfl) (by simp [*]; first | exact ⟨rfl, Iff.rfl⟩ | exact ⟨rfl, trivial⟩ | rfl) ?_ ?_)
             · first | exact corners_con (a1, a2) (c1, c2) ⟨hb1, hb2, hb3⟩ ⟨hc1, hc2, hc3⟩ _ | exact trivial | simpa [*] using corners_con (a1, a2) (c1, c2) ⟨hb1, hb2, hb3⟩ ⟨hc1, hc2, hc3⟩ _
             exact (HT_retE (fun h => ⟨.inr rfl, h⟩) _ (by simp [*]; rfl) (by first | rfl | (simp [*, ruleP]; done) | (simp only [resR, ruleP]; (repeat' split) <;> first | rfl | (exfalso; omega) | simp_all)) (by simp))
           · try simp only [BN] at h23
             refine HT_seq <| HT_runA ?_
             refine (HT_cond rfl (fun h27 => ?_) (fun h27 => ?_))
             · try simp only [BN] at h27
               obtain ⟨a1, a2, ha, hb1, hb2, hb3⟩ := kid hk (ar2 (by omega)).1
               obtain ⟨c1, c2, hc, hc1, hc2, hc3⟩ := kid hk (ar2 (by omega)).2
               have hw1 : IntKind.i64.wrap (-a1) = -a1 := wrap_in (by omega) (by omega)
               have hm : -1048576 ≤ mx a2 (-a1) ∧ mx a2 (-a1) ≤ 1048576 := by unfold mx; split <;> omega
               have hw2 : IntKind.i64.wrap (-(mx a2 (-a1))) = -(mx a2 (-a1)) := wrap_in (by omega) (by omega)
               have hmx : (if a2 < -a1 then -a1 else a2) = mx a2 (-a1) := rfl
               clear ar1 ar2 ar3
               refine HT_seq <| (HT_drun (by kernel_rfl) (by kernel_rfl) (by rfl) (by simp [*]; rfl) ?_)
               refine HT_seq <| HT_seq <| HT_runA ?_
               refine (HT_cond rfl (fun h30 => ?_) (fun h30 => HT_skip ?_))
               · try simp only [BN] at h30
                 refine HT_seq <| HT_runA ?_
                 exact (HT_retE (fun h => ⟨.inr rfl, h⟩) _ (by simp [*]; rfl) (by first | rfl | (simp [*, ruleP]; done) | (simp only [resR, ruleP]; (repeat' split) <;> first | rfl | (exfalso; omega) | simp_all)) (by simp))
               · try simp only [BN] at h30
                 have hng : ¬ (0 ≤ a1 ∧ 0 ≤ c1) := by omega
                 refine HT_seq <| HT_runA ?_
                 exact (HT_retE (fun h => ⟨.inr rfl, h⟩) _ (by simp [*]; rfl) (by first | rfl | (simp [*, ruleP]; done) | (simp only [resR, ruleP]; (repeat' split) <;> first | rfl | (exfalso; omega) | simp_all)) (by simp))
             · try simp only [BN] at h27
               refine HT_seq <| HT_runA ?_
               refine (HT_cond rfl (fun h36 => ?_) (fun h36 => ?_))
               · try simp only [BN] at h36
                 obtain ⟨c1, c2, hc, hc1, hc2, hc3⟩ := kid hk (ar2 (by omega)).2
                 have hw1 : IntKind.i64.wrap (c1 + 1) = c1 + 1 := wrap_in (by omega) (by omega)
                 have hw2 : IntKind.i64.wrap (c2 - 1) = c2 - 1 := wrap_in (by omega) (by omega)
                 have hmn : (if 0 < c1 + 1 then 0 else c1 + 1) = mn (c1 + 1) 0 := rfl
                 have hmx : (if c2 - 1 < 0 then 0 else c2 - 1) = mx (c2 - 1) 0 := rfl
                 clear ar1 ar2 ar3
                 refine HT_seq <| HT_runA ?_
                 refine (HT_cutU [2, 6, 8] (fun (z : Int) => []) (fun (z : Int) => [(6, .box [.c (iC 0), .c (iC 0)]), (8, .box [.c (iC z), .c (iC 0)])]) (fun (z : Int) => z = modL (c1, c2)) ?_ ?_)
                 ·
                  refine HT_seq <| HT_runA ?_
                  refine (HT_cond rfl (fun h40 => ?_) (fun h40 => HT_skip ?_))
                  · try simp only [BN] at h40
                    have hml : mn (c1 + 1) 0 = modL (c1, c2) := by simp only [modL]; rw [if_pos h40]
                    refine HT_runA ?_
                    exact ⟨modL (c1, c2), rfl, le_mkA (fun n => n) []⟩
                  · try simp only [BN] at h40
                    have hml : (0 : Int) = modL (c1, c2) := by simp only [modL]; rw [if_neg h40]
                    exact ⟨modL (c1, c2), rfl, le_mkA (fun n => n) []⟩
                 rintro _ rfl
                 simp only [upS, keepS, insS]
                 try simp only [keepS, KN, Nat.reduceBEq, if_true, if_false, ins, Nat.reduceLT]
                 refine HT_seq <| HT_seq <| HT_runA ?_
                 refine (HT_cond rfl (fun h45 => ?_) (fun h45 => HT_skip ?_))
                 · try simp only [BN] at h45
                   have hmh : mx (c2 - 1) 0 = modH (c1, c2) := by simp only [modH]; rw [if_pos h45]
                   refine HT_runA ?_
                   refine HT_seq <| HT_runA ?_
                   exact (HT_retE (fun h => ⟨.inr rfl, h⟩) _ (by simp [*]; rfl) (by first | rfl | (simp [*, ruleP]; done) | (simp only [resR, ruleP]; (repeat' split) <;> first | rfl | (exfalso; omega) | simp_all)) (by simp))
                 · try simp only [BN] at h45
                   have hmh : modH (c1, c2) = 0 := by simp only [modH]; rw [if_neg h45]
                   refine HT_seq <| HT_runA ?_
                   exact (HT_retE (fun h => ⟨.inr rfl, h⟩) _ (by simp [*]; rfl) (by first | rfl | (simp [*, ruleP]; done) | (simp only [resR, ruleP]; (repeat' split) <;> first | rfl | (exfalso; omega) | simp_all)) (by simp))
               · try simp only [BN] at h36
                 refine HT_seq <| HT_runA ?_
                 refine (HT_cond rfl (fun h52 => ?_) (fun h52 => ?_))
                 · try simp only [BN] at h52
                   obtain ⟨a1, a2, ha, hb1, hb2, hb3⟩ := kid hk (ar2 (by omega)).1
                   obtain ⟨c1, c2, hc, hc1, hc2, hc3⟩ := kid hk (ar2 (by omega)).2
                   clear ar1 ar2 ar3
                   refine HT_seq <| (HT_drun (by kernel_rfl) (by kernel_rfl) (by rfl) (by simp [*]; rfl) ?_)
                   exact (HT_retE (fun h => ⟨.inr rfl, h⟩) _ (by simp [*]; rfl) (by simp [*, ruleP, resR, mn]) (by simp))
                 · try simp only [BN] at h52
                   refine HT_seq <| HT_runA ?_
                   refine (HT_cond rfl (fun h56 => ?_) (fun h56 => ?_))
                   · try simp only [BN] at h56
                     obtain ⟨a1, a2, ha, hb1, hb2, hb3⟩ := kid hk (ar2 (by omega)).1
                     obtain ⟨c1, c2, hc, hc1, hc2, hc3⟩ := kid hk (ar2 (by omega)).2
                     clear ar1 ar2 ar3
                     refine HT_seq <| (HT_drun (by kernel_rfl) (by kernel_rfl) (by rfl) (by simp [*]; rfl) ?_)
                     exact (HT_retE (fun h => ⟨.inr rfl, h⟩) _ (by simp [*]; rfl) (by simp [*, ruleP, resR, mx]) (by simp))
                   · try simp only [BN] at h56
                     refine (HT_cutU [2, 6] (fun (z : Bool) => [(200, .v (lb z))]) (fun (z : Bool) => [(6, .box [.c (iC 0), .c (iC 0)])]) (fun (z : Bool) => z = decide (o = 23 ∨ o = 25)) ?_ ?_)
                     ·
                      refine HT_seq <| HT_runA ?_
                      refine (HT_cond rfl (fun h61 => HT_skip ?_) (fun h61 => ?_))
                      · try simp only [BN] at h61
                        exact ⟨true, by simp [h61], le_mkA (fun n => n) []⟩
                      · try simp only [BN] at h61
                        refine HT_runA ?_
                        exact ⟨decide (o = 25), by simp [h61], le_mkA (fun n => n) []⟩
                     rintro z hz
                     simp only [upS, keepS, insS]
                     try simp only [keepS, KN, Nat.reduceBEq, if_true, if_false, ins, Nat.reduceLT]
                     subst hz
                     obtain ⟨res, hres⟩ : ∃ r, ruleP vars o n k = r := ⟨_, rfl⟩
                     rw [hres]
                     simp only [ruleP, h3, h7, h11, h15, h19, h23, h27, h36, h52, h56, if_false] at hres
                     refine (HT_cond rfl (fun h65 => ?_) (fun h65 => HT_skip ?_))
                     · try simp only [BN] at h65
                       have h2 := ar3 h65
                       rw [if_pos h65] at hres
                       clear ar1 ar2 ar3 h65
                       rcases k with _ | ⟨a, _ | ⟨c, r⟩⟩
                       · simp at h2
                       · simp at h2
                       have hr33 : r.length ≤ 31 := by simp only [List.length_cons] at h2; omega
                       clear h2
                       simp at hres
                       refine HT_seq <| (HT_run (by simp [*, encPs]; rfl) ?_)
                       refine HT_seq <| HT_seq <| (HT_run (by simp [*, encPs, takeM]; rfl) ?_)
                       refine HT_block <| (HT_loopU [6, 9, 207, 208] (fun (x : Nat × Int × Int) => [(209, .v (li x.1))]) (fun (x : Nat × Int × Int) => [(6, .box [.c (iC 0), .c (iC 0)]), (9, .box [.c (iC x.2.1), .c (iC x.2.2)])]) (fun (x : Nat × Int × Int) => x.1 ≤ r.length ∧ hullL (r.drop x.1) x.2 = res) (fun (x : Nat × Int × Int) => r.length - x.1) (0, c) ⟨Nat.zero_le _, hres⟩ ?_ ?_)
                       · exact le_mkA (fun n => n) []
                       rintro ⟨k, m, q⟩ ⟨hk', hJ⟩
                       simp only [upS, keepS, insS]
                       try simp only [keepS, KN, Nat.reduceBEq, if_true, if_false, ins, Nat.reduceLT]
                       simp only at hk' hJ
                       clear hres
                       refine HT_seq <| HT_runA ?_
                       refine HT_seq <| (HT_cond rfl (fun h70 => HT_skip ?_) (fun h70 => ?_))
                       · try simp only [BN] at h70
                         have hlt : k < r.length := by omega
                         obtain ⟨⟨e1, e2⟩, he, hd⟩ := at_lt hlt
                         have hw1 := wrap1 hlt (by omega)
                         rw [hd] at hJ
                         simp only [hullL] at hJ
                         have hk1 : k + 1 ≤ r.length := hlt
                         clear hlt h70
                         refine HT_seq <| HT_block <| HT_seq <| HT_runA ?_
                         refine (HT_runcA [⟨true, .v (aP (hullP (m, q) (e1, e2))), none⟩] ?_ ?_)
                         · first | exact hull_con (m, q) (e1, e2) _ | exact trivial | simpa [*] using hull_con (m, q) (e1, e2) _
                         refine HT_runA ?_
                         exact ⟨(k + 1, hullP (m, q) (e1, e2)), ⟨hk1, hJ⟩, by simp only; omega, le_mkA (fun n => n) []⟩
                       · try simp only [BN] at h70
                         have hkl : k = r.length := by omega
                         rw [hkl, List.drop_length] at hJ
                         simp only [hullL] at hJ
                         refine (HT_exit ?_)
                         refine HT_seq <| HT_runA ?_
                         exact (HT_retE (fun h => ⟨.inr rfl, h⟩) _ (by simp [*]; rfl) (by subst hJ; rfl) (by simp))
                     · try simp only [BN] at h65
                       rw [if_neg h65] at hres
                       subst hres
                       refine HT_seq <| HT_runA ?_
                       exact (HT_retE (fun h => ⟨.inr rfl, h⟩) _ (by simp [*]; rfl) (by first | rfl | (simp [*, ruleP]; done) | (simp only [resR, ruleP]; (repeat' split) <;> first | rfl | (exfalso; omega) | simp_all)) (by simp))
end Go.Proofs.YtfjidddhehckoaaGreat
