/- Part 7: contracts of functions of the program and of the reference, and plain facts about what they compute; used by the proof of the claimed statement. Conditions: as each theorem states. -/
import Derived.Test.YtfjidddhehckoaaGreatS1
set_option linter.unusedSimpArgs false
set_option linter.unusedVariables false
set_option linter.unnecessarySimpa false
set_option maxRecDepth 100000
set_option maxHeartbeats 2000000
namespace Go.Proofs.YtfjidddhehckoaaGreat.Lt
open Go Go.Hl
def i64 (n : Int) : CD := .lit (.int .i64 n)
def bC (b : Bool) : CD := .lit (.bool b)
def sC (s : ByteArray) : CD := .lit (.string s)
def li (n : Int) : TV := .one (.c (i64 n))
def lb (b : Bool) : TV := .one (.c (bC b))
def nsC (names : List ByteArray) : CD := .sl 1 (names.map fun s => [sC s])
def rowB (n : Nat) (M : Nat → Nat → Bool) (a : Nat) : List (List CD) := (List.range n).map fun b => [bC (M a b)]
def matB (n : Nat) (M : Nat → Nat → Bool) : CD := .sl 1 ((List.range n).map fun a => [.sl 1 (rowB n M a)])
def rowI (n : Nat) (J : Nat → Nat → Int) (a : Nat) : List (List CD) := (List.range n).map fun b => [i64 (J a b)]
def matI (n : Nat) (J : Nat → Nat → Int) : CD := .sl 1 ((List.range n).map fun a => [.sl 1 (rowI n J a)])
def idxL (names : List ByteArray) : List (Value × CD) := names.zipIdx.map fun p => (.string p.1, i64 p.2)
def latD (names : List ByteArray) (ix bl jn mt : CD) : CD := .ptr [nsC names, ix, bl, jn, mt]
theorem wrap_in {n : Int} (h1 : -9223372036854775808 ≤ n) (h2 : n ≤ 9223372036854775807) : IntKind.i64.wrap n = n := IntWalk.i64_in n ⟨h1, h2⟩
def inB (n : Nat) (a : Int) : Bool := decide (0 ≤ a) && decide (a < n)
theorem has_con (names : List ByteArray) (ix bl jn mt : CD) (a : Int) (d : Nat) : Con Tryz.prog 71 true [.one (.c (latD names ix bl jn mt)), li a] (.v (lb (inB names.length a))) none d := by
 refine con_of_HTA Tryz.func71 ?_;simp only [Tryz.f71];refine HT_seq (HT_run (by simp [regsOf, latD, nsC, li, i64]; rfl) ?_);refine HT_seq (HT_run (by simp; rfl) ?_);exact HT_ret ⟨.inr rfl, _, le_refl _, ⟨_, rfl, by simp [resR, lb, bC, inB]⟩, by simp, fun _ => ⟨rfl, by simp⟩⟩
theorem rowB_get {n : Nat} {M : Nat → Nat → Bool} {a b : Nat} (h : b < n) : (rowB n M a)[b]? = some [bC (M a b)] := by simp [rowB, h]
theorem rowB_len (n : Nat) (M : Nat → Nat → Bool) (a : Nat) : (rowB n M a).length = n := by simp [rowB]
theorem upper_con (names : List ByteArray) (n : Nat) (M : Nat → Nat → Bool) (ix jn mt : CD) (a b : Nat) (ha : a < n) (hb : b < n) (d : Nat) :
  Con Tryz.prog 154 true [li a, li b, .one (.c (.ptr [latD names ix (matB n M) jn mt]))] (.v (lb (M a b))) none d := by
 refine con_of_HTA Tryz.func154 ?_;simp only [Tryz.f154];refine HT_seq (HT_run (by simp [regsOf, latD, nsC, li, i64]; rfl) ?_);refine HT_seq (HT_run (by simp [matB, ha, rowB_get hb, bC]; rfl) ?_);exact HT_ret ⟨.inr rfl, _, le_refl _, ⟨_, rfl, by simp [resR, lb, bC]⟩, by simp, fun _ => ⟨rfl, by simp⟩⟩
theorem lower_con (names : List ByteArray) (n : Nat) (M : Nat → Nat → Bool) (ix jn mt : CD) (a b : Nat) (ha : a < n) (hb : b < n) (d : Nat) :
  Con Tryz.prog 155 true [li a, li b, .one (.c (.ptr [latD names ix (matB n M) jn mt]))] (.v (lb (M b a))) none d := by
 refine con_of_HTA Tryz.func155 ?_;simp only [Tryz.f155];refine HT_seq (HT_run (by simp [regsOf, latD, nsC, li, i64]; rfl) ?_);refine HT_seq (HT_run (by simp [matB, hb, rowB_get ha, bC]; rfl) ?_);exact HT_ret ⟨.inr rfl, _, le_refl _, ⟨_, rfl, by simp [resR, lb, bC]⟩, by simp, fun _ => ⟨rfl, by simp⟩⟩
end Go.Proofs.YtfjidddhehckoaaGreat.Lt

namespace Go.Proofs.YtfjidddhehckoaaGreat.Lt
open Go Go.Hl
def goodB (n : Nat) (R : Nat → Nat → Bool) (a b c : Nat) : Bool := R a c && R b c && (List.range n).all fun d => !(R a d && R b d && !R c d)
def bndO (n : Nat) (R : Nat → Nat → Bool) (a b : Nat) : Option Nat := (List.range n).find? (goodB n R a b)
def bndI (n : Nat) (R : Nat → Nat → Bool) (a b : Nat) : Int := ((bndO n R a b).getD 0 : Nat)
theorem bnd_some {n : Nat} {R : Nat → Nat → Bool} {a b k : Nat} (hk : k < n) (h : ∀ c, c < k → goodB n R a b c = false) (hg : goodB n R a b k = true) : bndO n R a b = some k := by
 unfold bndO;rw [show n = k + (n - k) by omega, List.range_add, List.find?_append]
 have : (List.range k).find? (goodB n R a b) = none := by
  rw [List.find?_eq_none];intro x hx;simp [h x (by simpa using hx)]
 rw [show k + (n - k) = n by omega, this];rw [show n - k = (n - k - 1) + 1 by omega, List.range_succ_eq_map];simp [hg]
theorem bnd_none {n : Nat} {R : Nat → Nat → Bool} {a b : Nat} (h : ∀ c, c < n → goodB n R a b c = false) : bndO n R a b = none := by
 unfold bndO;rw [List.find?_eq_none];intro x hx;simp [h x (by simpa using hx)]
def S1 (lat : CD) (g : FuncId) (cap : CD) (n a b k : Nat) : HS :=
 ⟨58, [(1, .v (li a)), (2, .v (li b)), (3, .v (.one (.c (.fn g [cap])))), (10, .v (li n)), (18, .v (li n)), (19, .v (li k))], []⟩
def S2 (lat : CD) (g : FuncId) (cap : CD) (n a b k j : Nat) : HS :=
 ⟨58, [(1, .v (li a)), (2, .v (li b)), (3, .v (.one (.c (.fn g [cap])))), (10, .v (li n)), (11, .v (li k)), (18, .v (li n)), (19, .v (li k)), (34, .v (li n)), (35, .v (li j))], []⟩
theorem bound_con (names : List ByteArray) (n : Nat) (hn : names.length = n) (h12 : n ≤ 12) (R : Nat → Nat → Bool) (g : FuncId) (cap ix bl jn mt : CD)
  (hR : ∀ a b : Nat, a < n → b < n → ∀ d, Con Tryz.prog g true [li a, li b, .one (.c cap)] (.v (lb (R a b))) none d) (a b : Nat) (ha : a < n) (hb : b < n) (d : Nat) :
  Con Tryz.prog 156 true [.one (.c (latD names ix bl jn mt)), li a, li b, .one (.c (.fn g [cap]))] (.tup [li (bndI n R a b), lb (bndO n R a b).isSome]) none d := by
 have hbi : bndI n R a b = bndI n R a b := rfl
 conv at hbi => rhs; unfold bndI
 have hs := @bnd_some n R a b;have hnn := @bnd_none n R a b;generalize bndI n R a b = bi at *;generalize bndO n R a b = bo at *;refine con_of_HTA Tryz.func156 ?_;simp only [Tryz.f156];refine HT_seq (HT_run (by simp [regsOf, latD, nsC, li, i64]; rfl) ?_);refine HT_scope ?_ (by rintro l s' ⟨h | h, _⟩ <;> cases h);refine HT_seq (HT_run (by simp [hn]; rfl) ?_);refine HT_seq (HT_label ?_);refine HT_seq (HT_seq (HT_run (by simp; rfl) ?_));refine HT_block (HT_loop (S1 (latD names ix bl jn mt) g cap n a b) (fun k => k ≤ n ∧ ∀ c, c < k → goodB n R a b c = false) (fun k => n - k) 0 ⟨Nat.zero_le _, by simp⟩ ?_ ?_)
 · exact le_mk (fun n => n) [] rfl (by simp [S1, li, i64]) (by simp [S1]) (by simp [S1])
 rintro k ⟨hk, hno⟩;simp only [S1];refine HT_seq (HT_run (by simp [li, i64]; rfl) ?_);refine HT_seq (HT_cond rfl (fun h => HT_skip ?_) (fun h => HT_exit ?_))
 · have hlt : k < n := by simpa using h
   have hw : IntKind.i64.wrap ((k : Int) + 1) = (k : Int) + 1 := wrap_in (by omega) (by omega)
   have hnext : ∀ s', goodB n R a b k = false → le s' (S1 (latD names ix bl jn mt) g cap n a b (k + 1)) → (∃ x', (x' ≤ n ∧ ∀ c, c < x' → goodB n R a b c = false) ∧ n - x' < n - k ∧ le s' (S1 (latD names ix bl jn mt) g cap n a b x')) := by
    intro s' hg hl;refine ⟨k + 1, ⟨hlt, fun c hc => ?_⟩, by omega, hl⟩;by_cases e : c = k
    · subst e; exact hg
    exact hno c (by omega)
   have c1 := fun x (hx : x < n) => hR a x ha hx;have c2 := fun x (hx : x < n) => hR b x hb hx;have c3 := fun x (hx : x < n) => hR k x hlt hx;refine HT_seq (HT_block (HT_seq (HT_run (by simp; rfl) ?_)));refine HT_seq (HT_seq (HT_runc [⟨true, .v (lb (R a k)), none⟩, ⟨true, .v (lb (R b k)), none⟩] (by simp [lb, bC]; first | exact ⟨rfl, Iff.rfl⟩ | rfl) ?_ ?_))
   · exact ⟨c1 k hlt _, c2 k hlt _⟩
   refine HT_cond rfl (fun h2 => HT_exit ?_) (fun h2 => HT_skip ?_)
   · refine HT_run (by simp [hw]; rfl) ?_;refine hnext _ ?_ ?_
     · unfold goodB;cases h3 : R a k <;> cases h4 : R b k <;> simp_all
     exact le_mk (fun n => n) [] rfl (by simp [S1, li, i64, hw]) (by simp [S1]) (by simp [S1])
   have hab : R a k = true ∧ R b k = true := by
    cases h3 : R a k <;> cases h4 : R b k <;> simp_all
   refine HT_seq (HT_seq (HT_run (by simp; rfl) ?_));refine HT_block (HT_loop (S2 (latD names ix bl jn mt) g cap n a b k) (fun j => j ≤ n ∧ ∀ c, c < j → (R a c && R b c && !R k c) = false) (fun j => n - j) 0 ⟨Nat.zero_le _, by simp⟩ ?_ ?_)
   · exact le_mk (fun n => n) [] rfl (by simp [S2, li, i64]) (by simp [S2]) (by simp [S2])
   rintro j ⟨hj, hall⟩;simp only [S2];refine HT_seq (HT_run (by simp [li, i64]; rfl) ?_);refine HT_seq (HT_cond rfl (fun h => HT_skip ?_) (fun h => HT_exit ?_))
   · have hlj : j < n := by simpa using h
     have hwj : IntKind.i64.wrap ((j : Int) + 1) = (j : Int) + 1 := wrap_in (by omega) (by omega);refine HT_seq (HT_block (HT_seq (HT_run (by simp; rfl) ?_)));refine HT_seq (HT_runc [⟨true, .v (lb (R a j)), none⟩, ⟨true, .v (lb (R b j)), none⟩, ⟨true, .v (lb (R k j)), none⟩] (by simp [lb, bC]; first | exact ⟨rfl, Iff.rfl⟩ | rfl) ?_ ?_)
     · exact ⟨c1 j hlj _, c2 j hlj _, c3 j hlj _⟩
     refine HT_cond rfl (fun h2 => HT_exit ?_) (fun h2 => HT_skip ?_)
     · refine HT_run (by simp [hw]; rfl) ?_;refine hnext _ ?_ ?_
       · unfold goodB;simp only [Bool.and_eq_false_iff, List.all_eq_false, List.mem_range];refine .inr ⟨j, hlj, ?_⟩;cases h3 : R a j <;> cases h4 : R b j <;> cases h5 : R k j <;> simp_all
       exact le_mk (fun n => n) [] rfl (by simp [S1, li, i64, hw]) (by simp [S1]) (by simp [S1])
     refine HT_run (by simp [hwj]; rfl) ?_;refine ⟨j + 1, ⟨hlj, fun c hc => ?_⟩, by omega, ?_⟩
     · by_cases e : c = j
       · subst e;cases h3 : R a c <;> cases h4 : R b c <;> cases h5 : R k c <;> simp_all
       exact hall c (by omega)
     exact le_mk (fun n => n) [] rfl (by simp [S2, li, i64, hwj]) (by simp [S2]) (by simp [S2])
   have hjn : j = n := by simp at h; omega
   subst hjn;refine HT_seq (HT_run (by simp; rfl) ?_)
   have hgood : goodB j R a b k = true := by
    unfold goodB;simp only [Bool.and_eq_true, List.all_eq_true, List.mem_range, hab, true_and];intro c hc;rw [hall c hc]; rfl
   have := hs hlt hno hgood;subst this;rw [hbi];exact HT_ret ⟨.inr rfl, _, le_refl _, ⟨_, rfl, by simp [resR, li, i64, lb, bC]⟩, by simp, fun _ => ⟨rfl, by simp⟩⟩
 have hkn : k = n := by simp at h; omega
 subst hkn;refine HT_seq (HT_run (by simp; rfl) ?_);have := hnn hno;subst this;rw [hbi];exact HT_ret ⟨.inr rfl, _, le_refl _, ⟨_, rfl, by simp [resR, li, i64, lb, bC]⟩, by simp, fun _ => ⟨rfl, by simp⟩⟩
end Go.Proofs.YtfjidddhehckoaaGreat.Lt

namespace Go.Proofs.YtfjidddhehckoaaGreat.Lt
open Go Go.Hl
def up (M : Nat → Nat → Bool) (x y : Nat) (v : Bool) : Nat → Nat → Bool := fun a b => if a = x ∧ b = y then v else M a b
def eqM : Nat → Nat → Bool := fun a b => decide (a = b)
def pairsM (order : List (Int × Int)) : Nat → Nat → Bool := order.foldl (fun M p => up M p.1.toNat p.2.toNat true) eqM
def stM (M : Nat → Nat → Bool) (m a b : Nat) : Nat → Nat → Bool := up M a b (M a b || (M a m && M m b))
def fwB (M : Nat → Nat → Bool) (m a k : Nat) : Nat → Nat → Bool := (List.range k).foldl (fun M b => stM M m a b) M
def fwA (n : Nat) (M : Nat → Nat → Bool) (m k : Nat) : Nat → Nat → Bool := (List.range k).foldl (fun M a => fwB M m a n) M
def fwM (n : Nat) (M : Nat → Nat → Bool) (k : Nat) : Nat → Nat → Bool := (List.range k).foldl (fun M m => fwA n M m n) M
def closeM (n : Nat) (order : List (Int × Int)) : Nat → Nat → Bool := fwM n (pairsM order) n
theorem fwB_succ (M : Nat → Nat → Bool) (m a k : Nat) : fwB M m a (k + 1) = stM (fwB M m a k) m a k := by simp [fwB, List.range_succ]
theorem fwA_succ (n : Nat) (M : Nat → Nat → Bool) (m k : Nat) : fwA n M m (k + 1) = fwB (fwA n M m k) m k n := by simp [fwA, List.range_succ]
theorem fwM_succ (n : Nat) (M : Nat → Nat → Bool) (k : Nat) : fwM n M (k + 1) = fwA n (fwM n M k) k n := by simp [fwM, List.range_succ]
theorem pairs_succ {order : List (Int × Int)} {k : Nat} {p : Int × Int} (h : order[k]? = some p) : pairsM (order.take (k + 1)) = up (pairsM (order.take k)) p.1.toNat p.2.toNat true := by
 simp [pairsM, List.take_add_one, h]
def rowsP (n k : Nat) : List (Option (List (List CD))) := (List.range n).map fun a => if a < k then some (rowB n eqM a) else none
def rowsM (n : Nat) (M : Nat → Nat → Bool) : List (Option (List (List CD))) := (List.range n).map fun a => some (rowB n M a)
theorem rowsP_len (n k : Nat) : (rowsP n k).length = n := by simp [rowsP]
theorem rowsM_len (n : Nat) (M : Nat → Nat → Bool) : (rowsM n M).length = n := by simp [rowsM]
theorem rowsM_get {n a : Nat} {M : Nat → Nat → Bool} (h : a < n) : (rowsM n M)[a]? = some (some (rowB n M a)) := by simp [rowsM, h]
@[simp] theorem rowsM_getE {n a : Nat} {M : Nat → Nat → Bool} (h : a < (rowsM n M).length) : (rowsM n M)[a]'h = some (rowB n M a) := by simp [rowsM]
@[simp] theorem rowB_getE {n a b : Nat} {M : Nat → Nat → Bool} (h : b < (rowB n M a).length) : (rowB n M a)[b]'h = [bC (M a b)] := by simp [rowB]
theorem rowsP_zero (n : Nat) : rowsP n 0 = List.replicate n none := by
 apply List.ext_getElem?;intro i;by_cases h : i < n <;> simp [rowsP, List.getElem?_replicate, h]
theorem rowsP_full (n : Nat) : rowsP n n = rowsM n eqM := by
 apply List.ext_getElem?;intro i;by_cases h : i < n <;> simp [rowsP, rowsM, h]
theorem rowsP_free {n k : Nat} (h : k < n) : freeAt (rowsP n k) k = true := by simp [freeAt, rowsP, h]
theorem row_eq {n k : Nat} (h : k < n) : (List.replicate n [bC false]).set k [bC true] = rowB n eqM k := by
 apply List.ext_getElem?;intro i;rw [List.getElem?_set];by_cases e : k = i
 · subst e; simp [rowB, eqM, h]
 by_cases hi : i < n <;> simp [rowB, eqM, hi, e, List.getElem?_replicate]
theorem rowsP_succ {n k : Nat} (h : k < n) : (rowsP n k).set k (some (rowB n eqM k)) = rowsP n (k + 1) := by
 apply List.ext_getElem?;intro i;rw [List.getElem?_set, rowsP_len];by_cases e : k = i
 · subst e; simp [rowsP, h]
 rw [if_neg e];by_cases hi : i < n
 · have e2 : (i < k) ↔ (i < k + 1) := by omega
   simp [rowsP, hi, e2]
 simp [rowsP, hi]
theorem rowB_set {n x y : Nat} {M : Nat → Nat → Bool} {v : Bool} : (rowB n M x).set y [bC v] = rowB n (up M x y v) x := by
 apply List.ext_getElem?;intro i;rw [List.getElem?_set, rowB_len];by_cases e : y = i
 · subst e;by_cases hi : y < n <;> simp [rowB, up, hi]
 rw [if_neg e];by_cases hi : i < n <;> simp [rowB, up, hi, Ne.symm e]
theorem rowB_up {n x y a : Nat} {M : Nat → Nat → Bool} {v : Bool} (h : a ≠ x) : rowB n (up M x y v) a = rowB n M a := by simp [rowB, up, h]
theorem rowsM_set {n x y : Nat} {M : Nat → Nat → Bool} {v : Bool} : (rowsM n M).set x (some (rowB n (up M x y v) x)) = rowsM n (up M x y v) := by
 apply List.ext_getElem?;intro i;rw [List.getElem?_set, rowsM_len];by_cases e : x = i
 · subst e;by_cases hi : x < n <;> simp [rowsM, hi]
 rw [if_neg e];by_cases hi : i < n
 · simp [rowsM, hi, rowB_up (Ne.symm e)]
 simp [rowsM, hi]
theorem matC_rows (n : Nat) (M : Nat → Nat → Bool) : CD.sl 1 ((rowsM n M).map fun r => [matC 1 r]) = matB n M := by simp [rowsM, matB, matC]
def orC (order : List (Int × Int)) : CD := .sl 2 (order.map fun p => [i64 p.1, i64 p.2])
def box5 (names : List ByteArray) (ix jn mt : CD) (n : Nat) : Ob := .box [.c (nsC names), .c ix, .own n, .c jn, .c mt]
def C1 (names : List ByteArray) (ix jn mt : CD) (order : List (Int × Int)) (n k : Nat) : HS :=
 ⟨119, [(0, .v (.one (.at_ 1000000 0))), (1, .v (.one (.c (orC order)))), (4, .v (li n)), (21, .v (li n)), (22, .v (li k))], [(1018, .mat 55 4 1 (rowsP n k)), (1000000, box5 names ix jn mt 1018)]⟩
def C2 (names : List ByteArray) (ix jn mt : CD) (order : List (Int × Int)) (n k : Nat) : HS :=
 ⟨119, [(0, .v (.one (.at_ 1000000 0))), (1, .v (.one (.c (orC order)))), (4, .v (li n)), (43, .v (.one (.c (orC order)))), (44, .v (li order.length)), (45, .v (li k))], [(1018, .mat 55 4 1 (rowsM n (pairsM (order.take k)))), (1000000, box5 names ix jn mt 1018)]⟩
def C3 (names : List ByteArray) (ix jn mt : CD) (n : Nat) (M : Nat → Nat → Bool) (m : Nat) : HS :=
 ⟨119, [(0, .v (.one (.at_ 1000000 0))), (4, .v (li n)), (61, .v (li n)), (62, .v (li m))], [(1018, .mat 55 4 1 (rowsM n (fwM n M m))), (1000000, box5 names ix jn mt 1018)]⟩
def C4 (names : List ByteArray) (ix jn mt : CD) (n : Nat) (M : Nat → Nat → Bool) (m a : Nat) : HS :=
 ⟨119, [(0, .v (.one (.at_ 1000000 0))), (4, .v (li n)), (8, .v (li m)), (61, .v (li n)), (62, .v (li m)), (65, .v (li n)), (66, .v (li a))], [(1018, .mat 55 4 1 (rowsM n (fwA n M m a))), (1000000, box5 names ix jn mt 1018)]⟩
def C5 (names : List ByteArray) (ix jn mt : CD) (n : Nat) (M : Nat → Nat → Bool) (m a b : Nat) : HS :=
 ⟨119, [(0, .v (.one (.at_ 1000000 0))), (4, .v (li n)), (8, .v (li m)), (9, .v (li a)), (61, .v (li n)), (62, .v (li m)), (65, .v (li n)), (66, .v (li a)), (69, .v (li n)), (70, .v (li b))], [(1018, .mat 55 4 1 (rowsM n (fwB M m a b))), (1000000, box5 names ix jn mt 1018)]⟩
theorem close_con (names : List ByteArray) (n : Nat) (hn : names.length = n) (h12 : n ≤ 12) (order : List (Int × Int)) (hlen : order.length ≤ 200) (hord : ∀ p ∈ order, (0 ≤ p.1 ∧ p.1 < n) ∧ 0 ≤ p.2 ∧ p.2 < n) (ix bl jn mt : CD) :
  ConIO Tryz.prog 109 [nsC names, ix, bl, jn, mt] [.one (.c (orC order))] (.tup []) [nsC names, ix, matB n (closeM n order), jn, mt] := by
 refine con_io_of_HT Tryz.func109 rfl (by kernel_rfl) (Nat.le_of_ble_eq_true rfl) ?_;simp only [Tryz.f109];refine HT_seq (HT_run (by simp [regsOf, nsC, orC, li, i64, hn]; rfl) ?_);refine HT_seq (HT_run (by simp [show (n : Int) ≤ maxLen by unfold maxLen; omega, show 24 * (n : Int) ≤ 281474976710656 by omega]; rfl) ?_);refine HT_seq (HT_seq (HT_run (by simp; rfl) ?_));refine HT_le (le_mat (k := n) 18 4 1 (by decide) (by decide) rfl (by simp [RV.menA, TV.menA, CV.menA]) (by simp [Ob.menA, CV.menA])) ?_;refine HT_block (HT_loop (C1 names ix jn mt order n) (fun k => k ≤ n) (fun k => n - k) 0 (Nat.zero_le _) ?_ ?_)
 · refine le_mk (fun n => 18) [] rfl (by simp [C1, li, i64, orC]) ?_ (by simp [C1]);simp [C1, box5, nsC, rowsP_zero]
 intro k hk;simp only [C1];refine HT_seq (HT_run (by simp [li, i64]; rfl) ?_);refine HT_seq (HT_cond rfl (fun h => HT_skip ?_) (fun h => HT_exit ?_))
 · have hlt : k < n := by simpa using h
   have hw : IntKind.i64.wrap ((k : Int) + 1) = (k : Int) + 1 := wrap_in (by omega) (by omega);refine HT_seq (HT_block (HT_seq (HT_run (by simp; rfl) ?_)));refine HT_seq (HT_drun (by kernel_rfl) (by kernel_rfl) (by rfl) (by simp [box5, rowsP_len, hlt, rowsP_free hlt, show (n : Int) ≤ maxLen by unfold maxLen; omega, show (n : Int) ≤ 281474976710656 by omega]; rfl) ?_);refine HT_run (by simp [rowsP_len, hlt, List.getElem?_set_self]; rfl) ?_;refine HT_run (by simp [hw]; rfl) ?_;refine ⟨k + 1, hlt, by omega, ?_⟩;refine le_mk (fun n => n) [] rfl (by simp [C1, li, i64, orC, hw]) ?_ (by simp [C1]);have := row_eq hlt;simp only [bC] at this;simp [C1, box5, nsC, this, rowsP_succ hlt]
 have hkn : k = n := by simp at h; omega
 subst hkn;rw [rowsP_full];refine HT_seq (HT_seq (HT_run (by simp [orC]; rfl) ?_));refine HT_block (HT_loop (C2 names ix jn mt order k) (fun j => j ≤ order.length) (fun j => order.length - j) 0 (Nat.zero_le _) ?_ ?_)
 · exact le_mk (fun n => n) [] rfl (by simp [C2, li, i64, orC]) (by simp [C2, box5, pairsM]) (by simp [C2])
 intro j hj;simp only [C2];refine HT_seq (HT_run (by simp [li, i64]; rfl) ?_);refine HT_seq (HT_cond rfl (fun h => HT_skip ?_) (fun h => HT_exit ?_))
 · have hlj : j < order.length := by simpa using h
   have hw : IntKind.i64.wrap ((j : Int) + 1) = (j : Int) + 1 := wrap_in (by omega) (by omega)
   obtain ⟨x, y, hv, hx, hy⟩ : ∃ x y : Nat, order[j]? = some ((x : Int), (y : Int)) ∧ x < k ∧ y < k := by
    have hm := hord order[j] (List.getElem_mem hlj);refine ⟨order[j].1.toNat, order[j].2.toNat, ?_, by omega, by omega⟩;rw [List.getElem?_eq_getElem hlj];congr 1;refine Prod.ext ?_ ?_
    · show order[j].1 = (order[j].1.toNat : Int); omega
    show order[j].2 = (order[j].2.toNat : Int); omega
   have hps := pairs_succ hv;simp only [Int.toNat_natCast] at hps;generalize pairsM (order.take j) = M at *;refine HT_seq (HT_block (HT_seq (HT_run (by simp [orC, hv, i64]; rfl) ?_)));refine HT_drun (by kernel_rfl) (by kernel_rfl) (by rfl) (by simp [box5, rowsM_len, hx, hy, rowsM_get hx, rowB_len, rowB_get hy, bC]; rfl) ?_;refine HT_run (by simp [hw]; rfl) ?_;refine ⟨j + 1, hlj, by omega, ?_⟩;refine le_mk (fun n => n) [] rfl (by simp [C2, li, i64, orC, hw]) ?_ (by simp [C2]);have h1 := @rowB_set k x y M true;simp only [bC] at h1;simp [C2, box5, hps, h1, rowsM_set]
 have hjl : j = order.length := by simp at h; omega
 subst hjl;rw [List.take_length];refine HT_seq (HT_run (by simp; rfl) ?_);refine HT_block (HT_loop (C3 names ix jn mt k (pairsM order)) (fun m => m ≤ k) (fun m => k - m) 0 (Nat.zero_le _) ?_ ?_)
 · exact le_mk (fun n => n) [] rfl (by simp [C3, li, i64]) (by simp [C3, box5, fwM]) (by simp [C3])
 intro m hm;simp only [C3];refine HT_seq (HT_run (by simp [li, i64]; rfl) ?_);refine HT_seq (HT_cond rfl (fun h => HT_skip ?_) (fun h => HT_exit ?_))
 · have hlm : m < k := by simpa using h
   have hwm : IntKind.i64.wrap ((m : Int) + 1) = (m : Int) + 1 := wrap_in (by omega) (by omega);have hsm := fwM_succ k (pairsM order) m;generalize fwM k (pairsM order) m = M at *;refine HT_seq (HT_block (HT_seq (HT_run (by simp; rfl) ?_)));refine HT_seq (HT_run (by simp; rfl) ?_);refine HT_block (HT_loop (C4 names ix jn mt k M m) (fun a => a ≤ k) (fun a => k - a) 0 (Nat.zero_le _) ?_ ?_)
   · exact le_mk (fun n => n) [] rfl (by simp [C4, li, i64]) (by simp [C4, box5, fwA]) (by simp [C4])
   intro a ha;simp only [C4];refine HT_seq (HT_run (by simp [li, i64]; rfl) ?_);refine HT_seq (HT_cond rfl (fun h => HT_skip ?_) (fun h => HT_exit ?_))
   · have hla : a < k := by simpa using h
     have hwa : IntKind.i64.wrap ((a : Int) + 1) = (a : Int) + 1 := wrap_in (by omega) (by omega);have hsa := fwA_succ k M m a;generalize fwA k M m a = M2 at *;refine HT_seq (HT_block (HT_seq (HT_run (by simp; rfl) ?_)));refine HT_seq (HT_run (by simp; rfl) ?_);refine HT_block (HT_loop (C5 names ix jn mt k M2 m a) (fun b => b ≤ k) (fun b => k - b) 0 (Nat.zero_le _) ?_ ?_)
     · exact le_mk (fun n => n) [] rfl (by simp [C5, li, i64]) (by simp [C5, box5, fwB]) (by simp [C5])
     intro b hb;simp only [C5];refine HT_seq (HT_run (by simp [li, i64]; rfl) ?_);refine HT_seq (HT_cond rfl (fun h => HT_skip ?_) (fun h => HT_exit ?_))
     · have hlb : b < k := by simpa using h
       have hwb : IntKind.i64.wrap ((b : Int) + 1) = (b : Int) + 1 := wrap_in (by omega) (by omega);have hsb := fwB_succ M2 m a b;generalize fwB M2 m a b = M3 at *;refine HT_seq (HT_block (HT_seq (HT_run (by simp; rfl) ?_)));refine HT_drun (by kernel_rfl) (by kernel_rfl) (by rfl) (by simp [box5, rowsM_len, hla, hlb, hlm, rowsM_get hla, rowsM_get hlm, rowB_len, rowB_get hlb, rowB_get hlm, bC]; rfl) ?_;refine HT_run (by simp [hwb]; rfl) ?_;refine ⟨b + 1, hlb, by omega, ?_⟩;refine le_mk (fun n => n) [] rfl (by simp [C5, li, i64, hwb]) ?_ (by simp [C5]);have h1 := @rowB_set k a b M3 (M3 a b || (M3 a m && M3 m b));simp only [bC] at h1;simp [C5, box5, hsb, stM, h1, rowsM_set]
     have hbk : b = k := by simp at h; omega
     subst hbk;refine HT_run (by simp [hwa]; rfl) ?_;refine ⟨a + 1, hla, by omega, ?_⟩;exact le_mk (fun n => n) [] rfl (by simp [C4, li, i64, hwa]) (by simp [C4, box5, hsa]) (by simp [C4])
   have hak : a = k := by simp at h; omega
   subst hak;refine HT_run (by simp [hwm]; rfl) ?_;refine ⟨m + 1, hlm, by omega, ?_⟩;exact le_mk (fun n => n) [] rfl (by simp [C3, li, i64, hwm]) (by simp [C3, box5, hsm]) (by simp [C3])
 have hmk : m = k := by simp at h; omega
 subst hmk;refine ⟨.inl rfl, _, le_frzM 1018 rfl, ⟨_, rfl, rfl⟩, ?_⟩;simp [HS.frz, mapL, Ob.frz, CV.frz, del, lkp, box5, matC_rows, closeM, -matC]
end Go.Proofs.YtfjidddhehckoaaGreat.Lt

namespace Go.Proofs.YtfjidddhehckoaaGreat.Lt
open Go Go.Hl
def flp (M : Nat → Nat → Bool) : Nat → Nat → Bool := fun a b => M b a
def okRow (n : Nat) (M : Nat → Nat → Bool) (a : Nat) : Bool := (List.range n).all fun b => (bndO n M a b).isSome && (bndO n (flp M) a b).isSome
def badRow (n : Nat) (M : Nat → Nat → Bool) : Nat := ((List.range n).find? fun a => !okRow n M a).getD n
def rowsJ (n : Nat) (J : Nat → Nat → Int) (k : Nat) : List (List CD) := (List.range k).map fun a => [.sl 1 (rowI n J a)]
def rowZ (n : Nat) (J : Nat → Nat → Int) (a j : Nat) : List (List CD) := (List.range n).map fun b => if b < j then [i64 (J a b)] else [i64 0]
theorem badRow_at {n k : Nat} {M : Nat → Nat → Bool} (hk : k < n) (h : ∀ a, a < k → okRow n M a = true) (hb : okRow n M k = false) : badRow n M = k := by
 unfold badRow;rw [show n = k + (n - k) by omega, List.range_add, List.find?_append];rw [show k + (n - k) = n by omega]
 have : (List.range k).find? (fun a => !okRow n M a) = none := by
  rw [List.find?_eq_none];intro x hx;simp [h x (by simpa using hx)]
 rw [this];rw [show n - k = (n - k - 1) + 1 by omega, List.range_succ_eq_map];simp [hb]
theorem badRow_none {n : Nat} {M : Nat → Nat → Bool} (h : ∀ a, a < n → okRow n M a = true) : badRow n M = n := by
 unfold badRow
 have : (List.range n).find? (fun a => !okRow n M a) = none := by
  rw [List.find?_eq_none];intro x hx;simp [h x (by simpa using hx)]
 rw [this]; rfl
theorem rowZ_len (n : Nat) (J : Nat → Nat → Int) (a j : Nat) : (rowZ n J a j).length = n := by simp [rowZ]
@[simp] theorem rowZ_getE {n a j b : Nat} {J : Nat → Nat → Int} (h : b < (rowZ n J a j).length) : (rowZ n J a j)[b]'h = if b < j then [i64 (J a b)] else [i64 0] := by simp [rowZ]
theorem rowZ_zero (n : Nat) (J : Nat → Nat → Int) (a : Nat) : rowZ n J a 0 = List.replicate n [i64 0] := by
 apply List.ext_getElem?;intro i;by_cases h : i < n <;> simp [rowZ, List.getElem?_replicate, h]
theorem rowZ_full (n : Nat) (J : Nat → Nat → Int) (a : Nat) : rowZ n J a n = rowI n J a := by
 apply List.ext_getElem?;intro i;by_cases h : i < n <;> simp [rowZ, rowI, h]
theorem rowZ_succ {n j : Nat} {J : Nat → Nat → Int} {a : Nat} (h : j < n) : (rowZ n J a j).set j [i64 (J a j)] = rowZ n J a (j + 1) := by
 apply List.ext_getElem?;intro i;rw [List.getElem?_set, rowZ_len];by_cases e : j = i
 · subst e; simp [rowZ, h]
 rw [if_neg e];by_cases hi : i < n
 · have e2 : (i < j) ↔ (i < j + 1) := by omega
   simp [rowZ, hi, e2]
 simp [rowZ, hi]
theorem rowsJ_len (n : Nat) (J : Nat → Nat → Int) (k : Nat) : (rowsJ n J k).length = k := by simp [rowsJ]
theorem rowsJ_succ (n : Nat) (J : Nat → Nat → Int) (k : Nat) : rowsJ n J (k + 1) = rowsJ n J k ++ [[.sl 1 (rowI n J k)]] := by simp [rowsJ, List.range_succ]
def box5b (names : List ByteArray) (ix bl : CD) (j m : Nat) : Ob := .box [.c (nsC names), .c ix, .c bl, .own j, .own m]
def D1 (names : List ByteArray) (ix bl : CD) (n : Nat) (J K : Nat → Nat → Int) (k : Nat) : HS :=
 ⟨85, [(1, .v (.one (.at_ 1001 0))), (3, .v (li n)), (4, .v (.one (.fn 154 [(1001, 0)]))), (5, .v (.one (.fn 155 [(1001, 0)]))), (21, .v (li n)), (22, .v (li k))],
  [(1001, .box [.at_ 1000000 0]), (1003, .row 32 1 (rowsJ n J k)), (1004, .row 32 1 (rowsJ n K k)), (1000000, box5b names ix bl 1003 1004)]⟩
def D2 (names : List ByteArray) (ix bl : CD) (n : Nat) (J K : Nat → Nat → Int) (k j : Nat) : HS :=
 ⟨85, [(1, .v (.one (.at_ 1001 0))), (3, .v (li n)), (4, .v (.one (.fn 154 [(1001, 0)]))), (5, .v (.one (.fn 155 [(1001, 0)]))), (6, .v (li k)), (7, .v (.one (.own 1026))), (8, .v (.one (.own 1028))), (21, .v (li n)), (22, .v (li k)), (29, .v (li n)), (30, .v (li j))],
  [(1001, .box [.at_ 1000000 0]), (1003, .row 32 1 (rowsJ n J k)), (1004, .row 32 1 (rowsJ n K k)), (1026, .row 3 1 (rowZ n J k j)), (1028, .row 3 1 (rowZ n K k j)), (1000000, box5b names ix bl 1003 1004)]⟩
def D3 (names : List ByteArray) (ix bl : CD) (n : Nat) (J K : Nat → Nat → Int) (k : Nat) : HS :=
 ⟨85, [(1, .v (.one (.at_ 1001 0))), (3, .v (li n)), (4, .v (.one (.fn 154 [(1001, 0)]))), (5, .v (.one (.fn 155 [(1001, 0)]))), (7, .v (.one (.c (.sl 1 (rowI n J k))))), (8, .v (.one (.c (.sl 1 (rowI n K k))))), (21, .v (li n)), (22, .v (li k))],
  [(1001, .box [.at_ 1000000 0]), (1003, .row 32 1 (rowsJ n J k)), (1004, .row 32 1 (rowsJ n K k)), (1000000, box5b names ix bl 1003 1004)]⟩
theorem bounds_con (names : List ByteArray) (n : Nat) (hn : names.length = n) (h12 : n ≤ 12) (M : Nat → Nat → Bool) (il : List (Value × CD)) :
  ConIO Tryz.prog 110 [nsC names, .mp il, matB n M, .lit nilS, .lit nilS] [] (.v (lb (decide (badRow n M = n)))) [nsC names, .mp il, matB n M, .sl 1 (rowsJ n (bndI n M) (badRow n M)), .sl 1 (rowsJ n (bndI n (flp M)) (badRow n M))] := by
 have hbad := @badRow_at n;have hnone := @badRow_none n M;generalize hbr : badRow n M = br;refine con_io_of_HT Tryz.func110 rfl (by kernel_rfl) (Nat.le_of_ble_eq_true rfl) ?_;simp only [Tryz.f110]
 have hup : ∀ (jn mt : CD) (a b : Nat), a < n → b < n → ∀ d, Con Tryz.prog 156 true [.one (.c (latD names (.mp il) (matB n M) jn mt)), li a, li b, .one (.c (.fn 154 [.ptr [latD names (.mp il) (matB n M) jn mt]]))] (.tup [li (bndI n M a b), lb (bndO n M a b).isSome]) none d :=
  fun jn mt a b ha hb d => bound_con names n hn h12 M 154 _ (.mp il) _ jn mt (fun a b ha hb d => upper_con names n M (.mp il) jn mt a b ha hb d) a b ha hb d
 have hlo : ∀ (jn mt : CD) (a b : Nat), a < n → b < n → ∀ d, Con Tryz.prog 156 true [.one (.c (latD names (.mp il) (matB n M) jn mt)), li a, li b, .one (.c (.fn 155 [.ptr [latD names (.mp il) (matB n M) jn mt]]))] (.tup [li (bndI n (flp M) a b), lb (bndO n (flp M) a b).isSome]) none d :=
  fun jn mt a b ha hb d => bound_con names n hn h12 (flp M) 155 _ (.mp il) _ jn mt (fun a b ha hb d => lower_con names n M (.mp il) jn mt a b ha hb d) a b ha hb d
 refine HT_seq (HT_run (by simp [regsOf, nsC]; rfl) ?_);refine HT_seq (HT_run (by simp [hn]; rfl) ?_);refine HT_seq (HT_run (by simp; rfl) ?_);refine HT_seq (HT_run (by simp; rfl) ?_);refine HT_seq (HT_seq (HT_run (by simp; rfl) ?_));refine HT_block (HT_loop (D1 names (.mp il) (matB n M) n (bndI n M) (bndI n (flp M))) (fun k => k ≤ n ∧ ∀ a, a < k → okRow n M a = true) (fun k => n - k) 0 ⟨Nat.zero_le _, by simp⟩ ?_ ?_)
 · refine le_mk (fun n => 1) [1003, 1004] rfl (by simp [D1, li, i64]) ?_ (by simp [D1]);simp [D1, box5b, nsC, rowsJ]
 rintro k ⟨hk, hall⟩;simp only [D1, box5b];refine HT_seq (HT_run (by simp [li, i64]; rfl) ?_);refine HT_seq (HT_cond rfl (fun h => HT_skip ?_) (fun h => HT_exit ?_))
 · have hlt : k < n := by simpa using h
   have hw : IntKind.i64.wrap ((k : Int) + 1) = (k : Int) + 1 := wrap_in (by omega) (by omega);refine HT_seq (HT_block (HT_seq (HT_run (by simp; rfl) ?_)));refine HT_seq (HT_drun (by kernel_rfl) (by kernel_rfl) (by rfl) (by simp [show (n : Int) ≤ maxLen by unfold maxLen; omega, show 8 * (n : Int) ≤ 281474976710656 by omega]; rfl) ?_);refine HT_seq (HT_seq (HT_run (by simp; rfl) ?_));refine HT_block (HT_loop (D2 names (.mp il) (matB n M) n (bndI n M) (bndI n (flp M)) k) (fun j => j ≤ n ∧ ∀ b, b < j → ((bndO n M k b).isSome && (bndO n (flp M) k b).isSome) = true) (fun j => n - j) 0 ⟨Nat.zero_le _, by simp⟩ ?_ ?_)
   · exact le_mk (fun n => if n = 1026 then 26 else if n = 1028 then 28 else n) [] rfl (by simp [D2, li, i64]) (by simp [D2, box5b, rowZ_zero, i64]) (by simp [D2])
   rintro j ⟨hj, hok⟩;simp only [D2, box5b];refine HT_seq (HT_run (by simp [li, i64]; rfl) ?_);refine HT_seq (HT_cond rfl (fun h => HT_skip ?_) (fun h => HT_exit ?_))
   · have hlj : j < n := by simpa using h
     have hwj : IntKind.i64.wrap ((j : Int) + 1) = (j : Int) + 1 := wrap_in (by omega) (by omega);have c1 := fun d => hup (.sl 1 (rowsJ n (bndI n M) k)) (.sl 1 (rowsJ n (bndI n (flp M)) k)) k j hlt hlj d;have c2 := fun d => hlo (.sl 1 (rowsJ n (bndI n M) k)) (.sl 1 (rowsJ n (bndI n (flp M)) k)) k j hlt hlj d;refine HT_seq (HT_block (HT_seq (HT_run (by simp; rfl) ?_)));refine HT_seq (HT_runc [⟨true, .tup [li (bndI n M k j), lb (bndO n M k j).isSome], none⟩] (by simp [box5b, nsC, matB, li, i64, lb, bC]; first | exact ⟨rfl, Iff.rfl⟩ | rfl) (by simpa only [latD, nsC, matB, li, i64, lb, bC] using c1 _) ?_);refine HT_seq (HT_runc [⟨true, .tup [li (bndI n (flp M) k j), lb (bndO n (flp M) k j).isSome], none⟩] (by simp [box5b, nsC, matB, li, i64, lb, bC]; first | exact ⟨rfl, Iff.rfl⟩ | rfl) (by simpa only [latD, nsC, matB, li, i64, lb, bC] using c2 _) ?_);refine HT_seq (HT_seq (HT_run (by simp; rfl) ?_));refine HT_cond rfl (fun h2 => ?_) (fun h2 => HT_skip ?_)
     · have hb : okRow n M k = false := by
        unfold okRow;rw [List.all_eq_false];refine ⟨j, by simpa using hlj, ?_⟩;simp only [Bool.or_eq_true, Bool.not_eq_true', Option.isSome_eq_false_iff, Option.isNone_iff_eq_none] at h2;rcases h2 with h | h <;> simp [h]
       have hbr2 := hbad hlt hall hb;have e : br = k := hbr.symm.trans hbr2;subst e;refine HT_seq (HT_run (by simp; rfl) ?_);refine HT_ret ⟨.inr rfl, _, le_trans (le_frz 1003 rfl) (le_frz 1004 rfl), ⟨_, rfl, ?_⟩, ?_⟩
       · simp [resR, lb, bC]; omega
       simp [box5b, matB, nsC]
     refine HT_run (by simp [rowZ_len, hlj]; rfl) ?_;refine HT_run (by simp [hwj]; rfl) ?_
     have hok2 : ((bndO n M k j).isSome && (bndO n (flp M) k j).isSome) = true := by
      have h2' : ((bndO n M k j).isNone || (bndO n (flp M) k j).isNone) = false := h2;cases h3 : bndO n M k j <;> cases h4 : bndO n (flp M) k j <;> rw [h3, h4] at h2' <;> first | rfl | cases h2'
     refine ⟨j + 1, ⟨hlj, fun b hb => ?_⟩, by omega, ?_⟩
     · by_cases e : b = j
       · subst e; exact hok2
       exact hok b (by omega)
     refine le_mk (fun n => n) [] rfl (by simp [D2, li, i64, hwj]) ?_ (by simp [D2]);have h1 := @rowZ_succ n j (bndI n M) k hlj;have h3 := @rowZ_succ n j (bndI n (flp M)) k hlj;simp only [i64] at h1 h3;simp [D2, box5b, nsC, matB, h1, h3]
   have hjn : j = n := by simp at h; omega
   subst hjn
   have hokr : okRow j M k = true := by
    unfold okRow;rw [List.all_eq_true];intro x hx;exact hok x (by simpa using hx)
   refine HT_le (le_trans (le_frz 1026 rfl) (le_trans (le_frz 1028 rfl) (le_mk (s' := D3 names (.mp il) (matB j M) j (bndI j M) (bndI j (flp M)) k) (fun n => n) [] rfl ?_ ?_ ?_))) ?_
   · simp [D3, li, i64, rowZ_full]
   · simp [D3, box5b]
   · simp [D3]
   simp only [D3, box5b, li, i64];refine HT_drunH [(1, 1001), (68, 1000000), (75, 1000000), (81, 1000000), (83, 1000000)] (by kernel_rfl) (by kernel_rfl) (by rfl) (by simp [evsH, hokB, hintOf, rowsJ_len, show room (k + 1) 24 from room_of (by omega) (by omega)]; rfl) ?_;refine HT_run (by simp [hw]; rfl) ?_;refine ⟨k + 1, ⟨hlt, fun a ha => ?_⟩, by omega, ?_⟩
   · by_cases e : a = k
     · subst e; exact hokr
     exact hall a (by omega)
   exact le_mk (fun n => if n = 1003 then 72 else if n = 1004 then 79 else n) [] rfl (by simp [D1, li, i64, hw]) (by simp [D1, box5b, rowsJ_succ]) (by simp [D1])
 have hkn : k = n := by simp at h; omega
 subst hkn;have e : br = k := hbr.symm.trans (hnone hall);subst e;refine HT_seq (HT_run (by simp; rfl) ?_);refine HT_ret ⟨.inr rfl, _, le_trans (le_frz 1003 rfl) (le_frz 1004 rfl), ⟨_, rfl, ?_⟩, ?_⟩
 · simp [resR, lb, bC]
 simp [box5b, matB, nsC]
end Go.Proofs.YtfjidddhehckoaaGreat.Lt

namespace Go.Proofs.YtfjidddhehckoaaGreat.Lt
open Go Go.Hl
def letB (b : UInt8) : Bool := decide (97 ≤ b.toNat) && decide (b.toNat ≤ 122)
def digB (b : UInt8) : Bool := decide (48 ≤ b.toNat) && decide (b.toNat ≤ 57)
def chOk (s : ByteArray) (k : Nat) : Bool := match s[k]? with
 | some b => letB b || (!decide (k = 0) && digB b)
 | none => true
def nameB (s : ByteArray) : Bool := decide (1 ≤ s.size) && decide (s.size ≤ 12) && (List.range s.size).all (chOk s)
theorem byte_get {s : ByteArray} {k : Nat} (h : k < s.size) : ∃ b, s[k]? = some b := ⟨s[k], by simp [h]⟩
theorem empty_of {s : ByteArray} (h : s.size = 0) : s = ⟨#[]⟩ := by
 obtain ⟨⟨l⟩⟩ := s;have : l = [] := List.eq_nil_of_length_eq_zero h;rw [this]
theorem name_no {s : ByteArray} {k : Nat} {b : UInt8} (hk : k < s.size) (hb : s[k]? = some b) (h : (letB b || (!decide (k = 0) && digB b)) = false) : nameB s = false := by
 unfold nameB;simp only [Bool.and_eq_false_iff, List.all_eq_false, List.mem_range];refine .inr ⟨k, hk, ?_⟩;unfold chOk;rw [hb];simp only;rw [h]; simp
theorem name_yes {s : ByteArray} (h0 : 1 ≤ s.size) (h1 : s.size ≤ 12) (h : ∀ k, k < s.size → chOk s k = true) : nameB s = true := by
 unfold nameB;simp only [Bool.and_eq_true, decide_eq_true_eq, List.all_eq_true, List.mem_range];exact ⟨⟨h0, h1⟩, h⟩
theorem empty_get : (⟨#[]⟩ : ByteArray)[0]? = none := rfl
def N1 (s : ByteArray) (k : Nat) : HS := ⟨45, [(0, .v (.one (.c (sC s)))), (23, .v (li s.size)), (24, .v (li k))], []⟩
theorem isname_con (s : ByteArray) (d : Nat) : Con Tryz.prog 108 true [.one (.c (sC s))] (.v (lb (nameB s))) none d := by
 refine con_of_HTA Tryz.func108 ?_;simp only [Tryz.f108];have hno := @name_no s;have hyes := @name_yes s;have hn0 : s.size = 0 → nameB s = false := by intro h; unfold nameB; simp [h]
 have hn12 : 12 < s.size → nameB s = false := by intro h; unfold nameB; simp; intro _ h2; omega
 have hchk := fun k b (h : s[k]? = some b) => (show chOk s k = (letB b || (!decide (k = 0) && digB b)) by unfold chOk; rw [h]);generalize nameB s = r at *;refine HT_seq (HT_run (by simp [regsOf, sC]; rfl) ?_);by_cases h0 : s.size = 0
 · have e := empty_of h0;subst e;refine HT_seq (HT_seq (HT_run (by simp [empty_get]; rfl) ?_));refine HT_cond rfl (fun h => ?_) (fun h => by cases h);refine HT_seq (HT_run (by simp; rfl) ?_);rw [hn0 h0];exact HT_ret ⟨.inr rfl, _, le_refl _, ⟨_, rfl, rfl⟩, by simp, fun _ => ⟨rfl, by simp⟩⟩
 have hne : ¬ s = ⟨#[]⟩ := by rintro rfl; exact h0 rfl
 obtain ⟨b0, hb0⟩ := byte_get (show 0 < s.size by omega);refine HT_seq (HT_seq (HT_run (by simp [hne, hb0]; rfl) ?_));refine HT_cond rfl (fun h => ?_) (fun h => HT_skip ?_)
 · refine HT_seq (HT_run (by simp; rfl) ?_)
   have hr : r = false := by
    by_cases h12 : 12 < s.size
    · exact hn12 h12
    refine hno (show 0 < s.size by omega) hb0 ?_;simp at h;simp [letB];omega
   rw [hr];exact HT_ret ⟨.inr rfl, _, le_refl _, ⟨_, rfl, rfl⟩, by simp, fun _ => ⟨rfl, by simp⟩⟩
 have h12 : s.size ≤ 12 ∧ 97 ≤ b0.toNat ∧ b0.toNat ≤ 122 := by simp at h; omega
 refine HT_seq (HT_seq (HT_run (by simp; rfl) ?_));refine HT_block (HT_loop (N1 s) (fun k => k ≤ s.size ∧ ∀ c, c < k → chOk s c = true) (fun k => s.size - k) 0 ⟨Nat.zero_le _, by simp⟩ ?_ ?_)
 · exact le_mk (fun n => n) [] rfl (by simp [N1, li, i64, sC]) (by simp [N1]) (by simp [N1])
 rintro k ⟨hk, hall⟩;simp only [N1];refine HT_seq (HT_run (by simp [li, i64, sC]; rfl) ?_);refine HT_seq (HT_cond rfl (fun h => HT_skip ?_) (fun h => HT_exit ?_))
 · have hlt : k < s.size := by simpa using h
   have hw : IntKind.i64.wrap ((k : Int) + 1) = (k : Int) + 1 := wrap_in (by omega) (by omega);obtain ⟨b, hb⟩ := byte_get hlt;refine HT_seq (HT_block (HT_seq (HT_run (by simp; rfl) ?_)));refine HT_seq (HT_run (by simp [hb]; rfl) ?_);refine HT_seq (HT_run (by simp; rfl) ?_);refine HT_cond rfl (fun h => ?_) (fun hcd => HT_skip ?_)
   · refine HT_seq (HT_run (by simp; rfl) ?_)
     have hr : r = false := by
      refine hno hlt hb ?_;simp at h;simp [letB, digB];omega
     rw [hr];exact HT_ret ⟨.inr rfl, _, le_refl _, ⟨_, rfl, rfl⟩, by simp, fun _ => ⟨rfl, by simp⟩⟩
   refine HT_run (by simp [hw]; rfl) ?_;refine ⟨k + 1, ⟨hlt, fun c hc => ?_⟩, by omega, ?_⟩
   · by_cases e : c = k
     · subst e;rw [hchk c b hb];by_cases hc0 : c = 0
       · subst hc0;have : b = b0 := by rw [hb0] at hb; exact (Option.some.inj hb).symm
         subst this;simp [letB, h12]
       simp at hcd;simp [letB, digB, hc0];omega
     exact hall c (by omega)
   exact le_mk (fun n => n) [] rfl (by simp [N1, li, i64, sC, hw]) (by simp [N1]) (by simp [N1])
 have hks : k = s.size := by simp at h; omega
 subst hks;refine HT_seq (HT_run (by simp; rfl) ?_);rw [hyes (by omega) h12.1 hall];exact HT_ret ⟨.inr rfl, _, le_refl _, ⟨_, rfl, by simp [resR, lb, bC]⟩, by simp, fun _ => ⟨rfl, by simp⟩⟩
def N2 (s : ByteArray) (k : Nat) : HS := ⟨50, [(0, .v (.one (.c (sC s)))), (3, .v (li k))], []⟩
theorem refname_con (s : ByteArray) (d : Nat) : Con Tryz.prog 79 true [.one (.c (sC s))] (.v (lb (nameB s))) none d := by
 refine con_of_HTA Tryz.func79 ?_;simp only [Tryz.f79];have hno := @name_no s;have hyes := @name_yes s;have hn0 : s.size = 0 → nameB s = false := by intro h; unfold nameB; simp [h]
 have hn12 : 12 < s.size → nameB s = false := by intro h; unfold nameB; simp; intro _ h2; omega
 have hchk := fun k b (h : s[k]? = some b) => (show chOk s k = (letB b || (!decide (k = 0) && digB b)) by unfold chOk; rw [h]);generalize nameB s = r at *;refine HT_seq (HT_run (by simp [regsOf, sC]; rfl) ?_);refine HT_seq (HT_seq (HT_run (by simp; rfl) ?_));refine HT_cond rfl (fun h => ?_) (fun h => HT_skip ?_)
 · refine HT_seq (HT_run (by simp; rfl) ?_)
   have hr : r = false := by
    simp at h;rcases h with h | h
    · exact hn0 (by omega)
    exact hn12 (by omega)
   rw [hr];exact HT_ret ⟨.inr rfl, _, le_refl _, ⟨_, rfl, rfl⟩, by simp, fun _ => ⟨rfl, by simp⟩⟩
 have h12 : 1 ≤ s.size ∧ s.size ≤ 12 := by simp at h; omega
 refine HT_seq (HT_seq (HT_run (by simp; rfl) ?_));refine HT_block (HT_loop (N2 s) (fun k => k ≤ s.size ∧ ∀ c, c < k → chOk s c = true) (fun k => s.size - k) 0 ⟨Nat.zero_le _, by simp⟩ ?_ ?_)
 · exact le_mk (fun n => n) [] rfl (by simp [N2, li, i64, sC]) (by simp [N2]) (by simp [N2])
 rintro k ⟨hk, hall⟩;simp only [N2];refine HT_seq (HT_seq (HT_run (by simp [li, i64, sC]; rfl) ?_));refine HT_cond rfl (fun h => HT_skip ?_) (fun h => HT_exit ?_)
 · have hlt : k < s.size := by simpa using h
   have hw : IntKind.i64.wrap ((k : Int) + 1) = (k : Int) + 1 := wrap_in (by omega) (by omega);obtain ⟨b, hb⟩ := byte_get hlt;refine HT_seq (HT_block (HT_seq (HT_run (by simp [hb]; rfl) ?_)));refine HT_seq (HT_run (by simp [hb]; rfl) ?_);refine HT_seq (HT_run (by simp; rfl) ?_);refine HT_cond rfl (fun h => ?_) (fun hcd => HT_skip ?_)
   · refine HT_seq (HT_run (by simp; rfl) ?_)
     have hr : r = false := by
      refine hno hlt hb ?_;simp at h;simp [letB, digB];omega
     rw [hr];exact HT_ret ⟨.inr rfl, _, le_refl _, ⟨_, rfl, rfl⟩, by simp, fun _ => ⟨rfl, by simp⟩⟩
   refine HT_run (by simp [hw]; rfl) ?_;refine ⟨k + 1, ⟨hlt, fun c hc => ?_⟩, by omega, ?_⟩
   · by_cases e : c = k
     · subst e;rw [hchk c b hb];simp at hcd;simp [letB, digB];omega
     exact hall c (by omega)
   exact le_mk (fun n => n) [] rfl (by simp [N2, li, i64, sC, hw]) (by simp [N2]) (by simp [N2])
 have hks : k = s.size := by simp at h; omega
 subst hks;refine HT_seq (HT_run (by simp; rfl) ?_);rw [hyes h12.1 h12.2 hall];exact HT_ret ⟨.inr rfl, _, le_refl _, ⟨_, rfl, by simp [resR, lb, bC]⟩, by simp, fun _ => ⟨rfl, by simp⟩⟩
end Go.Proofs.YtfjidddhehckoaaGreat.Lt

namespace Go.Proofs.YtfjidddhehckoaaGreat.Lt
open Go Go.Hl
def hasN (seen : List ByteArray) (s : ByteArray) : Bool := seen.any fun t => decide (t = s)
theorem hasN_iff {l : List ByteArray} {s : ByteArray} : hasN l s = true ↔ s ∈ l := by simp [hasN]
def scanN : List ByteArray → List ByteArray → Int
 | _, [] => 0
 | seen, s :: l => if nameB s = false then 7 else if hasN seen s = true then 8 else scanN (seen ++ [s]) l
def ordOk (n : Nat) (order : List (Int × Int)) : Bool := order.all fun p => inB n p.1 && inB n p.2
def antiB (n : Nat) (M : Nat → Nat → Bool) : Bool := (List.range n).all fun a => (List.range a).all fun b => !(M a b && M b a)
def newC (names : List ByteArray) (order : List (Int × Int)) : Int :=
 if names.length = 0 ∨ 12 < names.length then 4 else if scanN [] names ≠ 0 then scanN [] names else if ordOk names.length order = false then 3 else
 if antiB names.length (closeM names.length order) = false then 10 else if badRow names.length (closeM names.length order) ≠ names.length then 11 else 0
def latO (names : List ByteArray) (order : List (Int × Int)) : CD :=
 latD names (.mp (idxL names)) (matB names.length (closeM names.length order)) (matI names.length (bndI names.length (closeM names.length order))) (matI names.length (bndI names.length (flp (closeM names.length order))))
def newR (names : List ByteArray) (order : List (Int × Int)) : TV := if newC names order = 0 then .one (.c (latO names order)) else .one (.c (.lit (.pointer none)))
theorem idx_append (l : List ByteArray) (s : ByteArray) : idxL (l ++ [s]) = idxL l ++ [(.string s, i64 l.length)] := by simp [idxL, List.zipIdx_append]
theorem same_str (a b : ByteArray) : Instr.sameNow .string (.string a) (.string b) = some (decide (a = b)) := by
 unfold Instr.sameNow;simp only [Option.some.injEq];obtain ⟨a⟩ := a;obtain ⟨b⟩ := b;show (a == b) = decide ((⟨a⟩ : ByteArray) = ⟨b⟩);by_cases h : a = b
 · subst h; simp
 simp [h]
theorem find_zip {s : ByteArray} : ∀ (l : List ByteArray) (k : Nat), (s ∉ l → findM .string (.string s) ((l.zipIdx k).map fun p => (.string p.1, i64 p.2)) = some none) ∧
  ∀ i : Nat, l[i]? = some s → (∀ j : Nat, j < i → l[j]? ≠ some s) → findM .string (.string s) ((l.zipIdx k).map fun p => (.string p.1, i64 p.2)) = some (some (i64 ((k + i : Nat) : Int)))
 | [], k => by simp [findM]
 | x :: l, k => by
   obtain ⟨h1, h2⟩ := find_zip l (k + 1);refine ⟨fun h => ?_, fun i hi hj => ?_⟩
   · simp only [List.mem_cons, not_or] at h;simp only [List.zipIdx_cons, List.map_cons, findM, same_str, decide_eq_false h.1];exact h1 h.2
   cases i with
   | zero =>
     simp only [List.getElem?_cons_zero, Option.some.injEq] at hi;subst hi;simp [findM, same_str]
   | succ i =>
     have hx : ¬ s = x := by
      intro e;exact hj 0 (by omega) (by simp [e])
     simp only [List.zipIdx_cons, List.map_cons, findM, same_str, decide_eq_false hx];have := h2 i (by simpa using hi) (fun j hjl => by have := hj (j + 1) (by omega); simpa using this);rw [this];congr 3; omega
theorem first_at {s : ByteArray} : ∀ {l : List ByteArray}, s ∈ l → ∃ i : Nat, l[i]? = some s ∧ ∀ j : Nat, j < i → l[j]? ≠ some s
 | x :: l, h => by
   by_cases e : x = s
   · exact ⟨0, by simp [e], by simp⟩
   have hl : s ∈ l := by
    rcases List.mem_cons.1 h with h | h
    · exact absurd h.symm e
    exact h
   obtain ⟨i, h1, h2⟩ := first_at hl;refine ⟨i + 1, by simpa using h1, fun j hj => ?_⟩;cases j with
   | zero => simpa using e
   | succ j => simpa using h2 j (by omega)
theorem find_none {s : ByteArray} {l : List ByteArray} (h : s ∉ l) : findM .string (.string s) (idxL l) = some none := (find_zip l 0).1 h
theorem find_at {s : ByteArray} {l : List ByteArray} {i : Nat} (h : l[i]? = some s) (hf : ∀ j : Nat, j < i → l[j]? ≠ some s) : findM .string (.string s) (idxL l) = some (some (i64 i)) := by
 have := (find_zip l 0).2 i h hf;simpa [idxL] using this
theorem find_some {s : ByteArray} {l : List ByteArray} (h : s ∈ l) : ∃ i : Nat, findM .string (.string s) (idxL l) = some (some (i64 i)) := by
 obtain ⟨i, h1, h2⟩ := first_at h;exact ⟨i, find_at h1 h2⟩
theorem scan_step {names : List ByteArray} {k : Nat} {s : ByteArray} (h : names[k]? = some s) : scanN (names.take k) (names.drop k) = if nameB s = false then 7 else if hasN (names.take k) s = true then 8 else scanN (names.take (k + 1)) (names.drop (k + 1)) := by
 have hlt : k < names.length := (List.getElem?_eq_some_iff.1 h).1
 have : names.drop k = s :: names.drop (k + 1) := by
  rw [List.drop_eq_getElem_cons hlt];congr 1;exact (List.getElem?_eq_some_iff.1 h).2
 rw [this, scanN, List.take_add_one, h];rfl
def nrow (l : List ByteArray) : List (List CD) := l.map fun s => [sC s]
theorem nrow_len (l : List ByteArray) : (nrow l).length = l.length := by simp [nrow]
theorem nrow_append (l : List ByteArray) (s : ByteArray) : nrow (l ++ [s]) = nrow l ++ [[sC s]] := by simp [nrow]
def nilC : CD := .lit (.slice none 0 0)
def L1 (names : List ByteArray) (order : List (Int × Int)) (k : Nat) : HS :=
 ⟨122, [(0, .v (.one (.c (nsC names)))), (1, .v (.one (.c (orC order)))), (6, .v (.one (.at_ 1006 0))), (26, .v (.one (.c (nsC names)))), (27, .v (li names.length)), (28, .v (li k))],
  [(1000, .row 9 1 (nrow (names.take k))), (1002, .mp (idxL (names.take k))), (1006, .box [.own 1000, .own 1002, .c nilC, .c nilC, .c nilC])]⟩
def L2 (names : List ByteArray) (order : List (Int × Int)) (k : Nat) : HS :=
 ⟨122, [(0, .v (.one (.c (nsC names)))), (1, .v (.one (.c (orC order)))), (6, .v (.one (.at_ 1006 0))), (63, .v (.one (.c (orC order)))), (64, .v (li order.length)), (65, .v (li k))],
  [(1006, .box [.c (nsC names), .c (.mp (idxL names)), .c nilC, .c nilC, .c nilC])]⟩
def L3 (names : List ByteArray) (M : Nat → Nat → Bool) (a : Nat) : HS :=
 ⟨122, [(6, .v (.one (.at_ 1006 0))), (86, .v (li names.length)), (87, .v (li a))],
  [(1006, .box [.c (nsC names), .c (.mp (idxL names)), .c (matB names.length M), .c nilC, .c nilC])]⟩
def L4 (names : List ByteArray) (M : Nat → Nat → Bool) (a b : Nat) : HS :=
 ⟨122, [(6, .v (.one (.at_ 1006 0))), (13, .v (li a)), (86, .v (li names.length)), (87, .v (li a)), (90, .v (li a)), (91, .v (li b))],
  [(1006, .box [.c (nsC names), .c (.mp (idxL names)), .c (matB names.length M), .c nilC, .c nilC])]⟩
theorem new_con (names : List ByteArray) (order : List (Int × Int)) (hlen : order.length ≤ 200) (d : Nat) :
  Con Tryz.prog 67 false [.one (.c (nsC names)), .one (.c (orC order))] (.tup [newR names order, li (newC names order)]) none d := by
 have hrf : newC names order = newC names order := rfl
 conv at hrf => rhs; unfold newC
 have hrr : newR names order = newR names order := rfl
 conv at hrr => rhs; unfold newR
 generalize newC names order = code at *;generalize newR names order = res at *;refine con_of_HTA Tryz.func67 ?_;simp only [Tryz.f67];refine HT_seq (HT_run (by simp [regsOf, nsC, orC, sC, i64]; rfl) ?_);refine HT_seq (HT_seq (HT_run (by simp; rfl) ?_));refine HT_cond rfl (fun h => ?_) (fun hcd => HT_skip ?_)
 · refine HT_seq (HT_run (by simp; rfl) ?_)
   have h' : names.length = 0 ∨ 12 < names.length := by
    simp at h;rcases h with h | h
    · left; rw [h]; rfl
    right; omega
   rw [if_pos h'] at hrf;subst hrf;rw [if_neg (by decide)] at hrr;rw [hrr];exact HT_ret ⟨.inr rfl, _, le_refl _, ⟨_, rfl, rfl⟩, by simp, by simp⟩
 have hn : 1 ≤ names.length ∧ names.length ≤ 12 := by
  simp at hcd;have : names.length ≠ 0 := by rintro e; exact hcd.1 (List.eq_nil_of_length_eq_zero e)
  omega
 rw [if_neg (show ¬ (names.length = 0 ∨ 12 < names.length) by omega)] at hrf;refine HT_seq (HT_run (by simp; rfl) ?_);refine HT_seq (HT_seq (HT_run (by simp; rfl) ?_));refine HT_block (HT_loop (L1 names order) (fun k => k ≤ names.length ∧ scanN (names.take k) (names.drop k) = scanN [] names) (fun k => names.length - k) 0 ⟨Nat.zero_le _, by simp⟩ ?_ ?_)
 · exact le_mk (fun n => if n = 1002 then 23 else if n = 1006 then 25 else n) [1000] rfl (by simp [L1, li, i64, nsC, orC, sC]) (by simp [L1, nilC, idxL, nrow]) (by simp [L1])
 rintro k ⟨hk, hscan⟩;simp only [L1];refine HT_seq (HT_run (by simp [li, i64]; rfl) ?_);refine HT_seq (HT_cond rfl (fun h => HT_skip ?_) (fun h => HT_exit ?_))
 · have hlt : k < names.length := by simpa using h
   have hw : IntKind.i64.wrap ((k : Int) + 1) = (k : Int) + 1 := wrap_in (by omega) (by omega);obtain ⟨s, hs⟩ : ∃ s, names[k]? = some s := ⟨names[k], List.getElem?_eq_getElem hlt⟩;rw [scan_step hs] at hscan;have hcn := fun d => isname_con s d;have htl : (names.take k).length = k := by simp; omega
   have htk : names.take (k + 1) = names.take k ++ [s] := by rw [List.take_add_one, hs]; rfl
   generalize hT : names.take k = T at *;refine HT_seq (HT_block (HT_seq (HT_run (by simp [nsC, hs]; rfl) ?_)));refine HT_seq (HT_seq (HT_runc [⟨true, .v (lb (nameB s)), none⟩] (by simp [sC, lb, bC]; first | exact ⟨rfl, Iff.rfl⟩ | rfl) (by simpa only [sC, lb, bC] using hcn _) ?_));refine HT_cond rfl (fun h => ?_) (fun hc2 => HT_skip ?_)
   · refine HT_seq (HT_run (by simp; rfl) ?_);rw [if_pos (by simpa using h)] at hscan;rw [← hscan, if_pos (by decide)] at hrf;subst hrf;rw [if_neg (by decide)] at hrr;rw [hrr];exact HT_ret ⟨.inr rfl, _, le_refl _, ⟨_, rfl, rfl⟩, by simp, by simp⟩
   rw [if_neg (by simpa using hc2)] at hscan;by_cases hm : s ∈ T
   · obtain ⟨i, hi⟩ := find_some hm;refine HT_seq (HT_seq (HT_run (by simp [hi, i64]; rfl) ?_));refine HT_seq (HT_run (by simp; rfl) ?_);refine HT_cond rfl (fun h => ?_) (fun h => by cases h);refine HT_seq (HT_run (by simp; rfl) ?_);rw [if_pos (hasN_iff.2 hm)] at hscan;rw [← hscan, if_pos (by decide)] at hrf;subst hrf;rw [if_neg (by decide)] at hrr;rw [hrr];exact HT_ret ⟨.inr rfl, _, le_refl _, ⟨_, rfl, rfl⟩, by simp, by simp⟩
   have hi := find_none hm;rw [if_neg (by rw [hasN_iff]; exact hm)] at hscan;refine HT_seq (HT_seq (HT_run (by simp [hi]; rfl) ?_));refine HT_seq (HT_run (by simp; rfl) ?_);refine HT_cond rfl (fun h => by cases h) (fun h => HT_skip ?_);refine HT_seq (HT_run (by simp [hi]; rfl) ?_);refine HT_run (by simp [htl, nrow_len, show room (k + 1) 16 from room_of (by omega) (by omega)]; rfl) ?_;refine HT_run (by simp [hw]; rfl) ?_;refine ⟨k + 1, ⟨hlt, hscan⟩, by omega, ?_⟩;refine le_mk (fun n => if n = 1000 then 59 else n) [] rfl (by simp [L1, li, i64, nsC, orC, sC, hw]) ?_ (by simp [L1]);simp [L1, htk, idx_append, nrow_append, sC, i64, htl]
 have hkn : k = names.length := by simp at h; omega
 subst hkn;rw [List.drop_length] at hscan;simp only [scanN] at hscan;rw [if_neg (by rw [← hscan]; simp)] at hrf;simp only [List.take_length];refine HT_seq (HT_seq (HT_run (by simp [orC]; rfl) ?_));refine HT_block (HT_loop (L2 names order) (fun k => k ≤ order.length ∧ ∀ p ∈ order.take k, (inB names.length p.1 && inB names.length p.2) = true) (fun k => order.length - k) 0 ⟨Nat.zero_le _, by simp⟩ ?_ ?_)
 · refine le_trans (le_frz 1000 rfl) (le_trans (le_frzP 1002 rfl) (le_mk (fun n => n) [] rfl ?_ ?_ ?_))
   · simp [L2, li, i64, nsC, orC, sC]
   · simp [L2, nsC, nrow]
   simp [L2]
 rintro k ⟨hk2, hall⟩;simp only [L2];refine HT_seq (HT_run (by simp [li, i64]; rfl) ?_);refine HT_seq (HT_cond rfl (fun h => HT_skip ?_) (fun h => HT_exit ?_))
 · have hlt : k < order.length := by simpa using h
   have hw : IntKind.i64.wrap ((k : Int) + 1) = (k : Int) + 1 := wrap_in (by omega) (by omega);obtain ⟨p, hp⟩ : ∃ p, order[k]? = some p := ⟨order[k], List.getElem?_eq_getElem hlt⟩;have hh := fun a d => has_con names (.mp (idxL names)) nilC nilC nilC a d;refine HT_seq (HT_block (HT_seq (HT_run (by simp [orC, hp, i64]; rfl) ?_)));refine HT_seq (HT_runc [⟨true, .v (lb (inB names.length p.1)), none⟩, ⟨true, .v (lb (inB names.length p.2)), none⟩] (by simp [nsC, nilC, lb, bC]; first | exact ⟨rfl, Iff.rfl⟩ | rfl) ?_ ?_)
   · constructor
     · simpa only [latD, nsC, nilC, li, i64, lb, bC] using hh p.1 _
     simpa only [latD, nsC, nilC, li, i64, lb, bC] using hh p.2 _
   refine HT_cond rfl (fun h => ?_) (fun hc2 => HT_skip ?_)
   · refine HT_seq (HT_run (by simp; rfl) ?_)
     have ho : ordOk names.length order = false := by
      unfold ordOk;rw [List.all_eq_false];refine ⟨p, List.mem_of_getElem? hp, ?_⟩;cases h3 : inB names.length p.1 <;> cases h4 : inB names.length p.2 <;> simp_all
     rw [if_pos ho] at hrf;subst hrf;rw [if_neg (by decide)] at hrr;rw [hrr];exact HT_ret ⟨.inr rfl, _, le_refl _, ⟨_, rfl, rfl⟩, by simp, by simp⟩
   refine HT_run (by simp [hw]; rfl) ?_;refine ⟨k + 1, ⟨hlt, fun q hq => ?_⟩, by omega, ?_⟩
   · rw [List.take_add_one, hp] at hq;rcases List.mem_append.1 hq with hq | hq
     · exact hall q hq
     simp only [Option.toList_some, List.mem_singleton] at hq;subst hq;cases h3 : inB names.length q.1 <;> cases h4 : inB names.length q.2 <;> simp_all
   exact le_mk (fun n => n) [] rfl (by simp [L2, li, i64, nsC, orC, hw]) (by simp [L2, nsC, nilC]) (by simp [L2])
 have hkl : k = order.length := by simp at h; omega
 subst hkl;rw [List.take_length] at hall
 have ho : ordOk names.length order = true := by
  unfold ordOk;rw [List.all_eq_true];exact hall
 rw [if_neg (by rw [ho]; simp)] at hrf
 have hord : ∀ p ∈ order, (0 ≤ p.1 ∧ p.1 < names.length) ∧ 0 ≤ p.2 ∧ p.2 < names.length := by
  intro p hp;have := hall p hp;simpa [inB] using this
 have hcl := close_con names names.length rfl hn.2 order hlen hord (.mp (idxL names)) nilC nilC nilC;have hbn := bounds_con names names.length rfl hn.2 (closeM names.length order) (idxL names);have hlat : latO names order = latD names (.mp (idxL names)) (matB names.length (closeM names.length order)) (.sl 1 (rowsJ names.length (bndI names.length (closeM names.length order)) names.length)) (.sl 1 (rowsJ names.length (bndI names.length (flp (closeM names.length order))) names.length)) := rfl;rw [hlat] at hrr;generalize closeM names.length order = M at *;refine HT_seq (HT_runIO 2 (.tup []) _ rfl (by simp [orC]; rfl) (by simp [ioOf, nsC, nilC]; exact ⟨rfl, rfl, rfl, rfl, rfl⟩) (by simpa only [nsC, orC, nilC, i64] using hcl) rfl (by simp; rfl) ?_);refine HT_seq (HT_seq (HT_run (by simp [nsC]; rfl) ?_));refine HT_block (HT_loop (L3 names M) (fun a => a ≤ names.length ∧ ∀ x, x < a → ((List.range x).all fun b => !(M x b && M b x)) = true) (fun a => names.length - a) 0 ⟨Nat.zero_le _, by simp⟩ ?_ ?_)
 · exact le_mk (fun n => n) [] rfl (by simp [L3, li, i64]) (by simp [L3, nsC, nilC]) (by simp [L3])
 rintro a ⟨ha, han⟩;simp only [L3];refine HT_seq (HT_run (by simp [li, i64]; rfl) ?_);refine HT_seq (HT_cond rfl (fun h => HT_skip ?_) (fun h => HT_exit ?_))
 · have hla : a < names.length := by simpa using h
   have hwa : IntKind.i64.wrap ((a : Int) + 1) = (a : Int) + 1 := wrap_in (by omega) (by omega);refine HT_seq (HT_block (HT_seq (HT_run (by simp; rfl) ?_)));refine HT_seq (HT_run (by simp; rfl) ?_);refine HT_block (HT_loop (L4 names M a) (fun b => b ≤ a ∧ ∀ x, x < b → (!(M a x && M x a)) = true) (fun b => a - b) 0 ⟨Nat.zero_le _, by simp⟩ ?_ ?_)
   · exact le_mk (fun n => n) [] rfl (by simp [L4, li, i64]) (by simp [L4]) (by simp [L4])
   rintro b ⟨hb, hbn2⟩;simp only [L4];refine HT_seq (HT_run (by simp [li, i64]; rfl) ?_);refine HT_seq (HT_cond rfl (fun h => HT_skip ?_) (fun h => HT_exit ?_))
   · have hlb : b < a := by simpa using h
     have hlb2 : b < names.length := by omega
     have hwb : IntKind.i64.wrap ((b : Int) + 1) = (b : Int) + 1 := wrap_in (by omega) (by omega);refine HT_seq (HT_block (HT_seq (HT_run (by simp; rfl) ?_)));refine HT_seq (HT_run (by simp [matB, hla, hlb2, rowB_get hla, rowB_get hlb2, bC]; rfl) ?_);refine HT_cond rfl (fun h => ?_) (fun hc2 => HT_skip ?_)
     · refine HT_seq (HT_run (by simp; rfl) ?_)
       have hx : antiB names.length M = false := by
        unfold antiB;rw [List.all_eq_false];refine ⟨a, by simpa using hla, ?_⟩;simp only [Bool.not_eq_true, List.all_eq_false];refine ⟨b, by simpa using hlb, ?_⟩;have h' : (M a b && M b a) = true := h;rw [h']; simp
       rw [if_pos hx] at hrf;subst hrf;rw [if_neg (by decide)] at hrr;rw [hrr];exact HT_ret ⟨.inr rfl, _, le_refl _, ⟨_, rfl, rfl⟩, by simp, by simp⟩
     refine HT_run (by simp [hwb]; rfl) ?_;refine ⟨b + 1, ⟨hlb, fun x hx => ?_⟩, by omega, ?_⟩
     · by_cases e : x = b
       · subst e;have h' : (M a x && M x a) = false := hc2;rw [h']; rfl
       exact hbn2 x (by omega)
     exact le_mk (fun n => n) [] rfl (by simp [L4, li, i64, hwb]) (by simp [L4, matB]) (by simp [L4])
   have hba : b = a := by simp at h; omega
   subst hba;refine HT_run (by simp [hwa]; rfl) ?_;refine ⟨b + 1, ⟨hla, fun x hx => ?_⟩, by omega, ?_⟩
   · by_cases e : x = b
     · subst e;rw [List.all_eq_true];intro y hy;exact hbn2 y (by simpa using hy)
     exact han x (by omega)
   exact le_mk (fun n => n) [] rfl (by simp [L3, li, i64, hwa]) (by simp [L3]) (by simp [L3])
 have hak : a = names.length := by simp at h; omega
 subst hak
 have hx : antiB names.length M = true := by
  unfold antiB;rw [List.all_eq_true];intro x hx;exact han x (by simpa using hx)
 rw [if_neg (by rw [hx]; simp)] at hrf;refine HT_seq (HT_seq (HT_runIO 1 (.v (lb (decide (badRow names.length M = names.length)))) _ rfl (by simp; rfl) (by simp [ioOf, nsC, nilC]; exact ⟨rfl, rfl, rfl, rfl, rfl⟩) (by simpa only [nsC, nilC, nilS] using hbn) rfl (by simp [lb, bC]; rfl) ?_));refine HT_cond rfl (fun h => ?_) (fun hc2 => HT_skip ?_)
 · refine HT_seq (HT_run (by simp; rfl) ?_);have h' : badRow names.length M ≠ names.length := by simpa using h
   rw [if_pos h'] at hrf;subst hrf;rw [if_neg (by decide)] at hrr;rw [hrr];exact HT_ret ⟨.inr rfl, _, le_refl _, ⟨_, rfl, rfl⟩, by simp, by simp⟩
 refine HT_seq (HT_run (by simp; rfl) ?_);have h' : badRow names.length M = names.length := by simpa using hc2
 rw [if_neg (by rw [h']; simp)] at hrf;subst hrf;rw [if_pos rfl] at hrr;rw [hrr, h'];refine HT_ret ⟨.inr rfl, _, le_frzB 1006 rfl rfl rfl, ⟨_, rfl, ?_⟩, by simp, by simp⟩;simp [resR, latD, nsC, li, i64]
end Go.Proofs.YtfjidddhehckoaaGreat.Lt

namespace Go.Proofs.YtfjidddhehckoaaGreat.Lt
open Go Go.Hl
def rowsE (n k : Nat) : List (Option (List (List CD))) := (List.range k).map fun a => some (rowB n eqM a)
theorem rowsE_len (n k : Nat) : (rowsE n k).length = k := by simp [rowsE]
theorem rowsE_succ (n k : Nat) : rowsE n (k + 1) = rowsE n k ++ [some (rowB n eqM k)] := by simp [rowsE, List.range_succ]
theorem rowsE_full (n : Nat) : rowsE n n = rowsM n eqM := rfl
theorem up_same {M : Nat → Nat → Bool} {a b : Nat} : up M a b (M a b) = M := by
 funext x y
 unfold up;split
 · rename_i h; rw [h.1, h.2]
 rfl
def K1 (order : List (Int × Int)) (n k : Nat) : HS :=
 ⟨85, [(0, .v (li n)), (1, .v (.one (.c (orC order)))), (5, .v (.one (.own 1005))), (6, .v (li k))], [(1005, .mat 55 4 1 (rowsE n k))]⟩
def K2 (order : List (Int × Int)) (n k : Nat) : HS :=
 ⟨85, [(0, .v (li n)), (1, .v (.one (.c (orC order)))), (5, .v (.one (.own 1005))), (8, .v (li k))], [(1005, .mat 55 4 1 (rowsM n (pairsM (order.take k))))]⟩
def K3 (n : Nat) (M : Nat → Nat → Bool) (m : Nat) : HS :=
 ⟨85, [(0, .v (li n)), (5, .v (.one (.own 1005))), (9, .v (li m))], [(1005, .mat 55 4 1 (rowsM n (fwM n M m)))]⟩
def K4 (n : Nat) (M : Nat → Nat → Bool) (m a : Nat) : HS :=
 ⟨85, [(0, .v (li n)), (5, .v (.one (.own 1005))), (9, .v (li m)), (10, .v (li a))], [(1005, .mat 55 4 1 (rowsM n (fwA n M m a)))]⟩
def K5 (n : Nat) (M : Nat → Nat → Bool) (m a b : Nat) : HS :=
 ⟨85, [(0, .v (li n)), (5, .v (.one (.own 1005))), (9, .v (li m)), (10, .v (li a)), (11, .v (li b))], [(1005, .mat 55 4 1 (rowsM n (fwB M m a b)))]⟩
theorem closed_con (n : Nat) (h12 : n ≤ 12) (order : List (Int × Int)) (hlen : order.length ≤ 60) (hord : ∀ p ∈ order, (0 ≤ p.1 ∧ p.1 < n) ∧ 0 ≤ p.2 ∧ p.2 < n) (d : Nat) :
  Con Tryz.prog 80 false [li n, .one (.c (orC order))] (.v (.one (.c (matB n (closeM n order))))) none d := by
 refine con_of_HTA Tryz.func80 ?_;simp only [Tryz.f80];refine HT_seq (HT_run (by simp [regsOf, orC, li, i64]; rfl) ?_);refine HT_seq (HT_run (by simp; rfl) ?_);refine HT_seq (HT_seq (HT_run (by simp; rfl) ?_));refine HT_le (le_mat (k := 0) 12 4 1 (by decide) (by decide) rfl (by simp [RV.menA, TV.menA, CV.menA]) (by simp [Ob.menA, CV.menA])) ?_;refine HT_block (HT_loop (K1 order n) (fun k => k ≤ n) (fun k => n - k) 0 (Nat.zero_le _) ?_ ?_)
 · exact le_mk (fun n => 12) [] rfl (by simp [K1, li, i64, orC]) (by simp [K1, rowsE]) (by simp [K1])
 intro k hk;simp only [K1];refine HT_seq (HT_seq (HT_run (by simp [li, i64]; rfl) ?_));refine HT_cond rfl (fun h => HT_skip ?_) (fun h => HT_exit ?_)
 · have hlt : k < n := by simpa using h
   have hw : IntKind.i64.wrap ((k : Int) + 1) = (k : Int) + 1 := wrap_in (by omega) (by omega);have hrow := row_eq hlt;simp only [bC] at hrow;refine HT_seq (HT_block (HT_seq (HT_run (by simp [show (n : Int) ≤ maxLen by unfold maxLen; omega, show (n : Int) ≤ 281474976710656 by omega]; rfl) ?_)));refine HT_seq (HT_run (by simp [hlt, hrow]; rfl) ?_);refine HT_run (by simp [rowsE_len, show room (k + 1) 24 from room_of (by omega) (by omega)]; rfl) ?_;refine HT_run (by simp [hw]; rfl) ?_;refine ⟨k + 1, hlt, by omega, ?_⟩;exact le_mk (fun n => if n = 1005 then 26 else n) [] rfl (by simp [K1, li, i64, orC, hw]) (by simp [K1, rowsE_succ]) (by simp [K1])
 have hkn : k = n := by simp at h; omega
 subst hkn;rw [rowsE_full];refine HT_seq (HT_seq (HT_run (by simp [orC]; rfl) ?_));refine HT_block (HT_loop (K2 order k) (fun j => j ≤ order.length) (fun j => order.length - j) 0 (Nat.zero_le _) ?_ ?_)
 · exact le_mk (fun n => n) [] rfl (by simp [K2, li, i64, orC]) (by simp [K2, pairsM]) (by simp [K2])
 intro j hj;simp only [K2];refine HT_seq (HT_seq (HT_run (by simp [li, i64, orC]; rfl) ?_));refine HT_cond rfl (fun h => HT_skip ?_) (fun h => HT_exit ?_)
 · have hlj : j < order.length := by simpa using h
   have hw : IntKind.i64.wrap ((j : Int) + 1) = (j : Int) + 1 := wrap_in (by omega) (by omega)
   obtain ⟨x, y, hv, hx, hy⟩ : ∃ x y : Nat, order[j]? = some ((x : Int), (y : Int)) ∧ x < k ∧ y < k := by
    have hm := hord order[j] (List.getElem_mem hlj);refine ⟨order[j].1.toNat, order[j].2.toNat, ?_, by omega, by omega⟩;rw [List.getElem?_eq_getElem hlj];congr 1;refine Prod.ext ?_ ?_
    · show order[j].1 = (order[j].1.toNat : Int); omega
    show order[j].2 = (order[j].2.toNat : Int); omega
   have hps := pairs_succ hv;simp only [Int.toNat_natCast] at hps;generalize pairsM (order.take j) = M at *;refine HT_seq (HT_block (HT_drun (by kernel_rfl) (by kernel_rfl) (by rfl) (by simp [hv, i64, rowsM_len, hx, hy, rowsM_get hx, rowB_len, rowB_get hy, bC]; rfl) ?_));refine HT_run (by simp [hw]; rfl) ?_;refine ⟨j + 1, hlj, by omega, ?_⟩;refine le_mk (fun n => n) [] rfl (by simp [K2, li, i64, orC, hw]) ?_ (by simp [K2]);have h1 := @rowB_set k x y M true;simp only [bC] at h1;simp [K2, hps, h1, rowsM_set]
 have hjl : j = order.length := by simp at h; omega
 subst hjl;rw [List.take_length];refine HT_seq (HT_seq (HT_run (by simp; rfl) ?_));refine HT_block (HT_loop (K3 k (pairsM order)) (fun m => m ≤ k) (fun m => k - m) 0 (Nat.zero_le _) ?_ ?_)
 · exact le_mk (fun n => n) [] rfl (by simp [K3, li, i64]) (by simp [K3, fwM]) (by simp [K3])
 intro m hm;simp only [K3];refine HT_seq (HT_seq (HT_run (by simp [li, i64]; rfl) ?_));refine HT_cond rfl (fun h => HT_skip ?_) (fun h => HT_exit ?_)
 · have hlm : m < k := by simpa using h
   have hwm : IntKind.i64.wrap ((m : Int) + 1) = (m : Int) + 1 := wrap_in (by omega) (by omega);have hsm := fwM_succ k (pairsM order) m;generalize fwM k (pairsM order) m = M at *;refine HT_seq (HT_block (HT_seq (HT_run (by simp; rfl) ?_)));refine HT_block (HT_loop (K4 k M m) (fun a => a ≤ k) (fun a => k - a) 0 (Nat.zero_le _) ?_ ?_)
   · exact le_mk (fun n => n) [] rfl (by simp [K4, li, i64]) (by simp [K4, fwA]) (by simp [K4])
   intro a ha;simp only [K4];refine HT_seq (HT_seq (HT_run (by simp [li, i64]; rfl) ?_));refine HT_cond rfl (fun h => HT_skip ?_) (fun h => HT_exit ?_)
   · have hla : a < k := by simpa using h
     have hwa : IntKind.i64.wrap ((a : Int) + 1) = (a : Int) + 1 := wrap_in (by omega) (by omega);have hsa := fwA_succ k M m a;generalize fwA k M m a = M2 at *;refine HT_seq (HT_block (HT_seq (HT_run (by simp; rfl) ?_)));refine HT_block (HT_loop (K5 k M2 m a) (fun b => b ≤ k) (fun b => k - b) 0 (Nat.zero_le _) ?_ ?_)
     · exact le_mk (fun n => n) [] rfl (by simp [K5, li, i64]) (by simp [K5, fwB]) (by simp [K5])
     intro b hb;simp only [K5];refine HT_seq (HT_seq (HT_run (by simp [li, i64]; rfl) ?_));refine HT_cond rfl (fun h => HT_skip ?_) (fun h => HT_exit ?_)
     · have hlb : b < k := by simpa using h
       have hwb : IntKind.i64.wrap ((b : Int) + 1) = (b : Int) + 1 := wrap_in (by omega) (by omega);have hsb := fwB_succ M2 m a b;generalize fwB M2 m a b = M3 at *;refine HT_seq (HT_block (HT_seq (HT_run (by simp [rowsM_len, hla, hlb, hlm, rowsM_get hla, rowsM_get hlm, rowB_len, rowB_get hlb, rowB_get hlm, bC]; rfl) ?_)));refine HT_cond rfl (fun h => ?_) (fun h => HT_skip ?_)
       · have h' : (M3 a m && M3 m b) = true := h;refine HT_run (by simp [rowsM_len, hla, hlb, rowsM_get hla, rowB_len, rowB_get hlb, bC]; rfl) ?_;refine HT_run (by simp [hwb]; rfl) ?_;refine ⟨b + 1, hlb, by omega, ?_⟩;refine le_mk (fun n => n) [] rfl (by simp [K5, li, i64, hwb]) ?_ (by simp [K5]);have h1 := @rowB_set k a b M3 true;simp only [bC] at h1;simp [K5, hsb, stM, h', h1, rowsM_set]
       have h' : (M3 a m && M3 m b) = false := h;refine HT_run (by simp [hwb]; rfl) ?_;refine ⟨b + 1, hlb, by omega, ?_⟩;refine le_mk (fun n => n) [] rfl (by simp [K5, li, i64, hwb]) ?_ (by simp [K5]);simp [K5, hsb, stM, h', up_same]
     have hbk : b = k := by simp at h; omega
     subst hbk;refine HT_run (by simp [hwa]; rfl) ?_;refine ⟨a + 1, hla, by omega, ?_⟩;exact le_mk (fun n => n) [] rfl (by simp [K4, li, i64, hwa]) (by simp [K4, hsa]) (by simp [K4])
   have hak : a = k := by simp at h; omega
   subst hak;refine HT_run (by simp [hwm]; rfl) ?_;refine ⟨m + 1, hlm, by omega, ?_⟩;exact le_mk (fun n => n) [] rfl (by simp [K3, li, i64, hwm]) (by simp [K3, hsm]) (by simp [K3])
 have hmk : m = k := by simp at h; omega
 subst hmk;refine HT_seq (HT_run (by simp; rfl) ?_);refine HT_ret ⟨.inr rfl, _, le_frzM 1005 rfl, ⟨_, rfl, ?_⟩, by simp, by simp⟩;simp [resR, matC_rows, closeM, -matC]
end Go.Proofs.YtfjidddhehckoaaGreat.Lt
