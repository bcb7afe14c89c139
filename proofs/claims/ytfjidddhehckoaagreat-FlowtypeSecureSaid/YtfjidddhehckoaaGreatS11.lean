/- Part 11: contracts of functions of the program and of the reference, and plain facts about what they compute; used by the proof of the claimed statement. Conditions: as each theorem states. -/
import Derived.Test.YtfjidddhehckoaaGreatS10
import Derived.Test.YtfjidddhehckoaaGreatS3
import Derived.Test.YtfjidddhehckoaaGreatS6
set_option linter.unusedSimpArgs false
set_option linter.unusedVariables false
set_option linter.unnecessarySimpa false
set_option maxRecDepth 100000
set_option maxHeartbeats 2000000
namespace Go.Proofs.YtfjidddhehckoaaGreat
open Go Go.Hl
def encLL (l : List (List Int)) : List (List CD) := l.map fun s => [.sl 1 (encIs s)]
@[simp] theorem len_encLL (l : List (List Int)) : (encLL l).length = l.length := by simp [encLL]
def tB (L : CD) (hv : List Int) (W : Int) (t : Tp) : Ob := .box [.c L, .c (.sl 1 (encIs hv)), .c (iC W), .c (iC t.time), .own 900001, .c (iC t.at_), .c (bC t.dry), .own 900002, .own 900003]
def tO (L : CD) (hv : List Int) (W : Int) (t : Tp) : List (Nat × Ob) := [(900001, .row 3 1 (encIs t.faults)), (900002, .row 32 1 (encLL t.states)), (900003, .row 3 1 (encIs t.counts)), (1000000, tB L hv W t)]
def mgK (J : Int → Int → Int) (a b : List Int) (k : Nat) : List Int := (mgF J a b).take k ++ a.drop k
theorem mg_step {J : Int → Int → Int} : ∀ (a b : List Int) (k : Nat) (x y : Int), a[k]? = some x → b[k]? = some y → (mgK J a b k).set k (J x y) = mgK J a b (k + 1)
 | [], _, _, _, _, h, _ => by simp at h
 | _, [], _, _, _, _, h => by simp at h
 | x0 :: a, y0 :: b, 0, x, y, h1, h2 => by
   simp only [List.getElem?_cons_zero, Option.some.injEq] at h1 h2;subst h1 h2;simp [mgK, mgF]
 | x0 :: a, y0 :: b, k + 1, x, y, h1, h2 => by
   have ih := mg_step (J := J) a b k x y (by simpa using h1) (by simpa using h2);simp only [mgK, mgF, List.zipWith_cons_cons, List.take_succ_cons, List.drop_succ_cons, List.cons_append, List.set_cons_succ] at ih ⊢;rw [ih]
theorem mg_get {J : Int → Int → Int} {a b : List Int} {k : Nat} (hl : b.length = a.length) (hk : k < a.length) : (mgK J a b k)[k]? = a[k]? := by
 unfold mgK;rw [List.getElem?_append_right (by simp only [List.length_take, mgF_len J hl]; omega), List.getElem?_drop];congr 1;simp only [List.length_take, mgF_len J hl];omega
theorem mg_len {J : Int → Int → Int} {a b : List Int} {k : Nat} (hl : b.length = a.length) (hk : k ≤ a.length) : (mgK J a b k).length = a.length := by
 simp only [mgK, List.length_append, List.length_take, List.length_drop, mgF_len J hl]; omega
theorem mergeT_con (p : Po) (hv : List Int) (W : Int) (t : Tp) (a b : List Int) (hl : b.length = a.length) (ha : a.length ≤ 1000000) :
  ConS Tryz.prog 117 (tO (Lt.latO p.levels p.order) hv W t) [.one (.at_ 1000000 0), lI a, lI b] (.v (lI (mgF p.J a b))) (tO (Lt.latO p.levels p.order) hv W t) := by
 have cj := fun h w t f a0 d0 s c a b => joinT_con p h w t f a0 d0 s c a b;have cc := cloneO_con a (by omega);obtain ⟨cs, hL⟩ := lat_ptr p;obtain ⟨J, hJ⟩ : ∃ x, p.J = x := ⟨_, rfl⟩;simp only [hL, hJ] at cj ⊢;clear hL hJ;obtain ⟨ti, fa, at1, dr, ss, cn⟩ := t;simp only [tO, tB];refine con_s_of_HT Tryz.func117 rfl (by kernel_rfl) (Nat.le_of_ble_eq_true rfl) (pin_mk rfl) ?_;simp only [Tryz.f117];refine HT_sA ?_;refine HT_scA [⟨false, .v (.one (.own 11)), some (.row 3 1 (encIs a))⟩] ?_ ?_
 · first | exact cc 11 (by decide) | exact trivial | simpa [*] using cc 11 (by decide)
 refine HT_seq <| HT_seq <| HT_runA ?_;have hz : mgK J a b 0 = a := by simp [mgK]
 refine HT_block <| (HT_loopU [0, 7, 12, 13] (fun (x : Nat) => [(14, .v (li x))]) (fun x => [(11, .row 3 1 (encIs (mgK J a b x))), (900001, .row 3 1 (encIs fa)), (900002, .row 32 1 (encLL ss)), (900003, .row 3 1 (encIs cn)), (1000000, .box [.c (.ptr cs), .c (.sl 1 (encIs hv)), .c (iC W), .c (iC ti), .own 900001, .c (iC at1), .c (bC dr), .own 900002, .own 900003])]) (fun x => x ≤ a.length) (fun x => a.length - x) (0 : Nat) (Nat.zero_le _) ?_ ?_)
 · exact le_mkA (fun n => n) []
 rintro k hk;simp only [upS, keepS, insS]
 try simp only [keepS, KN, Nat.reduceBEq, if_true, if_false, ins, Nat.reduceLT]
 refine HT_sA ?_;refine HT_seq <| (HT_cond rfl (fun h5 => HT_skip ?_) (fun h5 => ?_))
 · (try simp only[BN]at h5);have hlt : k < a.length := by omega
   have hw1 := wrap1 hlt (by omega);have hk1 : k + 1 ≤ a.length := hlt;obtain ⟨x, hx⟩ : ∃ x, a[k]? = some x := ⟨a[k], by simp [hlt]⟩;obtain ⟨y, hy⟩ : ∃ y, b[k]? = some y := ⟨b[k]'(by omega), List.getElem?_eq_getElem (by omega)⟩;have hst := mg_step (J := J) a b k x y hx hy;have hg := mg_get (J := J) hl hlt;have hgl := mg_len (J := J) (k := k) hl (by omega);have hgl' := mg_len (J := J) (k := k + 1) hl hk1;obtain ⟨X, hX⟩ : ∃ x, mgK J a b k = x := ⟨_, rfl⟩;obtain ⟨Y, hY⟩ : ∃ x, mgK J a b (k + 1) = x := ⟨_, rfl⟩;rw [hX] at hst hg hgl;rw [hY] at hst;rw [hx] at hg;have hkx : k < X.length := by omega
   have hgx : X[k]'hkx = x := by rw [List.getElem?_eq_getElem hkx] at hg; exact Option.some.inj hg
   have cj := fun h w t f a0 d0 s c => cj h w t f a0 d0 s c x y;obtain ⟨Q, hQ⟩ : ∃ q, J x y = q := ⟨_, rfl⟩;have hse : (encIs X).set k [iC Q] = encIs Y := by rw [← hst, ← hQ]; simp [encIs, List.map_set]
   rw [hQ] at cj;clear hlt h5 hst hgl hgl' hQ hx hg;refine HT_seq <| HT_block <| HT_seq <| HT_runA ?_;refine (HT_runcA [⟨true, .v (li Q), none⟩] ?_ ?_)
   · first | exact cj _ _ _ _ _ _ _ _ _ | exact trivial | simpa [*] using cj _ _ _ _ _ _ _ _ _
   refine HT_runA ?_;exact ⟨k + 1, hk1, by omega, le_mkA (fun n => n) []⟩
 (try simp only[BN]at h5);have hkl : k = a.length := by omega
 subst hkl
 have hal : mgK J a b a.length = mgF J a b := by
  unfold mgK;rw [List.drop_length, List.append_nil, List.take_of_length_le (by rw [mgF_len J hl]; omega)]
 refine (HT_exit ?_);refine HT_sA ?_;exact HT_ret ⟨.inr rfl, HT_endL (le_frz 11 rfl) (by simp; rfl) (by simp [resR, hal]) (by simp)⟩
theorem recordT_con (p : Po) (hv : List Int) (W : Int) (t : Tp) (st : List Int) (pc : Int) (hl : st.length ≤ 1000000) (h1 : t.at_ ≤ 1000000000) (h2 : t.states.length ≤ 1000000) (h3 : t.counts.length ≤ 1000000) :
  ConS Tryz.prog 113 (tO (Lt.latO p.levels p.order) hv W t) [.one (.at_ 1000000 0), lI st, li pc] (.v (li (t.at_ : Int))) (tO (Lt.latO p.levels p.order) hv W (recT t st pc)) := by
 have cc := cloneI_con st (by omega);obtain ⟨cs, hL⟩ := lat_ptr p;rw [hL];clear hL;obtain ⟨ti, fa, at1, dr, ss, cn⟩ := t;simp only at h1 h2 h3;have hw : IntKind.i64.wrap ((at1 : Int) + 1) = ((at1 + 1 : Nat) : Int) := by rw [wrap_in (by omega) (by omega)]; rfl
 have hr1 : room (ss.length + 1) 24 := room_of (by omega) (by omega);have hr2 : room (cn.length + 1) 8 := room_of (by omega) (by omega);have ha1 : encLL ss ++ [[.sl 1 (encIs st)]] = encLL (ss ++ [st]) := by simp [encLL]
 cases dr with
 | false =>
   simp only [tO, tB, recT];refine con_s_of_HT Tryz.func113 rfl (by kernel_rfl) (Nat.le_of_ble_eq_true rfl) (pin_mk rfl) ?_;simp only [Tryz.f113];refine HT_sA ?_;refine HT_sA ?_;refine HT_sA ?_;refine HT_seq <| HT_seq <| HT_runA ?_;refine (HT_cs rfl (fun h4 => ?_) fun h4 => ?_)
   · (try simp only[BN]at h4);refine HT_seq <| (HT_druncH [(27, 1000000), (34, 1000000)] [⟨false, .v (lI st), none⟩] (by kernel_rfl) (by kernel_rfl) (by rfl) (by simp [evcH, hokB, hintOf, *]; first | exact ⟨rfl, Iff.rfl⟩ | exact ⟨rfl, trivial⟩ | rfl) ?_ ?_)
     · first | exact cc _ | exact trivial | simpa [*] using cc _
     refine HT_runA ?_;refine HT_sA ?_;exact HT_ret ⟨.inr rfl, HT_endL (s2 := ⟨46, [(6, .v (li (at1 : Int)))], [(900001, .row 3 1 (encIs fa)), (900002, .row 32 1 (encLL (ss ++ [st]))), (900003, .row 3 1 (encIs (cn ++ [pc]))), (1000000, .box [.c (.ptr cs), .c (.sl 1 (encIs hv)), .c (iC W), .c (iC ti), .own 900001, .c (iC ((at1 + 1 : Nat) : Int)), .c (bC false), .own 900002, .own 900003])]⟩) (le_mk (fun n => if n = 900002 then 32 else if n = 900003 then 42 else n) [] rfl (by simp) (by simp [*]) (by simp)) (by simp; rfl) (by simp [resR]) (by simp)⟩
   exact absurd h4 (by simp)
 | true =>
   simp only [tO, tB, recT];refine con_s_of_HT Tryz.func113 rfl (by kernel_rfl) (Nat.le_of_ble_eq_true rfl) (pin_mk rfl) ?_;simp only [Tryz.f113];refine HT_sA ?_;refine HT_sA ?_;refine HT_sA ?_;refine HT_seq <| HT_seq <| HT_runA ?_;refine (HT_cs rfl (fun h4 => ?_) fun h4 => ?_)
   · exact absurd h4 (by simp)
   (try simp only[BN]at h4);refine HT_sA ?_;exact HT_ret ⟨.inr rfl, HT_endS (by simp; rfl) (by simp [resR]) (by simp [*])⟩
end Go.Proofs.YtfjidddhehckoaaGreat

namespace Go.Proofs.YtfjidddhehckoaaGreat
open Go Go.Hl
theorem eqG2 (a b : List Int) (h : a.length = b.length) (hall : ∀ k : Nat, k < a.length → a[k]? = b[k]?) : a = b := by
 apply List.ext_getElem?;intro k;by_cases hk : k < a.length
 · exact hall k hk
 rw [List.getElem?_eq_none (by omega), List.getElem?_eq_none (by omega)]
theorem eqSl_con (a b : List Int) (ha : a.length ≤ 1000000000) (hb : b.length ≤ 1000000000) (d : Nat) : Con Tryz.prog 15 true [lI a, lI b] (.v (lb (decide (a = b)))) none d := by
 obtain ⟨res, hres⟩ : ∃ r, decide (a = b) = r := ⟨_, rfl⟩;rw [hres];refine con_of_HTA Tryz.func15 ?_;simp only [Tryz.f15];refine HT_sA ?_;refine HT_seq <| HT_seq <| HT_runA ?_;refine (HT_cs rfl (fun h2 => ?_) fun h2 => ?_)
 · try simp only[BN]at h2
   have hz : res = false := by
    rw [← hres, decide_eq_false_iff_not];intro h;subst h;simp at h2
   subst hz;refine HT_sA ?_;exact HT_rA
 (try simp only[BN]at h2);have hle : a.length = b.length := by omega
 clear h2;refine HT_seq <| HT_seq <| HT_runA ?_;refine HT_block <| (HT_loopU [0, 1, 12] (fun (z : Nat) => [(13, .v (li z))]) (fun z => []) (fun z => z ≤ a.length ∧ ∀ k : Nat, k < z → a[k]? = b[k]?) (fun z => a.length - z) (0 : Nat) ⟨Nat.zero_le _, fun k hk => absurd hk (Nat.not_lt_zero k)⟩ ?_ ?_)
 · exact le_mkA (fun n => n) []
 rintro k ⟨hk, hall⟩;simp only [upS, keepS, insS]
 try simp only [keepS, KN, Nat.reduceBEq, if_true, if_false, ins, Nat.reduceLT]
 refine HT_sA ?_;refine HT_seq <| (HT_cond rfl (fun h8 => HT_skip ?_) (fun h8 => ?_))
 · (try simp only[BN]at h8);have hlt : k < a.length := by omega
   obtain ⟨x, he, _⟩ := at_lt hlt;obtain ⟨y, hey, _⟩ := at_lt (show k < b.length by omega);have hw1 := wrap1 hlt (by omega);have hk1 : k + 1 ≤ a.length := hlt;clear hlt h8;refine HT_seq <| HT_block <| HT_seq <| HT_runA ?_;refine HT_seq <| (HT_drun (by kernel_rfl) (by kernel_rfl) (by rfl) (by simp [*]; rfl) ?_);refine (HT_cs rfl (fun h11 => ?_) fun h11 => ?_)
   · try simp only[BN]at h11
     have hz : res = false := by
      rw [← hres, decide_eq_false_iff_not];intro h;subst h;rw [he] at hey;cases hey;simp at h11
     subst hz;refine HT_sA ?_;exact HT_rA
   (try simp only[BN]at h11);refine HT_runA ?_
   exact ⟨k + 1, ⟨hk1, fun j hj => by
    rcases Nat.lt_or_eq_of_le (Nat.le_of_lt_succ hj) with h | h
    · exact hall j h
    rw [h, he, hey];have : x = y := by simpa using h11
    rw [this]⟩, by omega, le_mkA (fun n => n) []⟩
 try simp only[BN]at h8
 have hz : res = true := by
  rw [← hres, decide_eq_true_eq];exact eqG2 a b hle fun j hj => hall j (by omega)
 subst hz;refine (HT_exit ?_);refine HT_sA ?_;exact HT_rA
end Go.Proofs.YtfjidddhehckoaaGreat

namespace Go.Proofs.YtfjidddhehckoaaGreat
open Go Go.Hl
def rmT (t : Tp) (sz : Nat) : Prop := t.at_ + sz ≤ 1000000 ∧ t.states.length + sz ≤ 1000000 ∧ t.counts.length + sz ≤ 1000000 ∧ t.faults.length + sz ≤ 1000000
theorem loopT_con (p : Po) (hp : polC p = 0) (hv : List Int) (W : Int) (vars : List Vr) (fu : Nat) (d0 c0 v0 n0 : Int) (tm : Tm) (a b : List St) (bs : List Int) (hf : formB vars false tm = true) (hnt : tm.nodes ≤ 1000000) (hna : nodesS a ≤ 1000000)
  (hvl : vars.length ≤ 1000000) (hfu : p.n * vars.length < fu) (g : Int → List Int → Tp → List Int × Tp)
  (hg : ∀ pc st t, okI p.n pc → okV p.n st → Gd p.n st.length t (szL a) (g pc st t))
  (hst : ∀ pc st t, okI p.n pc → okV p.n st → st.length = vars.length → rmT t (szL a) → ConS Tryz.prog 69 (tO (Lt.latO p.levels p.order) hv W t) [.one (.at_ 1000000 0), lS a, li pc, lI st] (.v (lI (g pc st t).1)) (tO (Lt.latO p.levels p.order) hv W (g pc st t).2))
  (pc : Int) (st : List Int) (t : Tp) (hpc : okI p.n pc) (hos : okV p.n st) (hls : st.length = vars.length) (hrm : rmT t (1 + szL a)) :
  ConS Tryz.prog 112 (tO (Lt.latO p.levels p.order) hv W t) [.one (.at_ 1000000 0), aS (.mk d0 c0 v0 n0 tm a b bs), li pc, lI st] (.v (lI (lpF p.J fu tm (evenB a) g pc st t).1)) (tO (Lt.latO p.levels p.order) hv W (lpF p.J fu tm (evenB a) g pc st t).2) := by
 obtain ⟨hM, hn0, hn12⟩ := pol_new hp;have hJok : ∀ x y, okI p.n (p.J x y) := fun x y => J_ok (e := ⟨p.n, p.M, hv, W⟩) hn0 hM x y;have hmu : ∀ (x y : List Int), y.length = x.length → okV p.n x → okV p.n y → mgF p.J x y ≠ x → muV p.n p.M (mgF p.J x y) < muV p.n p.M x := fun x y h1 h2 h3 => (mu_mg (e := ⟨p.n, p.M, hv, W⟩) hM h1 h2 h3).2;have hmu0 := muV_le p.n p.M st;rw [hls] at hmu0;have hterm := fun (s : List Int) (hs : s.length = vars.length) h w t f a0 d0 s' c => termT_con p h w t f a0 d0 s' c vars s hs tm hf hnt pc;have hmg := fun (t : Tp) (x y : List Int) hl ha => mergeT_con p hv W t x y hl ha;have hrec := fun (t : Tp) (x : List Int) h0 h1 h2 h3 => recordT_con p hv W t x pc h0 h1 h2 h3;have hjo := fun h w t f a0 d0 s c a b => joinT_con p h w t f a0 d0 s c a b;have hnl : ∀ s, okI p.n (tlT p.J s tm pc) := fun s => tlT_ok hJok s tm pc hpc;have hitg := itF_gd hJok (nl := fun s => tlT p.J s tm pc) hnl hg t.at_ fu st { t with dry := true } hos rfl;have hev := evenT_con a (by omega);obtain ⟨⟨FS, FT⟩, hF⟩ : ∃ x, lpF p.J fu tm (evenB a) g pc st t = x := ⟨_, rfl⟩;rw [hF];unfold lpF at hF;obtain ⟨cs, hL⟩ := lat_ptr p;obtain ⟨J, hJ⟩ : ∃ x, p.J = x := ⟨_, rfl⟩;obtain ⟨N, hN⟩ : ∃ x, p.n = x := ⟨_, rfl⟩;obtain ⟨M, hM2⟩ : ∃ x, p.M = x := ⟨_, rfl⟩;obtain ⟨EV, hEV⟩ : ∃ x, evenB a = x := ⟨_, rfl⟩;simp only [hL, hJ, hN, hM2, hEV] at hJok hmu hmu0 hterm hmg hrec hjo hnl hitg hg hst hpc hos hfu hF hev ⊢;obtain ⟨ti, fa, at0, dr, ss, cn⟩ := t;simp only at hitg hF;obtain ⟨⟨RS, RT⟩, hR⟩ : ∃ x, itF J at0 (fun s => tlT J s tm pc) g fu st ⟨ti, fa, at0, true, ss, cn⟩ = x := ⟨_, rfl⟩;rw [hR] at hitg;simp only [hR] at hF hitg;obtain ⟨hr1, hr2, hr3, hr4, hr5, hr6⟩ := hitg;obtain ⟨rt, rf, ra, rd, rs, rc⟩ := RT;simp only at hr3 hr4 hr5 hr6;have hr4 := hr4.symm;have hr5 := hr5.symm;have hr6 := hr6.symm;subst hr3 hr4 hr5 hr6;simp only at hF;obtain ⟨hm1, hm2, hm3, hm4⟩ := hrm;simp only at hm1 hm2 hm3 hm4;obtain ⟨to, tn, tk⟩ := tm;simp only [Tm.op] at hF;obtain ⟨A1, hA1⟩ : ∃ q : Nat, at0 + 1 = q := ⟨_, rfl⟩;have hw : IntKind.i64.wrap ((at0 : Int) + 1) = (A1 : Int) := by rw [wrap_in (by omega) (by omega)]; omega
 have hla := len_nodesS a;clear hL hJ hN hM2 hEV hp hM hn0 hn12;simp only [tO, tB, aS, St.enc, Tm.enc, aT, List.map_cons, List.map_nil, List.cons_append, List.nil_append] at hterm hmg hrec hst ⊢;refine con_s_of_HT Tryz.func112 rfl (by kernel_rfl) (Nat.le_of_ble_eq_true rfl) (pin_mk rfl) ?_;simp only [Tryz.f112];refine HT_sA ?_;refine HT_seq <| (HT_drunH [(16, 1000000), (20, 1000000)] (by kernel_rfl) (by kernel_rfl) (by rfl) (by simp [evsH, hokB, hintOf, *]; rfl) ?_);refine HT_sA ?_;refine HT_seq <| HT_block <| (HT_loopU [0, 2, 5, 9, 10] (fun (x : Nat × List Int × Int × Nat) => [(3, .v (lI x.2.1))]) (fun x => [(5, .box [.c (iC d0), .c (iC c0), .c (iC v0), .c (iC n0), .c (iC to), .c (iC tn), .c (.sl 3 (encTs tk)), .c (.sl 10 (encSs a)), .c (.sl 10 (encSs b)), .c (.sl 1 (encIs bs))]), (900001, .row 3 1 (encIs fa)), (900002, .row 32 1 (encLL ss)), (900003, .row 3 1 (encIs cn)), (1000000, .box [.c (.ptr cs), .c (.sl 1 (encIs hv)), .c (iC W), .c (iC x.2.2.1), .own 900001, .c (iC (x.2.2.2 : Nat)), .c (bC true), .own 900002, .own 900003])]) (fun x => okV N x.2.1 ∧ x.2.1.length = vars.length ∧ muV N M x.2.1 < x.1 ∧ itF J at0 (fun s => tlT J s (.mk to tn tk) pc) g x.1 x.2.1 ⟨x.2.2.1, fa, x.2.2.2, true, ss, cn⟩ = (RS, ⟨rt, fa, ra, true, ss, cn⟩)) (fun x => x.1) (fu, st, ti, at0) ⟨hos, hls, by simp only; omega, hR⟩ ?_ ?_)
 · exact le_mkA (fun n => n) []
 rintro ⟨k, s, tt, aa⟩ ⟨h1, h2, h3, h4⟩;simp only [upS, keepS, insS]
 try simp only [keepS, KN, Nat.reduceBEq, if_true, if_false, ins, Nat.reduceLT]
 simp only at h1 h2 h3 h4;clear hR hmu0;obtain ⟨k, rfl⟩ : ∃ j, k = j + 1 := ⟨k - 1, by omega⟩;simp only [itF, hA1] at h4;obtain ⟨N1, hN1⟩ : ∃ x, tlT J s (.mk to tn tk) pc = x := ⟨_, rfl⟩;have ct := fun h w t f a0 d0 s' c => hterm s h2 h w t f a0 d0 s' c;have hn1 := hnl s;rw [hN1] at h4 hn1;simp only [hN1] at ct;have hgd := hg N1 s ⟨tt, fa, A1, true, ss, cn⟩ hn1 h1;have cs1 := hst N1 s ⟨tt, fa, A1, true, ss, cn⟩ hn1 h1 h2 ⟨by simp only; omega, by simp only; omega, by simp only; omega, by simp only; omega⟩;obtain ⟨⟨X, t1⟩, hX⟩ : ∃ x, g N1 s ⟨tt, fa, A1, true, ss, cn⟩ = x := ⟨_, rfl⟩;rw [hX] at hgd cs1 h4;obtain ⟨x1, f1, a1, d1, s1, c1⟩ := t1;obtain ⟨g1, g2, g3, g4, g5, g6, g7, g8⟩ := hgd;simp only at g1 g2 g3 g4 g5 g6 g7 g8 cs1 h4;obtain ⟨e1, e2, e3⟩ := g8 trivial;have e1 := e1.symm;have e2 := e2.symm;have e3 := e3.symm;have g4 := g4.symm;subst g4 e1 e2 e3;have cm := hmg ⟨x1, fa, a1, true, ss, cn⟩ s X g1 (by omega);have hmu := hmu s X g1 h1 g2;have hmo : okV N (mgF J s X) := mgF_ok hJok _ _;have hml := mgF_len J g1;have ce := eqSl_con (mgF J s X) s (by omega) (by omega);obtain ⟨m, hm⟩ : ∃ x, mgF J s X = x := ⟨_, rfl⟩;rw [hm] at h4 cm hmu hmo hml ce;simp only at cm;clear hX hm g3 g5 g6 g7 g8 hterm hmg hA1 hJok hnl;refine HT_block <| HT_seq <| HT_runA ?_;refine HT_scA [⟨true, .v (li N1), none⟩] ?_ ?_
 · first | exact ct _ _ _ _ _ _ _ _ _ | exact trivial | simpa [*] using ct _ _ _ _ _ _ _ _ _
 refine HT_seq <| (HT_runsS ?_);refine RunsS.cutE 7 [] (by simp [*]; rfl) trivial (le_refl _) ?_;refine RunsS.call (fun n => n) (fun n => if n < 1000000 then n + 10 else n) (by simp; rfl) (handS_mk (by simp) (by simp) (by simp) (by simp) (by simp)) cs1 (by rfl) ?_;refine RunsS.call (fun n => if n < 1000000 then n + 10 else n) (fun n => if n < 1000000 then n + 20 else n) (by simp; rfl) (handS_mk (by simp) (by simp) (by simp) (by simp) (by simp)) cm (by rfl) ?_;refine RunsS.doneE [] (by simp; rfl) trivial ?_;clear cs1 cm;refine HT_seq <| HT_seq <| (HT_runcA [⟨true, .v (lb (decide (m = s))), none⟩] ?_ ?_)
 · first | exact ce _ | exact trivial | simpa [*] using ce _
 refine (HT_cs rfl (fun h8 => ?_) fun h8 => ?_)
 · (try simp only[BN]at h8);have hms : m = s := by simpa using h8
   rw [if_pos hms] at h4;simp only [Prod.mk.injEq, Tp.mk.injEq] at h4;obtain ⟨k1, k2, _, k4, _⟩ := h4;subst k1 k2 k4;rw [hN1] at hF;have crc := hrec ⟨x1, fa, at0, dr, ss, cn⟩ s (by omega) (by simp only; omega) (by simp only; omega) (by simp only; omega);obtain ⟨q1, q2, q3, q4, q5, q6, q7⟩ := recT_gd ⟨x1, fa, at0, dr, ss, cn⟩ s pc;obtain ⟨T1, hT1⟩ : ∃ x, recT ⟨x1, fa, at0, dr, ss, cn⟩ s pc = x := ⟨_, rfl⟩;rw [hT1] at crc hF q1 q2 q3 q4 q5 q6;simp only at q1 q3 q4 q5;have cs2 := hst N1 s T1 hn1 h1 h2 ⟨by omega, by omega, by omega, by rw [q5]; omega⟩;obtain ⟨⟨Y, T2⟩, hY⟩ : ∃ x, g N1 s T1 = x := ⟨_, rfl⟩;rw [hY] at cs2 hF;obtain ⟨b1, b2, b3, b4, b5, b6⟩ := T1;obtain ⟨z1, z2, z3, z4, z5, z6⟩ := T2;simp only [Prod.mk.injEq] at hF crc cs2;obtain ⟨hFS, hF⟩ := hF;subst hFS;have cj := fun h w t f a0 d0 s' c => hjo h w t f a0 d0 s' c z1 N1;obtain ⟨Q, hQ⟩ : ∃ q, J z1 N1 = q := ⟨_, rfl⟩;simp only [hQ] at cj hF;clear hY hT1 q1 q2 q3 q4 q5 q6 q7 hrec hst hg hjo hQ ce hmu hN1 h8;refine (HT_exit ?_);refine HT_sA ?_;refine HT_seq <| (HT_runsS ?_);refine RunsS.cutE 3 [] (by simp [*]; rfl) trivial (le_refl _) ?_;refine RunsS.call (fun n => if n < 1000000 then n + 20 else n) (fun n => if n < 1000000 then n + 30 else n) (by simp; rfl) (handS_mk (by simp) (by simp) (by simp) (by simp) (by simp)) crc (by rfl) ?_;refine RunsS.doneE [] (by simp; rfl) trivial ?_;clear crc;refine HT_scA [⟨true, .v (li N1), none⟩] ?_ ?_
   · first | exact ct _ _ _ _ _ _ _ _ _ | exact trivial | simpa [*] using ct _ _ _ _ _ _ _ _ _
   refine HT_seq <| (HT_runsS ?_);refine RunsS.cutE 5 [] (by simp [*]; rfl) trivial (le_refl _) ?_;refine RunsS.call (fun n => if n < 1000000 then n + 30 else n) (fun n => if n < 1000000 then n + 40 else n) (by simp; rfl) (handS_mk (by simp) (by simp) (by simp) (by simp) (by simp)) cs2 (by rfl) ?_;refine RunsS.doneE [] (by simp; rfl) trivial ?_;clear cs2 ct;rcases Classical.em (to = 0) with ho | ho
   · subst ho;refine HT_seq <| HT_seq <| (HT_runcA [⟨true, .v (lb EV), none⟩] ?_ ?_)
     · first | exact hev _ | exact trivial | simpa [*] using hev _
     refine (HT_cs rfl (fun h14 => ?_) fun h14 => ?_)
     · (try simp only[BN]at h14);have he : EV = false := by simpa using h14
       rw [if_pos (.inr he)] at hF;subst hF;refine (HT_runcA [⟨true, .v (li Q), none⟩] ?_ ?_)
       · first | exact cj _ _ _ _ _ _ _ _ _ | exact trivial | simpa [*] using cj _ _ _ _ _ _ _ _ _
       refine HT_sA ?_;exact HT_ret ⟨.inr rfl, HT_endL (s2 := ⟨94, [(8, .v (lI s))], [(900001, .row 3 1 (encIs z2)), (900002, .row 32 1 (encLL z5)), (900003, .row 3 1 (encIs z6)), (1000000, .box [.c (.ptr cs), .c (.sl 1 (encIs hv)), .c (iC W), .c (iC Q), .own 900001, .c (iC (z3 : Nat)), .c (bC z4), .own 900002, .own 900003])]⟩) (le_mk (fun n => if n < 1000000 then n + 40 else n) [] rfl (by simp) (by simp) (by simp)) (by simp; rfl) (by simp [resR]) (by simp)⟩
     (try simp only[BN]at h14);have he : EV = true := by simpa using h14
     rw [if_neg (by rw [he]; simp)] at hF;subst hF;refine HT_sA ?_;exact HT_ret ⟨.inr rfl, HT_endL (s2 := ⟨94, [(8, .v (lI s))], [(900001, .row 3 1 (encIs z2)), (900002, .row 32 1 (encLL z5)), (900003, .row 3 1 (encIs z6)), (1000000, .box [.c (.ptr cs), .c (.sl 1 (encIs hv)), .c (iC W), .c (iC z1), .own 900001, .c (iC (z3 : Nat)), .c (bC z4), .own 900002, .own 900003])]⟩) (le_mk (fun n => if n < 1000000 then n + 40 else n) [] rfl (by simp) (by simp) (by simp)) (by simp; rfl) (by simp [resR]) (by simp)⟩
   rw [if_pos (.inl ho)] at hF;subst hF;refine HT_seq <| HT_seq <| (HT_runcS [none] (by simp [*]; first | exact ⟨rfl, trivial⟩ | exact ⟨rfl, Iff.rfl⟩ | rfl) ?_ ?_)
   · trivial
   refine (HT_cs rfl (fun h14 => ?_) fun h14 => ?_)
   · (try simp only[BN]at h14);refine (HT_runcA [⟨true, .v (li Q), none⟩] ?_ ?_)
     · first | exact cj _ _ _ _ _ _ _ _ _ | exact trivial | simpa [*] using cj _ _ _ _ _ _ _ _ _
     refine HT_sA ?_;exact HT_ret ⟨.inr rfl, HT_endL (s2 := ⟨94, [(8, .v (lI s))], [(900001, .row 3 1 (encIs z2)), (900002, .row 32 1 (encLL z5)), (900003, .row 3 1 (encIs z6)), (1000000, .box [.c (.ptr cs), .c (.sl 1 (encIs hv)), .c (iC W), .c (iC Q), .own 900001, .c (iC (z3 : Nat)), .c (bC z4), .own 900002, .own 900003])]⟩) (le_mk (fun n => if n < 1000000 then n + 40 else n) [] rfl (by simp) (by simp) (by simp)) (by simp; rfl) (by simp [resR]) (by simp)⟩
   exact absurd h14 (by simpa using ho)
 (try simp only[BN]at h8);have hms : ¬ m = s := by simpa using h8
 rw [if_neg hms] at h4;have hmu := hmu hms;clear ct ce h8;refine HT_runA ?_;exact ⟨(k, m, x1, a1), ⟨hmo, by simp only; omega, by simp only; omega, h4⟩, by simp only; omega, le_mkA (fun n => if n < 1000000 ∧ 900000 < n then n + 20 else n) []⟩
end Go.Proofs.YtfjidddhehckoaaGreat

namespace Go.Proofs.YtfjidddhehckoaaGreat
open Go Go.Hl
theorem rm_step {t T : Tp} {a b : Nat} (h : rmT t (a + b)) (h1 : T.at_ ≤ t.at_ + a) (h2 : T.states.length ≤ t.states.length + a) (h3 : T.counts.length ≤ t.counts.length + a) (h4 : T.faults.length ≤ t.faults.length + a) : rmT T b := by
 obtain ⟨k1, k2, k3, k4⟩ := h;exact ⟨by omega, by omega, by omega, by omega⟩
theorem rm_rec {t : Tp} {a : Nat} (st : List Int) (pc : Int) (h : rmT t (1 + a)) : rmT (recT t st pc) a := by
 obtain ⟨q1, q2, q3, q4, q5, _⟩ := recT_gd t st pc;exact rm_step h (by omega) q3 q4 (by rw [q5]; omega)
theorem rm_le {t : Tp} {a b : Nat} (h : rmT t a) (hb : b ≤ a) : rmT t b := ⟨by have := h.1; omega, by have := h.2.1; omega, by have := h.2.2.1; omega, by have := h.2.2.2; omega⟩
theorem stepsT_con (p : Po) (hp : polC p = 0) (hv : List Int) (W : Int) (vars : List Vr) (fu : Nat) (hvl : vars.length ≤ 1000000) (hfu : p.n * vars.length < fu) (l : List St) : nodesS l ≤ 1000000 → wfL vars hv.length l = true → ∀ (pc : Int) (st : List Int) (t : Tp),
  okI p.n pc → okV p.n st → st.length = vars.length → rmT t (szL l) →
  ConS Tryz.prog 69 (tO (Lt.latO p.levels p.order) hv W t) [.one (.at_ 1000000 0), lS l, li pc, lI st] (.v (lI (tyL ⟨p.n, p.M, hv, W⟩ fu l pc st t).1)) (tO (Lt.latO p.levels p.order) hv W (tyL ⟨p.n, p.M, hv, W⟩ fu l pc st t).2) := by
 revert l
 apply St.lists;intro l ih hn hwf pc st t hpc hos hls hrm;obtain ⟨hM, hn0, hn12⟩ := pol_new hp;have hJok : ∀ x y, okI p.n (p.J x y) := fun x y => J_ok (e := ⟨p.n, p.M, hv, W⟩) hn0 hM x y;have hlen := len_nodesS l;have htT := fun (h w t f a0 d0 s' c : CD) (st : List Int) hst tm => termT_con p h w t f a0 d0 s' c vars st hst tm;have hlp := fun (c1 c2 c3 c4 : Int) (tm : Tm) (a b : List St) (bs : List Int) hf hnt hna g => loopT_con p hp hv W vars fu c1 c2 c3 c4 tm a b bs hf hnt hna hvl hfu g;have hmg := fun (t : Tp) (x y : List Int) hl ha => mergeT_con p hv W t x y hl ha;have hrec := fun (t : Tp) (x : List Int) h0 h1 h2 h3 => recordT_con p hv W t x pc h0 h1 h2 h3;have hjo := fun h w t f a0 d0 s c a b => joinT_con p h w t f a0 d0 s c a b;have hbe := fun a b => belL_con p a b;have hgS := fun s (st : List Int) t h1 h2 => tyS_gd (e := ⟨p.n, p.M, hv, W⟩) hJok fu s pc st t h1 h2;have hgL := fun l pc (st : List Int) t h1 h2 => tyL_gd (e := ⟨p.n, p.M, hv, W⟩) hJok fu l pc st t h1 h2;obtain ⟨e, he0⟩ : ∃ e : En, e = ⟨p.n, p.M, hv, W⟩ := ⟨_, rfl⟩;have heJ : e.J = p.J := by rw [he0]; rfl
 have heB : e.B = p.B := by rw [he0]; rfl
 have heh : e.hv = hv := by rw [he0]
 have heW : e.W = W := by rw [he0]
 rw [← he0];simp only [← he0] at ih hgS hgL;clear he0;obtain ⟨⟨FS, FT⟩, hF⟩ : ∃ x, tyL e fu l pc st t = x := ⟨_, rfl⟩;rw [hF];obtain ⟨cs, hL⟩ := lat_ptr p;obtain ⟨J, hJ⟩ : ∃ x, p.J = x := ⟨_, rfl⟩;obtain ⟨B, hB⟩ : ∃ x, p.B = x := ⟨_, rfl⟩;obtain ⟨N, hN⟩ : ∃ x, p.n = x := ⟨_, rfl⟩;simp only [hL, hJ, hN, hB] at hJok htT hlp hmg hrec hjo hbe hgS hgL hpc hos hfu ih heJ heB ⊢;clear hL hJ hN hB hp hM hn0 hn12;obtain ⟨ti, fa, at0, dr, ss, cn⟩ := t;simp only [tO, tB];refine con_s_of_HT Tryz.func69 rfl (by kernel_rfl) (Nat.le_of_ble_eq_true rfl) (pin_mk rfl) ?_;simp only [Tryz.f69];refine HT_sA ?_;refine HT_seq <| HT_seq <| HT_runA ?_;refine HT_block <| (HT_loopU [0, 2, 15, 16] (fun (x : Nat × List Int × Tp) => [(3, .v (lI x.2.1)), (17, .v (li x.1))]) (fun x => [(900001, .row 3 1 (encIs x.2.2.faults)), (900002, .row 32 1 (encLL x.2.2.states)), (900003, .row 3 1 (encIs x.2.2.counts)), (1000000, .box [.c (.ptr cs), .c (.sl 1 (encIs hv)), .c (iC W), .c (iC x.2.2.time), .own 900001, .c (iC (x.2.2.at_ : Nat)), .c (bC x.2.2.dry), .own 900002, .own 900003])]) (fun x => x.1 ≤ l.length ∧ tyL e fu (l.drop x.1) pc x.2.1 x.2.2 = (FS, FT) ∧ okV N x.2.1 ∧ x.2.1.length = vars.length ∧ rmT x.2.2 (szL (l.drop x.1))) (fun x => l.length - x.1) (0, st, ⟨ti, fa, at0, dr, ss, cn⟩) ⟨Nat.zero_le _, hF, hos, hls, hrm⟩ ?_ ?_)
 · exact le_mkA (fun n => n) []
 rintro ⟨k, s, t⟩ ⟨hk, hJ, ho, hsl, hrm⟩;simp only [upS, keepS, insS]
 try simp only [keepS, KN, Nat.reduceBEq, if_true, if_false, ins, Nat.reduceLT]
 simp only at hk hJ ho hsl hrm;clear hF hos hls;refine HT_sA ?_;refine HT_seq <| (HT_cond rfl (fun h4 => HT_skip ?_) (fun h4 => ?_))
 · (try simp only[BN]at h4);have hlt : k < l.length := by omega
   obtain ⟨q, he, hd⟩ := at_lt hlt;have hw1 := wrap1 hlt (by omega);have hk1 : k + 1 ≤ l.length := hlt;have hmem : q ∈ l := List.mem_of_getElem? he;have hnm := nodesS_mem hmem;have hwm := wfL_mem hwf hmem;have iha := (ih q hmem).1 (by omega);have ihb := (ih q hmem).2 (by omega);have he' := get_encS he;rw [hd] at hJ hrm;have hgs := hgS q s t hpc ho;obtain ⟨sd, sc, sv, sn, tm, sa, sb, sbs⟩ := q;simp only [St.then_, St.else_, St.term] at iha ihb hnm;simp only [wfS, Bool.and_eq_true, Bool.or_eq_true, decide_eq_true_eq] at hwm;obtain ⟨wt, wl, wn, w4, wb, wa, wbb⟩ := hwm;have iha := iha wa;have ihb := ihb wbb;simp only [tyL] at hJ;simp only [szL] at hrm;have hga := hgL sa;have hgb := hgL sb;have hterm := fun h w t f a0 d0 s' c => htT h w t f a0 d0 s' c s hsl tm wt (by omega) pc;have hlp := hlp sd sc sv sn tm sa sb sbs wt (by omega) (by omega) (tyL e fu sa) (fun pc st t h1 h2 => hga pc st t h1 h2) (fun pc st t h1 h2 h3 h4 => iha pc st t h1 h2 h3 h4) pc s t hpc ho hsl;have calk := alike_con sa sb (by omega) (by omega);obtain ⟨⟨X', T'⟩, hXT⟩ : ∃ x, tyS e fu (.mk sd sc sv sn tm sa sb sbs) pc s t = x := ⟨_, rfl⟩;rw [hXT] at hJ hgs;simp only [tyS, heJ, heB, heh, heW] at hXT;obtain ⟨g1, g2, g3, g4, g5, g6, g7, g8⟩ := hgs;simp only at g1 g2 g3 g4 g5 g6 g7 hJ;have hrm' : rmT T' (szL (l.drop (k + 1))) := rm_step hrm g3 g5 g6 g7;have hrm0 : rmT t (1 + szL sa + szL sb) := rm_le hrm (by simp only [szS]; omega);obtain ⟨TV0, hTV⟩ : ∃ x, tlT J s tm pc = x := ⟨_, rfl⟩;have htvo : okI N TV0 := by rw [← hTV]; exact tlT_ok hJok s tm pc hpc
   simp only [hTV] at hterm;obtain ⟨so, stn, sks⟩ := tm;simp only [St.enc, Tm.enc, List.cons_append, List.nil_append] at he';simp only [aT, aS, St.enc, Tm.enc, List.map_cons, List.map_nil, List.cons_append, List.nil_append] at hterm hlp;clear hlt h4 ih hmem hnm hd he hgS hgL htT wt wa wbb wb g3 g5 g6 g7 g8 g4 hrm hwf;refine HT_seq <| HT_block <| HT_seq <| HT_runA ?_;refine HT_seq <| HT_seq <| HT_runA ?_;refine (HT_cs rfl (fun h7 => ?_) fun h7 => ?_)
   · (try simp only[BN]at h7);have hd4 : sd = 4 := by simpa using h7
     subst hd4;rw [if_pos rfl] at hXT;have cl := hlp (rm_le hrm0 (by omega));rw [hXT] at cl;obtain ⟨t1, t2, t3, t4, t5, t6⟩ := t;obtain ⟨y1, y2, y3, y4, y5, y6⟩ := T';simp only [tO, tB] at cl;clear hlp hmg hrec hjo hbe hgb hga iha ihb calk hterm;refine HT_seq <| (HT_runsS ?_);refine RunsS.cutE 4 [] (by simp [*]; rfl) trivial (le_refl _) ?_;refine RunsS.call (fun n => n) (fun n => if n < 1000000 then n + 10 else n) (by simp; rfl) (handS_mk (by simp) (by simp) (by simp) (by simp) (by simp)) cl (by rfl) ?_;refine RunsS.doneE [] (by simp; rfl) trivial ?_;clear cl;refine (HT_exit ?_);refine HT_runA ?_;exact ⟨(k + 1, X', ⟨y1, y2, y3, y4, y5, y6⟩), ⟨hk1, hJ, g2, by simp only; omega, hrm'⟩, by simp only; omega, le_mkA (fun n => if 900001 ≤ n ∧ n ≤ 900003 then n + 10 else n) []⟩
   (try simp only[BN]at h7);have hd4 : ¬ sd = 4 := by simpa using h7
   rw [if_neg hd4] at hXT;have crc := hrec t s (by omega) (by have := hrm0.1; omega) (by have := hrm0.2.1; omega) (by have := hrm0.2.2.1; omega);have hrm0' : rmT t (1 + (szL sa + szL sb)) := rm_le hrm0 (by omega);have hrm1 := rm_rec s pc hrm0';obtain ⟨q1, q2, q3, q4, q5, q6, q7⟩ := recT_gd t s pc;obtain ⟨T1, hT1⟩ : ∃ x, recT t s pc = x := ⟨_, rfl⟩;rw [hT1] at crc hXT hrm1 q1 q2 q3 q4 q5 q6;obtain ⟨t1, t2, t3, t4, t5, t6⟩ := t;obtain ⟨r1, r2, r3, r4, r5, r6⟩ := T1;simp only at q1 q2 q5 q6 hXT crc;subst q2 q5 q6;have hroom : room (r2.length + 1) 8 := room_of (by have := hrm0.2.2.2; simp only at this; omega) (by omega);simp only [tO, tB, hTV] at crc hXT;clear hlp hT1 q1 q3 q4 q7 hrec;refine HT_seq <| (HT_runsS ?_);refine RunsS.cutE 3 [] (by simp [*]; rfl) trivial (le_refl _) ?_;refine RunsS.call (fun n => n) (fun n => if n < 1000000 then n + 10 else n) (by simp; rfl) (handS_mk (by simp) (by simp) (by simp) (by simp) (by simp)) crc (by rfl) ?_;refine RunsS.doneE [] (by simp; rfl) trivial ?_;clear crc;refine HT_scA [⟨true, .v (li TV0), none⟩] ?_ ?_
   · first | exact hterm _ _ _ _ _ _ _ _ _ | exact trivial | simpa [*] using hterm _ _ _ _ _ _ _ _ _
   refine HT_sA ?_;refine HT_block <| HT_seq <| HT_runA ?_;refine (HT_cond rfl (fun h15 => ?_) (fun h15 => ?_))
   · (try simp only[BN]at h15);have hd0 : sd = 0 := by simpa using h15
     subst hd0;rw [if_pos rfl] at hXT;simp only [Prod.mk.injEq] at hXT;obtain ⟨hX, hT⟩ := hXT;subst hT;obtain ⟨hv0, w, hw⟩ := local_get (wl.resolve_left (by decide));have hvlt : sv.toNat < s.length := by rw [hsl]; exact (List.getElem?_eq_some_iff.1 hw).1
     have cw := with_con s sv TV0 (by omega) hv0 hvlt;rw [hX] at cw;clear hmg hjo hbe hgb hga iha ihb calk hterm hw hvlt;refine (HT_runcA [⟨false, .v (lI X'), none⟩] ?_ ?_)
     · first | exact cw _ | exact trivial | simpa [*] using cw _
     refine HT_runA ?_;exact ⟨(k + 1, X', ⟨r1, r2, r3, r4, r5, r6⟩), ⟨hk1, hJ, g2, by simp only; omega, hrm'⟩, by simp only; omega, le_mkA (fun n => if 900001 ≤ n ∧ n ≤ 900003 then n + 10 else n) []⟩
   (try simp only[BN]at h15);have hd0 : ¬ sd = 0 := by simpa using h15
   rw [if_neg hd0] at hXT;refine HT_sA ?_;refine (HT_cond rfl (fun h20 => ?_) (fun h20 => ?_))
   · (try simp only[BN]at h20);have hd5 : sd = 5 := by simpa using h20
     subst hd5;rw [if_pos rfl] at hXT;simp only [Prod.mk.injEq] at hXT;obtain ⟨hX, hT⟩ := hXT;subst hT;obtain ⟨hv0, w, hw⟩ := local_get (wl.resolve_left (by decide));have hvlt : sv.toNat < s.length := by rw [hsl]; exact (List.getElem?_eq_some_iff.1 hw).1
     have wn := wn.resolve_left (by decide);have hn0 : 0 ≤ sn := wn.1;obtain ⟨y, hy⟩ : ∃ y, hv[sn.toNat]? = some y := ⟨hv[sn.toNat]'(by omega), List.getElem?_eq_getElem (by omega)⟩;rw [hy] at hX;simp only [Option.getD_some] at hX;have cj := fun h w t f a0 d0 s' c => hjo h w t f a0 d0 s' c pc y;obtain ⟨Q, hQ⟩ : ∃ q, J pc y = q := ⟨_, rfl⟩;simp only [hQ] at cj hX;have cw := with_con s sv Q (by omega) hv0 hvlt;rw [hX] at cw;clear hmg hjo hbe hgb hga iha ihb calk hterm hw hvlt hQ wn;refine (HT_druncH [(51, 10), (57, 1000000), (59, 10)] [⟨true, .v (li Q), none⟩, ⟨false, .v (lI X'), none⟩] (by kernel_rfl) (by kernel_rfl) (by rfl) (by simp [evcH, hokB, hintOf, *]; first | exact ⟨rfl, Iff.rfl⟩ | exact ⟨rfl, trivial⟩ | rfl) ?_ ?_)
     · first | exact ⟨cj _ _ _ _ _ _ _ _ _, cw _⟩ | exact trivial | (repeat' first | exact trivial | exact cj _ _ _ _ _ _ _ _ _ | exact cw _ | apply And.intro)
     refine HT_runA ?_;exact ⟨(k + 1, X', ⟨r1, r2, r3, r4, r5, r6⟩), ⟨hk1, hJ, g2, by simp only; omega, hrm'⟩, by simp only; omega, le_mkA (fun n => if 900001 ≤ n ∧ n ≤ 900003 then n + 10 else n) []⟩
   (try simp only[BN]at h20);have hd5 : ¬ sd = 5 := by simpa using h20
   rw [if_neg hd5] at hXT;refine HT_sA ?_;refine (HT_cond rfl (fun h25 => ?_) (fun h25 => ?_))
   · (try simp only[BN]at h25);have hd1 : sd = 1 := by simpa using h25
     subst hd1;rw [if_pos rfl] at hXT;simp only [Prod.mk.injEq] at hXT;obtain ⟨hX, hT⟩ := hXT;subst hX;have cb := hbe TV0 W;obtain ⟨BW, hBW⟩ : ∃ q, B TV0 W = q := ⟨_, rfl⟩;rw [hBW] at cb hT;clear hmg hjo hbe hgb hga iha ihb calk hterm hBW;refine HT_seq <| (HT_druncH [(69, 1000000), (75, 1000000), (80, 1000000)] [⟨true, .v (lb BW), none⟩] (by kernel_rfl) (by kernel_rfl) (by rfl) (by simp [evcH, hokB, hintOf, *]; first | exact ⟨rfl, Iff.rfl⟩ | exact ⟨rfl, trivial⟩ | rfl) ?_ ?_)
     · first | exact cb _ | exact trivial | simpa [*] using cb _
     refine (HT_cs rfl (fun h27 => ?_) fun h27 => ?_)
     · (try simp only[BN]at h27);have hdb : r4 = false ∧ BW = false := by simpa using h27
       rw [if_pos hdb] at hT;subst hT;refine HT_runA ?_;refine HT_runA ?_;exact ⟨(k + 1, s, ⟨r1, r2 ++ [(t3 : Int)], r3, r4, r5, r6⟩), ⟨hk1, hJ, g2, by simp only; omega, hrm'⟩, by simp only; omega, le_mkA (fun n => if n = 900001 then 92 else if 900002 ≤ n ∧ n ≤ 900003 then n + 10 else n) []⟩
     try simp only[BN]at h27
     have hdb : ¬ (r4 = false ∧ BW = false) := by
      rintro ⟨ha, hb⟩;rcases h27 with h | h
      · rw [ha] at h; exact absurd h (by decide)
      rw [hb] at h; exact absurd h (by decide)
     rw [if_neg hdb] at hT;subst hT;refine HT_runA ?_;exact ⟨(k + 1, s, ⟨r1, r2, r3, r4, r5, r6⟩), ⟨hk1, hJ, g2, by simp only; omega, hrm'⟩, by simp only; omega, le_mkA (fun n => if 900001 ≤ n ∧ n ≤ 900003 then n + 10 else n) []⟩
   (try simp only[BN]at h25);have hd1 : ¬ sd = 1 := by simpa using h25
   rw [if_neg hd1] at hXT;refine HT_sA ?_;refine (HT_cs rfl (fun h34 => ?_) fun h34 => ?_)
   · (try simp only[BN]at h34);have hd3 : sd = 3 := by simpa using h34
     subst hd3;rw [if_pos rfl] at hXT;have ca := iha TV0 s ⟨r1, r2, r3, r4, r5, r6⟩ htvo ho hsl (rm_le hrm1 (by omega));have ga := hga TV0 s ⟨r1, r2, r3, r4, r5, r6⟩ htvo ho;obtain ⟨⟨XA, TA⟩, hA⟩ : ∃ x, tyL e fu sa TV0 s ⟨r1, r2, r3, r4, r5, r6⟩ = x := ⟨_, rfl⟩;rw [hA] at ca ga;simp only [hA] at hXT;obtain ⟨ga1, ga2, ga3, ga4, ga5, ga6, ga7, ga8⟩ := ga;have cb := ihb TV0 s TA htvo ho hsl (rm_step (rm_le hrm1 (by omega)) ga3 ga5 ga6 ga7);have gb := hgb TV0 s TA htvo ho;obtain ⟨⟨XB, TB⟩, hB2⟩ : ∃ x, tyL e fu sb TV0 s TA = x := ⟨_, rfl⟩;rw [hB2] at cb gb;simp only [hB2] at hXT;obtain ⟨gb1, gb2, gb3, gb4, gb5, gb6, gb7, gb8⟩ := gb;have ga1 : XA.length = s.length := ga1;have gb1 : XB.length = s.length := gb1;have cm := hmg TB XA XB (by omega) (by omega);obtain ⟨a1, a2, a3, a4, a5, a6⟩ := TA;obtain ⟨b1, b2, b3, b4, b5, b6⟩ := TB;obtain ⟨AL, hAL⟩ : ∃ q, alikeB sa sb = q := ⟨_, rfl⟩;rw [hAL] at calk hXT;simp only [Prod.mk.injEq] at hXT;obtain ⟨hX, hT⟩ := hXT;rw [hX] at cm;have cj := fun h w t f a0 d0 s' c => hjo h w t f a0 d0 s' c b1 TV0;obtain ⟨Q, hQ⟩ : ∃ q, J b1 TV0 = q := ⟨_, rfl⟩;simp only [hQ] at cj hT;simp only [tO, tB] at ca cb cm;clear hmg hjo hbe hgb hga iha ihb hterm hA hB2 ga3 ga4 ga5 ga6 ga7 ga8 gb3 gb4 gb5 gb6 gb7 gb8 hAL hX hQ;refine HT_seq <| (HT_runsS ?_);refine RunsS.cutE 5 [] (by simp [*]; rfl) trivial (le_refl _) ?_;refine RunsS.call (fun n => if n < 1000000 then n + 10 else n) (fun n => if n < 1000000 then n + 20 else n) (by simp; rfl) (handS_mk (by simp) (by simp) (by simp) (by simp) (by simp)) ca (by rfl) ?_;refine RunsS.doneE [] (by simp; rfl) trivial ?_;clear ca;refine HT_seq <| (HT_runsS ?_);refine RunsS.cutE 5 [] (by simp [*]; rfl) trivial (le_refl _) ?_;refine RunsS.call (fun n => if n < 1000000 then n + 20 else n) (fun n => if n < 1000000 then n + 30 else n) (by simp; rfl) (handS_mk (by simp) (by simp) (by simp) (by simp) (by simp)) cb (by rfl) ?_;refine RunsS.doneE [] (by simp; rfl) trivial ?_;clear cb;refine HT_seq <| (HT_runsS ?_);refine RunsS.cutE 3 [] (by simp [*]; rfl) trivial (le_refl _) ?_;refine RunsS.call (fun n => if n < 1000000 then n + 30 else n) (fun n => if n < 1000000 then n + 40 else n) (by simp; rfl) (handS_mk (by simp) (by simp) (by simp) (by simp) (by simp)) cm (by rfl) ?_;refine RunsS.doneE [] (by simp; rfl) trivial ?_;clear cm;refine HT_scA [⟨true, .v (lb AL), none⟩] ?_ ?_
     · first | exact calk _ | exact trivial | simpa [*] using calk _
     refine (HT_cs rfl (fun h39 => ?_) fun h39 => ?_)
     · (try simp only[BN]at h39);have hal : AL = false := by simpa using h39
       rw [if_neg (by rw [hal]; decide)] at hT;subst hT;refine (HT_runcA [⟨true, .v (li Q), none⟩] ?_ ?_)
       · first | exact cj _ _ _ _ _ _ _ _ _ | exact trivial | simpa [*] using cj _ _ _ _ _ _ _ _ _
       refine HT_runA ?_;exact ⟨(k + 1, X', ⟨Q, b2, b3, b4, b5, b6⟩), ⟨hk1, hJ, g2, by simp only; omega, hrm'⟩, by simp only; omega, le_mkA (fun n => if 900001 ≤ n ∧ n ≤ 900003 then n + 40 else n) []⟩
     (try simp only[BN]at h39);have hal : AL = true := by simpa using h39
     rw [if_pos hal] at hT;subst hT;refine HT_runA ?_;exact ⟨(k + 1, X', ⟨b1, b2, b3, b4, b5, b6⟩), ⟨hk1, hJ, g2, by simp only; omega, hrm'⟩, by simp only; omega, le_mkA (fun n => if 900001 ≤ n ∧ n ≤ 900003 then n + 40 else n) []⟩
   (try simp only[BN]at h34);have hd3 : ¬ sd = 3 := by simpa using h34
   rw [if_neg hd3] at hXT;simp only [Prod.mk.injEq] at hXT;obtain ⟨hX, hT⟩ := hXT;subst hX hT;clear hmg hjo hbe hgb hga iha ihb calk hterm;refine HT_runA ?_;exact ⟨(k + 1, s, ⟨r1, r2, r3, r4, r5, r6⟩), ⟨hk1, hJ, g2, by simp only; omega, hrm'⟩, by simp only; omega, le_mkA (fun n => if 900001 ≤ n ∧ n ≤ 900003 then n + 10 else n) []⟩
 (try simp only[BN]at h4);have hkl : k = l.length := by omega
 rw [hkl, List.drop_length] at hJ;simp only [tyL, Prod.mk.injEq] at hJ;obtain ⟨hX, hT⟩ := hJ;subst hX hT;obtain ⟨t1, t2, t3, t4, t5, t6⟩ := t;refine (HT_exit ?_);refine HT_sA ?_;exact HT_ret ⟨.inr rfl, HT_endS (by simp; rfl) (by simp [resR]) (by simp [*])⟩
end Go.Proofs.YtfjidddhehckoaaGreat

namespace Go.Hl
open Go Go.RowKit
def midB (ops : Array Oper) (p : Nat) : Bool := ((List.range p).all fun j => predB ops ops.size p j) && (List.range ops.size).all fun j => decide (j ≤ p) || predB ops ops.size j p
theorem getD_any {arr : Array Bool} {j : Nat} (h : j < arr.size) : arr.getD j true = arr.getD j false := by
 rw [Array.getD_eq_getD_getElem?, Array.getD_eq_getD_getElem?, Array.getElem?_eq_getElem h];rfl
section
variable {P : Program} {ops : Array Oper}
theorem any_mid {hs : List (Nat × Nat)} {w0 : World} {B : Nat → Prop} {π : Nat → Option Value} {t : HS} {p : Nat} {o : Oper} {f : FuncId} {d : Nat} {objs objs' : List (Nat × Ob)} {args : List TV} {ρ σ : Nat → Nat} {r : RV} {K : HS → Prop} {Q : Exit → Act → World → Prop}
  (hd : drawH hs ops = true) (hp : p < ops.size) (hlast : ∀ j, j < p → predB ops ops.size p j = true) (hafter : ∀ j, p < j → j < ops.size → predB ops ops.size j p = true)
  (hn2 : ∀ q ∈ opers ops ((List.range ops.size).filter fun j => decide (p < j)), okName (({ t with objs := addS σ objs' (dels (objs.map fun p => ρ p.1) t.objs) } : HS).put (some d) (r.ren σ [])) q)
  (hr2 : runsH P ops hs (opers ops ((List.range ops.size).filter fun j => decide (p < j))) (({ t with objs := addS σ objs' (dels (objs.map fun p => ρ p.1) t.objs) } : HS).put (some d) (r.ren σ [])) K) (ho : ops[p]? = some o) (hg : gOfC t o = some (f, args.map (TV.ren ρ []), d)) (hh : HandS ρ σ objs objs' t) (hcon : ConS P f objs args r objs') (hout : okRV (objs'.map (·.1)) r = true) :
  ∀ (fuel : Nat) (listed : Array Bool) (s : HS) (F : Nat → Prop) (γ : Nat → Value) (a : Act) (w : World),
  listed.size = ops.size → (∀ i o, ops[i]? = some o → listed.getD i false = true → ∀ e ∈ o.after, Region.binds .any e = true → listed.getD e.on false = true) → p ∈ rest ops listed →
  (rest ops listed).length ≤ fuel → (∀ q ∈ opers ops (rest ops listed), okName s q) → Rel w0 B π F γ s a w →
  runsH P ops hs (opers ops ((rest ops listed).filter fun j => decide (j < p))) s (fun u => u = t) →
  (∀ s' F' γ' a' w', K s' → (∀ b, F b → F' b) → (∀ b, F' b → F b ∨ ¬ B b) → Rel w0 B π F' γ' s' a' w' → Q .normal a' w') → wpAny P .any ops Q fuel listed a w := by
 intro fuel
 induction fuel with
 | zero =>
   intro listed s F γ a w hsz hdc hpr hlen hn hr hw hK;have h0 : rest ops listed = [] := List.eq_nil_of_length_eq_zero (by omega);rw [h0] at hpr;cases hpr
 | succ fuel ih =>
   intro listed s F γ a w hsz hdc hpr hlen hn hr hw hK
   have unl : ∀ j, j ∈ rest ops listed → ¬ listed.getD j false = true := by
    intro j hj hjl;have hjun := (mem_rest.1 hj).2;have hjs : j < listed.size := by rw [hsz]; exact (mem_rest.1 hj).1
    rw [Array.getD_eq_getD_getElem?, Array.getElem?_eq_getElem hjs] at hjl hjun;simp only [Option.getD_some] at hjl hjun;rw [hjl] at hjun;cases hjun
   have hmono : ∀ i, i < ops.size → ∀ x, listed.getD x false = true → (listed.setIfInBounds i true).getD x false = true := by
    intro i hlt x hx';by_cases ex : x = i
    · subst ex;simp [hsz, hlt]
    rw [Array.getD_eq_getD_getElem?, Array.getElem?_setIfInBounds_ne (Ne.symm ex), ← Array.getD_eq_getD_getElem?]; exact hx'
   refine ⟨fun h0 => ?_, fun i hi => ?_⟩
   · exfalso;cases hres : rest ops listed with
     | nil => rw [hres] at hpr; cases hpr
     | cons i l =>
       have hi : i ∈ rest ops listed := by rw [hres]; simp
       obtain ⟨hlt, hun⟩ := mem_rest.1 hi
       have : i ∈ Region.ready .any ops listed := by
        refine mem_ready.2 ⟨hlt, hun, ops[i], by simp [hlt], fun e he hb => ?_⟩;have hon := (drawB_at hd (i := i) (o := ops[i]) (by simp [hlt])).1 e he hb
        have hnot : e.on ∉ rest ops listed := by
         intro hm;have hs := rest_sorted (ops := ops) listed;rw [hres] at hs hm;rcases List.mem_cons.1 hm with e' | hm
         · omega
         have := (List.pairwise_cons.1 hs).1 _ hm; omega
        rw [mem_rest] at hnot;have hel : e.on < listed.size := by omega
        rw [Array.getD_eq_getD_getElem?, Array.getElem?_eq_getElem hel] at hnot ⊢;simp only [Option.getD_some, not_and, Bool.not_eq_false] at hnot ⊢;exact hnot (by omega)
       rw [h0] at this;cases this
   obtain ⟨hlt, hun, oi, hoi, hpre⟩ := mem_ready.1 hi;have hir : i ∈ rest ops listed := mem_rest.2 ⟨hlt, hun⟩;have hset := rest_set hsz hir;by_cases hip : i = p
   · -- the call: nothing is left before it
     subst hip;rw [ho] at hoi;cases hoi
     have hl0 : (rest ops listed).filter (fun j => decide (j < i)) = [] := by
      rw [List.filter_eq_nil_iff];intro j hj hji;have hji' : j < i := by simpa using hji
      exact unl j hj (pred_listed hdc ops.size i j o ho hpre (hlast j hji'))
     rw [hl0] at hw;have hst : s = t := hw;subst hst;refine s_sound ho hr hg hh hcon hout fun F' γ' a' w' h3 h4 hr3 => ?_
     have hre : rest ops (listed.setIfInBounds i true) = (List.range ops.size).filter fun j => decide (i < j) := by
      unfold rest;refine List.filter_congr fun j hj => ?_;have hjs : j < ops.size := by simpa using hj
      rw [getD_any (by simpa using (by omega : j < listed.size))];rcases Nat.lt_trichotomy j i with h | h | h
      · have hlj : listed.getD j false = true := by
         cases hx : listed.getD j false
         · exfalso;have hjr : j ∈ rest ops listed := mem_rest.2 ⟨hjs, by rw [getD_any (by omega)]; exact hx⟩;have : j ∈ (rest ops listed).filter (fun j => decide (j < i)) := List.mem_filter.2 ⟨hjr, by simpa using h⟩;rw [hl0] at this;cases this
         rfl
        rw [hmono i hlt j hlj];have : ¬ i < j := by omega
        simp [this]
      · subst h;have hs' : j < listed.size := by omega
        simp [hs']
      have hlj : listed.getD j false = false := by
       cases hx : listed.getD j false
       · rfl
       exfalso;obtain ⟨oj, hoj⟩ : ∃ oj, ops[j]? = some oj := ⟨ops[j], by simp [hjs]⟩;exact unl i hir (pred_listed hdc ops.size j i oj hoj (hdc j oj hoj hx) (hafter j h hjs))
      have hne : (listed.setIfInBounds i true).getD j false = false := by
       rw [Array.getD_eq_getD_getElem?, Array.getElem?_setIfInBounds_ne (by omega), ← Array.getD_eq_getD_getElem?];exact hlj
      rw [hne];simp [h]
     refine any_order hd fuel (listed.setIfInBounds i true) _ F' γ' a' w' (by simpa using hsz) ?_ ?_ (by rw [hre]; exact hn2) hr3 (by rw [hre]; exact hr2) fun s' F3 γ3 a3 w3 hk h5 h6 hr4 => hK s' F3 γ3 a3 w3 hk (fun b hb => h5 b (h3 b hb)) (fun b hb => (h6 b hb).elim (h4 b) .inr) hr4
     · intro k q hq hk e' hee hb;by_cases ek : k = i
       · subst ek;rw [ho] at hq; cases hq;exact hmono k hlt _ (hpre e' hee hb)
       rw [Array.getD_eq_getD_getElem?, Array.getElem?_setIfInBounds_ne (Ne.symm ek), ← Array.getD_eq_getD_getElem?] at hk;exact hmono i hlt _ (hdc k q hq hk e' hee hb)
     obtain ⟨x2, y2, g1, g2, _, _⟩ := split_at (rest_sorted (ops := ops) listed) hir;rw [hset, g2];rw [g1] at hlen;simp only [List.length_append, List.length_cons] at hlen ⊢;omega
   have hip' : i < p := by
    rcases Nat.lt_or_gt_of_ne hip with h | h
    · exact h
    exact absurd (pred_listed hdc ops.size i p oi hoi hpre (hafter i h hlt)) (unl p hpr)
   have hi1 : i ∈ (rest ops listed).filter (fun j => decide (j < p)) := List.mem_filter.2 ⟨hir, by simpa using hip'⟩
   have hx : ∀ k ∈ rest ops listed, k < i → ∀ q, ops[k]? = some q → indepH hs ops q oi = true := by
    intro k hk hki q hq;refine ((drawB_at hd hoi).2 k q hki hq).1.resolve_left fun hpd => ?_;exact unl k hk (pred_listed hdc ops.size i k oi hoi hpre hpd)
   have hcl : ∀ k q, k ≠ i → ops[k]? = some q → clashB oi q = false ∧ clashB q oi = false := by
    intro k q hki hq;rcases Nat.lt_or_gt_of_ne hki with h | h
    · have := ((drawB_at hd hoi).2 k q h hq).2;exact ⟨this.2, this.1⟩
    exact ((drawB_at hd hq).2 i oi h hoi).2
   have swapf : (rest ops (listed.setIfInBounds i true)).filter (fun j => decide (j < p)) = ((rest ops listed).filter (fun j => decide (j < p))).filter (fun j => decide (j ≠ i)) := by
    rw [hset, List.filter_filter, List.filter_filter];exact List.filter_congr fun j _ => Bool.and_comm _ _
   obtain ⟨x, y, e1, e2, hxl, _⟩ := split_at (List.Pairwise.filter _ (rest_sorted (ops := ops) listed)) hi1;have e3 : (rest ops (listed.setIfInBounds i true)).filter (fun j => decide (j < p)) = x ++ y := by rw [swapf, e2]
   rw [e1, opers_append, opers_cons hoi] at hw
   have hin : ∀ k ∈ x ++ y, k ∈ rest ops listed ∧ k ≠ i := by
    intro k hk;rw [← e2] at hk;have := List.mem_filter.1 hk;exact ⟨(List.mem_filter.1 this.1).1, by simpa using this.2⟩
   have clq : ∀ q ∈ opers ops x ++ opers ops y, clashB oi q = false ∧ clashB q oi = false := by
    intro q hq;rw [← opers_append] at hq;obtain ⟨k, hk, hkq⟩ := mem_opers.1 hq;exact hcl k q (hin k hk).2 hkq
   have hpw : (opers ops x ++ opers ops y).Pairwise (fun a b => clashB a b = false) := by
    rw [← opers_append, ← e3];exact opers_pairwise hd _ (List.Pairwise.filter _ (rest_sorted _))
   obtain ⟨s', h1, _, h2, _⟩ := pull (P := P) (ops := ops) (hs := hs) (oi := oi) (l2 := opers ops y) (opers ops x) s (fun q hq => by
     obtain ⟨k, hk, hkq⟩ := mem_opers.1 hq;exact hx k (hin k (by simp [hk])).1 (hxl k hk) q hkq) (fun q hq => clq q (by simp [hq])) (fun q hq => (clq q (by simp [hq])).1) hpw (hn oi (mem_opers.2 ⟨i, hir, hoi⟩)) (fun q hq => by
     rw [← opers_append] at hq;obtain ⟨k, hk, hkq⟩ := mem_opers.1 hq
     exact hn q (mem_opers.2 ⟨k, (hin k hk).1, hkq⟩)) hw
   refine wpOp_of_stp hoi hr h1 fun F' γ' a' w' h3 h4 hr2' => ?_;refine ih (listed.setIfInBounds i true) s' F' γ' a' w' (by simpa using hsz) ?_ ?_ ?_ ?_ hr2' ?_ fun s3 F3 γ3 a3 w3 hk3 h5 h6 hr3 => ?_
   · intro k q hq hk e' hee hb;by_cases ek : k = i
     · subst ek;rw [hoi] at hq; cases hq;exact hmono k hlt _ (hpre e' hee hb)
     rw [Array.getD_eq_getD_getElem?, Array.getElem?_setIfInBounds_ne (Ne.symm ek), ← Array.getD_eq_getD_getElem?] at hk;exact hmono i hlt _ (hdc k q hq hk e' hee hb)
   · rw [hset];exact List.mem_filter.2 ⟨hpr, by simp only [ne_eq, decide_eq_true_eq]; omega⟩
   · obtain ⟨x2, y2, g1, g2, _, _⟩ := split_at (rest_sorted (ops := ops) listed) hir;rw [hset, g2];rw [g1] at hlen;simp only [List.length_append, List.length_cons] at hlen ⊢;omega
   · intro q hq;obtain ⟨k, hk, hkq⟩ := mem_opers.1 hq;rw [hset] at hk;have hk' := List.mem_filter.1 hk;exact okName_step h1 (hcl k q (by simpa using hk'.2) hkq).1 (hn q (mem_opers.2 ⟨k, hk'.1, hkq⟩))
   · rw [e3, opers_append];exact h2
   exact hK s3 F3 γ3 a3 w3 hk3 (fun b hb => h5 b (h3 b hb)) (fun b hb => (h6 b hb).elim (h4 b) .inr) hr3
theorem opers_drop (p : Nat) : opers ops ((List.range ops.size).filter fun j => decide (p < j)) = ops.toList.drop (p + 1) := by
 have hr : ∀ m, (List.range m).filter (fun j => decide (p < j)) = (List.range m).drop (p + 1) := by
  intro m
  induction m with
  | zero => simp
  | succ m ih =>
    rw [List.range_succ, List.filter_append, ih, List.drop_append];simp only [List.length_range];congr 1;by_cases hmp : p < m
    · rw [List.filter_cons_of_pos (by simpa using hmp), show p + 1 - m = 0 by omega];rfl
    rw [List.filter_cons_of_neg (by simpa using hmp)];rw [List.drop_eq_nil_of_le (by simp; omega)];rfl
 rw [hr]
 have hall : opers ops (List.range ops.size) = ops.toList := by
  unfold opers;have := range_get ops.toList;simpa using this
 have hsplit : opers ops ((List.range ops.size).take (p + 1)) ++ opers ops ((List.range ops.size).drop (p + 1)) = ops.toList := by
  rw [← opers_append, List.take_append_drop, hall]
 have hlen : (opers ops ((List.range ops.size).take (p + 1))).length = min (p + 1) ops.size := by
  have h2 : ∀ l : List Nat, (∀ j ∈ l, j < ops.size) → (opers ops l).length = l.length := by
   intro l
   induction l with
   | nil => intro _; rfl
   | cons j l ih =>
     intro h;have hj := h j (by simp);rw [opers_cons (o := ops[j]) (by simp [hj]), List.length_cons, List.length_cons, ih fun k hk => h k (by simp [hk])]
  rw [h2 _ fun j hj => by have := List.mem_of_mem_take hj; simpa using this];simp
 rw [← hsplit];by_cases hp : p + 1 ≤ ops.size
 · rw [List.drop_left' (by rw [hlen]; omega)]
 have : (List.range ops.size).drop (p + 1) = [] := List.drop_eq_nil_of_le (by simp; omega);rw [this];have h0 : opers ops [] = [] := rfl;rw [h0, List.append_nil, List.drop_eq_nil_of_le (by rw [hlen]; omega)]
theorem HT_drawT {id : Nat} (hs : List (Nat × Nat)) (p : Nat) (cs cs2 : List CR) {s t t2 : HS} {p1 p2 : Prop} {o : Oper} {f : FuncId} {d : Nat} {objs objs' : List (Nat × Ob)} {args : List TV} (ρ σ : Nat → Nat) {r : RV} {Q : Exit → HS → Prop} (hm : P.follows .mixedOrders = true) (hd : drawH hs ops = true) (hl : midB ops p = true)
  (hc : cleanB ops.toList s = true) (h1 : evcH P ops hs (ops.toList.take p) s cs = some (t, p1)) (hp1 : p1) (ho : ops[p]? = some o) (hg : gOfC t o = some (f, args.map (TV.ren ρ []), d)) (hh : HandS ρ σ objs objs' t) (hcon : ConS P f objs args r objs') (hout : okRV (objs'.map (·.1)) r = true)
  (hc2 : cleanB (ops.toList.drop (p + 1)) (({ t with objs := addS σ objs' (dels (objs.map fun p => ρ p.1) t.objs) } : HS).put (some d) (r.ren σ [])) = true) (h2 : evcH P ops hs (ops.toList.drop (p + 1)) (({ t with objs := addS σ objs' (dels (objs.map fun p => ρ p.1) t.objs) } : HS).put (some d) (r.ren σ [])) cs2 = some (t2, p2)) (hp2 : p2)
  (hq : Q .normal t2) : HT P (.region id ops true) s Q := by
 intro w0 B π F γ a w hr
 have hrest : rest ops (Array.replicate ops.size false) = List.range ops.size := by
  unfold rest;refine List.filter_eq_self.2 fun i hi => ?_;have : i < ops.size := by simpa using hi
  simp [this]
 have hopers : opers ops (List.range ops.size) = ops.toList := by
  unfold opers;have := range_get ops.toList;simpa using this
 have hok : ∀ o ∈ ops.toList, okName s o := by
  intro o ho hn d hdd;unfold cleanB at hc;rw [List.all_eq_true] at hc;have := hc o ho;simpa [hn, hdd] using this
 have hpw : ops.toList.Pairwise (fun a b => clashB a b = false) := by
  rw [← hopers];exact opers_pairwise hd _ List.pairwise_lt_range
 have hp0 : p < ops.size := (Array.getElem?_eq_some_iff.1 ho).1;have e1 := opers_take (ops := ops) p (by omega);have hp : p < ops.size := (Array.getElem?_eq_some_iff.1 ho).1
 have hlast : ∀ j, j < p → predB ops ops.size p j = true := by
  intro j hj;unfold midB at hl;rw [Bool.and_eq_true, List.all_eq_true, List.all_eq_true] at hl;exact hl.1 j (by simpa using hj)
 have hafter : ∀ j, p < j → j < ops.size → predB ops ops.size j p = true := by
  intro j hj hjs;unfold midB at hl;rw [Bool.and_eq_true, List.all_eq_true, List.all_eq_true] at hl;have := hl.2 j (by simpa using hjs);rw [decide_eq_false (by omega)] at this;simpa using this
 have e2 := opers_drop (ops := ops) p
 have hruns2 : runsH P ops hs (ops.toList.drop (p + 1)) _ (fun u => u = t2) :=
  runs_of_evcH _ _ t2 cs2 p2 (List.Pairwise.sublist (List.drop_sublist _ _) hpw) (fun o ho => by
   intro hn d hdd;unfold cleanB at hc2;rw [List.all_eq_true] at hc2;have := hc2 o ho
   simpa [hn, hdd] using this) h2 hp2 rfl
 have hruns : runsH P ops hs (ops.toList.take p) s (fun u => u = t) :=
  runs_of_evcH _ s t cs p1 (List.Pairwise.sublist (List.take_sublist _ _) hpw) (fun o ho => hok o (List.mem_of_mem_take ho)) h1 hp1 rfl
 refine wp_region_any hm (any_mid (P := P) (ops := ops) (hs := hs) (w0 := w0) (B := B) (π := π) (p := p) hd hp hlast hafter (by
  rw [e2];intro o ho hn d hdd;unfold cleanB at hc2;rw [List.all_eq_true] at hc2;have := hc2 o ho
  simpa [hn, hdd] using this) (by rw [e2]; exact hruns2) ho hg hh hcon hout ops.size (Array.replicate ops.size false) s F γ a { w with drawn := w.drawn + 1 } (by simp) ?_ ?_ ?_ ?_ ?_ ?_ fun s' F' γ' a' w' hk h1 h2 h3 => ⟨s', F', γ', by rw [hk]; exact hq, h1, h2, h3⟩)
 · intro i o ho hl;have hi : i < ops.size := (Array.getElem?_eq_some_iff.1 ho).1;simp [hi] at hl
 · rw [hrest]; simp; omega
 · rw [hrest]; simp
 · rw [hrest, hopers]; exact hok
 · exact ⟨hr.heap.drew, hr.defers, hr.nt, fun k r hk => (hr.regs k r hk).mono (w := w) (w' := { w with drawn := w.drawn + 1 }) (fun _ h => h) fun _ _ => rfl⟩
 rw [hrest, e1]; exact hruns
end
end Go.Hl

namespace Go.Proofs.YtfjidddhehckoaaGreat
open Go Go.Hl
theorem boundsP_con (f : Fl) (hv : f.vars.length ≤ 1000000) (hh : f.hats.length ≤ 1000000) (hn : nodesS f.body + nodesH f.hats ≤ 900000000) (hb : bndL f.body = true) (hc : codeC f = 0) (d : Nat) :
  Con Tryz.prog 70 true [aF f] (.tup [li (bdL CP f.body ⟨0, 0, 0⟩).s, li (bdL CP f.body ⟨0, 0, 0⟩).o, li (bdL CP f.body ⟨0, 0, 0⟩).t, li 0]) none d := by
 have cc := checkP_con f hv hh hn hb;have cu := upper_con f.body (by omega) (ssC_ok _ _ (code_split hc).2.2.2.1);rw [hc] at cc;obtain ⟨vars, hats, body⟩ := f;simp only at cu ⊢;obtain ⟨⟨bs, bo, bt⟩, hB⟩ : ∃ x, bdL CP body ⟨0, 0, 0⟩ = x := ⟨_, rfl⟩;rw [hB] at cu ⊢;simp only [aB] at cu ⊢;clear hB hc hn hb hv hh;refine con_of_HTA Tryz.func70 ?_;simp only [Tryz.f70];simp only [aF, Fl.enc, List.map_cons, List.map_nil] at cc ⊢;refine HT_sA ?_;refine HT_seq <| HT_seq <| (HT_runcA [⟨true, .v (li 0), none⟩] ?_ ?_)
 · first | exact cc _ | exact trivial | simpa [*] using cc _
 refine HT_sA ?_;refine (HT_cs rfl (fun h3 => ?_) fun h3 => ?_)
 · exact absurd h3 (by simp)
 (try simp only[BN]at h3);refine HT_scA [⟨true, .v (.agg [.c (iC bs), .c (iC bo), .c (iC bt)]), none⟩] ?_ ?_
 · first | exact cu _ | exact trivial | simpa [*] using cu _
 refine HT_seq <| (HT_drun (by kernel_rfl) (by kernel_rfl) (by rfl) (by simp [*]; rfl) ?_);exact HT_rA
end Go.Proofs.YtfjidddhehckoaaGreat
