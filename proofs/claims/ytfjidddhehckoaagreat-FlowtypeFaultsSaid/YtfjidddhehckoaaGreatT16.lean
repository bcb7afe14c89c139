/- Part 16: contracts of functions of the program and of the reference, and plain facts about what they compute; used by the proof of the claimed statement. Conditions: as each theorem states. -/
import Derived.Test.YtfjidddhehckoaaGreatT10
import Derived.Test.YtfjidddhehckoaaGreatT14
import Derived.Test.YtfjidddhehckoaaGreatT13
set_option linter.unusedSimpArgs false
set_option linter.unusedVariables false
set_option linter.unnecessarySimpa false
set_option maxRecDepth 100000
set_option maxHeartbeats 2000000
namespace Go.Proofs.YtfjidddhehckoaaGreat
open Go Go.Hl
theorem idxT_con (l : List Tm) (g : FuncId) (cap : List CD) (p : Tm → Bool) (hl : l.length ≤ 1000000000) (hp : ∀ v ∈ l, ∀ d, Con Tryz.prog g true (aT v :: cap.map fun c => .one (.c c)) (.v (lb (p v))) none d) (d : Nat) :
  Con Tryz.prog 92 true [lT l, .one (.c (.fn g cap))] (.v (li (match l.findIdx? p with | some i => (i : Int) | none => -1))) none d := by
 have hstep : ∀ k : Nat, (∀ j : Nat, j < k → ∀ v, l[j]? = some v → p v = false) → ∀ v, l[k]? = some v → p v = true → l.findIdx? p = some k := by
  intro k hno v hv hpv
  rw [List.findIdx?_eq_some_iff_getElem]
  have hk : k < l.length := (List.getElem?_eq_some_iff.1 hv).1
  refine ⟨hk, ?_, fun j hj => ?_⟩
  · simp only [List.getElem?_eq_getElem hk, Option.some.injEq] at hv
    rw [hv]; exact hpv
  · have := hno j hj l[j] (by simp)
    simp [this]
 have hnone : (∀ j : Nat, j < l.length → ∀ v, l[j]? = some v → p v = false) → l.findIdx? p = none := by
  intro hno
  rw [List.findIdx?_eq_none_iff]
  intro v hv
  obtain ⟨j, hj⟩ := List.mem_iff_getElem?.1 hv
  exact hno j (List.getElem?_eq_some_iff.1 hj).1 v hj
 refine con_of_HT Tryz.func92 rfl (by kernel_rfl) (Nat.le_of_ble_eq_true rfl) ?_
 simp only [Tryz.f92]
 refine HT_seq <| HT_runA ?_
 refine HT_seq <| HT_seq <| HT_runA ?_
 refine HT_block <| (HT_loopU [0, 1, 7] (fun (x : Nat) => [(8, .v (li x))]) (fun (x : Nat) => []) (fun (x : Nat) => x ≤ l.length ∧ ∀ j : Nat, j < x → ∀ v, l[j]? = some v → p v = false) (fun (x : Nat) => l.length - x) (0 : Nat) ⟨Nat.zero_le _, fun j hj => absurd hj (Nat.not_lt_zero j)⟩ ?_ ?_)
 · exact le_mkA (fun n => n) []
 rintro k ⟨hk, hJ⟩
 simp only [upS, keepS, insS]
 try simp only [keepS, KN, Nat.reduceBEq, if_true, if_false, ins, Nat.reduceLT]
 refine HT_seq <| HT_runA ?_
 refine HT_seq <| (HT_cond rfl (fun h4 => HT_skip ?_) (fun h4 => ?_))
 · try simp only [BN] at h4
   have hlt : k < l.length := by omega
   obtain ⟨⟨so, stn, sks⟩, he, hd⟩ := at_lt hlt
   have hw1 := wrap1 hlt (by omega)
   have hk1 : k + 1 ≤ l.length := hlt
   have he' := get_encT he
   simp only [Tm.enc] at he'
   have hpv := hp _ (List.mem_of_getElem? he)
   have hs := hstep k hJ _ he
   simp only [aT, Tm.enc, List.map_cons, List.map_nil] at hpv
   clear hlt h4 hstep hnone hp hd
   refine HT_seq <| HT_block <| HT_seq <| HT_runA ?_
   refine HT_seq <| (HT_runcA [⟨true, .v (lb (p (.mk so stn sks))), none⟩] ?_ ?_)
   · first | exact hpv _ | exact trivial | simpa [*] using hpv _
   refine (HT_cond rfl (fun h7 => ?_) (fun h7 => HT_skip ?_))
   · try simp only [BN] at h7
     rw [hs h7]
     refine HT_seq <| HT_runA ?_
     exact HT_retA fun h => ⟨.inr rfl, h⟩
   · try simp only [BN] at h7
     refine HT_runA ?_
     exact ⟨k + 1, ⟨hk1, fun j hj w hw => (Nat.lt_succ_iff_lt_or_eq.1 hj).elim (fun h => hJ j h w hw) (fun e => by subst e; rw [he] at hw; cases hw; exact h7)⟩, by omega, le_mkA (fun n => n) []⟩
 · try simp only [BN] at h4
   rw [hnone fun j hj => hJ j (by omega)]
   refine (HT_exit ?_)
   refine HT_seq <| HT_runA ?_
   exact HT_retA fun h => ⟨.inr rfl, h⟩
theorem conT_con (l : List Tm) (g : FuncId) (cap : List CD) (p : Tm → Bool) (hl : l.length ≤ 1000000000) (hp : ∀ v ∈ l, ∀ d, Con Tryz.prog g true (aT v :: cap.map fun c => .one (.c c)) (.v (lb (p v))) none d) (d : Nat) :
  Con Tryz.prog 53 true [lT l, .one (.c (.fn g cap))] (.v (lb (l.any p))) none d := by
 have hr := idxT_con l g cap p hl hp
 have hi : 0 ≤ (match l.findIdx? p with | some i => (i : Int) | none => -1) ↔ l.any p = true := fi_iff l p
 obtain ⟨r, hR⟩ : ∃ r : Int, (match l.findIdx? p with | some i => (i : Int) | none => -1) = r := ⟨_, rfl⟩
 rw [hR] at hr hi
 have hd : decide (0 ≤ r) = l.any p := by rw [Bool.eq_iff_iff, decide_eq_true_eq]; exact hi
 clear hi hp hR
 refine con_of_HT Tryz.func53 rfl (by kernel_rfl) (Nat.le_of_ble_eq_true rfl) ?_
 simp only [Tryz.f53]
 refine HT_seq <| HT_runA ?_
 refine HT_seq <| (HT_runcA [⟨true, .v (li r), none⟩] ?_ ?_)
 · first | exact hr _ | exact trivial | simpa [*] using hr _
 exact HT_retA fun h => ⟨.inr rfl, h⟩
mutual
def menI : Tm → Int → Bool
 | .mk o n ks, v => (decide (o = 24) && decide (n = v)) || menIs ks v
def menIs : List Tm → Int → Bool
 | [], _ => false
 | t :: l, v => menI t v || menIs l v
end
theorem menIs_any (v : Int) : ∀ l : List Tm, menIs l v = l.any fun t => menI t v
 | [] => rfl
 | t :: l => by simp only [menIs, List.any_cons, menIs_any v l]
theorem men1_con (t : Tm) (v : Int) (h : ∀ d : Nat, Con Tryz.prog 28 true [aT t, li v] (.v (lb (menI t v))) none d) (d : Nat) :
  Con Tryz.prog 54 true [aT t, .one (.c (.ptr [iC v]))] (.v (lb (menI t v))) none d := by
 obtain ⟨B, hB⟩ : ∃ x, menI t v = x := ⟨_, rfl⟩
 rw [hB] at h ⊢
 clear hB
 obtain ⟨o, n, ks⟩ := t
 simp only [aT, Tm.enc, List.map_cons, List.map_nil] at h
 refine con_of_HT Tryz.func54 rfl (by kernel_rfl) (Nat.le_of_ble_eq_true rfl) ?_
 simp only [Tryz.f54]
 simp only [aT, Tm.enc, List.map_cons, List.map_nil]
 refine HT_seq <| HT_runA ?_
 refine HT_seq <| (HT_runcA [⟨true, .v (lb B), none⟩] ?_ ?_)
 · first | exact h _ | exact trivial | simpa [*] using h _
 exact HT_retA fun h => ⟨.inr rfl, h⟩
theorem men_con (v : Int) (t : Tm) : t.nodes ≤ 1000000000 → ∀ d : Nat, Con Tryz.prog 28 true [aT t, li v] (.v (lb (menI t v))) none d := by
 induction t using Tm.ind with
 | h o n ks ih =>
   intro hn d
   simp only [Tm.nodes] at hn
   have hln : ks.length ≤ nodesT ks := len_nodesT ks
   have cc := conT_con ks 54 [.ptr [iC v]] (fun t => menI t v) (by omega) (fun t hm d => men1_con t v (ih t hm (by have := nodes_mem hm; omega)) d)
   rw [← menIs_any] at cc
   simp only [menI]
   obtain ⟨R, hR⟩ : ∃ x, menIs ks v = x := ⟨_, rfl⟩
   rw [hR] at cc ⊢
   clear ih hR
   refine con_of_HT Tryz.func28 rfl (by kernel_rfl) (Nat.le_of_ble_eq_true rfl) ?_
   simp only [Tryz.f28]
   simp only [aT, Tm.enc, List.map_cons, List.map_nil]
   refine HT_seq <| HT_runA ?_
   refine HT_seq <| (HT_runcA [⟨true, .v (lb R), none⟩] ?_ ?_)
   · first | exact cc _ | exact trivial | simpa [*] using cc _
   exact HT_retA fun h => ⟨.inr rfl, h⟩
end Go.Proofs.YtfjidddhehckoaaGreat

namespace Go.Proofs.YtfjidddhehckoaaGreat
open Go Go.Hl
mutual
theorem men_eq {vars : List Vr} {inp : Bool} : ∀ (t : Tm) (v : Nat), formB vars inp t = true → menI t v = menB t v
 | .mk o n ks, v, h => by
   simp only [formB, nodeB, Bool.and_eq_true] at h
   simp only [menI, menB, mens_eq ks v h.2]
   congr 1
   by_cases h24 : o = 24
   · have hr := h.1.2
     rw [if_neg (by omega), if_pos h24] at hr
     obtain ⟨r1, r2⟩ := ref_in hr
     congr 1
     exact decide_eq_decide.2 ⟨fun h => by omega, fun h => by omega⟩
   · rw [decide_eq_false h24]; rfl
theorem mens_eq {vars : List Vr} {inp : Bool} : ∀ (l : List Tm) (v : Nat), formBs vars inp l = true → menIs l v = menBs l v
 | [], v, h => rfl
 | t :: l, v, h => by
   simp only [formBs, Bool.and_eq_true] at h
   simp only [menIs, menBs, men_eq t v h.1, mens_eq l v h.2]
end
def lvF (t : Tm) (st : List Int) (pc : Int) (k : Nat) : List Int := pc :: ((List.range k).filter fun v : Nat => menI t (v : Int)).map fun v => (st[v]?).getD 0
theorem lvF_succ (t : Tm) (st : List Int) (pc : Int) (k : Nat) : lvF t st pc (k + 1) = lvF t st pc k ++ (if menI t (k : Int) = true then [(st[k]?).getD 0] else []) := by
 unfold lvF
 rw [List.range_succ, List.filter_append, List.map_append, List.cons_append]
 congr 1
 congr 1
 by_cases h : menI t (k : Int) = true
 · rw [if_pos h]; simp [h]
 · rw [if_neg h]; simp [h]
theorem lvF_len (t : Tm) (st : List Int) (pc : Int) (k : Nat) : (lvF t st pc k).length ≤ k + 1 := by
 unfold lvF
 have := List.length_filter_le (fun v : Nat => menI t (v : Int)) (List.range k)
 simp only [List.length_cons, List.length_map, List.length_range] at this ⊢
 omega
section
variable {e : En}
theorem flt_lv (hn : 0 < e.n) (hM : Lt.Lat e.n e.M) (hW : okI e.n e.W) {vars : List Vr} {inp : Bool} {s : St} {st : List Int} {pc : Int} (hf : formB vars inp s.term = true) (hs : okV e.n st) (hp : okI e.n pc) (hl : st.length = vars.length) :
  fltB e (s, st, pc) = (decide (s.do_ = 1) && (lvF s.term st pc vars.length).any fun x => !e.M x.toNat e.W.toNat) := by
 unfold fltB
 simp only
 congr 1
 have ht := tlT_ok (J_ok hn hM) st s.term pc hp
 have key : e.B (tlT e.J st s.term pc) e.W = true ↔ ∀ x ∈ lvF s.term st pc vars.length, e.M x.toNat e.W.toNat = true := by
  rw [B_iff ht hW, tl_iff hn hM hs hl hW s.term pc hf hp]
  unfold lvF
  simp only [List.mem_cons, forall_eq_or_imp]
  refine and_congr Iff.rfl ⟨fun h x hx => ?_, fun h v y hv hy => ?_⟩
  · obtain ⟨v, hv, rfl⟩ := List.mem_map.1 hx
    rw [List.mem_filter, List.mem_range] at hv
    obtain ⟨y, hy⟩ : ∃ y, st[v]? = some y := ⟨_, List.getElem?_eq_getElem (by omega)⟩
    rw [hy]
    exact h v y (by rw [← men_eq _ v hf]; exact hv.2) hy
  · have hvl : v < vars.length := by have := (List.getElem?_eq_some_iff.1 hy).1; omega
    have := h y (List.mem_map.2 ⟨v, List.mem_filter.2 ⟨List.mem_range.2 hvl, by rw [men_eq _ v hf]; exact hv⟩, by rw [hy]; rfl⟩)
    exact this
 cases hb : e.B (tlT e.J st s.term pc) e.W
 · rw [hb] at key
   simp only [Bool.not_false]
   symm
   rw [List.any_eq_true]
   simp only [Bool.false_eq_true, false_iff] at key
   by_cases hex : ∃ x ∈ lvF s.term st pc vars.length, e.M x.toNat e.W.toNat ≠ true
   · obtain ⟨x, hx, h⟩ := hex
     exact ⟨x, hx, by simp [h]⟩
   · exfalso
     refine key fun x hx => ?_
     cases hm : e.M x.toNat e.W.toNat
     · exact absurd ⟨x, hx, by rw [hm]; decide⟩ hex
     · rfl
 · rw [hb] at key
   simp only [Bool.not_true]
   symm
   rw [List.any_eq_false]
   intro x hx
   rw [key.1 rfl x hx]
   decide
theorem fltF_take {E : List Ent} {k : Nat} {x : Ent} (h : E[k]? = some x) : fltF e 0 (E.take (k + 1)) = fltF e 0 (E.take k) ++ (if fltB e x = true then [(k : Int)] else []) := by
 have hk := (List.getElem?_eq_some_iff.1 h).1
 rw [List.take_add_one, h, Option.toList_some, fltF_app, List.length_take, Nat.zero_add, Nat.min_eq_left (by omega)]
 simp [fltF]
end
theorem get_ok2 {n : Nat} (hn : 0 < n) {a : List Int} (ha : okV n a) (k : Nat) : okI n ((a[k]?).getD 0) := by
 cases h : a[k]? with
 | none => exact ⟨by simp, by simp; omega⟩
 | some x => exact ha x (List.mem_of_getElem? h)
theorem faults_facts {f : Fl} {p : Po} (h : Gd0 f p) (hb : bndL f.body = true) {k : Nat} (hk : k < szL f.body) : ∃ (s : St) (st : List Int) (pc : Int), (lgE f p)[k]? = some (s, st, pc) ∧ (preL f.body)[k]? = some s ∧ (tyE f p).2.states[k]? = some st ∧ (tyE f p).2.counts[k]? = some pc ∧
  okI p.n pc ∧ okV p.n st ∧ st.length = f.vars.length ∧ s.nodes ≤ nodesS f.body ∧ fltB (envF f p) (s, st, pc) = (decide (s.do_ = 1) && (lvF s.term st pc f.vars.length).any fun x => !p.M x.toNat p.observer.toNat) := by
 have hlen := lgE_len h
 obtain ⟨⟨s, st, pc⟩, hx⟩ : ∃ x, (lgE f p)[k]? = some x := ⟨_, List.getElem?_eq_getElem (by omega)⟩
 have hpre := congrArg (fun l => l[k]?) (lgL_pre (e := envF f p) (fuF f p) f.body p.bot (s0F f p) (ssC_fr _ _ (code_split h.hc).2.2.2.1))
 have hok := lgE_ok h _ (List.mem_of_getElem? hx)
 have hpk : (preL f.body)[k]? = some s := by
  rw [← hpre]
  show ((lgE f p).map _)[k]? = _
  rw [List.getElem?_map, hx]
  rfl
 obtain ⟨w1, w2⟩ := preL_wf f.body (code_wf hb h.hc).1 s (List.mem_of_getElem? hpk)
 obtain ⟨sd, sc, sv, sn, t, sa, sb, sbs⟩ := s
 have hfm : formB f.vars false t = true := by
  simp only [wfS, Bool.and_eq_true] at w1
  exact w1.1
 refine ⟨_, st, pc, hx, hpk, ?_, ?_, hok.1, hok.2.1, hok.2.2, w2, flt_lv (e := envF f p) h.hn h.hM h.ho hfm hok.2.1 hok.1 hok.2.2⟩
 · rw [tyE_out.2.2.1, (tyR_lg h).2.2.2.1, List.getElem?_map, hx]
   rfl
 · rw [tyE_out.2.2.2.1, (tyR_lg h).2.2.2.2, List.getElem?_map, hx]
   rfl
end Go.Proofs.YtfjidddhehckoaaGreat

namespace Go.Proofs.YtfjidddhehckoaaGreat
open Go Go.Hl
abbrev lLL (l : List (List Int)) : TV := .one (.c (.sl 1 (encLL l)))
def lvR (f : Fl) (p : Po) : RV := if askC f p = 0 then .tup [lLL (tyE f p).2.states, li 0] else .tup [lLL [], li (askC f p)]
def cnR (f : Fl) (p : Po) : RV := if askC f p = 0 then .tup [lI (tyE f p).2.counts, li 0] else .tup [lI [], li (askC f p)]
theorem levels_con {f : Fl} {p : Po} (h : Sm f p) (d : Nat) : Con Tryz.prog 24 false [aF f, aPo p] (lvR f p) none d := by
 have crun := runT_con f p (smQ_smP h.sp) h.rep h.sf.hv h.sf.hh h.sf.hn h.sf.hb
 unfold lvR
 unfold runRt runOt at crun
 obtain ⟨A, hA⟩ : ∃ x, askC f p = x := ⟨_, rfl⟩
 obtain ⟨⟨X, T⟩, hT⟩ : ∃ x, tyE f p = x := ⟨_, rfl⟩
 obtain ⟨cs, hL⟩ := lat_ptr p
 obtain ⟨HV, hH⟩ : ∃ x, (phtF f p).1 = x := ⟨_, rfl⟩
 rw [hA] at crun
 simp only [hT, hL, hH, hA] at crun ⊢
 obtain ⟨z1, z2, z3, z4, z5, z6⟩ := T
 simp only
 clear hA hT hL hH h
 refine con_of_HT Tryz.func24 rfl (by kernel_rfl) (Nat.le_of_ble_eq_true rfl) ?_
 simp only [Tryz.f24]
 simp only [tO8, tB] at crun
 simp only [aF, Fl.enc, aPo, Po.enc, List.map_cons, List.map_nil] at crun ⊢
 refine HT_seq <| HT_runA ?_
 rcases Classical.em (A = 0) with hA | hA
 · subst hA
   rw [if_pos rfl, if_pos rfl] at crun
   rw [if_pos rfl]
   refine HT_seq <| (HT_runsS ?_)
   refine RunsS.cutE 2 [] (by simp [*]; rfl) trivial (le_refl _) ?_
   refine RunsS.call (fun n => n) (fun n => n) (by simp; rfl) (handS_mk (by simp) (by simp) (by simp) (by simp) (by simp)) crun (by rfl) ?_
   refine RunsS.doneE [] (by simp; rfl) trivial ?_
   clear crun
   refine HT_seq <| HT_seq <| HT_runA ?_
   refine (HT_cond rfl (fun h3 => ?_) (fun h3 => HT_skip ?_))
   · exact absurd h3 (by simp)
   · try simp only [BN] at h3
     refine HT_seq <| HT_runA ?_
     exact HT_ret ⟨.inr rfl, _, le_frz 900002 rfl, ⟨⟨_, by simp; rfl, by simp [resR]⟩, by simp, fun h => by cases h⟩⟩
 · rw [if_neg hA, if_neg hA] at crun
   rw [if_neg hA]
   refine HT_seq <| (HT_runsS ?_)
   refine RunsS.cutE 2 [] (by simp [*]; rfl) trivial (le_refl _) ?_
   refine RunsS.call (fun n => n) (fun n => n) (by simp; rfl) (handS_mk (by simp) (by simp) (by simp) (by simp) (by simp)) crun (by rfl) ?_
   refine RunsS.doneE [] (by simp; rfl) trivial ?_
   clear crun
   refine HT_seq <| HT_seq <| HT_runA ?_
   refine (HT_cond rfl (fun h3 => ?_) (fun h3 => HT_skip ?_))
   · try simp only [BN] at h3
     refine HT_seq <| HT_runA ?_
     exact HT_ret ⟨.inr rfl, _, le_one 4 1 rfl, ⟨⟨_, by simp; rfl, by simp [resR, encLL]⟩, by simp, fun h => by cases h⟩⟩
   · exact absurd h3 (by simpa using hA)
theorem counters_con {f : Fl} {p : Po} (h : Sm f p) (d : Nat) : Con Tryz.prog 25 false [aF f, aPo p] (cnR f p) none d := by
 have crun := runT_con f p (smQ_smP h.sp) h.rep h.sf.hv h.sf.hh h.sf.hn h.sf.hb
 unfold cnR
 unfold runRt runOt at crun
 obtain ⟨A, hA⟩ : ∃ x, askC f p = x := ⟨_, rfl⟩
 obtain ⟨⟨X, T⟩, hT⟩ : ∃ x, tyE f p = x := ⟨_, rfl⟩
 obtain ⟨cs, hL⟩ := lat_ptr p
 obtain ⟨HV, hH⟩ : ∃ x, (phtF f p).1 = x := ⟨_, rfl⟩
 rw [hA] at crun
 simp only [hT, hL, hH, hA] at crun ⊢
 obtain ⟨z1, z2, z3, z4, z5, z6⟩ := T
 simp only
 clear hA hT hL hH h
 refine con_of_HT Tryz.func25 rfl (by kernel_rfl) (Nat.le_of_ble_eq_true rfl) ?_
 simp only [Tryz.f25]
 simp only [tO8, tB] at crun
 simp only [aF, Fl.enc, aPo, Po.enc, List.map_cons, List.map_nil] at crun ⊢
 refine HT_seq <| HT_runA ?_
 rcases Classical.em (A = 0) with hA | hA
 · subst hA
   rw [if_pos rfl, if_pos rfl] at crun
   rw [if_pos rfl]
   refine HT_seq <| (HT_runsS ?_)
   refine RunsS.cutE 2 [] (by simp [*]; rfl) trivial (le_refl _) ?_
   refine RunsS.call (fun n => n) (fun n => n) (by simp; rfl) (handS_mk (by simp) (by simp) (by simp) (by simp) (by simp)) crun (by rfl) ?_
   refine RunsS.doneE [] (by simp; rfl) trivial ?_
   clear crun
   refine HT_seq <| HT_seq <| HT_runA ?_
   refine (HT_cond rfl (fun h3 => ?_) (fun h3 => HT_skip ?_))
   · exact absurd h3 (by simp)
   · try simp only [BN] at h3
     refine HT_seq <| HT_runA ?_
     exact HT_ret ⟨.inr rfl, _, le_frz 900003 rfl, ⟨⟨_, by simp; rfl, by simp [resR]⟩, by simp, fun h => by cases h⟩⟩
 · rw [if_neg hA, if_neg hA] at crun
   rw [if_neg hA]
   refine HT_seq <| (HT_runsS ?_)
   refine RunsS.cutE 2 [] (by simp [*]; rfl) trivial (le_refl _) ?_
   refine RunsS.call (fun n => n) (fun n => n) (by simp; rfl) (handS_mk (by simp) (by simp) (by simp) (by simp) (by simp)) crun (by rfl) ?_
   refine RunsS.doneE [] (by simp; rfl) trivial ?_
   clear crun
   refine HT_seq <| HT_seq <| HT_runA ?_
   refine (HT_cond rfl (fun h3 => ?_) (fun h3 => HT_skip ?_))
   · try simp only [BN] at h3
     refine HT_seq <| HT_runA ?_
     exact HT_ret ⟨.inr rfl, _, le_one 4 1 rfl, ⟨⟨_, by simp; rfl, by simp [resR, encLL]⟩, by simp, fun h => by cases h⟩⟩
   · exact absurd h3 (by simpa using hA)
end Go.Proofs.YtfjidddhehckoaaGreat

namespace Go.Proofs.YtfjidddhehckoaaGreat
open Go Go.Hl
theorem get_encLL {l : List (List Int)} {k : Nat} {x : List Int} (h : l[k]? = some x) : (encLL l)[k]? = some [.sl 1 (encIs x)] := by simp [encLL, h]
theorem faults_law (f : Fl) (p : Po) (d : Nat) : Con Tryz.prog 6 true [aF f, aPo p] (.v (lb true)) none d := by
 have ck := known_con
 have cf := fit_con f p
 obtain ⟨FP, hFP⟩ : ∃ x, fitP f p = x := ⟨_, rfl⟩
 have hsm : FP = true → Sm f p := fun h => fit_in (hFP.trans h)
 rw [hFP] at cf
 have ca := fun h => asked_con f p (hsm h).sp (hsm h).sf
 obtain ⟨A, hA⟩ : ∃ x, askC f p = x := ⟨_, rfl⟩
 rw [hA] at ca
 have hgd : A = 0 → Gd0 f p := fun h => ask_gd (hA.trans h)
 have cL := fun (h : FP = true) (h0 : A = 0) => latR_con p (hgd h0).hp (hsm h).sp
 have cin := fun x => rin_con p x
 have cc1 := fun (h : FP = true) => chkS_con (hsm h)
 have clv := fun (h : FP = true) => levels_con (hsm h)
 have ccn := fun (h : FP = true) => counters_con (hsm h)
 have hnn : FP = true → nodesS f.body ≤ 80 ∧ f.vars.length ≤ 10 := fun h => ⟨by have := (hsm h).nn; omega, (hsm h).nv⟩
 have csz := fun (h : FP = true) => sizeR_con f.body (by have := (hnn h).1; omega)
 have cfd := fun (h : FP = true) i s h0 h1 h2 => findR_con f.body (by have := (hnn h).1; omega) i s h0 h1 h2
 have hsz := szL_le f.body
 have hff := fun (h : FP = true) (h0 : A = 0) (k : Nat) (hk : k < szL f.body) => faults_facts (hgd h0) (hsm h).sf.hb hk
 have hob : A = 0 → okI p.n p.observer := fun h0 => (hgd h0).ho
 have hfa : A = 0 → (tyE f p).2.faults = fltF (envF f p) 0 (lgE f p) := fun h0 => by rw [tyE_out.2.1, (tyR_lg (hgd h0)).2.2.1]
 have hst : A = 0 → (tyE f p).2.states.length = szL f.body ∧ (tyE f p).2.counts.length = szL f.body := fun h0 => by
  rw [tyE_out.2.2.1, tyE_out.2.2.2.1, (tyR_lg (hgd h0)).2.2.2.1, (tyR_lg (hgd h0)).2.2.2.2, List.length_map, List.length_map]
  exact ⟨lgE_len (hgd h0), lgE_len (hgd h0)⟩
 have hlE : A = 0 → (lgE f p).length = szL f.body := fun h0 => lgE_len (hgd h0)
 unfold chkR at cc1
 unfold lvR at clv
 unfold cnR at ccn
 obtain ⟨T1, hT1⟩ : ∃ x, tyE f p = x := ⟨_, rfl⟩
 obtain ⟨B1, hB1⟩ : ∃ x, accB f p = x := ⟨_, rfl⟩
 obtain ⟨EV, hEV⟩ : ∃ x, envF f p = x := ⟨_, rfl⟩
 obtain ⟨EL, hEL⟩ : ∃ x, lgE f p = x := ⟨_, rfl⟩
 simp only [hT1, hB1, hA, hEV, hEL] at cc1 clv ccn hff hfa hst hlE
 obtain ⟨F1, t1⟩ := T1
 simp only at cc1 clv ccn hff hfa hst
 obtain ⟨time1, fa1, at1, dry1, sts, cts⟩ := t1
 simp only at cc1 clv ccn hff hfa hst
 unfold laT Lt.latT at *
 unfold Lt.matB at cL cin
 obtain ⟨R, hR⟩ : ∃ x, ((List.range p.levels.length).map fun a => [CD.sl 1 (Lt.rowB p.levels.length p.M a)]) = x := ⟨_, rfl⟩
 have hrow : ∀ m : Nat, m < p.n → R[m]? = some [CD.sl 1 (Lt.rowB p.n p.M m)] := fun m hm => by
  rw [← hR, List.getElem?_map, List.getElem?_range (show m < p.levels.length from hm)]
  rfl
 rw [hR] at cL
 simp only [hR] at cin
 obtain ⟨NS, hNS⟩ : ∃ x, Lt.nsC p.levels = x := ⟨_, rfl⟩
 have hNS' : ∃ r, NS = .sl 1 r := ⟨_, hNS.symm⟩
 rw [hNS] at cL
 simp only [hNS] at cin
 obtain ⟨NR, hNR⟩ := hNS'
 subst hNR
 obtain ⟨n, hn⟩ : ∃ x, p.n = x := ⟨_, rfl⟩
 obtain ⟨M, hM⟩ : ∃ x, p.M = x := ⟨_, rfl⟩
 simp only [hn] at cin
 rw [hn] at hob
 simp only [hn, hM] at hrow hff
 obtain ⟨SZ, hSZ⟩ : ∃ x, szL f.body = x := ⟨_, rfl⟩
 have hfs : ∀ (k : Nat), k < SZ → ∀ s, (preL f.body)[k]? = some s → fdL f.body (k : Int) = some s := fun k hk s hs => by
  unfold fdL
  rw [if_neg (by omega)]
  simpa using hs
 simp only [hSZ] at csz hsz hff hst hlE
 clear hT1 hB1 hA hFP hsm hgd hR hNS hn hM hEV hEL hSZ
 obtain ⟨vars, hats, body⟩ := f
 obtain ⟨ls, os, is, hts, ob, tm⟩ := p
 simp only at hob cc1 cL clv ccn hff csz cfd hsz hnn hfs
 refine con_of_HT Tryz.func6 rfl (by kernel_rfl) (Nat.le_of_ble_eq_true rfl) ?_
 simp only [Tryz.f6]
 simp only [aF, Fl.enc, aPo, Po.enc, List.map_cons, List.map_nil] at cf ca cL cc1 clv ccn ⊢
 refine HT_seq <| HT_runA ?_
 refine HT_seq <| HT_seq <| (HT_runcA [⟨true, .v (lb true), none⟩] ?_ ?_)
 · first | exact ck _ | exact trivial | simpa [*] using ck _
 refine (HT_cond rfl (fun h2 => ?_) (fun h2 => HT_skip ?_))
 · exact absurd h2 (by simp)
 · try simp only [BN] at h2
   rcases Bool.eq_false_or_eq_true FP with hfp | hfp
   · subst hfp
     have ca := ca rfl
     refine HT_seq <| HT_seq <| (HT_runcA [⟨true, .v (lb true), none⟩, ⟨true, .v (li A), none⟩] ?_ ?_)
     · first | exact ⟨cf _, ca _⟩ | exact trivial | (repeat' first | exact trivial | exact cf _ | exact ca _ | apply And.intro)
     refine (HT_cond rfl (fun h6 => ?_) (fun h6 => HT_skip ?_))
     · try simp only [BN] at h6
       refine HT_seq <| HT_runA ?_
       exact HT_retA fun h => ⟨.inr rfl, h⟩
     · try simp only [BN] at h6
       have ha0 : A = 0 := by simpa using h6
       subst ha0
       have cL := cL rfl rfl
       have cc1 := cc1 rfl
       have clv := clv rfl
       have ccn := ccn rfl
       have csz := csz rfl
       have cfd := cfd rfl
       have hff := hff rfl rfl
       have hob := hob rfl
       have hfa := hfa rfl
       subst hfa
       obtain ⟨hst1, hst2⟩ := hst rfl
       have hlE := hlE rfl
       obtain ⟨hnn1, hnn2⟩ := hnn rfl
       rw [if_pos rfl] at cc1 clv ccn
       obtain ⟨m0, rfl, hm0⟩ := okI_nat hob
       have hlen1 := len_encLL sts
       clear ca cf ck hst hnn hob
       refine HT_seq <| (HT_runcA [⟨false, .tup [.agg [.c (bC B1), .c (.sl 1 (encIs (fltF EV 0 EL))), .c (iC time1), .c (.sl 1 (encIs F1))], li 0], none⟩] ?_ ?_)
       · first | exact cc1 _ | exact trivial | simpa [*] using cc1 _
       refine HT_seq <| (HT_runcA [⟨false, .tup [.one (.c (.sl 1 (encLL sts))), li 0], none⟩] ?_ ?_)
       · first | exact clv _ | exact trivial | simpa [*] using clv _
       refine HT_seq <| (HT_runcA [⟨false, .tup [.one (.c (.sl 1 (encIs cts))), li 0], none⟩] ?_ ?_)
       · first | exact ccn _ | exact trivial | simpa [*] using ccn _
       clear cc1 clv ccn
       refine HT_seq <| (HT_runcA [⟨true, .v (li (SZ : Int)), none⟩] ?_ ?_)
       · first | exact csz _ | exact trivial | simpa [*] using csz _
       refine HT_seq <| HT_seq <| HT_runA ?_
       refine (HT_cond rfl (fun h14 => ?_) (fun h14 => HT_skip ?_))
       · exact absurd h14 (by simp [hst1, hst2])
       · try simp only [BN] at h14
         refine HT_seq <| (HT_runcA [⟨false, .v (.agg [.c (.sl 1 NR), .c (.sl 1 R)]), none⟩] ?_ ?_)
         · first | exact cL _ | exact trivial | simpa [*] using cL _
         refine HT_seq <| HT_runA ?_
         have hz0 : fltF EV 0 [] = [] := rfl
         refine HT_seq <| HT_seq <| HT_runA ?_
         refine HT_block <| (HT_loopU [2, 3, 5, 7, 9, 12, 78] (fun (x : Nat) => [(13, .v (.one (.own 900001))), (79, .v (li x))]) (fun (x : Nat) => [(2, .box [.c (.sl 5 (encVs vars)), .c (.sl 6 (encHs hats)), .c (.sl 10 (encSs body))]), (3, .box [.c (.sl 1 (encNs ls)), .c (.sl 2 (encPr os)), .c (.sl 2 (encLs is)), .c (.sl 2 (encLs hts)), .c (iC (m0 : Int)), .c (bC tm)]), (5, .box [.c (bC B1), .c (.sl 1 (encIs (fltF EV 0 EL))), .c (iC time1), .c (.sl 1 (encIs F1))]), (12, .box [.c (.sl 1 NR), .c (.sl 1 R)]), (900001, .row 3 1 (encIs (fltF EV 0 (EL.take x))))]) (fun (x : Nat) => x ≤ SZ) (fun (x : Nat) => SZ - x) (0 : Nat) (Nat.zero_le _) ?_ ?_)
         · exact le_mkA (fun n => n) [900001]
         rintro k hk
         simp only [upS, keepS, insS]
         try simp only [keepS, KN, Nat.reduceBEq, if_true, if_false, ins, Nat.reduceLT]
         refine HT_seq <| HT_runA ?_
         refine HT_seq <| (HT_cond rfl (fun h22 => HT_skip ?_) (fun h22 => ?_))
         · try simp only [BN] at h22
           have hlt : k < SZ := by omega
           obtain ⟨s, st, pc, e1, e2, e3, e4, e5, e6, e7, e8, e9⟩ := hff k hlt
           have cfk := cfd (k : Int) s (by omega) (by omega) (hfs k hlt s e2)
           have hw1 := wrap1 hlt (by omega)
           have hk1 : k + 1 ≤ SZ := hlt
           have htk := fltF_take (e := EV) e1
           have htkl : (fltF EV 0 (EL.take k)).length ≤ k := by
            have := fltF_len EV (EL.take k) 0
            rw [List.length_take] at this
            omega
           have e3' := get_encLL e3
           obtain ⟨DO, hDO⟩ : ∃ b, decide (s.do_ = 1) = b := ⟨_, rfl⟩
           obtain ⟨AN, hAN⟩ : ∃ b, ((lvF s.term st pc vars.length).any fun x => !M x.toNat (m0 : Int).toNat) = b := ⟨_, rfl⟩
           rw [hDO, hAN] at e9
           rw [e9] at htk
           have hlv := fun j => lvF_len s.term st pc j
           have hlok : ∀ j : Nat, ∀ x ∈ lvF s.term st pc j, okI n x := fun j x hx => by
            unfold lvF at hx
            rcases List.mem_cons.1 hx with rfl | hx
            · exact e5
            · obtain ⟨v, _, rfl⟩ := List.mem_map.1 hx
              exact get_ok2 (by omega) e6 v
           have hmen := fun (v : Nat) (d : Nat) => men_con (v : Int) s.term (by
            obtain ⟨sd, sc, sv, sn, t, sa, sb, sbs⟩ := s
            simp only [St.nodes, St.term] at *
            omega) d
           obtain ⟨rd, rc, rv, rn, ⟨ro, rtn, rks⟩, ra, rb, rbs⟩ := s
           simp only [aS, St.enc, Tm.enc, List.map_cons, List.map_nil, List.cons_append, List.nil_append] at cfk
           simp only [St.term, aT, Tm.enc, List.map_cons, List.map_nil] at hmen hlv hlok hAN
           have hlvs := fun j => lvF_succ (.mk ro rtn rks) st pc j
           have hDO : decide (rd = 1) = DO := hDO
           obtain ⟨FK, hFK⟩ : ∃ x, fltF EV 0 (EL.take k) = x := ⟨_, rfl⟩
           rw [hFK] at htk htkl ⊢
           clear hlt h22 hff cfd hfs e1 e2 e3 e8 e9 hFK csz cL
           refine HT_seq <| HT_block <| HT_seq <| HT_runA ?_
           refine HT_seq <| (HT_runcA [⟨false, .tup [.agg [.c (iC rd), .c (iC rc), .c (iC rv), .c (iC rn), .c (iC ro), .c (iC rtn), .c (.sl 3 (encTs rks)), .c (.sl 10 (encSs ra)), .c (.sl 10 (encSs rb)), .c (.sl 1 (encIs rbs))], lb true], none⟩] ?_ ?_)
           · first | exact cfk _ | exact trivial | simpa [*] using cfk _
           refine HT_seq <| HT_seq <| HT_runA ?_
           refine (HT_cond rfl (fun h26 => ?_) (fun h26 => HT_skip ?_))
           · try simp only [BN] at h26
             have hd : DO = false := by simpa using h26
             subst hd
             rw [if_neg (by simp), List.append_nil] at htk
             clear hDO hAN
             refine (HT_exit ?_)
             refine HT_runA ?_
             exact ⟨k + 1, hk1, by omega, le_mkA (fun n => n) []⟩
           · try simp only [BN] at h26
             have hd : DO = true := by simpa using h26
             subst hd
             have he1 : rd = 1 := by simpa using hDO
             clear hDO h26
             subst he1
             have hroom1 : room 1 8 := room_of (by decide) (by decide)
             have hz : lvF (.mk ro rtn rks) st pc 0 = [pc] := rfl
             clear cfk
             refine HT_seq <| HT_runA ?_
             refine HT_seq <| HT_seq <| HT_runA ?_
             refine HT_block <| (HT_loopU [2, 3, 5, 7, 9, 12, 13, 14, 15, 78, 79, 99] (fun (y : Nat) => [(17, .v (.one (.own 900002))), (100, .v (li y))]) (fun (y : Nat) => [(2, .box [.c (.sl 5 (encVs vars)), .c (.sl 6 (encHs hats)), .c (.sl 10 (encSs body))]), (3, .box [.c (.sl 1 (encNs ls)), .c (.sl 2 (encPr os)), .c (.sl 2 (encLs is)), .c (.sl 2 (encLs hts)), .c (iC (m0 : Int)), .c (bC tm)]), (5, .box [.c (bC B1), .c (.sl 1 (encIs (fltF EV 0 EL))), .c (iC time1), .c (.sl 1 (encIs F1))]), (12, .box [.c (.sl 1 NR), .c (.sl 1 R)]), (15, .box [.c (iC 1), .c (iC rc), .c (iC rv), .c (iC rn), .c (iC ro), .c (iC rtn), .c (.sl 3 (encTs rks)), .c (.sl 10 (encSs ra)), .c (.sl 10 (encSs rb)), .c (.sl 1 (encIs rbs))]), (900001, .row 3 1 (encIs FK)), (900002, .row 3 1 (encIs (lvF (.mk ro rtn rks) st pc y)))]) (fun (y : Nat) => y ≤ vars.length) (fun (y : Nat) => vars.length - y) (0 : Nat) (Nat.zero_le _) ?_ ?_)
             · exact le_mkA (fun n => if n = 900002 then 96 else n) []
             rintro v hv
             simp only [upS, keepS, insS]
             try simp only [keepS, KN, Nat.reduceBEq, if_true, if_false, ins, Nat.reduceLT]
             refine HT_seq <| HT_runA ?_
             refine HT_seq <| (HT_cond rfl (fun h33 => HT_skip ?_) (fun h33 => ?_))
             · try simp only [BN] at h33
               have hlt : v < vars.length := by omega
               have hwv := wrap1 hlt (by omega)
               have hv1 : v + 1 ≤ vars.length := hlt
               obtain ⟨y, hy⟩ : ∃ y, st[v]? = some y := ⟨_, List.getElem?_eq_getElem (by omega)⟩
               have hs1 := hlvs v
               have hl1 := hlv v
               rw [hy, Option.getD_some] at hs1
               have hm1 := hmen v
               obtain ⟨LVk, hLV⟩ : ∃ x, lvF (.mk ro rtn rks) st pc v = x := ⟨_, rfl⟩
               rw [hLV] at hs1 hl1 ⊢
               obtain ⟨MB, hMB⟩ : ∃ x, menI (.mk ro rtn rks) (v : Int) = x := ⟨_, rfl⟩
               rw [hMB] at hm1 hs1
               have hroom : room (LVk.length + 1) 8 := room_of (by omega) (by omega)
               clear hlt h33 hlv hlvs hmen hLV hMB hz
               refine HT_seq <| HT_block <| HT_seq <| HT_runA ?_
               refine HT_seq <| (HT_runcA [⟨true, .v (lb MB), none⟩] ?_ ?_)
               · first | exact hm1 _ | exact trivial | simpa [*] using hm1 _
               refine (HT_cond rfl (fun h36 => ?_) (fun h36 => HT_skip ?_))
               · try simp only [BN] at h36
                 have hmb : MB = true := h36
                 rw [if_pos hmb] at hs1
                 have hsn : encIs (lvF (.mk ro rtn rks) st pc (v + 1)) = encIs LVk ++ [[iC y]] := by rw [hs1]; simp [encIs]
                 refine HT_seq <| HT_seq <| (HT_drun (by kernel_rfl) (by kernel_rfl) (by rfl) (by simp [*]; rfl) ?_)
                 refine (HT_cond rfl (fun h38 => ?_) (fun h38 => HT_skip ?_))
                 · exact absurd h38 (by simp [e7])
                 · try simp only [BN] at h38
                   refine HT_runA ?_
                   refine HT_runA ?_
                   exact ⟨v + 1, hv1, by omega, le_mkA (fun n => if n = 900002 then 125 else n) []⟩
               · try simp only [BN] at h36
                 have hmb : MB = false := by simpa using h36
                 rw [if_neg (by rw [hmb]; decide), List.append_nil] at hs1
                 refine HT_runA ?_
                 exact ⟨v + 1, hv1, by omega, le_mkA (fun n => n) []⟩
             · try simp only [BN] at h33
               have hve : v = vars.length := by omega
               subst hve
               have hl1 := hlv vars.length
               have hok1 := hlok vars.length
               obtain ⟨LVk, hLV⟩ : ∃ x, lvF (.mk ro rtn rks) st pc vars.length = x := ⟨_, rfl⟩
               rw [hLV] at hl1 hok1 hAN ⊢
               clear h33 hlv hlvs hmen hLV hlok hz hv
               refine (HT_exit ?_)
               refine HT_seq <| HT_runA ?_
               refine HT_block <| (HT_loopU [2, 3, 5, 7, 9, 12, 14, 78, 79, 127, 128] (fun (y : Nat) => [(13, .v (.one (.own 900001))), (129, .v (li y))]) (fun (y : Nat) => [(2, .box [.c (.sl 5 (encVs vars)), .c (.sl 6 (encHs hats)), .c (.sl 10 (encSs body))]), (3, .box [.c (.sl 1 (encNs ls)), .c (.sl 2 (encPr os)), .c (.sl 2 (encLs is)), .c (.sl 2 (encLs hts)), .c (iC (m0 : Int)), .c (bC tm)]), (5, .box [.c (bC B1), .c (.sl 1 (encIs (fltF EV 0 EL))), .c (iC time1), .c (.sl 1 (encIs F1))]), (12, .box [.c (.sl 1 NR), .c (.sl 1 R)]), (900001, .row 3 1 (encIs FK)), (900002, .row 3 1 (encIs LVk))]) (fun (y : Nat) => y ≤ LVk.length ∧ ∀ z ∈ LVk.take y, M z.toNat m0 = true) (fun (y : Nat) => LVk.length - y) (0 : Nat) ⟨Nat.zero_le _, by simp⟩ ?_ ?_)
               · exact le_mkA (fun n => n) []
               rintro q ⟨hq, hall⟩
               simp only [upS, keepS, insS]
               try simp only [keepS, KN, Nat.reduceBEq, if_true, if_false, ins, Nat.reduceLT]
               refine HT_seq <| HT_runA ?_
               refine HT_seq <| (HT_cond rfl (fun h49 => HT_skip ?_) (fun h49 => ?_))
               · try simp only [BN] at h49
                 have hlt : q < LVk.length := by omega
                 obtain ⟨z, hz, hzd⟩ := at_lt hlt
                 have hwq := wrap1 hlt (by omega)
                 have hq1 : q + 1 ≤ LVk.length := hlt
                 obtain ⟨zz, rfl, hzz⟩ := okI_nat (hok1 z (List.mem_of_getElem? hz))
                 have hrz := hrow zz hzz
                 have hS := Lt.rowB_get (M := M) (a := zz) hm0
                 obtain ⟨S, hSS⟩ : ∃ x, Lt.rowB n M zz = x := ⟨_, rfl⟩
                 rw [hSS] at hrz hS
                 have ci := cin (zz : Int)
                 rw [show Lt.inB n (zz : Int) = true by simp [Lt.inB, hzz]] at ci
                 obtain ⟨bb, hbb⟩ : ∃ x, M zz m0 = x := ⟨_, rfl⟩
                 rw [hbb] at hS
                 have hroom : room (FK.length + 1) 8 := room_of (by omega) (by omega)
                 clear hlt h49 hzd hSS hrow cin
                 refine HT_seq <| HT_block <| HT_seq <| HT_runA ?_
                 refine HT_seq <| HT_seq <| (HT_runcA [⟨true, .v (lb true), none⟩] ?_ ?_)
                 · first | exact ci _ | exact trivial | simpa [*] using ci _
                 refine (HT_cond rfl (fun h52 => ?_) (fun h52 => HT_skip ?_))
                 · exact absurd h52 (by simp)
                 · try simp only [BN] at h52
                   refine HT_seq <| (HT_drun (by kernel_rfl) (by kernel_rfl) (by rfl) (by simp [*]; rfl) ?_)
                   refine (HT_cond rfl (fun h56 => ?_) (fun h56 => HT_skip ?_))
                   · try simp only [BN] at h56
                     have hbf : bb = false := by simpa using h56
                     have han : AN = true := by
                      rw [← hAN]
                      exact List.any_eq_true.2 ⟨(zz : Int), List.mem_of_getElem? hz, by rw [Int.toNat_natCast, Int.toNat_natCast, hbb, hbf]; rfl⟩
                     rw [if_pos (by rw [han]; rfl)] at htk
                     have hsn : encIs (fltF EV 0 (EL.take (k + 1))) = encIs FK ++ [[iC (k : Int)]] := by rw [htk]; simp [encIs]
                     refine HT_seq <| HT_runA ?_
                     refine (HT_exit ?_)
                     refine HT_runA ?_
                     exact ⟨k + 1, hk1, by omega, le_mkA (fun n => if n = 900001 then 150 else n) []⟩
                   · try simp only [BN] at h56
                     have hbt : bb = true := by simpa using h56
                     have hall2 : ∀ x ∈ LVk.take (q + 1), M x.toNat m0 = true := by
                      intro x hx
                      rw [List.take_add_one, hz] at hx
                      rcases List.mem_append.1 hx with hx | hx
                      · exact hall x hx
                      · simp only [Option.toList_some, List.mem_singleton] at hx
                        subst hx
                        rw [Int.toNat_natCast, hbb, hbt]
                     refine HT_runA ?_
                     exact ⟨q + 1, ⟨hq1, hall2⟩, by omega, le_mkA (fun n => n) []⟩
               · try simp only [BN] at h49
                 have hqe : q = LVk.length := by omega
                 subst hqe
                 rw [List.take_length] at hall
                 have han : AN = false := by
                  rw [← hAN, List.any_eq_false]
                  intro x hx
                  rw [Int.toNat_natCast, hall x hx]
                  decide
                 rw [if_neg (by rw [han]; decide), List.append_nil] at htk
                 clear h49 hall
                 refine (HT_exit ?_)
                 refine HT_runA ?_
                 exact ⟨k + 1, hk1, by omega, le_mkA (fun n => n) []⟩
         · try simp only [BN] at h22
           have hke : k = SZ := by omega
           subst hke
           rw [List.take_of_length_le (by omega)]
           have hfl := fltF_len EV EL 0
           have he := eqSl_con (fltF EV 0 EL) (fltF EV 0 EL) (by omega) (by omega)
           rw [decide_eq_true rfl] at he
           clear hff cfd hfs csz cL
           refine (HT_exit ?_)
           refine HT_seq <| (HT_runcA [⟨true, .v (lb true), none⟩] ?_ ?_)
           · first | exact he _ | exact trivial | simpa [*] using he _
           exact HT_retA fun h => ⟨.inr rfl, h⟩
   · subst hfp
     refine HT_seq <| HT_seq <| (HT_runcS [some ⟨true, .v (lb false), none⟩, none] (by simp [*]; first | exact ⟨rfl, Iff.rfl⟩ | exact ⟨rfl, trivial⟩ | rfl) ?_ ?_)
     · first | exact trivial | exact cf _ | simpa using cf _
     refine (HT_cond rfl (fun h6 => ?_) (fun h6 => HT_skip ?_))
     · try simp only [BN] at h6
       refine HT_seq <| HT_runA ?_
       exact HT_retA fun h => ⟨.inr rfl, h⟩
     · exact absurd h6 (by simp)
end Go.Proofs.YtfjidddhehckoaaGreat
