/- Part 9: contracts of functions of the program and of the reference, and plain facts about what they compute; used by the proof of the claimed statement. Conditions: as each theorem states. -/
import Derived.Test.YteekbhkjfaegiaaGreatT8
import Derived.Test.YteekbhkjfaegiaaGreatT6
import Derived.Test.YteekbhkjfaegiaaGreatT7
set_option linter.unusedSimpArgs false
set_option linter.unusedVariables false
set_option linter.unnecessarySimpa false
set_option maxRecDepth 100000
set_option maxHeartbeats 2000000
namespace Go.Proofs.YteekbhkjfaegiaaGreat
open Go Go.Hl

theorem local_get {vars : List Vr} {v : Int} (h : localB vars v = true) : 0 ≤ v ∧ ∃ w, vars[v.toNat]? = some w := by
  unfold localB at h
  simp only [Bool.and_eq_true, decide_eq_true_eq] at h
  refine ⟨h.1, ?_⟩
  have h2 := h.2
  split at h2
  · exact ⟨_, by assumption⟩
  · cases h2
theorem stepsRun_con (f : Fl) (hv : List Int) (hl : f.vars.length ≤ 1000000) (hhv : hv.length = f.hats.length) (l : List St) : nodesS l ≤ 1000000 → wfL f.vars f.hats.length l = true → ∀ s : Sta, s.vals.length = f.vars.length → s.outs.length + oUL l ≤ 2000000 → ∀ d : Nat,
    Con Tryz.prog 95 false [aF f, lI hv, lS l, aSt s] (.v (aSt (stepsF f.vars hv l s))) none d := by
  revert l
  apply St.lists
  intro l ih hn hwf s hs ho d
  have hlen := len_nodesS l
  have crnd := rounds_con f hv
  have cset := fun vs v n w h1 h2 h3 => set_con f vs v n w h1 hl h2 h3
  obtain ⟨res, hres⟩ : ∃ r, stepsF f.vars hv l s = r := ⟨_, rfl⟩
  rw [hres]
  have hval := fun (t : Tm) (vs : List Int) (h : vs.length = f.vars.length) (hf : formB f.vars false t = true) => value_con f.vars false vs h t hf
  obtain ⟨vars, hats, body⟩ := f
  simp only at hl hhv hwf hs ih crnd cset hres hval
  obtain ⟨sv, so, stm⟩ := s
  simp only at hs ho
  refine con_of_HT Tryz.func95 rfl (by kernel_rfl) (Nat.le_of_ble_eq_true rfl) ?_
  simp only [Tryz.f95]
  simp only [aF, Fl.enc, aSt, List.map_cons, List.map_nil]
  refine HT_seq <| HT_runA ?_
  refine HT_seq <| HT_seq <| HT_runA ?_
  refine HT_block <| (HT_loopU [1, 2, 4, 7, 8] (fun (x : Nat × Sta) => [(9, .v (li x.1))]) (fun (x : Nat × Sta) => [(4, .box [.c (.sl 5 (encVs vars)), .c (.sl 6 (encHs hats)), .c (.sl 10 (encSs body))]), (7, .box [.c (.sl 1 (encIs x.2.vals)), .c (.sl 1 (encIs x.2.outs)), .c (iC x.2.time)]), (8, .box [.c (.lit nilS), .c (.lit nilS), .c (iC 0)])]) (fun (x : Nat × Sta) => x.1 ≤ l.length ∧ stepsF vars hv (l.drop x.1) x.2 = res ∧ x.2.vals.length = vars.length ∧ x.2.outs.length + oUL (l.drop x.1) ≤ 2000000) (fun (x : Nat × Sta) => l.length - x.1) (0, ⟨sv, so, stm⟩) ⟨Nat.zero_le _, hres, hs, by simpa using ho⟩ ?_ ?_)
  · exact le_mk (fun n => n) [] rfl (by simp [*, upS, keepS]) (by simp [*, upS]) (by simp [upS])
  rintro ⟨k, ⟨xv, xo, xt⟩⟩ ⟨hk, hJ, hxl, hxo⟩
  simp only [upS, keepS, insS]
  try simp only [keepS, KN, Nat.reduceBEq, if_true, if_false, ins, Nat.reduceLT]
  simp only at hk hJ hxl hxo
  clear hres hs ho
  refine HT_seq <| HT_seq <| HT_runA ?_
  refine (HT_cond rfl (fun h4 => HT_skip ?_) (fun h4 => ?_))
  · try simp only [BN] at h4
    have hlt : k < l.length := by omega
    obtain ⟨s, he, hd⟩ := at_lt hlt
    have hw1 := wrap1 hlt (by omega)
    have hk1 : k + 1 ≤ l.length := hlt
    have hmem : s ∈ l := List.mem_of_getElem? he
    have hnm := nodesS_mem hmem
    have hwm := wfL_mem hwf hmem
    have iha := (ih s hmem).1 (by omega)
    have ihb := (ih s hmem).2 (by omega)
    have he' := get_encS he
    rw [hd] at hJ hxo
    obtain ⟨sd, sc, sv, sn, t, sa, sb, sbs⟩ := s
    simp only [St.then_, St.else_] at iha ihb
    simp only [wfS, Bool.and_eq_true, Bool.or_eq_true, decide_eq_true_eq] at hwm
    obtain ⟨wt, wl, wn, w4, wb, wa, wbb⟩ := hwm
    have iha := iha wa
    have ihb := ihb wbb
    simp only [oUL, oUS] at hxo
    simp only [stepsF] at hJ
    have hval := fun vs h => hval t vs h wt
    obtain ⟨so, stn, sks⟩ := t
    simp only [St.enc, Tm.enc, List.cons_append, List.nil_append] at he'
    simp only [aF, Fl.enc, aT, Tm.enc, aSt, List.map_cons, List.map_nil] at iha ihb hval cset
    have hla := steps_len vars hv sa
    have hlb := steps_len vars hv sb
    clear hlt h4 ih hmem hnm hd he
    refine HT_seq <| HT_block <| HT_seq <| HT_runA ?_
    refine HT_seq <| HT_seq <| HT_runA ?_
    refine (HT_cond rfl (fun h7 => ?_) (fun h7 => HT_skip ?_))
    · try simp only [BN] at h7
      have hd4 : sd = 4 := by simpa using h7
      subst hd4
      rw [if_pos rfl] at hxo hJ
      have iha' := fun (s : Sta) (h1 : s.vals.length = vars.length) (h2 : s.outs.length + oUL sa ≤ 2000000) => iha s h1 h2
      have cr := crnd 4 sc sv sn (.mk so stn sks) sa sb sbs wt (by omega) iha' ⟨xv, xo, xt⟩ hxl (by simp only; omega)
      have hrl := rnd_len (c := sc) (t := .mk so stn sks) hla sn.toNat ⟨xv, xo, xt⟩
      simp only at hrl
      obtain ⟨⟨rv, ro, rt⟩, hR⟩ : ∃ x, rndF sc (.mk so stn sks) (stepsF vars hv sa) sn.toNat ⟨xv, xo, xt⟩ = x := ⟨_, rfl⟩
      rw [hR] at cr hrl hJ
      simp only at cr hrl
      simp only [aF, Fl.enc, aS, St.enc, Tm.enc, aSt, List.map_cons, List.map_nil, List.cons_append, List.nil_append] at cr
      clear iha ihb iha' hval cset crnd hla hlb hR
      refine HT_seq <| (HT_runc [⟨false, .v (.agg [.c (.sl 1 (encIs rv)), .c (.sl 1 (encIs ro)), .c (iC rt)]), none⟩] (by simp [*]; first | exact ⟨rfl, Iff.rfl⟩ | exact ⟨rfl, trivial⟩ | rfl) ?_ ?_)
      · first | exact cr _ | exact trivial | simpa [*] using cr _
      refine (HT_exit ?_)
      refine HT_runA ?_
      exact ⟨(k + 1, ⟨rv, ro, rt⟩), ⟨hk1, hJ, by simp only; omega, by simp only; omega⟩, by simp only; omega, le_mk (fun n => n) [] rfl (by simp [upS, keepS, *]) (by simp [*, upS]) (by simp [upS])⟩
    · try simp only [BN] at h7
      have hd4 : ¬ sd = 4 := by simpa using h7
      rw [if_neg hd4] at hxo hJ
      simp only [tick, wr] at hJ
      obtain ⟨T, hT⟩ : ∃ x, IntKind.i64.wrap (xt + sc) = x := ⟨_, rfl⟩
      rw [hT] at hJ
      have hval := hval xv hxl
      obtain ⟨A, hA⟩ : ∃ x, vT xv (.mk so stn sks) = x := ⟨_, rfl⟩
      unfold leafF at hJ
      simp only at hJ
      rw [hA] at hval hJ
      have hxo1 : xo.length ≤ 2000000 := by omega
      have hroom0 : room xo.length 8 := room_of (by omega) (by omega)
      have hroom1 : room (xo.length + 1) 8 := room_of (by omega) (by omega)
      have hroom2 : room 1 8 := room_of (by decide) (by decide)
      clear h7 crnd hA
      refine HT_seq <| HT_runA ?_
      refine HT_seq <| HT_runA ?_
      refine HT_block <| HT_seq <| HT_runA ?_
      refine (HT_cond rfl (fun h14 => ?_) (fun h14 => ?_))
      · try simp only [BN] at h14
        have hd0 : sd = 0 := by simpa using h14
        subst hd0
        rw [if_neg (by decide), if_pos rfl] at hJ
        have wl := wl.resolve_left (by decide)
        obtain ⟨hv0, w, hw⟩ := local_get wl
        have cs := cset xv sv A w hxl hv0 hw
        have hsl := setV_len vars xv sv A
        unfold setV at hJ hsl
        rw [hw] at hJ hsl
        simp only at hJ hsl
        obtain ⟨R, hR⟩ : ∃ x, xv.set sv.toNat (heldI A w.low w.high) = x := ⟨_, rfl⟩
        rw [hR] at cs hJ hsl
        clear cset hR hw iha ihb hla hlb
        refine (HT_drunc [⟨true, .v (li A), none⟩, ⟨false, .v (lI R), none⟩] (by kernel_rfl) (by kernel_rfl) (by rfl) (by simp [*]; first | exact ⟨rfl, Iff.rfl⟩ | exact ⟨rfl, trivial⟩ | rfl) ?_ ?_)
        · first | exact ⟨hval _, cs _⟩ | exact trivial | (repeat' first | exact trivial | exact hval _ | exact cs _ | apply And.intro)
        refine HT_runA ?_
        exact ⟨(k + 1, ⟨R, xo, T⟩), ⟨hk1, hJ, by simp only; omega, by simp only; omega⟩, by simp only; omega, le_mk (fun n => n) [] rfl (by simp [upS, keepS, *]) (by simp [*, upS]) (by simp [upS])⟩
      · try simp only [BN] at h14
        have hd0 : ¬ sd = 0 := by simpa using h14
        rw [if_neg hd0] at hJ
        refine HT_seq <| HT_runA ?_
        refine (HT_cond rfl (fun h19 => ?_) (fun h19 => ?_))
        · try simp only [BN] at h19
          have hd1 : sd = 1 := by simpa using h19
          subst hd1
          rw [if_neg (by decide), if_pos rfl] at hJ
          rw [if_neg (by decide), if_pos rfl] at hxo
          clear cset iha ihb hla hlb
          refine (HT_druncH [(54, 7), (57, 7), (59, 10), (64, 7)] [⟨true, .v (li A), none⟩] (by kernel_rfl) (by kernel_rfl) (by rfl) (by simp [evcH, hokB, hintOf, *]; first | exact ⟨rfl, Iff.rfl⟩ | exact ⟨rfl, trivial⟩ | rfl) ?_ ?_)
          · first | exact hval _ | exact trivial | simpa [*] using hval _
          refine HT_le (le_frz 63 rfl) ?_
          refine HT_runA ?_
          exact ⟨(k + 1, ⟨xv, xo ++ [A], T⟩), ⟨hk1, hJ, hxl, by simp only [List.length_append, List.length_singleton]; omega⟩, by simp only; omega, le_mk (fun n => n) [] rfl (by simp [upS, keepS, *]) (by simp [*, upS]) (by simp [upS])⟩
        · try simp only [BN] at h19
          have hd1 : ¬ sd = 1 := by simpa using h19
          rw [if_neg hd1] at hJ
          refine HT_seq <| HT_runA ?_
          refine (HT_cond rfl (fun h24 => ?_) (fun h24 => ?_))
          · try simp only [BN] at h24
            have hd5 : sd = 5 := by simpa using h24
            subst hd5
            rw [if_neg (by decide), if_pos rfl] at hJ
            have wl := wl.resolve_left (by decide)
            have wn := wn.resolve_left (by decide)
            obtain ⟨hv0, w, hw⟩ := local_get wl
            have hnlt : sn.toNat < hv.length := by omega
            have hn0 : 0 ≤ sn := wn.1
            obtain ⟨y, hy⟩ := get_I hnlt
            rw [hy] at hJ
            simp only [Option.getD_some] at hJ
            have cs := cset xv sv y w hxl hv0 hw
            have hsl := setV_len vars xv sv y
            unfold setV at hJ hsl
            rw [hw] at hJ hsl
            simp only at hJ hsl
            obtain ⟨R, hR⟩ : ∃ x, xv.set sv.toNat (heldI y w.low w.high) = x := ⟨_, rfl⟩
            rw [hR] at cs hJ hsl
            clear cset hR hw hnlt hhv iha ihb hla hlb
            refine (HT_drunc [⟨false, .v (lI R), none⟩] (by kernel_rfl) (by kernel_rfl) (by rfl) (by simp [*]; first | exact ⟨rfl, Iff.rfl⟩ | exact ⟨rfl, trivial⟩ | rfl) ?_ ?_)
            · first | exact cs _ | exact trivial | simpa [*] using cs _
            refine HT_runA ?_
            exact ⟨(k + 1, ⟨R, xo, T⟩), ⟨hk1, hJ, by simp only; omega, by simp only; omega⟩, by simp only; omega, le_mk (fun n => n) [] rfl (by simp [upS, keepS, *]) (by simp [*, upS]) (by simp [upS])⟩
          · try simp only [BN] at h24
            have hd5 : ¬ sd = 5 := by simpa using h24
            rw [if_neg hd5] at hJ
            refine HT_seq <| HT_runA ?_
            refine (HT_cond rfl (fun h29 => ?_) (fun h29 => ?_))
            · try simp only [BN] at h29
              have hd3 : sd = 3 := by simpa using h29
              subst hd3
              rw [if_pos rfl] at hJ hxo
              have ca := iha ⟨xv, xo, T⟩ hxl (by simp only; omega)
              have cb := ihb ⟨xv, xo, T⟩ hxl (by simp only; omega)
              have hla := hla ⟨xv, xo, T⟩
              have hlb := hlb ⟨xv, xo, T⟩
              obtain ⟨⟨av, ao, at_⟩, hAA⟩ : ∃ x, stepsF vars hv sa ⟨xv, xo, T⟩ = x := ⟨_, rfl⟩
              obtain ⟨⟨bv, bo, bt⟩, hBB⟩ : ∃ x, stepsF vars hv sb ⟨xv, xo, T⟩ = x := ⟨_, rfl⟩
              rw [hAA] at ca hla hJ
              rw [hBB] at cb hlb hJ
              simp only at ca cb hla hlb
              clear iha ihb hAA hBB cset
              refine HT_seq <| (HT_runc [⟨true, .v (li A), none⟩] (by simp [*]; first | exact ⟨rfl, Iff.rfl⟩ | exact ⟨rfl, trivial⟩ | rfl) ?_ ?_)
              · first | exact hval _ | exact trivial | simpa [*] using hval _
              refine (HT_cond rfl (fun h31 => ?_) (fun h31 => ?_))
              · try simp only [BN] at h31
                rw [if_neg (by simpa using h31)] at hJ
                refine (HT_runc [⟨false, .v (.agg [.c (.sl 1 (encIs av)), .c (.sl 1 (encIs ao)), .c (iC at_)]), none⟩] (by simp [*]; first | exact ⟨rfl, Iff.rfl⟩ | exact ⟨rfl, trivial⟩ | rfl) ?_ ?_)
                · first | exact ca _ | exact trivial | simpa [*] using ca _
                refine HT_runA ?_
                exact ⟨(k + 1, ⟨av, ao, at_⟩), ⟨hk1, hJ, by simp only; omega, by simp only; omega⟩, by simp only; omega, le_mk (fun n => n) [] rfl (by simp [upS, keepS, *]) (by simp [*, upS]) (by simp [upS])⟩
              · try simp only [BN] at h31
                rw [if_pos (by simpa using h31)] at hJ
                refine (HT_runc [⟨false, .v (.agg [.c (.sl 1 (encIs bv)), .c (.sl 1 (encIs bo)), .c (iC bt)]), none⟩] (by simp [*]; first | exact ⟨rfl, Iff.rfl⟩ | exact ⟨rfl, trivial⟩ | rfl) ?_ ?_)
                · first | exact cb _ | exact trivial | simpa [*] using cb _
                refine HT_runA ?_
                exact ⟨(k + 1, ⟨bv, bo, bt⟩), ⟨hk1, hJ, by simp only; omega, by simp only; omega⟩, by simp only; omega, le_mk (fun n => n) [] rfl (by simp [upS, keepS, *]) (by simp [*, upS]) (by simp [upS])⟩
            · try simp only [BN] at h29
              have hd3 : ¬ sd = 3 := by simpa using h29
              rw [if_neg hd3] at hJ
              clear iha ihb cset hla hlb
              refine HT_seq <| HT_runA ?_
              refine (HT_cond rfl (fun h39 => ?_) (fun h39 => HT_skip ?_))
              · try simp only [BN] at h39
                have hd6 : sd = 6 := by simpa using h39
                subst hd6
                rw [if_pos rfl] at hJ
                have cse := settled_con sbs T wb
                obtain ⟨R, hR⟩ : ∃ x, stlL sbs T T false = x := ⟨_, rfl⟩
                rw [hR] at cse hJ
                clear hR
                refine (HT_runc [⟨true, .v (li R), none⟩] (by simp [*]; first | exact ⟨rfl, Iff.rfl⟩ | exact ⟨rfl, trivial⟩ | rfl) ?_ ?_)
                · first | exact cse _ | exact trivial | simpa [*] using cse _
                refine HT_runA ?_
                exact ⟨(k + 1, ⟨xv, xo, R⟩), ⟨hk1, hJ, hxl, by simp only; omega⟩, by simp only; omega, le_mk (fun n => n) [] rfl (by simp [upS, keepS, *]) (by simp [*, upS]) (by simp [upS])⟩
              · try simp only [BN] at h39
                have hd6 : ¬ sd = 6 := by simpa using h39
                rw [if_neg hd6] at hJ
                refine HT_runA ?_
                exact ⟨(k + 1, ⟨xv, xo, T⟩), ⟨hk1, hJ, hxl, by simp only; omega⟩, by simp only; omega, le_mk (fun n => n) [] rfl (by simp [upS, keepS, *]) (by simp [*, upS]) (by simp [upS])⟩
  · try simp only [BN] at h4
    have hkl : k = l.length := by omega
    rw [hkl, List.drop_length] at hJ
    simp only [stepsF] at hJ
    subst hJ
    refine (HT_exit ?_)
    refine HT_seq <| HT_runA ?_
    exact HT_ret ⟨.inr rfl, _, le_refl _, ⟨⟨_, by simp; rfl, by simp [resR]⟩, by simp, fun h => by cases h⟩⟩
end Go.Proofs.YteekbhkjfaegiaaGreat

namespace Go.Proofs.YteekbhkjfaegiaaGreat
open Go Go.Hl

/-! ## the machine runs -/
theorem settledP_con (bs : List Int) (t : Int) (hl : bs.length ≤ 1000000000) (d : Nat) : Con Tryz.prog 114 true [lI bs, li t] (.v (li (stlL bs t t false))) none d := by
  obtain ⟨res, hres⟩ : ∃ r, stlL bs t t false = r := ⟨_, rfl⟩
  rw [hres]
  refine con_of_HT Tryz.func114 rfl (by kernel_rfl) (Nat.le_of_ble_eq_true rfl) ?_
  simp only [Tryz.f114]
  refine HT_seq <| HT_runA ?_
  refine HT_seq <| HT_runA ?_
  refine HT_seq <| HT_seq <| HT_runA ?_
  refine HT_block <| (HT_loopU [1, 10, 11] (fun (x : Nat × Int × Bool) => [(5, .v (li x.2.1)), (6, .v (lb x.2.2)), (12, .v (li x.1))]) (fun (x : Nat × Int × Bool) => []) (fun (x : Nat × Int × Bool) => x.1 ≤ bs.length ∧ stlL (bs.drop x.1) t x.2.1 x.2.2 = res) (fun (x : Nat × Int × Bool) => bs.length - x.1) (0, t, false) ⟨Nat.zero_le _, hres⟩ ?_ ?_)
  · exact le_mk (fun n => n) [] rfl (by simp [*, upS, keepS]) (by simp [*, upS]) (by simp [upS])
  rintro ⟨k, best, found⟩ ⟨hk, hJ⟩
  simp only [upS, keepS, insS]
  try simp only [keepS, KN, Nat.reduceBEq, if_true, if_false, ins, Nat.reduceLT]
  simp only at hk hJ
  clear hres
  refine HT_seq <| HT_runA ?_
  refine HT_seq <| (HT_cond rfl (fun h5 => HT_skip ?_) (fun h5 => ?_))
  · try simp only [BN] at h5
    have hlt : k < bs.length := by omega
    obtain ⟨b, he, hd⟩ := at_lt hlt
    have hw1 := wrap1 hlt (by omega)
    have hk1 : k + 1 ≤ bs.length := hlt
    rw [hd] at hJ
    simp only [stlL] at hJ
    clear hlt h5 hd
    refine HT_seq <| HT_block <| HT_seq <| HT_runA ?_
    refine HT_seq <| HT_runA ?_
    refine (HT_cond rfl (fun h8 => ?_) (fun h8 => HT_skip ?_))
    · try simp only [BN] at h8
      rw [if_pos (by simpa using h8)] at hJ
      refine HT_runA ?_
      refine HT_runA ?_
      exact ⟨(k + 1, b, true), ⟨hk1, hJ⟩, by simp only; omega, le_mk (fun n => n) [] rfl (by simp [upS, keepS, *]) (by simp [*, upS]) (by simp [upS])⟩
    · try simp only [BN] at h8
      have h8' : b < t ∨ found = true ∧ best ≤ b := by simpa using h8
      rw [if_neg (by
          rintro ⟨ha, hb⟩
          rcases h8' with h | h
          · omega
          · rcases hb with hb | hb
            · rw [hb] at h; exact absurd h.1 (by decide)
            · omega)] at hJ
      clear h8'
      refine HT_runA ?_
      exact ⟨(k + 1, best, found), ⟨hk1, hJ⟩, by simp only; omega, le_mk (fun n => n) [] rfl (by simp [upS, keepS, *]) (by simp [*, upS]) (by simp [upS])⟩
  · try simp only [BN] at h5
    have hkl : k = bs.length := by omega
    rw [hkl, List.drop_length] at hJ
    simp only [stlL] at hJ
    subst hJ
    refine (HT_exit ?_)
    refine HT_seq <| HT_runA ?_
    exact HT_retA fun h => ⟨.inr rfl, h⟩
theorem mloop_con (f : Fl) (hv : List Int) (d0 c v n : Int) (t : Tm) (a b : List St) (bs : List Int) (hf : formB f.vars false t = true) (hn : n ≤ 4096)
    (hst : ∀ s : Sta, s.vals.length = f.vars.length → s.outs.length + oUL a ≤ 2000000 → ConS Tryz.prog 91 (mO f hv s) [.one (.at_ 1000000 0), lS a] (.tup []) (mO f hv (stepsF f.vars hv a s)))
    (s : Sta) (hs : s.vals.length = f.vars.length) (ho : s.outs.length + n.toNat * oUL a ≤ 2000000) :
    ConS Tryz.prog 112 (mO f hv s) [.one (.at_ 1000000 0), aS (.mk d0 c v n t a b bs)] (.tup []) (mO f hv (rndF c t (stepsF f.vars hv a) n.toNat s)) := by
  obtain ⟨vars, hats, body⟩ := f
  simp only at hf hst hs
  have hlen := steps_len vars hv a
  obtain ⟨B, hB⟩ : ∃ x, stepsF vars hv a = x := ⟨_, rfl⟩
  simp only [hB] at hst hlen ⊢
  obtain ⟨O, hO⟩ : ∃ x, oUL a = x := ⟨_, rfl⟩
  rw [hO] at ho
  simp only [hO] at hst hlen
  obtain ⟨res, hres⟩ : ∃ r, rndF c t B n.toNat s = r := ⟨_, rfl⟩
  rw [hres]
  have cval := fun (vs : List Int) (h : vs.length = vars.length) => valueP_con vars false vs h t hf
  obtain ⟨to, tn, tk⟩ := t
  obtain ⟨sv, so, stm⟩ := s
  clear hB hO hf
  simp only [mO, mB, aS, St.enc, Tm.enc, aT, List.map_cons, List.map_nil, List.cons_append, List.nil_append] at cval ⊢
  refine con_s_of_HT Tryz.func112 rfl (by kernel_rfl) (Nat.le_of_ble_eq_true rfl) (pin_mk rfl) ?_
  simp only [Tryz.f112]
  refine HT_seq <| HT_runA ?_
  refine HT_seq <| HT_runA ?_
  refine HT_block <| (HT_loopU [0, 3, 5] (fun (x : Nat × Sta) => [(6, .v (li x.1))]) (fun (x : Nat × Sta) => [(3, .box [.c (iC d0), .c (iC c), .c (iC v), .c (iC n), .c (iC to), .c (iC tn), .c (.sl 3 (encTs tk)), .c (.sl 10 (encSs a)), .c (.sl 10 (encSs b)), .c (.sl 1 (encIs bs))]), (900001, .row 3 1 (encIs x.2.vals)), (900002, .row 3 1 (encIs hv)), (900003, .row 3 1 (encIs x.2.outs)), (1000000, .box [.c (.sl 5 (encVs vars)), .c (.sl 6 (encHs hats)), .c (.sl 10 (encSs body)), .own 900001, .own 900002, .own 900003, .c (iC x.2.time)])]) (fun (x : Nat × Sta) => x.1 ≤ n.toNat ∧ rndF c (.mk to tn tk) B (n.toNat - x.1) x.2 = res ∧ x.2.vals.length = vars.length ∧ x.2.outs.length + (n.toNat - x.1) * O ≤ 2000000) (fun (x : Nat × Sta) => n.toNat - x.1) (0, ⟨sv, so, stm⟩) ⟨Nat.zero_le _, hres, hs, ho⟩ ?_ ?_)
  · exact le_mk (fun n => n) [] rfl (by simp [*, upS, keepS]) (by simp [*, upS]) (by simp [upS])
  rintro ⟨k, ⟨xv, xo, xt⟩⟩ ⟨hk, hJ, hxl, hxo⟩
  simp only [upS, keepS, insS]
  try simp only [keepS, KN, Nat.reduceBEq, if_true, if_false, ins, Nat.reduceLT]
  simp only at hk hJ hxl hxo
  clear hres hs ho
  refine HT_seq <| HT_runA ?_
  refine HT_seq <| (HT_cond rfl (fun h4 => HT_skip ?_) (fun h4 => ?_))
  · try simp only [BN] at h4
    have hm : n.toNat - k = (n.toNat - (k + 1)) + 1 := by omega
    have hk1 : k + 1 ≤ n.toNat := by omega
    have hw1 : IntKind.i64.wrap ((k : Int) + 1) = (k : Int) + 1 := wrap_in (by omega) (by omega)
    rw [hm] at hJ hxo
    rw [Nat.succ_mul] at hxo
    simp only [rndF, tick, wr] at hJ
    obtain ⟨T, hT⟩ : ∃ x, IntKind.i64.wrap (xt + c) = x := ⟨_, rfl⟩
    rw [hT] at hJ
    have cv := cval xv hxl
    have cs := hst ⟨xv, xo, T⟩ hxl (by simp only; omega)
    have hbl := hlen ⟨xv, xo, T⟩
    obtain ⟨A, hA⟩ : ∃ x, vT xv (.mk to tn tk) = x := ⟨_, rfl⟩
    rw [hA] at cv hJ
    obtain ⟨⟨bv, bo, bt⟩, hBs⟩ : ∃ x, B ⟨xv, xo, T⟩ = x := ⟨_, rfl⟩
    rw [hBs] at cs hbl hJ
    simp only [mO, mB] at cs hbl
    clear h4 hst cval hlen hm hA hBs
    refine HT_seq <| HT_block <| HT_seq <| (HT_drunH [(10, 1000000), (12, 3), (16, 1000000)] (by kernel_rfl) (by kernel_rfl) (by rfl) (by simp [evsH, hokB, hintOf, *]; rfl) ?_)
    refine HT_seq <| HT_seq <| (HT_druncH [(19, 1000000), (21, 3)] [⟨true, .v (li A), none⟩] (by kernel_rfl) (by kernel_rfl) (by rfl) (by simp [evcH, hokB, hintOf, *]; first | exact ⟨rfl, Iff.rfl⟩ | exact ⟨rfl, trivial⟩ | rfl) ?_ ?_)
    · first | exact cv _ | exact trivial | simpa [*] using cv _
    refine (HT_cond rfl (fun h7 => ?_) (fun h7 => HT_skip ?_))
    · try simp only [BN] at h7
      rw [if_pos h7] at hJ
      subst hJ
      exact HT_ret ⟨.inr rfl, HT_endS (by simp; rfl) (by simp [resR]) (by simp [*])⟩
    · try simp only [BN] at h7
      rw [if_neg h7] at hJ
      refine (HT_runsS ?_)
      refine RunsS.cutE 3 [] (by simp [*]; rfl) trivial (le_refl _) ?_
      refine RunsS.call (fun n => n) (fun n => if n < 1000000 then n + 10 else n) (by simp; rfl) (handS_mk (by simp) (by simp) (by simp) (by simp) (by simp)) cs (by rfl) ?_
      refine RunsS.doneE [] (by simp; rfl) trivial ?_
      refine HT_runA ?_
      exact ⟨(k + 1, ⟨bv, bo, bt⟩), ⟨hk1, hJ, by simp only; omega, by simp only; omega⟩, by simp only; omega, le_mk (fun n => if 900001 ≤ n ∧ n ≤ 900003 then n + 10 else n) [] rfl (by simp [upS, keepS, *]) (by simp [*, upS]) (by simp [upS])⟩
  · try simp only [BN] at h4
    have hkl : n.toNat - k = 0 := by omega
    rw [hkl] at hJ
    simp only [rndF] at hJ
    subst hJ
    refine (HT_exit ?_)
    exact ⟨.inl rfl, HT_endS (by simp; rfl) (by simp [resR]) (by simp [*])⟩
end Go.Proofs.YteekbhkjfaegiaaGreat

namespace Go.Proofs.YteekbhkjfaegiaaGreat
open Go Go.Hl

theorem mrun_con (f : Fl) (hv : List Int) (hl : f.vars.length ≤ 1000000) (hg : ∀ w ∈ f.vars, w.low ≤ w.high) (hhv : hv.length = f.hats.length) (l : List St) : nodesS l ≤ 1000000 → wfL f.vars f.hats.length l = true → ∀ s : Sta, s.vals.length = f.vars.length → s.outs.length + oUL l ≤ 2000000 →
    ConS Tryz.prog 91 (mO f hv s) [.one (.at_ 1000000 0), lS l] (.tup []) (mO f hv (stepsF f.vars hv l s)) := by
  revert l
  apply St.lists
  intro l ih hn hwf s hs ho
  have hlen := len_nodesS l
  have crnd := mloop_con f hv
  have cset := fun s v n w h1 h2 h3 h4 => mset_con f hv s v n w h1 hl h2 h3 h4
  obtain ⟨res, hres⟩ : ∃ r, stepsF f.vars hv l s = r := ⟨_, rfl⟩
  rw [hres]
  have hval := fun (t : Tm) (vs : List Int) (h : vs.length = f.vars.length) (hf : formB f.vars false t = true) => valueP_con f.vars false vs h t hf
  obtain ⟨vars, hats, body⟩ := f
  simp only at hl hhv hwf hs ih crnd cset hres hval hg
  obtain ⟨sv, so, stm⟩ := s
  simp only at hs ho
  simp only [mO, mB]
  refine con_s_of_HT Tryz.func91 rfl (by kernel_rfl) (Nat.le_of_ble_eq_true rfl) (pin_mk rfl) ?_
  simp only [Tryz.f91]
  refine HT_seq <| HT_runA ?_
  refine HT_block <| (HT_loopU [0, 6, 7] (fun (x : Nat × Sta) => [(8, .v (li x.1))]) (fun (x : Nat × Sta) => [(900001, .row 3 1 (encIs x.2.vals)), (900002, .row 3 1 (encIs hv)), (900003, .row 3 1 (encIs x.2.outs)), (1000000, .box [.c (.sl 5 (encVs vars)), .c (.sl 6 (encHs hats)), .c (.sl 10 (encSs body)), .own 900001, .own 900002, .own 900003, .c (iC x.2.time)])]) (fun (x : Nat × Sta) => x.1 ≤ l.length ∧ stepsF vars hv (l.drop x.1) x.2 = res ∧ x.2.vals.length = vars.length ∧ x.2.outs.length + oUL (l.drop x.1) ≤ 2000000) (fun (x : Nat × Sta) => l.length - x.1) (0, ⟨sv, so, stm⟩) ⟨Nat.zero_le _, hres, hs, by simpa using ho⟩ ?_ ?_)
  · exact le_mk (fun n => n) [] rfl (by simp [*, upS, keepS]) (by simp [*, upS]) (by simp [upS])
  rintro ⟨k, ⟨xv, xo, xt⟩⟩ ⟨hk, hJ, hxl, hxo⟩
  simp only [upS, keepS, insS]
  try simp only [keepS, KN, Nat.reduceBEq, if_true, if_false, ins, Nat.reduceLT]
  simp only at hk hJ hxl hxo
  clear hres hs ho
  refine HT_seq <| HT_runA ?_
  refine HT_seq <| (HT_cond rfl (fun h3 => HT_skip ?_) (fun h3 => ?_))
  · try simp only [BN] at h3
    have hlt : k < l.length := by omega
    obtain ⟨s, he, hd⟩ := at_lt hlt
    have hw1 := wrap1 hlt (by omega)
    have hk1 : k + 1 ≤ l.length := hlt
    have hmem : s ∈ l := List.mem_of_getElem? he
    have hnm := nodesS_mem hmem
    have hwm := wfL_mem hwf hmem
    have iha := (ih s hmem).1 (by omega)
    have ihb := (ih s hmem).2 (by omega)
    have he' := get_encS he
    rw [hd] at hJ hxo
    obtain ⟨sd, sc, sv, sn, t, sa, sb, sbs⟩ := s
    simp only [St.then_, St.else_] at iha ihb
    simp only [wfS, Bool.and_eq_true, Bool.or_eq_true, decide_eq_true_eq] at hwm
    obtain ⟨wt, wl, wn, w4, wb, wa, wbb⟩ := hwm
    have iha := iha wa
    have ihb := ihb wbb
    simp only [oUL, oUS] at hxo
    simp only [stepsF] at hJ
    have hval := fun vs h => hval t vs h wt
    obtain ⟨so, stn, sks⟩ := t
    simp only [St.enc, Tm.enc, List.cons_append, List.nil_append] at he'
    simp only [aT, Tm.enc, List.map_cons, List.map_nil] at hval
    have hla := steps_len vars hv sa
    have hlb := steps_len vars hv sb
    clear hlt h3 ih hmem hnm hd he
    refine HT_seq <| HT_block <| HT_seq <| HT_runA ?_
    refine HT_seq <| HT_seq <| HT_runA ?_
    refine (HT_cond rfl (fun h6 => ?_) (fun h6 => HT_skip ?_))
    · try simp only [BN] at h6
      have hd4 : sd = 4 := by simpa using h6
      subst hd4
      rw [if_pos rfl] at hxo hJ
      have iha' := fun (s : Sta) (h1 : s.vals.length = vars.length) (h2 : s.outs.length + oUL sa ≤ 2000000) => iha s h1 h2
      have cr := crnd 4 sc sv sn (.mk so stn sks) sa sb sbs wt (by omega) iha' ⟨xv, xo, xt⟩ hxl (by simp only; omega)
      have hrl := rnd_len (c := sc) (t := .mk so stn sks) hla sn.toNat ⟨xv, xo, xt⟩
      simp only at hrl
      obtain ⟨⟨rv, ro, rt⟩, hR⟩ : ∃ x, rndF sc (.mk so stn sks) (stepsF vars hv sa) sn.toNat ⟨xv, xo, xt⟩ = x := ⟨_, rfl⟩
      rw [hR] at cr hrl hJ
      simp only at hrl
      simp only [mO, mB, aS, St.enc, Tm.enc, List.map_cons, List.map_nil, List.cons_append, List.nil_append] at cr
      clear iha ihb iha' hval cset crnd hla hlb hR
      refine HT_seq <| (HT_runsS ?_)
      refine RunsS.cutE 2 [] (by simp [*]; rfl) trivial (le_refl _) ?_
      refine RunsS.call (fun n => n) (fun n => if n < 1000000 then n + 10 else n) (by simp; rfl) (handS_mk (by simp) (by simp) (by simp) (by simp) (by simp)) cr (by rfl) ?_
      refine RunsS.doneE [] (by simp; rfl) trivial ?_
      refine (HT_exit ?_)
      refine HT_runA ?_
      exact ⟨(k + 1, ⟨rv, ro, rt⟩), ⟨hk1, hJ, by simp only; omega, by simp only; omega⟩, by simp only; omega, le_mk (fun n => if 900001 ≤ n ∧ n ≤ 900003 then n + 10 else n) [] rfl (by simp [upS, keepS, *]) (by simp [*, upS]) (by simp [upS])⟩
    · try simp only [BN] at h6
      have hd4 : ¬ sd = 4 := by simpa using h6
      rw [if_neg hd4] at hxo hJ
      simp only [tick, wr] at hJ
      obtain ⟨T, hT⟩ : ∃ x, IntKind.i64.wrap (xt + sc) = x := ⟨_, rfl⟩
      rw [hT] at hJ
      have hval := hval xv hxl
      obtain ⟨A, hA⟩ : ∃ x, vT xv (.mk so stn sks) = x := ⟨_, rfl⟩
      unfold leafF at hJ
      simp only at hJ
      rw [hA] at hval hJ
      have hroom1 : room (xo.length + 1) 8 := room_of (by omega) (by omega)
      clear h6 crnd hA
      refine HT_seq <| (HT_drunH [(20, 1000000), (22, 5), (26, 1000000)] (by kernel_rfl) (by kernel_rfl) (by rfl) (by simp [evsH, hokB, hintOf, *]; rfl) ?_)
      refine HT_seq <| HT_runA ?_
      refine HT_block <| HT_seq <| HT_runA ?_
      refine (HT_cond rfl (fun h13 => ?_) (fun h13 => ?_))
      · try simp only [BN] at h13
        have hd0 : sd = 0 := by simpa using h13
        subst hd0
        rw [if_neg (by decide), if_pos rfl] at hJ
        have wl := wl.resolve_left (by decide)
        obtain ⟨hv0, w, hw⟩ := local_get wl
        have cs := cset ⟨xv, xo, T⟩ sv A w hxl hv0 hw (hg w (List.mem_of_getElem? hw))
        have hsl := setV_len vars xv sv A
        obtain ⟨R, hR⟩ : ∃ x, setV vars xv sv A = x := ⟨_, rfl⟩
        rw [hR] at cs hJ hsl
        simp only [mO, mB] at cs
        clear cset hR hw iha ihb hla hlb
        refine (HT_drawS [(32, 5), (36, 1000000), (38, 5)] 10 [⟨true, .v (li A), none⟩] (fun n => n) (fun n => if n < 1000000 then n + 10 else n) (by kernel_rfl) (by kernel_rfl) (by rfl) (by kernel_rfl) (by rfl) (by simp [*, evcH, hokB, hintOf]; first | exact ⟨rfl, Iff.rfl⟩ | exact ⟨rfl, trivial⟩ | rfl) ?_ (by rfl) (by simp; rfl) (handS_mk (by simp) (by simp) (by simp) (by simp) (by simp)) cs (by rfl) ?_)
        · first | exact hval _ | exact trivial | simpa using hval _
        refine HT_runA ?_
        exact ⟨(k + 1, ⟨R, xo, T⟩), ⟨hk1, hJ, by simp only; omega, by simp only; omega⟩, by simp only; omega, le_mk (fun n => if 900001 ≤ n ∧ n ≤ 900003 then n + 10 else n) [] rfl (by simp [upS, keepS, *]) (by simp [*, upS]) (by simp [upS])⟩
      · try simp only [BN] at h13
        have hd0 : ¬ sd = 0 := by simpa using h13
        rw [if_neg hd0] at hJ
        refine HT_seq <| HT_runA ?_
        refine (HT_cond rfl (fun h18 => ?_) (fun h18 => ?_))
        · try simp only [BN] at h18
          have hd1 : sd = 1 := by simpa using h18
          subst hd1
          rw [if_neg (by decide), if_pos rfl] at hJ
          rw [if_neg (by decide), if_pos rfl] at hxo
          clear cset iha ihb hla hlb
          refine (HT_druncH [(47, 1000000), (51, 1000000), (53, 5), (59, 1000000)] [⟨true, .v (li A), none⟩] (by kernel_rfl) (by kernel_rfl) (by rfl) (by simp [evcH, hokB, hintOf, *]; first | exact ⟨rfl, Iff.rfl⟩ | exact ⟨rfl, trivial⟩ | rfl) ?_ ?_)
          · first | exact hval _ | exact trivial | simpa [*] using hval _
          refine HT_runA ?_
          exact ⟨(k + 1, ⟨xv, xo ++ [A], T⟩), ⟨hk1, hJ, hxl, by simp only [List.length_append, List.length_singleton]; omega⟩, by simp only; omega, le_mk (fun n => if n = 900003 then 57 else n) [] rfl (by simp [upS, keepS, *]) (by simp [*, upS]) (by simp [upS])⟩
        · try simp only [BN] at h18
          have hd1 : ¬ sd = 1 := by simpa using h18
          rw [if_neg hd1] at hJ
          refine HT_seq <| HT_runA ?_
          refine (HT_cond rfl (fun h23 => ?_) (fun h23 => ?_))
          · try simp only [BN] at h23
            have hd3 : sd = 3 := by simpa using h23
            subst hd3
            rw [if_pos rfl] at hJ hxo
            have ca := iha ⟨xv, xo, T⟩ hxl (by simp only; omega)
            have cb := ihb ⟨xv, xo, T⟩ hxl (by simp only; omega)
            have hla := hla ⟨xv, xo, T⟩
            have hlb := hlb ⟨xv, xo, T⟩
            obtain ⟨⟨av, ao, at_⟩, hAA⟩ : ∃ x, stepsF vars hv sa ⟨xv, xo, T⟩ = x := ⟨_, rfl⟩
            obtain ⟨⟨bv, bo, bt⟩, hBB⟩ : ∃ x, stepsF vars hv sb ⟨xv, xo, T⟩ = x := ⟨_, rfl⟩
            rw [hAA] at ca hla hJ
            rw [hBB] at cb hlb hJ
            simp only [mO, mB] at ca cb hla hlb
            clear iha ihb hAA hBB cset
            refine HT_seq <| (HT_druncH [(64, 1000000), (66, 5)] [⟨true, .v (li A), none⟩] (by kernel_rfl) (by kernel_rfl) (by rfl) (by simp [evcH, hokB, hintOf, *]; first | exact ⟨rfl, Iff.rfl⟩ | exact ⟨rfl, trivial⟩ | rfl) ?_ ?_)
            · first | exact hval _ | exact trivial | simpa [*] using hval _
            refine (HT_cond rfl (fun h25 => ?_) (fun h25 => ?_))
            · try simp only [BN] at h25
              rw [if_neg (by simpa using h25)] at hJ
              refine (HT_runsS ?_)
              refine RunsS.cutE 3 [] (by simp [*]; rfl) trivial (le_refl _) ?_
              refine RunsS.call (fun n => n) (fun n => if n < 1000000 then n + 10 else n) (by simp; rfl) (handS_mk (by simp) (by simp) (by simp) (by simp) (by simp)) ca (by rfl) ?_
              refine RunsS.doneE [] (by simp; rfl) trivial ?_
              refine HT_runA ?_
              exact ⟨(k + 1, ⟨av, ao, at_⟩), ⟨hk1, hJ, by simp only; omega, by simp only; omega⟩, by simp only; omega, le_mk (fun n => if 900001 ≤ n ∧ n ≤ 900003 then n + 10 else n) [] rfl (by simp [upS, keepS, *]) (by simp [*, upS]) (by simp [upS])⟩
            · try simp only [BN] at h25
              rw [if_pos (by simpa using h25)] at hJ
              refine (HT_runsS ?_)
              refine RunsS.cutE 3 [] (by simp [*]; rfl) trivial (le_refl _) ?_
              refine RunsS.call (fun n => n) (fun n => if n < 1000000 then n + 10 else n) (by simp; rfl) (handS_mk (by simp) (by simp) (by simp) (by simp) (by simp)) cb (by rfl) ?_
              refine RunsS.doneE [] (by simp; rfl) trivial ?_
              refine HT_runA ?_
              exact ⟨(k + 1, ⟨bv, bo, bt⟩), ⟨hk1, hJ, by simp only; omega, by simp only; omega⟩, by simp only; omega, le_mk (fun n => if 900001 ≤ n ∧ n ≤ 900003 then n + 10 else n) [] rfl (by simp [upS, keepS, *]) (by simp [*, upS]) (by simp [upS])⟩
          · try simp only [BN] at h23
            have hd3 : ¬ sd = 3 := by simpa using h23
            rw [if_neg hd3] at hJ
            rw [if_neg hd3] at hxo
            clear iha ihb hla hlb
            refine HT_seq <| HT_runA ?_
            refine (HT_cond rfl (fun h33 => ?_) (fun h33 => ?_))
            · try simp only [BN] at h33
              have hd5 : sd = 5 := by simpa using h33
              subst hd5
              rw [if_pos rfl] at hJ
              have wl := wl.resolve_left (by decide)
              have wn := wn.resolve_left (by decide)
              obtain ⟨hv0, w, hw⟩ := local_get wl
              have hnlt : sn.toNat < hv.length := by omega
              have hn0 : 0 ≤ sn := wn.1
              obtain ⟨y, hy⟩ := get_I hnlt
              rw [hy] at hJ
              simp only [Option.getD_some] at hJ
              have cs := cset ⟨xv, xo, T⟩ sv y w hxl hv0 hw (hg w (List.mem_of_getElem? hw))
              have hsl := setV_len vars xv sv y
              obtain ⟨R, hR⟩ : ∃ x, setV vars xv sv y = x := ⟨_, rfl⟩
              rw [hR] at cs hJ hsl
              simp only [mO, mB] at cs
              clear cset hR hw hnlt hhv
              refine (HT_drawS [(81, 5), (85, 1000000), (87, 5)] 11 [] (fun n => n) (fun n => if n < 1000000 then n + 10 else n) (by kernel_rfl) (by kernel_rfl) (by rfl) (by kernel_rfl) (by rfl) (by simp [*, evcH, hokB, hintOf]; first | exact ⟨rfl, Iff.rfl⟩ | exact ⟨rfl, trivial⟩ | rfl) ?_ (by rfl) (by simp; rfl) (handS_mk (by simp) (by simp) (by simp) (by simp) (by simp)) cs (by rfl) ?_)
              · trivial
              refine HT_runA ?_
              exact ⟨(k + 1, ⟨R, xo, T⟩), ⟨hk1, hJ, by simp only; omega, by simp only; omega⟩, by simp only; omega, le_mk (fun n => if 900001 ≤ n ∧ n ≤ 900003 then n + 10 else n) [] rfl (by simp [upS, keepS, *]) (by simp [*, upS]) (by simp [upS])⟩
            · try simp only [BN] at h33
              have hd5 : ¬ sd = 5 := by simpa using h33
              rw [if_neg hd5] at hJ
              clear cset
              refine HT_seq <| HT_runA ?_
              refine (HT_cond rfl (fun h38 => ?_) (fun h38 => HT_skip ?_))
              · try simp only [BN] at h38
                have hd6 : sd = 6 := by simpa using h38
                subst hd6
                rw [if_pos rfl] at hJ
                have cse := settledP_con sbs T wb
                obtain ⟨R, hR⟩ : ∃ x, stlL sbs T T false = x := ⟨_, rfl⟩
                rw [hR] at cse hJ
                clear hR
                refine (HT_druncH [(95, 5), (99, 1000000), (103, 1000000)] [⟨true, .v (li R), none⟩] (by kernel_rfl) (by kernel_rfl) (by rfl) (by simp [evcH, hokB, hintOf, *]; first | exact ⟨rfl, Iff.rfl⟩ | exact ⟨rfl, trivial⟩ | rfl) ?_ ?_)
                · first | exact cse _ | exact trivial | simpa [*] using cse _
                refine HT_runA ?_
                exact ⟨(k + 1, ⟨xv, xo, R⟩), ⟨hk1, hJ, hxl, by simp only; omega⟩, by simp only; omega, le_mk (fun n => n) [] rfl (by simp [upS, keepS, *]) (by simp [*, upS]) (by simp [upS])⟩
              · try simp only [BN] at h38
                have hd6 : ¬ sd = 6 := by simpa using h38
                rw [if_neg hd6] at hJ
                refine HT_runA ?_
                exact ⟨(k + 1, ⟨xv, xo, T⟩), ⟨hk1, hJ, hxl, by simp only; omega⟩, by simp only; omega, le_mk (fun n => n) [] rfl (by simp [upS, keepS, *]) (by simp [*, upS]) (by simp [upS])⟩
  · try simp only [BN] at h3
    have hkl : k = l.length := by omega
    rw [hkl, List.drop_length] at hJ
    simp only [stepsF] at hJ
    subst hJ
    refine (HT_exit ?_)
    exact ⟨.inl rfl, HT_endS (by simp; rfl) (by simp [resR]) (by simp [*])⟩
end Go.Proofs.YteekbhkjfaegiaaGreat

namespace Go.Proofs.YteekbhkjfaegiaaGreat
open Go Go.Hl

/-! ## ContainsFunc -/
theorem idxV_con (l : List Vr) (g : FuncId) (cap : List CD) (p : Vr → Bool) (hl : l.length ≤ 1000000000) (hp : ∀ v ∈ l, ∀ d, Con Tryz.prog g true (aV v :: cap.map fun c => .one (.c c)) (.v (lb (p v))) none d) (d : Nat) :
    ∃ r : Int, (∀ d, Con Tryz.prog 86 true [lV l, .one (.c (.fn g cap))] (.v (li r)) none d) ∧ (0 ≤ r ↔ l.any p = true) := by
  let rec_ : List Vr → Int → Int := fun l k => match l.findIdx? p with
    | some i => k + i
    | none => -1
  refine ⟨(match l.findIdx? p with | some i => (i : Int) | none => -1), fun d => ?_, ?_⟩
  · have hstep : ∀ k : Nat, (∀ j : Nat, j < k → ∀ v, l[j]? = some v → p v = false) → ∀ v, l[k]? = some v → p v = true → l.findIdx? p = some k := by
      intro k hno v hv hpv
      rw [List.findIdx?_eq_some_iff_getElem]
      have hk : k < l.length := (List.getElem?_eq_some_iff.1 hv).1
      refine ⟨hk, ?_, fun j hj => ?_⟩
      · simp only [List.getElem?_eq_getElem hk, Option.some.injEq] at hv
        rw [hv]; exact hpv
      · have := hno j hj l[j] (by simp)
        simp [this]
    have hnone : (∀ j : Nat, j < l.length → ∀ v, l[j]? = some v → p v = false) → l.findIdx? p = none := by
      intro hno
      rw [List.findIdx?_eq_none_iff]
      intro v hv
      obtain ⟨j, hj⟩ := List.mem_iff_getElem?.1 hv
      exact hno j (List.getElem?_eq_some_iff.1 hj).1 v hj
    clear rec_
    refine con_of_HT Tryz.func86 rfl (by kernel_rfl) (Nat.le_of_ble_eq_true rfl) ?_
    simp only [Tryz.f86]
    refine HT_seq <| HT_runA ?_
    refine HT_seq <| HT_seq <| HT_runA ?_
    refine HT_block <| (HT_loopU [0, 1, 7] (fun (x : Nat) => [(8, .v (li x))]) (fun (x : Nat) => []) (fun (x : Nat) => x ≤ l.length ∧ ∀ j : Nat, j < x → ∀ v, l[j]? = some v → p v = false) (fun (x : Nat) => l.length - x) (0 : Nat) ⟨Nat.zero_le _, fun j hj => absurd hj (Nat.not_lt_zero j)⟩ ?_ ?_)
    · exact le_mk (fun n => n) [] rfl (by simp [*, upS, keepS]) (by simp [*, upS]) (by simp [upS])
    rintro k ⟨hk, hJ⟩
    simp only [upS, keepS, insS]
    try simp only [keepS, KN, Nat.reduceBEq, if_true, if_false, ins, Nat.reduceLT]
    refine HT_seq <| HT_runA ?_
    refine HT_seq <| (HT_cond rfl (fun h4 => HT_skip ?_) (fun h4 => ?_))
    · try simp only [BN] at h4
      have hlt : k < l.length := by omega
      obtain ⟨v, he, hd⟩ := at_lt hlt
      have hw1 := wrap1 hlt (by omega)
      have hk1 : k + 1 ≤ l.length := hlt
      have hpv := hp v (List.mem_of_getElem? he)
      have hs := hstep k hJ v he
      clear hlt h4 hstep hnone hp
      refine HT_seq <| HT_block <| HT_seq <| HT_runA ?_
      refine HT_seq <| (HT_runc [⟨true, .v (lb (p v)), none⟩] (by simp [*]; first | exact ⟨rfl, Iff.rfl⟩ | exact ⟨rfl, trivial⟩ | rfl) ?_ ?_)
      · first | exact hpv _ | exact trivial | simpa [*] using hpv _
      refine (HT_cond rfl (fun h7 => ?_) (fun h7 => HT_skip ?_))
      · try simp only [BN] at h7
        rw [hs h7]
        refine HT_seq <| HT_runA ?_
        exact HT_retA fun h => ⟨.inr rfl, h⟩
      · try simp only [BN] at h7
        refine HT_runA ?_
        exact ⟨k + 1, ⟨hk1, fun j hj w hw => (Nat.lt_succ_iff_lt_or_eq.1 hj).elim (fun h => hJ j h w hw) (fun e => by subst e; rw [he] at hw; cases hw; exact h7)⟩, by omega, le_mk (fun n => n) [] rfl (by simp [upS, keepS, *]) (by simp [*, upS]) (by simp [upS])⟩
    · try simp only [BN] at h4
      rw [hnone fun j hj => hJ j (by omega)]
      refine (HT_exit ?_)
      refine HT_seq <| HT_runA ?_
      exact HT_retA fun h => ⟨.inr rfl, h⟩
  · rw [List.any_eq]
    cases h : l.findIdx? p with
    | none =>
      rw [List.findIdx?_eq_none_iff] at h
      simp only [decide_eq_true_eq]
      constructor
      · intro h; omega
      · rintro ⟨v, hv, hpv⟩
        have := h v hv
        rw [hpv] at this
        cases this
    | some i =>
      rw [List.findIdx?_eq_some_iff_getElem] at h
      obtain ⟨hi, hpi, _⟩ := h
      simp only [decide_eq_true_eq]
      exact ⟨fun _ => ⟨l[i], List.getElem_mem _, hpi⟩, fun _ => by omega⟩
theorem conV_con (l : List Vr) (g : FuncId) (cap : List CD) (p : Vr → Bool) (hl : l.length ≤ 1000000000) (hp : ∀ v ∈ l, ∀ d, Con Tryz.prog g true (aV v :: cap.map fun c => .one (.c c)) (.v (lb (p v))) none d) (d : Nat) :
    Con Tryz.prog 53 true [lV l, .one (.c (.fn g cap))] (.v (lb (l.any p))) none d := by
  obtain ⟨r, hr, hi⟩ := idxV_con l g cap p hl hp 0
  have hd : decide (0 ≤ r) = l.any p := by rw [Bool.eq_iff_iff, decide_eq_true_eq]; exact hi
  clear hi hp
  refine con_of_HT Tryz.func53 rfl (by kernel_rfl) (Nat.le_of_ble_eq_true rfl) ?_
  simp only [Tryz.f53]
  refine HT_seq <| HT_runA ?_
  refine HT_seq <| (HT_runc [⟨true, .v (li r), none⟩] (by simp [*]; first | exact ⟨rfl, Iff.rfl⟩ | exact ⟨rfl, trivial⟩ | rfl) ?_ ?_)
  · first | exact hr _ | exact trivial | simpa [*] using hr _
  exact HT_retA fun h => ⟨.inr rfl, h⟩
theorem sameV_con (w v : Vr) (d : Nat) : Con Tryz.prog 102 true [aV w, .one (.c (.ptr v.enc))] (.v (lb (decide (w.name = v.name)))) none d := by
  refine con_of_HT Tryz.func102 rfl (by kernel_rfl) (Nat.le_of_ble_eq_true rfl) ?_
  simp only [Tryz.f102]
  refine HT_seq <| HT_runA ?_
  refine HT_seq <| HT_runA ?_
  exact HT_retA fun h => ⟨.inr rfl, h⟩
end Go.Proofs.YteekbhkjfaegiaaGreat

namespace Go.Proofs.YteekbhkjfaegiaaGreat
open Go Go.Hl

def kindBad (v : Vr) : Prop := boundedB v.low v.high = false ∨ (v.kind ≠ 0 ∧ v.init ≠ 0) ∨ (v.kind = 0 ∧ (v.init < v.low ∨ v.high < v.init))
instance (v : Vr) : Decidable (kindBad v) := by unfold kindBad; exact inferInstance
def vcode (seen : List Vr) (v : Vr) : Int :=
  if nameB v.name = false then 7 else if (seen.any fun w => decide (w.name = v.name)) = true then 8 else if v.kind < 0 ∨ 3 < v.kind then 1 else if kindBad v then 3 else 0
def vcs : List Vr → List Vr → Int
  | _, [] => 0
  | seen, v :: l => if vcode seen v = 0 then vcs (seen ++ [v]) l else vcode seen v
def badK (vars : List Vr) (kind : Int) : Bool := decide (4096 < spc vars kind) || (decide (kind = 3) && decide (256 < spc vars kind))
def varsC (vars : List Vr) : Int := if vcs [] vars = 0 then (if ([1, 2, 3].any (badK vars)) = true then 4 else 0) else vcs [] vars
theorem vcs_good : ∀ (l seen : List Vr), vcs seen l = 0 → goodV l
  | [], _, _, v, hv => by cases hv
  | w :: l, seen, h, v, hv => by
    simp only [vcs] at h
    split at h
    · rename_i h0
      rcases List.mem_cons.1 hv with rfl | hv
      · unfold vcode at h0
        split at h0
        · cases h0
        · split at h0
          · cases h0
          · split at h0
            · cases h0
            · split at h0
              · cases h0
              · rename_i hk
                unfold kindBad at hk
                have hb : boundedB v.low v.high = true := by
                  cases hb : boundedB v.low v.high with
                  | true => rfl
                  | false => exact absurd (.inl hb) hk
                simp only [boundedB, Bool.and_eq_true, decide_eq_true_eq] at hb
                omega
      · exact vcs_good l _ h v hv
    · rename_i h0
      exact absurd h h0
theorem goodV_iff {vars : List Vr} : goodV vars ↔ goodV' vars := Iff.rfl

def spRes (vars : List Vr) : List Int → Int
  | [] => 0
  | k :: l => if badK vars k = true then 4 else spRes vars l
theorem spRes_any (vars : List Vr) : ∀ l : List Int, spRes vars l = if l.any (badK vars) = true then 4 else 0
  | [] => by simp [spRes]
  | k :: l => by
    simp only [spRes, List.any_cons, spRes_any vars l]
    by_cases hb : badK vars k = true
    · simp [hb]
    · simp only [Bool.not_eq_true] at hb
      simp [hb]

theorem varsP_con (vars : List Vr) (hl : vars.length ≤ 1000000) (d : Nat) : Con Tryz.prog 82 true [lV vars] (.v (li (varsC vars))) none d := by
  obtain ⟨res, hres⟩ : ∃ r, varsC vars = r := ⟨_, rfl⟩
  rw [hres]
  obtain ⟨cd, hcd⟩ : ∃ r, vcs [] vars = r := ⟨_, rfl⟩
  have hgood : cd = 0 → goodV' vars := fun h => vcs_good vars [] (hcd.trans h)
  unfold varsC at hres
  rw [hcd] at hres
  refine con_of_HT Tryz.func82 rfl (by kernel_rfl) (Nat.le_of_ble_eq_true rfl) ?_
  simp only [Tryz.f82]
  refine HT_seq <| HT_runA ?_
  refine HT_seq <| HT_seq <| HT_runA ?_
  refine HT_block <| (HT_loopU [0, 10, 11] (fun (x : Nat) => [(12, .v (li x))]) (fun (x : Nat) => []) (fun (x : Nat) => x ≤ vars.length ∧ vcs (vars.take x) (vars.drop x) = cd) (fun (x : Nat) => vars.length - x) (0 : Nat) ⟨Nat.zero_le _, hcd⟩ ?_ ?_)
  · exact le_mk (fun n => n) [] rfl (by simp [*, upS, keepS]) (by simp [*, upS]) (by simp [upS])
  rintro k ⟨hk, hJ⟩
  simp only [upS, keepS, insS]
  try simp only [keepS, KN, Nat.reduceBEq, if_true, if_false, ins, Nat.reduceLT]
  clear hcd
  refine HT_seq <| HT_runA ?_
  refine HT_seq <| (HT_cond rfl (fun h4 => HT_skip ?_) (fun h4 => ?_))
  · try simp only [BN] at h4
    have hlt : k < vars.length := by omega
    obtain ⟨v, he, hd⟩ := at_lt hlt
    have hw1 := wrap1 hlt (by omega)
    have hk1 : k + 1 ≤ vars.length := hlt
    have hkl : (vars.take k).length ≤ 1000000000 := by rw [List.length_take]; omega
    rw [hd] at hJ
    simp only [vcs] at hJ
    rw [← take_snoc he] at hJ
    clear hlt h4 hgood
    refine HT_seq <| HT_block <| HT_seq <| HT_runA ?_
    refine HT_seq <| HT_runA ?_
    refine HT_block <| HT_seq <| (HT_runc [⟨true, .v (lb (nameB v.name)), none⟩] (by simp [*]; first | exact ⟨rfl, Iff.rfl⟩ | exact ⟨rfl, trivial⟩ | rfl) ?_ ?_)
    · first | exact nameP_con _ _ | exact trivial | simpa [*] using nameP_con _ _
    refine (HT_cond rfl (fun h8 => ?_) (fun h8 => ?_))
    · try simp only [BN] at h8
      have hc : vcode (vars.take k) v = 7 := by unfold vcode; rw [if_pos h8]
      rw [hc, if_neg (by decide)] at hJ
      subst hJ
      rw [if_neg (by decide)] at hres
      subst hres
      refine HT_seq <| HT_runA ?_
      exact HT_retA fun h => ⟨.inr rfl, h⟩
    · try simp only [BN] at h8
      refine HT_seq <| (HT_runc [⟨true, .v (lb ((vars.take k).any fun w => decide (w.name = v.name))), none⟩] (by simp [*]; first | exact ⟨rfl, Iff.rfl⟩ | exact ⟨rfl, trivial⟩ | rfl) ?_ ?_)
      · first | exact conV_con (vars.take k) 102 [.ptr v.enc] (fun w => decide (w.name = v.name)) hkl (fun w _ d => sameV_con w v d) _ | exact trivial | simpa [*] using conV_con (vars.take k) 102 [.ptr v.enc] (fun w => decide (w.name = v.name)) hkl (fun w _ d => sameV_con w v d) _
      refine (HT_cond rfl (fun h12 => ?_) (fun h12 => ?_))
      · try simp only [BN] at h12
        have hc : vcode (vars.take k) v = 8 := by unfold vcode; rw [if_neg (by simp [h8]), if_pos h12]
        rw [hc, if_neg (by decide)] at hJ
        subst hJ
        rw [if_neg (by decide)] at hres
        subst hres
        refine HT_seq <| HT_runA ?_
        exact HT_retA fun h => ⟨.inr rfl, h⟩
      · try simp only [BN] at h12
        refine HT_seq <| HT_runA ?_
        refine (HT_cond rfl (fun h16 => ?_) (fun h16 => ?_))
        · try simp only [BN] at h16
          have hc : vcode (vars.take k) v = 1 := by unfold vcode; rw [if_neg (by simp [h8]), if_neg (by simp [h12]), if_pos h16]
          rw [hc, if_neg (by decide)] at hJ
          subst hJ
          rw [if_neg (by decide)] at hres
          subst hres
          refine HT_seq <| HT_runA ?_
          exact HT_retA fun h => ⟨.inr rfl, h⟩
        · try simp only [BN] at h16
          have hc : vcode (vars.take k) v = if kindBad v then 3 else 0 := by unfold vcode; rw [if_neg (by simp [h8]), if_neg (by simp [h12]), if_neg (by omega)]
          refine (HT_cutU [0, 10, 11, 12] (fun (z : Bool) => [(38, .v (lb z))]) (fun (z : Bool) => []) (fun (z : Bool) => z = decide (kindBad v)) ?_ ?_)
          ·
            refine HT_seq <| (HT_runc [⟨true, .v (lb (boundedB v.low v.high)), none⟩] (by simp [*]; first | exact ⟨rfl, Iff.rfl⟩ | exact ⟨rfl, trivial⟩ | rfl) ?_ ?_)
            · first | exact boundedP_con _ _ _ | exact trivial | simpa [*] using boundedP_con _ _ _
            refine (HT_cond rfl (fun h21 => HT_skip ?_) (fun h21 => ?_))
            · try simp only [BN] at h21
              exact ⟨true, (decide_eq_true (.inl (by simpa using h21))).symm, le_mk (fun n => n) [] rfl (by simp [upS, keepS, *]) (by simp [*, upS]) (by simp [upS])⟩
            · try simp only [BN] at h21
              refine HT_seq <| HT_runA ?_
              refine (HT_cond rfl (fun h24 => HT_skip ?_) (fun h24 => ?_))
              · try simp only [BN] at h24
                exact ⟨true, (decide_eq_true (.inr (.inl (by simpa using h24)))).symm, le_mk (fun n => n) [] rfl (by simp [upS, keepS, *]) (by simp [*, upS]) (by simp [upS])⟩
              · try simp only [BN] at h24
                have hz : decide (kindBad v) = (decide (v.kind = 0) && (decide (v.init < v.low) || decide (v.high < v.init))) := by
                  rw [Bool.eq_iff_iff, decide_eq_true_eq]
                  unfold kindBad
                  simp only [decide_eq_true_eq, Bool.and_eq_true, Bool.or_eq_true]
                  have h21' : boundedB v.low v.high = true := by simpa using h21
                  rw [h21']
                  constructor
                  · rintro (h | h | h)
                    · cases h
                    · exfalso; omega
                    · exact h
                  · exact fun h => .inr (.inr h)
                clear h21 h24
                refine HT_runA ?_
                exact ⟨(decide (v.kind = 0) && (decide (v.init < v.low) || decide (v.high < v.init))), hz.symm, le_mk (fun n => n) [] rfl (by simp [upS, keepS, *]) (by simp [*, upS]) (by simp [upS])⟩
          rintro _ rfl
          simp only [upS, keepS, insS]
          try simp only [keepS, KN, Nat.reduceBEq, if_true, if_false, ins, Nat.reduceLT]
          refine (HT_cond rfl (fun h28 => ?_) (fun h28 => HT_skip ?_))
          · try simp only [BN] at h28
            rw [if_pos h28] at hc
            rw [hc, if_neg (by decide)] at hJ
            subst hJ
            rw [if_neg (by decide)] at hres
            subst hres
            refine HT_seq <| HT_runA ?_
            exact HT_retA fun h => ⟨.inr rfl, h⟩
          · try simp only [BN] at h28
            rw [if_neg h28] at hc
            rw [hc, if_pos rfl] at hJ
            refine HT_runA ?_
            exact ⟨k + 1, ⟨hk1, hJ⟩, by omega, le_mk (fun n => n) [] rfl (by simp [upS, keepS, *]) (by simp [*, upS]) (by simp [upS])⟩
  · try simp only [BN] at h4
    have hkl : k = vars.length := by omega
    rw [hkl, List.drop_length] at hJ
    simp only [vcs] at hJ
    have hv := hgood hJ.symm
    rw [if_pos hJ.symm, ← spRes_any] at hres
    clear hgood hJ hkl hk h4
    obtain ⟨L, hL⟩ : ∃ L : List Int, L = [1, 2, 3] := ⟨_, rfl⟩
    have hL3 : L.length = 3 := by rw [hL]; rfl
    have hLi : ∀ k ∈ L, 1 ≤ k ∧ k ≤ 3 := by rw [hL]; decide
    rw [← hL] at hres
    refine (HT_exit ?_)
    refine HT_seq <| HT_seq <| HT_runA ?_
    refine HT_block <| (HT_loopU [0, 71, 72] (fun (x : Nat) => [(73, .v (li x))]) (fun (x : Nat) => [(71, .row 48 1 (encIs L))]) (fun (x : Nat) => x ≤ 3 ∧ spRes vars (L.drop x) = res) (fun (x : Nat) => 3 - x) (0 : Nat) ⟨Nat.zero_le _, hres⟩ ?_ ?_)
    · exact le_mk (fun n => n) [] rfl (by simp [*, upS, keepS]) (by simp [upS, encIs, hL]) (by simp [upS])
    rintro k2 ⟨hk2, hJ2⟩
    simp only [upS, keepS, insS]
    try simp only [keepS, KN, Nat.reduceBEq, if_true, if_false, ins, Nat.reduceLT]
    clear hres hL
    refine HT_seq <| HT_runA ?_
    refine HT_seq <| (HT_cond rfl (fun h36 => HT_skip ?_) (fun h36 => ?_))
    · try simp only [BN] at h36
      have hlt : k2 < L.length := by omega
      obtain ⟨kd, he, hd⟩ := at_lt hlt
      have hw1 := wrap1 hlt (by omega)
      have hk1 : k2 + 1 ≤ 3 := by omega
      have hkd := hLi kd (List.mem_of_getElem? he)
      have hsp := prV_in hv (vars.filter fun v => decide (v.kind = kd)) 1 (fun v h => (List.mem_filter.1 h).1) (by decide)
      have hsp' : 1 ≤ spc vars kd ∧ spc vars kd ≤ 4097 := hsp
      have c := spaceP_con vars kd hkd hv hl
      rw [hd] at hJ2
      simp only [spRes] at hJ2
      obtain ⟨sv, hsv⟩ : ∃ s, spc vars kd = s := ⟨_, rfl⟩
      have hbk : badK vars kd = (decide (4096 < sv) || (decide (kd = 3) && decide (256 < sv))) := by unfold badK; rw [hsv]
      rw [hsv] at c hsp'
      clear hlt h36 hsp hsv hLi hv
      refine HT_seq <| HT_block <| HT_seq <| HT_runA ?_
      refine HT_seq <| (HT_runc [⟨true, .tup [li (if sv ≤ 4096 then sv else 0), li (if sv ≤ 4096 then 0 else 4)], none⟩] (by simp [*]; first | exact ⟨rfl, Iff.rfl⟩ | exact ⟨rfl, trivial⟩ | rfl) ?_ ?_)
      · first | exact c _ | exact trivial | simpa [*] using c _
      refine HT_seq <| HT_runA ?_
      refine (HT_cond rfl (fun h40 => ?_) (fun h40 => HT_skip ?_))
      · try simp only [BN] at h40
        have hb : badK vars kd = true := by
          rw [hbk]
          by_cases h : sv ≤ 4096
          · simp [h] at h40
            simp [h40]
          · simp; omega
        rw [if_pos hb] at hJ2
        subst hJ2
        refine HT_seq <| HT_runA ?_
        exact HT_retA fun h => ⟨.inr rfl, h⟩
      · try simp only [BN] at h40
        have hb : badK vars kd = false := by
          rw [hbk]
          by_cases h : sv ≤ 4096
          · simp [h] at h40
            simp
            omega
          · simp [h] at h40
        rw [hb, if_neg (by decide)] at hJ2
        refine HT_runA ?_
        exact ⟨k2 + 1, ⟨hk1, hJ2⟩, by omega, le_mk (fun n => n) [] rfl (by simp [upS, keepS, *]) (by simp [*, upS]) (by simp [upS])⟩
    · try simp only [BN] at h36
      have hkl : k2 = L.length := by omega
      rw [hkl, List.drop_length] at hJ2
      simp only [spRes] at hJ2
      subst hJ2
      refine (HT_exit ?_)
      refine HT_seq <| HT_runA ?_
      exact HT_retA fun h => ⟨.inr rfl, h⟩
end Go.Proofs.YteekbhkjfaegiaaGreat
