/- Part 16: contracts of functions of the program and of the reference, and plain facts about what they compute; used by the proof of the claimed statement. Conditions: as each theorem states. -/
import Derived.Test.YtfilidjbpomgoaaGreatR15
import Derived.Test.YtfilidjbpomgoaaGreatR14
import Derived.Test.YtfilidjbpomgoaaGreatR11
import Derived.Test.YtfilidjbpomgoaaGreatR13
set_option linter.unusedSimpArgs false
set_option linter.unusedVariables false
set_option linter.unnecessarySimpa false
set_option maxRecDepth 100000
set_option maxHeartbeats 2000000
namespace Go.Proofs.YtfilidjbpomgoaaGreat
open Go Go.Hl

/-! ## the even program: outputs stay, the time is constant -/
theorem shB_6 {vars : List Vr} {nh : Nat} {v n : Int} {t : Tm} {la lb_ : Nat} {bs : List Int} {last : Bool} (h : shB vars nh 6 v n t la lb_ bs last = true) : la = 0 ∧ lb_ = 0 ∧ last = true := by
  unfold shB at h
  simp only [show ¬ (6 : Int) = 0 by decide, show ¬ (6 : Int) = 1 by decide, show ¬ (6 : Int) = 2 by decide, show ¬ (6 : Int) = 3 by decide, show ¬ (6 : Int) = 4 by decide, show ¬ (6 : Int) = 5 by decide, if_true, if_false, Bool.and_eq_true, decide_eq_true_eq] at h
  exact ⟨h.1.1.1.1.1.1, h.1.1.1.1.1.2, h.1.1.1.1.2⟩
theorem ss_noS {vars : List Vr} {nh : Nat} : ∀ l : List St, ssC vars nh l false = 0 → noS l = true
  | [], _ => by simp [noS]
  | .mk d c v n t a b bs :: l, h => by
    obtain ⟨hs, _, _, ha, hb, hl⟩ := ssC_split h
    simp only [noS, ss_noS a ha, ss_noS b hb, ss_noS l hl, Bool.and_true, decide_eq_true_eq]
    intro hd
    subst hd
    have := (shB_6 hs).2.2
    simp at this
theorem ss_split {vars : List Vr} {nh : Nat} : ∀ l : List St, ssC vars nh l true = 0 → noS l = true ∨ ∃ m c v n t bs, l = m ++ [.mk 6 c v n t [] [] bs] ∧ noS m = true
  | [], _ => .inl (by simp [noS])
  | .mk d c v n t a b bs :: l, h => by
    obtain ⟨hs, _, _, ha, hb, hl⟩ := ssC_split h
    by_cases hd : d = 6
    · subst hd
      obtain ⟨h1, h2, h3⟩ := shB_6 hs
      have e1 := List.eq_nil_of_length_eq_zero h1
      have e2 := List.eq_nil_of_length_eq_zero h2
      have e3 : l = [] := by simpa using h3
      subst e1 e2 e3
      exact .inr ⟨[], c, v, n, t, bs, rfl, by simp [noS]⟩
    · rcases ss_split l hl with h1 | ⟨m, c', v', n', t', bs', rfl, hm⟩
      · exact .inl (by simp only [noS, ss_noS a ha, ss_noS b hb, h1, Bool.and_true, decide_eq_true_eq]; exact hd)
      · exact .inr ⟨.mk d c v n t a b bs :: m, c', v', n', t', bs', rfl, by simp only [noS, ss_noS a ha, ss_noS b hb, hm, Bool.and_true, decide_eq_true_eq]; exact hd⟩
def stl (bs : List Int) (t : Int) : Int := stlL bs t t false
theorem stl_true : ∀ (l : List Int) (t best : Int), t ≤ best → stlL l t best true ≤ best ∧ t ≤ stlL l t best true ∧ (stlL l t best true = best ∨ stlL l t best true ∈ l) ∧ ∀ b ∈ l, t ≤ b → stlL l t best true ≤ b
  | [], t, best, h => by simp [stlL, h]
  | x :: l, t, best, h => by
    simp only [stlL]
    split
    · rename_i hx
      have hx2 : x < best := hx.2.resolve_left (by decide)
      have ih := stl_true l t x hx.1
      refine ⟨by omega, ih.2.1, ?_, ?_⟩
      · rcases ih.2.2.1 with e | e
        · exact .inr (by rw [e]; exact List.mem_cons_self)
        · exact .inr (List.mem_cons_of_mem _ e)
      · intro b hb hbt
        rcases List.mem_cons.1 hb with rfl | h1
        · exact ih.1
        · exact ih.2.2.2 b h1 hbt
    · rename_i hx
      have ih := stl_true l t best h
      refine ⟨ih.1, ih.2.1, ?_, ?_⟩
      · rcases ih.2.2.1 with e | e
        · exact .inl e
        · exact .inr (List.mem_cons_of_mem _ e)
      · intro b hb hbt
        rcases List.mem_cons.1 hb with rfl | h1
        · have : ¬ b < best := fun hlt => hx ⟨hbt, .inr hlt⟩
          have := ih.1
          omega
        · exact ih.2.2.2 b h1 hbt
theorem stl_false : ∀ (l : List Int) (t best : Int), ((∀ b ∈ l, b < t) ∧ stlL l t best false = best) ∨ (stlL l t best false ∈ l ∧ t ≤ stlL l t best false ∧ ∀ b ∈ l, t ≤ b → stlL l t best false ≤ b)
  | [], t, best => .inl ⟨by simp, by simp [stlL]⟩
  | x :: l, t, best => by
    simp only [stlL]
    split
    · rename_i hx
      have ih := stl_true l t x hx.1
      refine .inr ⟨?_, ih.2.1, ?_⟩
      · rcases ih.2.2.1 with e | e
        · rw [e]; exact List.mem_cons_self
        · exact List.mem_cons_of_mem _ e
      · intro b hb hbt
        rcases List.mem_cons.1 hb with rfl | h1
        · exact ih.1
        · exact ih.2.2.2 b h1 hbt
    · rename_i hx
      have hlt : x < t := by
        refine Int.not_le.1 fun hle => hx ⟨hle, .inl trivial⟩
      rcases stl_false l t best with ⟨h1, h2⟩ | ⟨h1, h2, h3⟩
      · refine .inl ⟨fun b hb => ?_, h2⟩
        rcases List.mem_cons.1 hb with rfl | h
        · exact hlt
        · exact h1 b h
      · refine .inr ⟨List.mem_cons_of_mem _ h1, h2, fun b hb hbt => ?_⟩
        rcases List.mem_cons.1 hb with rfl | h
        · omega
        · exact h3 b h hbt
theorem stl_mono {bs : List Int} {s t : Int} (h : s ≤ t) : stl bs s ≤ stl bs t := by
  unfold stl
  rcases stl_false bs s s with ⟨h1, h2⟩ | ⟨h1, h2, h3⟩
  · rcases stl_false bs t t with ⟨g1, g2⟩ | ⟨g1, g2, g3⟩
    · omega
    · omega
  · rcases stl_false bs t t with ⟨g1, g2⟩ | ⟨g1, g2, g3⟩
    · have := g1 _ h1
      omega
    · exact h3 _ g1 (by omega)
theorem steady_body (vars : List Vr) (nh : Nat) {l : List St} (h : ssC vars nh l true = 0) (h' : ssC vars nh (evL l) true = 0) (hb : BT (evL l) ≤ 67108864) :
    ∃ T, ∀ hv vs : List Int, (stepsF vars hv (evL l) ⟨vs, [], 0⟩).outs = (stepsF vars hv l ⟨vs, [], 0⟩).outs ∧ (stepsF vars hv (evL l) ⟨vs, [], 0⟩).time = T ∧ (stepsF vars hv l ⟨vs, [], 0⟩).time ≤ T := by
  have ok := ssC_ok _ _ h
  have ok' := ssC_ok _ _ h'
  have ev := fun hv vs : List Int => (ev_vals vars hv l ⟨vs, [], 0⟩ ⟨vs, [], 0⟩ ⟨rfl, rfl⟩).2
  rcases ss_split l h with hS | ⟨m, c, v, n, t, bs, rfl, hS⟩
  · have hs := SX_BT _ ok'
    refine ⟨SX (evL l), fun hv vs => ⟨ev hv vs, ?_⟩⟩
    have := (ev_time vars hv l hS ok ok').run hb ⟨vs, [], 0⟩ (Int.le_refl 0) (by simp only; omega)
    simp only [Int.zero_add] at this
    exact ⟨this.1, this.2.2⟩
  · have e : evL (m ++ [.mk 6 c v n t [] [] bs]) = evL m ++ [.mk 6 c v n t [] [] bs] := by
      rw [evL_app]
      simp [evL, balS]
    rw [e] at ok' hb
    rw [okL_app, Bool.and_eq_true] at ok ok'
    have hs := SX_BT _ ok'.1
    have hc : 0 ≤ c := by
      have := ok.2
      simp only [okL, okS, Bool.and_eq_true, decide_eq_true_eq] at this
      exact this.1.1.1
    simp only [BT_app, BT, if_neg (show ¬ (6 : Int) = 4 by decide), if_neg (show ¬ (6 : Int) = 3 by decide), Int.add_zero] at hb
    refine ⟨stl bs (SX (evL m) + c), fun hv vs => ⟨ev hv vs, ?_⟩⟩
    have hr := (ev_time vars hv m hS ok.1 ok'.1).run (by omega) ⟨vs, [], 0⟩ (Int.le_refl 0) (by simp only; omega)
    simp only [Int.zero_add] at hr
    rw [e, stepsF_app, stepsF_app]
    have fin : ∀ s : Sta, 0 ≤ s.time → s.time + c ≤ 1000000000000 → (stepsF vars hv [.mk 6 c v n t [] [] bs] s).time = stl bs (s.time + c) := by
      intro s h0 h1
      have := tick_time h0 hc h1
      simp only [stepsF, if_neg (show ¬ (6 : Int) = 4 by decide), if_neg (show ¬ (6 : Int) = 3 by decide), leafF, if_neg (show ¬ (6 : Int) = 0 by decide), if_neg (show ¬ (6 : Int) = 1 by decide), if_neg (show ¬ (6 : Int) = 5 by decide), if_true, this]
      rfl
    rw [fin _ (by omega) (by omega), fin _ (by omega) (by omega), hr.1]
    exact ⟨rfl, stl_mono (by omega)⟩
theorem BT_of {l : List St} {vars : List Vr} {nh : Nat} (h : ssC vars nh l true = 0) (ho : overL l = false) : BT l ≤ 67108864 := by
  have ht := (over_split ho).2.2
  have := BT_cut l ⟨0, 0, 0⟩ (ssC_ok _ _ h) (Int.le_refl 0)
  simp only [Int.zero_add, mn] at this
  obtain ⟨h1, h2⟩ := this
  (repeat' split at h2) <;> omega
theorem steady_run {f : Fl} (h : codeC f = 0) (h' : codeC ⟨f.vars, f.hats, evL f.body⟩ = 0) : ∃ T : Int, ∀ i, (stL i f.vars 0 0 0 [] true).2 = 0 →
    runF ⟨f.vars, f.hats, evL f.body⟩ i = (⟨(runF f i).1.outs, T⟩, 0) ∧ (runF f i).2 = 0 ∧ (runF f i).1.time ≤ T := by
  obtain ⟨_, _, _, hs, _⟩ := code_split h
  obtain ⟨_, _, _, hs', ho⟩ := code_split h'
  obtain ⟨T, hT⟩ := steady_body f.vars f.hats.length hs hs' (BT_of hs' ho)
  refine ⟨T, fun i h0 => ?_⟩
  have := hT (hvals (stL i f.vars 0 0 0 [] true).1 f.hats) (stL i f.vars 0 0 0 [] true).1
  unfold runF playF
  simp only [if_pos h, if_pos h', if_pos h0, this.1, this.2.1, if_true]
  first | exact ⟨rfl, rfl, this.2.2⟩ | exact ⟨trivial, trivial, this.2.2⟩ | simpa using this.2.2
end Go.Proofs.YtfilidjbpomgoaaGreat

namespace Go.Proofs.YtfilidjbpomgoaaGreat
open Go Go.Hl

/-! ## a row of nil slices is one of empty slices -/
def dwk (d d' : CD) : Prop := d' = d ∨ (d = .lit nilS ∧ ∃ k, d' = .sl k [])
def rwk : List CD → List CD → Prop
  | [], [] => True
  | d :: l, d' :: l' => dwk d d' ∧ rwk l l'
  | _, _ => False
theorem rwk_len : ∀ {l l' : List CD}, rwk l l' → l'.length = l.length
  | [], [], _ => rfl
  | d :: l, d' :: l', h => by simp [rwk_len h.2]
  | [], _ :: _, h => h.elim
  | _ :: _, [], h => h.elim
theorem rwk_get : ∀ {l l' : List CD} (j : Nat) (d' : CD), rwk l l' → l'[j]? = some d' → ∃ d, l[j]? = some d ∧ dwk d d'
  | [], [], j, d', _, h => by simp at h
  | d :: l, e :: l', 0, d', h, hj => by
    simp only [List.getElem?_cons_zero, Option.some.injEq] at hj
    subst hj
    exact ⟨d, rfl, h.1⟩
  | d :: l, e :: l', j + 1, d', h, hj => by
    simp only [List.getElem?_cons_succ] at hj ⊢
    exact rwk_get j d' h.2 hj
  | [], _ :: _, _, _, h, _ => h.elim
  | _ :: _, [], _, _, h, _ => h.elim
theorem rows_wk {F : Nat → Prop} {w : World} {s : Nat} {rows : List (List CD)} {r r' : List CD} {v : Value} (h : CRel F w (.sl s (rows ++ [r])) v) (hr : rwk r r') : CRel F w (.sl s (rows ++ [r'])) v := by
  have hget : ∀ i j d', getRC (rows ++ [r']) i j = some d' → ∃ d, getRC (rows ++ [r]) i j = some d ∧ dwk d d' := by
    intro i j d' hd
    unfold getRC at hd ⊢
    rcases Nat.lt_trichotomy i rows.length with hi | hi | hi
    · rw [List.getElem?_append_left hi] at hd ⊢
      exact ⟨d', hd, .inl rfl⟩
    · subst hi
      simp only [List.getElem?_append_right (Nat.le_refl _), Nat.sub_self, List.getElem?_cons_zero, Option.bind_some] at hd ⊢
      exact rwk_get j d' hr hd
    · rw [List.getElem?_eq_none (by simp; omega)] at hd
      simp at hd
  generalize hR : rows ++ [r] = R at h hget
  cases h with
  | nil => simp at hR
  | emp => simp at hR
  | sl _ _ b o cap cells hF hcap hmax hs hc h1 hrl =>
    subst hR
    have hlen : (rows ++ [r]).length = (rows ++ [r']).length := by simp
    rw [hlen]
    refine CRel.sl s (rows ++ [r']) b o cap cells hF (by rw [← hlen]; exact hcap) hmax ?_ ?_ ?_ ?_
    · intro x hx
      rcases List.mem_append.1 hx with hx | hx
      · exact hs x (by simp [hx])
      · simp only [List.mem_singleton] at hx
        subst hx
        rw [rwk_len hr]
        exact hs r (by simp)
    · intro i j d' hd
      obtain ⟨d, h2, _⟩ := hget i j d' hd
      exact hc i j d h2
    · intro i j d' hd
      obtain ⟨d, h2, _⟩ := hget i j d' hd
      exact h1 i j d h2
    · intro i j d' hd
      obtain ⟨d, h2, h3⟩ := hget i j d' hd
      have h4 := hrl i j d h2
      rcases h3 with rfl | ⟨rfl, k, rfl⟩
      · exact h4
      · generalize cells i j = u at h4
        cases h4
        exact CRel.nil k
theorem con_argR {P : Program} {f : FuncId} {fresh : Bool} {r : RV} {ob : Option Ob} {d n : Nat} {args : List TV} {t t' : TV} (h : Con P f fresh (args.set n t') r ob d) (hx : args[n]? = some t)
    (hw : ∀ (F : Nat → Prop) (γ : Nat → Value) (w : World) v, TVRel F γ w t v → TVRel F γ w t' v) : Con P f fresh args r ob d := by
  refine ⟨h.1, fun F w vs hF hsz hargs => h.2 F w vs hF (by simpa using hsz) fun j t2 u ht hu => ?_⟩
  rw [List.getElem?_set] at ht
  split at ht
  · rename_i e
    subst e
    split at ht
    · cases ht
      exact hw _ _ _ _ (hargs n _ u hx hu)
    · cases ht
  · exact hargs j t2 u ht hu

/-! ## a final settle -/
def lastS (l : List St) : Bool :=
  match l[l.length - 1]? with
  | some s => decide (s.do_ = 6)
  | none => false
def lastI (l : List Int) : Int := (l[l.length - 1]?).getD 0
def setl (bs : List Int) : St := .mk 6 0 0 0 (.mk 0 0 []) [] [] bs
def setC (body : List St) (bs : List Int) (T : Int) : Int :=
  if lastS body = true then 15 else if riseB bs = false then 1 else if 67108864 < lastI bs ∨ lastI bs < T then 3 else 0
def setF (f : Fl) (bs : List Int) (T : Int) : Fl × Int :=
  if setC f.body bs T = 0 then chkF ⟨f.vars, f.hats, f.body ++ [setl bs]⟩ else (fl0, setC f.body bs T)
theorem nodes_setl (l : List St) (bs : List Int) : nodesS (l ++ [setl bs]) = nodesS l + 2 := by
  rw [nodesS_app]
  simp [setl, nodesS, St.nodes, Tm.nodes, nodesT]
theorem bnd_setl {l : List St} {bs : List Int} (h : bndL l = true) (hb : bs.length ≤ 1000000000) : bndL (l ++ [setl bs]) = true := by
  rw [bndL_app, h]
  simp [setl, bndL, bndS, hb]
theorem last_or (l : List St) : (l = [] ∧ lastS l = false) ∨ ∃ s, l[l.length - 1]? = some s ∧ 1 ≤ l.length ∧ lastS l = decide (s.do_ = 6) := by
  rcases Nat.lt_or_ge 0 l.length with h | h
  · obtain ⟨s, he, _⟩ := at_lt (show l.length - 1 < l.length by omega)
    exact .inr ⟨s, he, h, by unfold lastS; rw [he]⟩
  · have : l = [] := List.eq_nil_of_length_eq_zero (by omega)
    subst this
    exact .inl ⟨rfl, rfl⟩
theorem rise_nil : riseB [] = false := rfl
theorem rise_or {bs : List Int} {b0 : Int} (hb : bs[0]? = some b0) : riseB bs = ((decide (1 ≤ bs.length) && (decide (bs.length ≤ 32) && decide (0 ≤ b0))) && risB bs) := by
  unfold riseB head0
  rw [hb]
theorem settledP_con (f : Fl) (bs : List Int) (hv : f.vars.length ≤ 1000000) (hh : f.hats.length ≤ 1000000) (hn : nodesS f.body + nodesH f.hats ≤ 100000) (hb : bndL f.body = true) (hc : codeC f = 0) (hbs : bs.length ≤ 50) (d : Nat) :
    Con Tryz.prog 18 false [aF f, lI bs] (.tup [aF (setF f bs (bdL CP f.body ⟨0, 0, 0⟩).t).1, li (setF f bs (bdL CP f.body ⟨0, 0, 0⟩).t).2]) none d := by
  have cb := boundsP_con f hv hh (by omega) hb hc
  have cco := copiedO_con f hv hh (fun h hm => by have := nodesH_mem hm; omega) (by omega) hb
  have ccl := cloneI_con bs (by omega)
  have cch := checked_con ⟨f.vars, f.hats, f.body ++ [setl bs]⟩ hv hh (by simp only [nodes_setl]; omega) (bnd_setl hb (by omega))
  have hlen := len_nodesS f.body
  obtain ⟨res, hres⟩ : ∃ r, setF f bs (bdL CP f.body ⟨0, 0, 0⟩).t = r := ⟨_, rfl⟩
  rw [hres]
  unfold setF at hres
  obtain ⟨vars, hats, body⟩ := f
  simp only at hv hh hn hb hres cco cch hlen
  obtain ⟨⟨q1, q2, q3⟩, hB⟩ : ∃ x, bdL CP body ⟨0, 0, 0⟩ = x := ⟨_, rfl⟩
  rw [hB] at cb hres
  simp only at cb hres
  obtain ⟨C, hC⟩ : ∃ C, setC body bs q3 = C := ⟨_, rfl⟩
  rw [hC] at hres
  unfold setC at hC
  have hroom : room (body.length + 1) 144 := room_of (by omega) (by omega)
  have hblen : body.length ≤ 100000 := by omega
  have eset : encSs (body ++ [setl bs]) = encSs body ++ [[iC 6, iC 0, iC 0, iC 0, iC 0, iC 0, .sl 3 [], .sl 10 [], .sl 10 [], .sl 1 (encIs bs)]] := by
    rw [encS_app]
    simp [setl]
  obtain ⟨⟨⟨kv, kh, kb⟩, kc⟩, hK⟩ : ∃ x, chkF ⟨vars, hats, body ++ [setl bs]⟩ = x := ⟨_, rfl⟩
  rw [hK] at cch hres
  simp only [aF, Fl.enc, List.map_cons, List.map_nil, eset] at cb cch
  have cch' : ∀ d, Con Tryz.prog 30 false [.agg [.c (.sl 5 (encVs vars)), .c (.sl 6 (encHs hats)), .c (.sl 10 (encSs body ++ [[iC 6, iC 0, iC 0, iC 0, iC 0, iC 0, .lit nilS, .lit nilS, .lit nilS, .sl 1 (encIs bs)]]))]] (.tup [.agg [.c (.sl 5 (encVs kv)), .c (.sl 6 (encHs kh)), .c (.sl 10 (encSs kb))], li kc]) none d := by
    intro d
    refine con_argR (n := 0) (cch d) rfl fun F γ w v hv => ?_
    obtain ⟨vs, rfl, hcs⟩ := hv
    refine ⟨vs, rfl, by simpa using hcs.1, fun j y u hy hu => ?_⟩
    match j, hy with
    | 0, hy => exact hcs.2 0 _ u (by simpa using hy) hu
    | 1, hy => exact hcs.2 1 _ u (by simpa using hy) hu
    | 2, hy =>
      simp only [List.getElem?_cons_succ, List.getElem?_cons_zero, Option.some.injEq] at hy
      subst hy
      have := hcs.2 2 _ u rfl hu
      exact rows_wk this (by simp [rwk, dwk])
  clear hK hB hn hv hh hb cch eset hlen hc
  refine con_of_HT Tryz.func18 rfl (by kernel_rfl) (Nat.le_of_ble_eq_true rfl) ?_
  simp only [Tryz.f18]
  simp only [aF, Fl.enc, List.map_cons, List.map_nil]
  refine HT_seq <| (HT_run (by simp [*]; rfl) ?_)
  refine HT_seq <| (HT_runc [⟨true, .tup [li q1, li q2, li q3, li 0], none⟩] (by simp [*]; first | exact ⟨rfl, Iff.rfl⟩ | exact ⟨rfl, trivial⟩ | rfl) ?_ ?_)
  · first | exact cb _ | exact trivial | simpa [*] using cb _
  refine HT_seq <| HT_seq <| (HT_run (by simp [*]; rfl) ?_)
  refine (HT_cond rfl (fun h3 => ?_) (fun h3 => HT_skip ?_))
  · exact absurd h3 (by simp)
  · try simp only [Bool.or_eq_true, Bool.and_eq_true, Bool.or_eq_false_iff, Bool.and_eq_false_iff, Bool.not_eq_true', Bool.not_eq_false', decide_eq_true_eq, decide_eq_false_iff_not] at h3
    refine HT_seq <| (HT_run (by simp [*]; rfl) ?_)
    refine HT_seq <| HT_cutU [1, 2, 4, 8, 10] (fun (z : Bool) => [(38, .v (lb z))]) (fun (z : Bool) => [(2, .box [.c (.sl 5 (encVs vars)), .c (.sl 6 (encHs hats)), .c (.sl 10 (encSs body))]), (4, .box [.c (.lit nilS), .c (.lit nilS), .c (.lit nilS)])]) (fun (z : Bool) => z = lastS body) ?_ ?_
    · clear hres hC cch' cco ccl
      rcases last_or body with ⟨h0, hls⟩ | ⟨⟨sd, sc, sv, sn, ⟨so, stn, sks⟩, sa, sb, sbs⟩, he, hpos, hls⟩
      · subst h0
        have hwm : IntKind.i64.wrap (-1) = -1 := by decide
        refine HT_run (by simp [*]; rfl) ?_
        exact ⟨false, hls.symm, le_mk (fun n => n) [] rfl (by simp [upS, keepS, *]) (by simp [*, upS]) (by simp [upS])⟩
      · have hw1 : IntKind.i64.wrap ((body.length : Int) - 1) = (body.length : Int) - 1 := wrap_in (by omega) (by omega)
        have hw2 : 0 ≤ (body.length : Int) - 1 := by omega
        have hw3 : ((body.length : Int) - 1).toNat = body.length - 1 := by omega
        have hw4 : 0 < body.length := hpos
        have hw5 : 1 ≤ (body.length : Int) := by omega
        have he' := get_encS he
        simp only [St.enc, Tm.enc, List.cons_append, List.nil_append] at he'
        simp only [St.do_] at hls
        clear he
        refine HT_run (by simp [*]; rfl) ?_
        exact ⟨decide (sd = 6), hls.symm, le_mk (fun n => n) [] rfl (by simp [upS, keepS, *]) (by simp [*, upS]) (by simp [upS])⟩
    rintro LS hLS
    simp only [upS, keepS, insS]
    try simp only [keepS, List.contains_cons, List.contains_nil, Bool.or_false, Bool.or_true, Bool.true_or, Bool.false_or, Nat.reduceBEq, BEq.rfl, beq_self_eq_true, if_true, if_false, Bool.false_eq_true, ite_true, ite_false, ins, Nat.reduceLT]
    rw [← hLS] at hC
    clear hLS
    refine (HT_cond rfl (fun h8 => ?_) (fun h8 => HT_skip ?_))
    · try simp only [Bool.or_eq_true, Bool.and_eq_true, Bool.or_eq_false_iff, Bool.and_eq_false_iff, Bool.not_eq_true', Bool.not_eq_false', decide_eq_true_eq, decide_eq_false_iff_not] at h8
      rw [if_pos h8] at hC
      subst hC
      simp at hres
      subst hres
      clear cch' cco ccl
      refine HT_seq <| (HT_run (by simp [*]; rfl) ?_)
      refine HT_le (le_box 4 [.c (.sl 5 []), .c (.sl 6 []), .c (.sl 10 [])] rfl (by (repeat' (first | exact LWk.nil | apply LWk.cons | exact CWk.refl _ | exact CWk.nil _)))) ?_
      exact HT_ret ⟨.inr rfl, _, le_refl _, ⟨⟨_, by simp; rfl, by simp [resR, fl0]⟩, by simp, fun h => by cases h⟩⟩
    · try simp only [Bool.or_eq_true, Bool.and_eq_true, Bool.or_eq_false_iff, Bool.and_eq_false_iff, Bool.not_eq_true', Bool.not_eq_false', decide_eq_true_eq, decide_eq_false_iff_not] at h8
      rw [if_neg (by simpa using h8)] at hC
      clear h8
      rcases nil_or bs with h0 | ⟨b0, hb0⟩
      · subst h0
        rw [rise_nil] at hC
        simp only [if_true] at hC
        subst hC
        simp at hres
        subst hres
        clear cch' cco ccl
        refine HT_seq <| HT_seq <| (HT_run (by simp [*]; rfl) ?_)
        refine (HT_cond rfl (fun h12 => ?_) (fun h12 => HT_skip ?_))
        · try simp only [Bool.or_eq_true, Bool.and_eq_true, Bool.or_eq_false_iff, Bool.and_eq_false_iff, Bool.not_eq_true', Bool.not_eq_false', decide_eq_true_eq, decide_eq_false_iff_not] at h12
          refine HT_seq <| (HT_run (by simp [*]; rfl) ?_)
          refine HT_le (le_box 4 [.c (.sl 5 []), .c (.sl 6 []), .c (.sl 10 [])] rfl (by (repeat' (first | exact LWk.nil | apply LWk.cons | exact CWk.refl _ | exact CWk.nil _)))) ?_
          exact HT_ret ⟨.inr rfl, _, le_refl _, ⟨⟨_, by simp; rfl, by simp [resR, fl0]⟩, by simp, fun h => by cases h⟩⟩
        · exact absurd h12 (by simp)
      · have hpos : 1 ≤ bs.length := (List.getElem?_eq_some_iff.1 hb0).1
        have hrz := rise_or hb0
        refine HT_seq <| HT_seq <| (HT_run (by simp [*]; rfl) ?_)
        refine (HT_cond rfl (fun h12 => ?_) (fun h12 => HT_skip ?_))
        · try simp only [Bool.or_eq_true, Bool.and_eq_true, Bool.or_eq_false_iff, Bool.and_eq_false_iff, Bool.not_eq_true', Bool.not_eq_false', decide_eq_true_eq, decide_eq_false_iff_not] at h12
          rw [show riseB bs = false by
              rw [hrz]
              simp only [Bool.and_eq_false_iff, decide_eq_false_iff_not]
              omega] at hC
          simp only [if_true] at hC
          subst hC
          simp at hres
          subst hres
          clear cch' cco ccl
          refine HT_seq <| (HT_run (by simp [*]; rfl) ?_)
          refine HT_le (le_box 4 [.c (.sl 5 []), .c (.sl 6 []), .c (.sl 10 [])] rfl (by (repeat' (first | exact LWk.nil | apply LWk.cons | exact CWk.refl _ | exact CWk.nil _)))) ?_
          exact HT_ret ⟨.inr rfl, _, le_refl _, ⟨⟨_, by simp; rfl, by simp [resR, fl0]⟩, by simp, fun h => by cases h⟩⟩
        · try simp only [Bool.or_eq_true, Bool.and_eq_true, Bool.or_eq_false_iff, Bool.and_eq_false_iff, Bool.not_eq_true', Bool.not_eq_false', decide_eq_true_eq, decide_eq_false_iff_not] at h12
          have hrz : riseB bs = risB bs := by
            rw [hrz, decide_eq_true (by omega), decide_eq_true (by omega), decide_eq_true (by omega)]
            rfl
          rw [hrz] at hC
          have hl32 : bs.length ≤ 32 := by omega
          clear hrz h12 hb0
          refine HT_seq <| HT_seq <| (HT_run (by simp [*]; rfl) ?_)
          refine HT_block <| (HT_loopU [1, 2, 4, 8] (fun (x : Nat) => [(11, .v (li ((x : Int) + 1)))]) (fun (x : Nat) => [(2, .box [.c (.sl 5 (encVs vars)), .c (.sl 6 (encHs hats)), .c (.sl 10 (encSs body))]), (4, .box [.c (.lit nilS), .c (.lit nilS), .c (.lit nilS)])]) (fun (x : Nat) => x + 1 ≤ bs.length ∧ ∀ j : Nat, j < x → risAt bs j = true) (fun (x : Nat) => bs.length - x) (0 : Nat) ⟨hpos, fun j hj => absurd hj (Nat.not_lt_zero j)⟩ ?_ ?_)
          · exact le_mk (fun n => n) [] rfl (by simp [*, upS, keepS]) (by simp [*, upS]) (by simp [upS])
          rintro k ⟨hk, hJ⟩
          simp only [upS, keepS, insS]
          try simp only [keepS, List.contains_cons, List.contains_nil, Bool.or_false, Bool.or_true, Bool.true_or, Bool.false_or, Nat.reduceBEq, BEq.rfl, beq_self_eq_true, if_true, if_false, Bool.false_eq_true, ite_true, ite_false, ins, Nat.reduceLT]
          clear cb
          refine HT_seq <| HT_seq <| (HT_run (by simp [*]; rfl) ?_)
          refine (HT_cond rfl (fun h18 => HT_skip ?_) (fun h18 => ?_))
          · try simp only [Bool.or_eq_true, Bool.and_eq_true, Bool.or_eq_false_iff, Bool.and_eq_false_iff, Bool.not_eq_true', Bool.not_eq_false', decide_eq_true_eq, decide_eq_false_iff_not] at h18
            have hlt : k + 1 < bs.length := by omega
            obtain ⟨b, hb⟩ := get_I hlt
            obtain ⟨a, ha⟩ := get_I (show k < bs.length by omega)
            have hw : IntKind.i64.wrap ((k : Int) + 1 + 1) = (k : Int) + 1 + 1 := wrap_in (by omega) (by omega)
            have hwj : IntKind.i64.wrap (k : Int) = k := wrap_in (by omega) (by omega)
            have hri : risAt bs k = decide (a < b) := by unfold risAt; rw [ha, hb]
            have hj1 : 0 ≤ (k : Int) + 1 := by omega
            have hj2 : ((k : Int) + 1).toNat = k + 1 := by omega
            have hk2 : k + 1 + 1 ≤ bs.length := by omega
            clear hlt h18
            refine HT_seq <| HT_block <| HT_seq <| (HT_drun (by kernel_rfl) (by kernel_rfl) (by rfl) (by simp [*]; rfl) ?_)
            refine (HT_cond rfl (fun h20 => ?_) (fun h20 => HT_skip ?_))
            · try simp only [Bool.or_eq_true, Bool.and_eq_true, Bool.or_eq_false_iff, Bool.and_eq_false_iff, Bool.not_eq_true', Bool.not_eq_false', decide_eq_true_eq, decide_eq_false_iff_not] at h20
              rw [show risB bs = false from ris_bad (i := k) (by omega) (by rw [hri]; simpa using h20)] at hC
              simp only [if_true] at hC
              subst hC
              simp at hres
              subst hres
              clear cch' cco ccl
              refine HT_seq <| (HT_run (by simp [*]; rfl) ?_)
              refine HT_le (le_box 4 [.c (.sl 5 []), .c (.sl 6 []), .c (.sl 10 [])] rfl (by (repeat' (first | exact LWk.nil | apply LWk.cons | exact CWk.refl _ | exact CWk.nil _)))) ?_
              exact HT_ret ⟨.inr rfl, _, le_refl _, ⟨⟨_, by simp; rfl, by simp [resR, fl0]⟩, by simp, fun h => by cases h⟩⟩
            · try simp only [Bool.or_eq_true, Bool.and_eq_true, Bool.or_eq_false_iff, Bool.and_eq_false_iff, Bool.not_eq_true', Bool.not_eq_false', decide_eq_true_eq, decide_eq_false_iff_not] at h20
              refine (HT_run (by simp [*]; rfl) ?_)
              exact ⟨k + 1, ⟨hk2, fun j hj => by
                rcases Nat.lt_or_eq_of_le (Nat.le_of_lt_succ hj) with h | h
                · exact hJ j h
                · rw [h, hri]
                  simpa using h20⟩, by omega, le_mk (fun n => n) [] rfl (by simp [upS, keepS, *]) (by simp [*, upS]) (by simp [upS])⟩
          · try simp only [Bool.or_eq_true, Bool.and_eq_true, Bool.or_eq_false_iff, Bool.and_eq_false_iff, Bool.not_eq_true', Bool.not_eq_false', decide_eq_true_eq, decide_eq_false_iff_not] at h18
            rw [show risB bs = true from ris_good fun i hi => hJ i (by omega)] at hC
            obtain ⟨y, hy⟩ := get_I (show bs.length - 1 < bs.length by omega)
            have hly : lastI bs = y := by unfold lastI; rw [hy]; rfl
            rw [hly] at hC
            have hv1 : IntKind.i64.wrap ((bs.length : Int) - 1) = (bs.length : Int) - 1 := wrap_in (by omega) (by omega)
            have hv2 : 0 ≤ (bs.length : Int) - 1 := by omega
            have hv3 : ((bs.length : Int) - 1).toNat = bs.length - 1 := by omega
            have hv4 : 1 ≤ (bs.length : Int) := by omega
            simp only [Bool.true_eq_false, if_false] at hC
            clear hly hJ h18 hk
            refine (HT_exit ?_)
            refine HT_seq <| HT_seq <| (HT_run (by simp [*]; rfl) ?_)
            refine HT_seq <| (HT_run (by simp [*]; rfl) ?_)
            refine (HT_cond rfl (fun h27 => ?_) (fun h27 => HT_skip ?_))
            · try simp only [Bool.or_eq_true, Bool.and_eq_true, Bool.or_eq_false_iff, Bool.and_eq_false_iff, Bool.not_eq_true', Bool.not_eq_false', decide_eq_true_eq, decide_eq_false_iff_not] at h27
              rw [if_pos (by simpa using h27)] at hC
              subst hC
              simp at hres
              subst hres
              clear cch' cco ccl
              refine HT_seq <| (HT_run (by simp [*]; rfl) ?_)
              refine HT_le (le_box 4 [.c (.sl 5 []), .c (.sl 6 []), .c (.sl 10 [])] rfl (by (repeat' (first | exact LWk.nil | apply LWk.cons | exact CWk.refl _ | exact CWk.nil _)))) ?_
              exact HT_ret ⟨.inr rfl, _, le_refl _, ⟨⟨_, by simp; rfl, by simp [resR, fl0]⟩, by simp, fun h => by cases h⟩⟩
            · try simp only [Bool.or_eq_true, Bool.and_eq_true, Bool.or_eq_false_iff, Bool.and_eq_false_iff, Bool.not_eq_true', Bool.not_eq_false', decide_eq_true_eq, decide_eq_false_iff_not] at h27
              rw [if_neg (by simpa using h27)] at hC
              subst hC
              simp at hres
              subst hres
              clear hy h27
              refine HT_seq <| (HT_runc [⟨false, .v (.agg [.c (.sl 5 (encVs vars)), .c (.sl 6 (encHs hats)), .own 87]), some (.row 56 10 (encSs body))⟩] (by simp [*]; first | exact ⟨rfl, Iff.rfl⟩ | exact ⟨rfl, trivial⟩ | rfl) ?_ ?_)
              · first | exact cco | exact trivial | simpa [*] using cco
              refine HT_seq <| (HT_drunc [⟨false, .v (lI bs), none⟩] (by kernel_rfl) (by kernel_rfl) (by rfl) (by simp [*, allTyped, fillC, placeOf]; first | exact ⟨rfl, Iff.rfl⟩ | exact ⟨rfl, trivial⟩ | rfl) ?_ ?_)
              · first | exact ccl _ | exact trivial | simpa [*, allTyped, fillC, placeOf] using ccl _
              refine HT_le (le_frz 94 rfl) ?_
              refine HT_seq <| (HT_runc [⟨false, .tup [.agg [.c (.sl 5 (encVs kv)), .c (.sl 6 (encHs kh)), .c (.sl 10 (encSs kb))], li kc], none⟩] (by simp [*]; first | exact ⟨rfl, Iff.rfl⟩ | exact ⟨rfl, trivial⟩ | rfl) ?_ ?_)
              · first | exact cch' _ | exact trivial | simpa [*] using cch' _
              exact HT_ret ⟨.inr rfl, _, le_refl _, ⟨⟨_, by simp; rfl, by simp [resR]⟩, by simp, fun h => by cases h⟩⟩
end Go.Proofs.YtfilidjbpomgoaaGreat

namespace Go.Proofs.YtfilidjbpomgoaaGreat
open Go Go.Hl

/-! ## a settled program: outputs stay, times are the least bounds -/
theorem run_time (vars : List Vr) (hv : List Int) : ∀ l : List St, noS l = true → okL l = true → ∀ s : Sta, 0 ≤ s.time → s.time + BT l ≤ 1000000000000 →
    s.time ≤ (stepsF vars hv l s).time ∧ (stepsF vars hv l s).time ≤ s.time + BT l
  | [], _, _, s, _, _ => by simp [stepsF, BT]
  | .mk d c v n t a b bs :: l, hS, hok, s, h0, h1 => by
    have hba := SX_BT a (by simp only [okL, okS, Bool.and_eq_true] at hok; exact hok.1.2.2.1)
    have hbb := SX_BT b (by simp only [okL, okS, Bool.and_eq_true] at hok; exact hok.1.2.2.2)
    have hbl := SX_BT l (by simp only [okL, Bool.and_eq_true] at hok; exact hok.2)
    simp only [noS, Bool.and_eq_true, decide_eq_true_eq] at hS
    simp only [okL, okS, Bool.and_eq_true, Bool.or_eq_true, decide_eq_true_eq] at hok
    have hc := hok.1.1.1
    have ia := run_time vars hv a hS.2.1 hok.1.2.2.1
    have ib := run_time vars hv b hS.2.2.1 hok.1.2.2.2
    have il := run_time vars hv l hS.2.2.2 hok.2
    have hn : d = 4 → 0 ≤ n := fun h4 => by omega
    simp only [BT] at h1 ⊢
    simp only [stepsF]
    by_cases h4 : d = 4
    · have hn := hn h4
      rw [if_pos h4] at h1 ⊢
      rw [if_pos h4]
      have hnn : ((n.toNat : Nat) : Int) = n := by omega
      have e := rnd_le (t := t) (body := stepsF vars hv a) hc (show 0 ≤ BT a by omega) ia n.toNat s h0 (by rw [hnn]; omega)
      rw [hnn] at e
      have := il (rndF c t (stepsF vars hv a) n.toNat s) (by omega) (by omega)
      omega
    · rw [if_neg h4] at h1 ⊢
      rw [if_neg h4]
      by_cases h3 : d = 3
      · rw [if_pos h3] at h1 ⊢
        rw [if_pos h3]
        have hm : BT a ≤ mx (BT a) (BT b) ∧ BT b ≤ mx (BT a) (BT b) := by unfold mx; split <;> omega
        have t1 := tick_time (s := s) (c := c) h0 hc (by omega)
        split
        · have e := ib (tick s c) (by omega) (by omega)
          have := il (stepsF vars hv b (tick s c)) (by omega) (by omega)
          omega
        · have e := ia (tick s c) (by omega) (by omega)
          have := il (stepsF vars hv a (tick s c)) (by omega) (by omega)
          omega
      · rw [if_neg h3] at h1 ⊢
        rw [if_neg h3]
        have t1 := tick_time (s := s) (c := c) h0 hc (by omega)
        have t2 := leaf_time (vars := vars) (hv := hv) (d := d) (v := v) (n := n) (t := t) (bs := bs) (s := tick s c) hS.1
        have := il (leafF vars hv d v n t bs (tick s c)) (by omega) (by omega)
        omega
theorem times_eq {f : Fl} (h : codeC f = 0) : (bdL CP f.body ⟨0, 0, 0⟩).t = BT f.body ∧ (bdL CR f.body ⟨0, 0, 0⟩).t = BT f.body ∧ 0 ≤ BT f.body ∧ BT f.body ≤ 67108864 := by
  obtain ⟨_, _, _, hs, ho⟩ := code_split h
  have hok := ssC_ok _ _ hs
  have h1 := BT_of hs ho
  have h0 := SX_BT _ hok
  have h2 := BT_cut f.body ⟨0, 0, 0⟩ hok (Int.le_refl 0)
  have h3 := bdL_cut nnCR nnCP (by decide) f.body _ _ hok (in3_0 nnCP) (in3_0 nnCR) rfl
  unfold cut3 at h3
  simp only [B3.mk.injEq] at h3
  have h4 := h3.2.2
  simp only [Int.zero_add] at h2
  generalize (bdL CP f.body ⟨0, 0, 0⟩).t = p at *
  generalize (bdL CR f.body ⟨0, 0, 0⟩).t = q at *
  generalize BT f.body = y at *
  obtain ⟨h5, h6⟩ := h2
  clear h3 hs ho
  have e1 : q = y := by
    simp only [mn] at h6
    (repeat' split at h6) <;> omega
  subst e1
  have e2 : p = q := by
    simp only [mn, CR] at h4
    (repeat' split at h4) <;> omega
  exact ⟨e2, rfl, by omega, h1⟩
theorem set_noS {vars : List Vr} {nh : Nat} {l : List St} (h : ssC vars nh l true = 0) (hl : lastS l = false) : noS l = true := by
  rcases ss_split l h with h1 | ⟨m, c, v, n, t, bs, rfl, _⟩
  · exact h1
  · unfold lastS at hl
    simp [St.do_] at hl
theorem setC_split {body : List St} {bs : List Int} {T : Int} (h : setC body bs T = 0) : lastS body = false ∧ riseB bs = true ∧ lastI bs ≤ 67108864 ∧ T ≤ lastI bs := by
  unfold setC at h
  split at h
  · cases h
  · rename_i h1
    split at h
    · cases h
    · rename_i h2
      split at h
      · cases h
      · rename_i h3
        exact ⟨by simpa using h1, by simpa using h2, by omega, by omega⟩
theorem lastI_mem {bs : List Int} (h : riseB bs = true) : lastI bs ∈ bs := by
  unfold riseB at h
  simp only [Bool.and_eq_true, decide_eq_true_eq] at h
  obtain ⟨y, hy⟩ := get_I (show bs.length - 1 < bs.length by omega)
  unfold lastI
  rw [hy]
  exact List.mem_of_getElem? hy
theorem settled_run {f : Fl} {bs : List Int} (h : codeC f = 0) (h' : codeC ⟨f.vars, f.hats, f.body ++ [setl bs]⟩ = 0) (hS : setC f.body bs (BT f.body) = 0) (i : Inp) (hi : (stL i f.vars 0 0 0 [] true).2 = 0) :
    runF ⟨f.vars, f.hats, f.body ++ [setl bs]⟩ i = (⟨(runF f i).1.outs, stlL bs (runF f i).1.time (runF f i).1.time false⟩, 0) ∧ stlL bs (runF f i).1.time (runF f i).1.time false ∈ bs := by
  obtain ⟨_, _, _, hs, _⟩ := code_split h
  obtain ⟨_, _, hT0, hT1⟩ := times_eq h
  obtain ⟨hls, hri, _, hla⟩ := setC_split hS
  have hr := run_time f.vars (hvals (stL i f.vars 0 0 0 [] true).1 f.hats) f.body (set_noS hs hls) (ssC_ok _ _ hs) ⟨(stL i f.vars 0 0 0 [] true).1, [], 0⟩ (Int.le_refl 0) (by simp only; omega)
  simp only [Int.zero_add] at hr
  have hmem := lastI_mem hri
  have e : runF ⟨f.vars, f.hats, f.body ++ [setl bs]⟩ i = (⟨(runF f i).1.outs, stlL bs (runF f i).1.time (runF f i).1.time false⟩, 0) ∧ (runF f i).1.time = (stepsF f.vars (hvals (stL i f.vars 0 0 0 [] true).1 f.hats) f.body ⟨(stL i f.vars 0 0 0 [] true).1, [], 0⟩).time := by
    unfold runF playF
    simp only [if_pos h, if_pos h', if_pos hi, stepsF_app, if_true]
    generalize stepsF f.vars (hvals (stL i f.vars 0 0 0 [] true).1 f.hats) f.body ⟨(stL i f.vars 0 0 0 [] true).1, [], 0⟩ = s at *
    have ht := tick_time (s := s) (c := 0) hr.1 (Int.le_refl 0) (by omega)
    rw [Int.add_zero] at ht
    simp only [setl, stepsF, if_neg (show ¬ (6 : Int) = 4 by decide), if_neg (show ¬ (6 : Int) = 3 by decide), leafF, if_neg (show ¬ (6 : Int) = 0 by decide), if_neg (show ¬ (6 : Int) = 1 by decide), if_neg (show ¬ (6 : Int) = 5 by decide), if_true, ht]
    exact ⟨rfl, trivial⟩
  refine ⟨e.1, ?_⟩
  rw [e.2]
  generalize (stepsF f.vars (hvals (stL i f.vars 0 0 0 [] true).1 f.hats) f.body ⟨(stL i f.vars 0 0 0 [] true).1, [], 0⟩).time = t at *
  rcases stl_false bs t t with ⟨h1, _⟩ | ⟨h1, _, _⟩
  · have := h1 _ hmem
    omega
  · exact h1
end Go.Proofs.YtfilidjbpomgoaaGreat

namespace Go.Proofs.YtfilidjbpomgoaaGreat
open Go Go.Hl

theorem right_con (f : Fl) (hv : f.vars.length ≤ 1000000) (hh : f.hats.length ≤ 1000000) (hn : nodesS f.body + nodesH f.hats ≤ 900000000) (hb : bndL f.body = true) (d : Nat) :
    Con Tryz.prog 37 false [aF f] (.tup [aF (chkF f).1, li (chkF f).2]) none d := by
  have cc := checkR_con f hv hh hn hb
  obtain ⟨vars, hats, body⟩ := f
  obtain ⟨res, hres⟩ : ∃ r, chkF ⟨vars, hats, body⟩ = r := ⟨_, rfl⟩
  rw [hres]
  unfold chkF at hres
  obtain ⟨C, hC⟩ : ∃ x, codeC ⟨vars, hats, body⟩ = x := ⟨_, rfl⟩
  rw [hC] at cc hres
  clear hC
  refine con_of_HT Tryz.func37 rfl (by kernel_rfl) (Nat.le_of_ble_eq_true rfl) ?_
  simp only [Tryz.f37]
  simp only [aF, Fl.enc, List.map_cons, List.map_nil] at cc ⊢
  refine HT_seq <| (HT_run (by simp [*]; rfl) ?_)
  refine HT_seq <| HT_seq <| (HT_runc [⟨true, .v (li C), none⟩] (by simp [*]; first | exact ⟨rfl, Iff.rfl⟩ | exact ⟨rfl, trivial⟩ | rfl) ?_ ?_)
  · first | exact cc _ | exact trivial | simpa [*] using cc _
  refine (HT_cond rfl (fun h2 => ?_) (fun h2 => HT_skip ?_))
  · try simp only [Bool.or_eq_true, Bool.and_eq_true, Bool.or_eq_false_iff, Bool.and_eq_false_iff, Bool.not_eq_true', Bool.not_eq_false', decide_eq_true_eq, decide_eq_false_iff_not] at h2
    rw [if_neg h2] at hres
    subst hres
    refine HT_seq <| (HT_run (by simp [*]; rfl) ?_)
    refine HT_le (le_box 2 [.c (.sl 5 []), .c (.sl 6 []), .c (.sl 10 [])] rfl (by (repeat' (first | exact LWk.nil | apply LWk.cons | exact CWk.refl _ | exact CWk.nil _)))) ?_
    exact HT_ret ⟨.inr rfl, _, le_refl _, ⟨⟨_, by simp; rfl, by simp [resR, fl0]⟩, by simp, fun h => by cases h⟩⟩
  · try simp only [Bool.or_eq_true, Bool.and_eq_true, Bool.or_eq_false_iff, Bool.and_eq_false_iff, Bool.not_eq_true', Bool.not_eq_false', decide_eq_true_eq, decide_eq_false_iff_not] at h2
    rw [if_pos (by simpa using h2)] at hres
    subst hres
    refine HT_seq <| (HT_run (by simp [*]; rfl) ?_)
    exact HT_ret ⟨.inr rfl, _, le_refl _, ⟨⟨_, by simp; rfl, by simp [resR]⟩, by simp, fun h => by cases h⟩⟩

theorem with_con (f : Fl) (l : List St) (hv : f.vars.length ≤ 1000000) (hh : f.hats.length ≤ 1000000) (hn : nodesS l + nodesH f.hats ≤ 900000000) (hb : bndL l = true) (d : Nat) :
    Con Tryz.prog 11 false [aF f, lS l] (.tup [aF (chkF ⟨f.vars, f.hats, l⟩).1, li (chkF ⟨f.vars, f.hats, l⟩).2]) none d := by
  have cc := right_con ⟨f.vars, f.hats, l⟩ hv hh hn hb
  obtain ⟨vars, hats, body⟩ := f
  simp only at cc hv hh hn ⊢
  obtain ⟨⟨⟨kv, kh, kb⟩, kc⟩, hK⟩ : ∃ r, chkF ⟨vars, hats, l⟩ = r := ⟨_, rfl⟩
  rw [hK] at cc ⊢
  refine con_of_HT Tryz.func11 rfl (by kernel_rfl) (Nat.le_of_ble_eq_true rfl) ?_
  simp only [Tryz.f11]
  simp only [aF, Fl.enc, List.map_cons, List.map_nil] at cc ⊢
  refine HT_seq <| (HT_run (by simp [*]; rfl) ?_)
  refine HT_seq <| (HT_runc [⟨false, .tup [.agg [.c (.sl 5 (encVs kv)), .c (.sl 6 (encHs kh)), .c (.sl 10 (encSs kb))], li kc], none⟩] (by simp [*]; first | exact ⟨rfl, Iff.rfl⟩ | exact ⟨rfl, trivial⟩ | rfl) ?_ ?_)
  · first | exact cc _ | exact trivial | simpa [*] using cc _
  exact HT_ret ⟨.inr rfl, _, le_refl _, ⟨⟨_, by simp; rfl, by simp [resR]⟩, by simp, fun h => by cases h⟩⟩

def noneB (f : Fl) : Bool := (decide (f.vars.length = 0) && decide (f.hats.length = 0)) && decide (f.body.length = 0)
theorem none_con (f : Fl) (d : Nat) : Con Tryz.prog 10 true [aF f] (.v (lb (noneB f))) none d := by
  obtain ⟨vars, hats, body⟩ := f
  unfold noneB
  refine con_of_HT Tryz.func10 rfl (by kernel_rfl) (Nat.le_of_ble_eq_true rfl) ?_
  simp only [Tryz.f10]
  simp only [aF, Fl.enc, List.map_cons, List.map_nil]
  refine HT_seq <| (HT_run (by simp [*]; rfl) ?_)
  refine HT_seq <| (HT_run (by simp [*]; rfl) ?_)
  exact (HT_retE (fun h => ⟨.inr rfl, h⟩) _ (by simp [*]; rfl) (by simp [resR]) (by simp))
theorem agrees_con (g : Fl) (e : Int) (h0 : e = 0 → ∀ d, Con Tryz.prog 40 true [aF g, aF g] (.v (lb true)) none d) (h1 : e ≠ 0 → noneB g = true) (d : Nat) :
    Con Tryz.prog 13 true [aF g, li e, aF g, li e] (.v (lb true)) none d := by
  have cn := none_con g
  obtain ⟨N, hN⟩ : ∃ x, noneB g = x := ⟨_, rfl⟩
  rw [hN] at cn h1
  obtain ⟨vars, hats, body⟩ := g
  clear hN
  refine con_of_HT Tryz.func13 rfl (by kernel_rfl) (Nat.le_of_ble_eq_true rfl) ?_
  simp only [Tryz.f13]
  simp only [aF, Fl.enc, List.map_cons, List.map_nil] at cn h0 ⊢
  refine HT_seq <| (HT_run (by simp [*]; rfl) ?_)
  refine HT_seq <| HT_seq <| (HT_run (by simp [*]; rfl) ?_)
  refine (HT_cond rfl (fun h2 => ?_) (fun h2 => HT_skip ?_))
  · try simp only [Bool.or_eq_true, Bool.and_eq_true, Bool.or_eq_false_iff, Bool.and_eq_false_iff, Bool.not_eq_true', Bool.not_eq_false', decide_eq_true_eq, decide_eq_false_iff_not] at h2
    have hz := h1 h2
    subst hz
    clear h0
    refine HT_seq <| (HT_runc [⟨true, .v (lb true), none⟩] (by simp [*]; first | exact ⟨rfl, Iff.rfl⟩ | exact ⟨rfl, trivial⟩ | rfl) ?_ ?_)
    · first | exact cn _ | exact trivial | simpa [*] using cn _
    exact (HT_retE (fun h => ⟨.inr rfl, h⟩) _ (by simp [*]; rfl) (by first | rfl | (simp [*]; done) | (simp only [resR]; (repeat' split) <;> first | rfl | (exfalso; omega) | simp_all)) (by simp))
  · try simp only [Bool.or_eq_true, Bool.and_eq_true, Bool.or_eq_false_iff, Bool.and_eq_false_iff, Bool.not_eq_true', Bool.not_eq_false', decide_eq_true_eq, decide_eq_false_iff_not] at h2
    have he : e = 0 := by simpa using h2
    subst he
    have h0 := h0 rfl
    clear h1 cn h2
    refine HT_seq <| (HT_runc [⟨true, .v (lb true), none⟩] (by simp [*]; first | exact ⟨rfl, Iff.rfl⟩ | exact ⟨rfl, trivial⟩ | rfl) ?_ ?_)
    · first | exact h0 _ | exact trivial | simpa [*] using h0 _
    exact (HT_retE (fun h => ⟨.inr rfl, h⟩) _ (by simp [*]; rfl) (by first | rfl | (simp [*]; done) | (simp only [resR]; (repeat' split) <;> first | rfl | (exfalso; omega) | simp_all)) (by simp))
end Go.Proofs.YtfilidjbpomgoaaGreat

namespace Go.Proofs.YtfilidjbpomgoaaGreat
open Go Go.Hl

theorem eqT_con (t : Tm) : t.nodes ≤ 1000000000 → ∀ d : Nat, Con Tryz.prog 76 true [aT t, aT t] (.v (lb true)) none d := by
  induction t using Tm.ind with
  | h o n ks ih =>
  intro hn d
  simp only [Tm.nodes] at hn
  have hlen := len_nodesT ks
  refine con_of_HT Tryz.func76 rfl (by kernel_rfl) (Nat.le_of_ble_eq_true rfl) ?_
  simp only [Tryz.f76]
  simp only [aT, Tm.enc]
  refine HT_seq <| (HT_run (by simp [*]; rfl) ?_)
  refine HT_seq <| HT_seq <| (HT_run (by simp [*]; rfl) ?_)
  refine (HT_cond rfl (fun h2 => ?_) (fun h2 => HT_skip ?_))
  · exact absurd h2 (by simp)
  · try simp only [Bool.or_eq_true, Bool.and_eq_true, Bool.or_eq_false_iff, Bool.and_eq_false_iff, Bool.not_eq_true', Bool.not_eq_false', decide_eq_true_eq, decide_eq_false_iff_not] at h2
    refine HT_seq <| HT_seq <| (HT_run (by simp [*]; rfl) ?_)
    refine HT_block <| (HT_loopU [2, 3] (fun (x : Nat) => [(5, .v (li x))]) (fun (x : Nat) => [(2, .box [.c (iC o), .c (iC n), .c (.sl 3 (encTs ks))]), (3, .box [.c (iC o), .c (iC n), .c (.sl 3 (encTs ks))])]) (fun (x : Nat) => x ≤ ks.length) (fun (x : Nat) => ks.length - x) (0 : Nat) (Nat.zero_le _) ?_ ?_)
    · exact le_mk (fun n => n) [] rfl (by simp [*, upS, keepS]) (by simp [*, upS]) (by simp [upS])
    rintro k hk
    simp only [upS, keepS, insS]
    try simp only [keepS, List.contains_cons, List.contains_nil, Bool.or_false, Bool.or_true, Bool.true_or, Bool.false_or, Nat.reduceBEq, BEq.rfl, beq_self_eq_true, if_true, if_false, Bool.false_eq_true, ite_true, ite_false, ins, Nat.reduceLT]
    refine HT_seq <| HT_seq <| (HT_run (by simp [*]; rfl) ?_)
    refine (HT_cond rfl (fun h8 => HT_skip ?_) (fun h8 => ?_))
    · try simp only [Bool.or_eq_true, Bool.and_eq_true, Bool.or_eq_false_iff, Bool.and_eq_false_iff, Bool.not_eq_true', Bool.not_eq_false', decide_eq_true_eq, decide_eq_false_iff_not] at h8
      have hlt : k < ks.length := by omega
      obtain ⟨⟨eo, en, ek⟩, he, hd⟩ := at_lt hlt
      have he' := get_encT he
      simp only [Tm.enc] at he'
      have hw1 := wrap1 hlt (by omega)
      have hk1 : k + 1 ≤ ks.length := hlt
      have hmem : Tm.mk eo en ek ∈ ks := List.mem_of_getElem? he
      have hnm := nodes_mem hmem
      have c := ih _ hmem (by omega)
      clear hlt h8 ih hmem hnm
      refine HT_seq <| HT_block <| HT_seq <| (HT_drunc [⟨true, .v (lb true), none⟩] (by kernel_rfl) (by kernel_rfl) (by rfl) (by simp [*]; first | exact ⟨rfl, Iff.rfl⟩ | exact ⟨rfl, trivial⟩ | rfl) ?_ ?_)
      · first | exact c _ | exact trivial | simpa [*] using c _
      refine (HT_cond rfl (fun h10 => ?_) (fun h10 => HT_skip ?_))
      · exact absurd h10 (by simp)
      · try simp only [Bool.or_eq_true, Bool.and_eq_true, Bool.or_eq_false_iff, Bool.and_eq_false_iff, Bool.not_eq_true', Bool.not_eq_false', decide_eq_true_eq, decide_eq_false_iff_not] at h10
        refine (HT_run (by simp [*]; rfl) ?_)
        exact ⟨k + 1, hk1, by omega, le_mk (fun n => n) [] rfl (by simp [upS, keepS, *]) (by simp [*, upS]) (by simp [upS])⟩
    · try simp only [Bool.or_eq_true, Bool.and_eq_true, Bool.or_eq_false_iff, Bool.and_eq_false_iff, Bool.not_eq_true', Bool.not_eq_false', decide_eq_true_eq, decide_eq_false_iff_not] at h8
      refine (HT_exit ?_)
      refine HT_seq <| (HT_run (by simp [*]; rfl) ?_)
      exact (HT_retE (fun h => ⟨.inr rfl, h⟩) _ (by simp [*]; rfl) (by first | rfl | (simp [*]; done) | (simp only [resR]; (repeat' split) <;> first | rfl | (exfalso; omega) | simp_all)) (by simp))
theorem eqI_con (l : List Int) (hl : l.length ≤ 1000000000) (d : Nat) : Con Tryz.prog 17 true [lI l, lI l] (.v (lb true)) none d := by
  refine con_of_HT Tryz.func17 rfl (by kernel_rfl) (Nat.le_of_ble_eq_true rfl) ?_
  simp only [Tryz.f17]
  refine HT_seq <| (HT_run (by simp [*]; rfl) ?_)
  refine HT_seq <| HT_seq <| (HT_run (by simp [*]; rfl) ?_)
  refine (HT_cond rfl (fun h2 => ?_) (fun h2 => HT_skip ?_))
  · exact absurd h2 (by simp)
  · try simp only [Bool.or_eq_true, Bool.and_eq_true, Bool.or_eq_false_iff, Bool.and_eq_false_iff, Bool.not_eq_true', Bool.not_eq_false', decide_eq_true_eq, decide_eq_false_iff_not] at h2
    refine HT_seq <| HT_seq <| (HT_run (by simp [*]; rfl) ?_)
    refine HT_block <| (HT_loopU [0, 1] (fun (x : Nat) => [(5, .v (li x))]) (fun (x : Nat) => []) (fun (x : Nat) => x ≤ l.length) (fun (x : Nat) => l.length - x) (0 : Nat) (Nat.zero_le _) ?_ ?_)
    · exact le_mk (fun n => n) [] rfl (by simp [*, upS, keepS]) (by simp [*, upS]) (by simp [upS])
    rintro k hk
    simp only [upS, keepS, insS]
    try simp only [keepS, List.contains_cons, List.contains_nil, Bool.or_false, Bool.or_true, Bool.true_or, Bool.false_or, Nat.reduceBEq, BEq.rfl, beq_self_eq_true, if_true, if_false, Bool.false_eq_true, ite_true, ite_false, ins, Nat.reduceLT]
    refine HT_seq <| HT_seq <| (HT_run (by simp [*]; rfl) ?_)
    refine (HT_cond rfl (fun h8 => HT_skip ?_) (fun h8 => ?_))
    · try simp only [Bool.or_eq_true, Bool.and_eq_true, Bool.or_eq_false_iff, Bool.and_eq_false_iff, Bool.not_eq_true', Bool.not_eq_false', decide_eq_true_eq, decide_eq_false_iff_not] at h8
      have hlt : k < l.length := by omega
      obtain ⟨x, he, hd⟩ := at_lt hlt
      have hw1 := wrap1 hlt (by omega)
      have hk1 : k + 1 ≤ l.length := hlt
      clear hlt h8
      refine HT_seq <| HT_block <| HT_seq <| (HT_drun (by kernel_rfl) (by kernel_rfl) (by rfl) (by simp [*]; rfl) ?_)
      refine (HT_cond rfl (fun h10 => ?_) (fun h10 => HT_skip ?_))
      · exact absurd h10 (by simp)
      · try simp only [Bool.or_eq_true, Bool.and_eq_true, Bool.or_eq_false_iff, Bool.and_eq_false_iff, Bool.not_eq_true', Bool.not_eq_false', decide_eq_true_eq, decide_eq_false_iff_not] at h10
        refine (HT_run (by simp [*]; rfl) ?_)
        exact ⟨k + 1, hk1, by omega, le_mk (fun n => n) [] rfl (by simp [upS, keepS, *]) (by simp [*, upS]) (by simp [upS])⟩
    · try simp only [Bool.or_eq_true, Bool.and_eq_true, Bool.or_eq_false_iff, Bool.and_eq_false_iff, Bool.not_eq_true', Bool.not_eq_false', decide_eq_true_eq, decide_eq_false_iff_not] at h8
      refine (HT_exit ?_)
      refine HT_seq <| (HT_run (by simp [*]; rfl) ?_)
      exact (HT_retE (fun h => ⟨.inr rfl, h⟩) _ (by simp [*]; rfl) (by first | rfl | (simp [*]; done) | (simp only [resR]; (repeat' split) <;> first | rfl | (exfalso; omega) | simp_all)) (by simp))
theorem eqS_con (l : List St) : nodesS l ≤ 1000000000 → bndL l = true → ∀ d : Nat, Con Tryz.prog 75 true [lS l, lS l] (.v (lb true)) none d := by
  revert l
  apply St.lists
  intro l ih hn hbn d
  have hlen := len_nodesS l
  refine con_of_HT Tryz.func75 rfl (by kernel_rfl) (Nat.le_of_ble_eq_true rfl) ?_
  simp only [Tryz.f75]
  refine HT_seq <| (HT_run (by simp [*]; rfl) ?_)
  refine HT_seq <| HT_seq <| (HT_run (by simp [*]; rfl) ?_)
  refine (HT_cond rfl (fun h2 => ?_) (fun h2 => HT_skip ?_))
  · exact absurd h2 (by simp)
  · try simp only [Bool.or_eq_true, Bool.and_eq_true, Bool.or_eq_false_iff, Bool.and_eq_false_iff, Bool.not_eq_true', Bool.not_eq_false', decide_eq_true_eq, decide_eq_false_iff_not] at h2
    refine HT_seq <| HT_seq <| (HT_run (by simp [*]; rfl) ?_)
    refine HT_block <| (HT_loopU [0, 1] (fun (x : Nat) => [(5, .v (li x))]) (fun (x : Nat) => []) (fun (x : Nat) => x ≤ l.length) (fun (x : Nat) => l.length - x) (0 : Nat) (Nat.zero_le _) ?_ ?_)
    · exact le_mk (fun n => n) [] rfl (by simp [*, upS, keepS]) (by simp [*, upS]) (by simp [upS])
    rintro k hk
    simp only [upS, keepS, insS]
    try simp only [keepS, List.contains_cons, List.contains_nil, Bool.or_false, Bool.or_true, Bool.true_or, Bool.false_or, Nat.reduceBEq, BEq.rfl, beq_self_eq_true, if_true, if_false, Bool.false_eq_true, ite_true, ite_false, ins, Nat.reduceLT]
    refine HT_seq <| HT_seq <| (HT_run (by simp [*]; rfl) ?_)
    refine (HT_cond rfl (fun h8 => HT_skip ?_) (fun h8 => ?_))
    · try simp only [Bool.or_eq_true, Bool.and_eq_true, Bool.or_eq_false_iff, Bool.and_eq_false_iff, Bool.not_eq_true', Bool.not_eq_false', decide_eq_true_eq, decide_eq_false_iff_not] at h8
      have hlt : k < l.length := by omega
      obtain ⟨s, he, hd⟩ := at_lt hlt
      have hw1 := wrap1 hlt (by omega)
      have hk1 : k + 1 ≤ l.length := hlt
      have hmem : s ∈ l := List.mem_of_getElem? he
      have hnm := nodesS_mem hmem
      have hbm := bndL_mem hbn hmem
      have ca := (ih s hmem).1 (by omega)
      have cb := (ih s hmem).2 (by omega)
      have ct := eqT_con s.term (by omega)
      have cc := eqI_con s.bounds
      have he' := get_encS he
      obtain ⟨sd, sc, sv, sn, ⟨so, stn, sks⟩, sa, sb, sbs⟩ := s
      simp only [St.then_, St.else_, St.term, St.bounds] at ca cb ct cc
      simp only [bndS, Bool.and_eq_true, decide_eq_true_eq] at hbm
      have ca := ca hbm.2.1
      have cb := cb hbm.2.2
      have cc := cc hbm.1
      simp only [St.enc, Tm.enc, List.cons_append, List.nil_append] at he'
      simp only [aT, Tm.enc, List.map_cons, List.map_nil] at ct
      clear hlt h8 ih hmem hnm he hd hbm
      refine HT_seq <| HT_block <| HT_seq <| (HT_drunH [(6, 6), (7, 7), (23, 2000000), (24, 2000000), (25, 2000000)] (by kernel_rfl) (by kernel_rfl) (by rfl) (by simp [evsH, hokB, hintOf, *]; rfl) ?_)
      refine HT_seq <| (HT_runc [⟨true, .v (lb true), none⟩, ⟨true, .v (lb true), none⟩, ⟨true, .v (lb true), none⟩, ⟨true, .v (lb true), none⟩] (by simp [*]; first | exact ⟨rfl, Iff.rfl⟩ | exact ⟨rfl, trivial⟩ | rfl) ?_ ?_)
      · first | exact ⟨ct _, cc _, ca _, cb _⟩ | exact trivial | (repeat' first | exact trivial | exact ct _ | exact cc _ | exact ca _ | exact cb _ | apply And.intro)
      refine (HT_cond rfl (fun h11 => ?_) (fun h11 => HT_skip ?_))
      · exact absurd h11 (by simp)
      · try simp only [Bool.or_eq_true, Bool.and_eq_true, Bool.or_eq_false_iff, Bool.and_eq_false_iff, Bool.not_eq_true', Bool.not_eq_false', decide_eq_true_eq, decide_eq_false_iff_not] at h11
        refine (HT_run (by simp [*]; rfl) ?_)
        exact ⟨k + 1, hk1, by omega, le_mk (fun n => n) [] rfl (by simp [upS, keepS, *]) (by simp [*, upS]) (by simp [upS])⟩
    · try simp only [Bool.or_eq_true, Bool.and_eq_true, Bool.or_eq_false_iff, Bool.and_eq_false_iff, Bool.not_eq_true', Bool.not_eq_false', decide_eq_true_eq, decide_eq_false_iff_not] at h8
      refine (HT_exit ?_)
      refine HT_seq <| (HT_run (by simp [*]; rfl) ?_)
      exact (HT_retE (fun h => ⟨.inr rfl, h⟩) _ (by simp [*]; rfl) (by first | rfl | (simp [*]; done) | (simp only [resR]; (repeat' split) <;> first | rfl | (exfalso; omega) | simp_all)) (by simp))
theorem eqF_con (f : Fl) (hv : f.vars.length ≤ 1000000) (hh : f.hats.length ≤ 1000000) (hn : nodesS f.body + nodesH f.hats ≤ 900000000) (hb : bndL f.body = true) (d : Nat) :
    Con Tryz.prog 40 true [aF f, aF f] (.v (lb true)) none d := by
  have cs := eqS_con f.body (by omega) hb
  have ct := fun (h : Ht) (hm : h ∈ f.hats) => eqT_con h.term (by have := nodesH_mem hm; omega)
  obtain ⟨vars, hats, body⟩ := f
  simp only at hv hh hn hb cs ct
  refine con_of_HT Tryz.func40 rfl (by kernel_rfl) (Nat.le_of_ble_eq_true rfl) ?_
  simp only [Tryz.f40]
  simp only [aF, Fl.enc, List.map_cons, List.map_nil]
  refine HT_seq <| (HT_run (by simp [*]; rfl) ?_)
  refine HT_seq <| HT_seq <| (HT_runc [⟨true, .v (lb true), none⟩] (by simp [*]; first | exact ⟨rfl, Iff.rfl⟩ | exact ⟨rfl, trivial⟩ | rfl) ?_ ?_)
  · first | exact cs _ | exact trivial | simpa [*] using cs _
  refine (HT_cond rfl (fun h2 => ?_) (fun h2 => HT_skip ?_))
  · exact absurd h2 (by simp)
  · try simp only [Bool.or_eq_true, Bool.and_eq_true, Bool.or_eq_false_iff, Bool.and_eq_false_iff, Bool.not_eq_true', Bool.not_eq_false', decide_eq_true_eq, decide_eq_false_iff_not] at h2
    refine HT_seq <| HT_seq <| (HT_run (by simp [*]; rfl) ?_)
    refine HT_block <| (HT_loopU [2, 3] (fun (x : Nat) => [(5, .v (li x))]) (fun (x : Nat) => [(2, .box [.c (.sl 5 (encVs vars)), .c (.sl 6 (encHs hats)), .c (.sl 10 (encSs body))]), (3, .box [.c (.sl 5 (encVs vars)), .c (.sl 6 (encHs hats)), .c (.sl 10 (encSs body))])]) (fun (x : Nat) => x ≤ vars.length) (fun (x : Nat) => vars.length - x) (0 : Nat) (Nat.zero_le _) ?_ ?_)
    · exact le_mk (fun n => n) [] rfl (by simp [*, upS, keepS]) (by simp [*, upS]) (by simp [upS])
    rintro k hk
    simp only [upS, keepS, insS]
    try simp only [keepS, List.contains_cons, List.contains_nil, Bool.or_false, Bool.or_true, Bool.true_or, Bool.false_or, Nat.reduceBEq, BEq.rfl, beq_self_eq_true, if_true, if_false, Bool.false_eq_true, ite_true, ite_false, ins, Nat.reduceLT]
    refine HT_seq <| HT_seq <| (HT_run (by simp [*]; rfl) ?_)
    refine (HT_cond rfl (fun h8 => HT_skip ?_) (fun h8 => ?_))
    · try simp only [Bool.or_eq_true, Bool.and_eq_true, Bool.or_eq_false_iff, Bool.and_eq_false_iff, Bool.not_eq_true', Bool.not_eq_false', decide_eq_true_eq, decide_eq_false_iff_not] at h8
      have hlt : k < vars.length := by omega
      obtain ⟨v, he, hd⟩ := at_lt hlt
      have hw1 := wrap1 hlt (by omega)
      have hk1 : k + 1 ≤ vars.length := hlt
      clear hlt h8 hd
      refine HT_seq <| HT_block <| HT_seq <| (HT_drun (by kernel_rfl) (by kernel_rfl) (by rfl) (by simp [*]; rfl) ?_)
      refine (HT_cond rfl (fun h10 => ?_) (fun h10 => HT_skip ?_))
      · exact absurd h10 (by simp)
      · try simp only [Bool.or_eq_true, Bool.and_eq_true, Bool.or_eq_false_iff, Bool.and_eq_false_iff, Bool.not_eq_true', Bool.not_eq_false', decide_eq_true_eq, decide_eq_false_iff_not] at h10
        refine (HT_run (by simp [*]; rfl) ?_)
        exact ⟨k + 1, hk1, by omega, le_mk (fun n => n) [] rfl (by simp [upS, keepS, *]) (by simp [*, upS]) (by simp [upS])⟩
    · try simp only [Bool.or_eq_true, Bool.and_eq_true, Bool.or_eq_false_iff, Bool.and_eq_false_iff, Bool.not_eq_true', Bool.not_eq_false', decide_eq_true_eq, decide_eq_false_iff_not] at h8
      refine (HT_exit ?_)
      refine HT_seq <| HT_seq <| (HT_run (by simp [*]; rfl) ?_)
      refine HT_block <| (HT_loopU [2, 3] (fun (x : Nat) => [(6, .v (li x))]) (fun (x : Nat) => [(2, .box [.c (.sl 5 (encVs vars)), .c (.sl 6 (encHs hats)), .c (.sl 10 (encSs body))]), (3, .box [.c (.sl 5 (encVs vars)), .c (.sl 6 (encHs hats)), .c (.sl 10 (encSs body))])]) (fun (x : Nat) => x ≤ hats.length) (fun (x : Nat) => hats.length - x) (0 : Nat) (Nat.zero_le _) ?_ ?_)
      · exact le_mk (fun n => n) [] rfl (by simp [*, upS, keepS]) (by simp [*, upS]) (by simp [upS])
      rintro k hk
      simp only [upS, keepS, insS]
      try simp only [keepS, List.contains_cons, List.contains_nil, Bool.or_false, Bool.or_true, Bool.true_or, Bool.false_or, Nat.reduceBEq, BEq.rfl, beq_self_eq_true, if_true, if_false, Bool.false_eq_true, ite_true, ite_false, ins, Nat.reduceLT]
      refine HT_seq <| HT_seq <| (HT_run (by simp [*]; rfl) ?_)
      refine (HT_cond rfl (fun h18 => HT_skip ?_) (fun h18 => ?_))
      · try simp only [Bool.or_eq_true, Bool.and_eq_true, Bool.or_eq_false_iff, Bool.and_eq_false_iff, Bool.not_eq_true', Bool.not_eq_false', decide_eq_true_eq, decide_eq_false_iff_not] at h18
        have hlt : k < hats.length := by omega
        obtain ⟨h, he, hd⟩ := at_lt hlt
        have hw1 := wrap1 hlt (by omega)
        have hk1 : k + 1 ≤ hats.length := hlt
        have ct := ct h (List.mem_of_getElem? he)
        obtain ⟨nm, lo, hi, ⟨o, tn, ks⟩⟩ := h
        simp only [aT, Tm.enc, List.map_cons, List.map_nil] at ct
        clear hlt h18 hd
        refine HT_seq <| HT_block <| HT_seq <| (HT_drunH [(58, 2), (63, 3), (7, 7), (8, 8), (64, 2000000), (65, 2000000), (66, 2000000)] (by kernel_rfl) (by kernel_rfl) (by rfl) (by simp [evsH, hokB, hintOf, *]; rfl) ?_)
        refine HT_seq <| (HT_runc [⟨true, .v (lb true), none⟩] (by simp [*]; first | exact ⟨rfl, Iff.rfl⟩ | exact ⟨rfl, trivial⟩ | rfl) ?_ ?_)
        · first | exact ct _ | exact trivial | simpa [*] using ct _
        refine (HT_cond rfl (fun h21 => ?_) (fun h21 => HT_skip ?_))
        · exact absurd h21 (by simp)
        · try simp only [Bool.or_eq_true, Bool.and_eq_true, Bool.or_eq_false_iff, Bool.and_eq_false_iff, Bool.not_eq_true', Bool.not_eq_false', decide_eq_true_eq, decide_eq_false_iff_not] at h21
          refine (HT_run (by simp [*]; rfl) ?_)
          exact ⟨k + 1, hk1, by omega, le_mk (fun n => n) [] rfl (by simp [upS, keepS, *]) (by simp [*, upS]) (by simp [upS])⟩
      · try simp only [Bool.or_eq_true, Bool.and_eq_true, Bool.or_eq_false_iff, Bool.and_eq_false_iff, Bool.not_eq_true', Bool.not_eq_false', decide_eq_true_eq, decide_eq_false_iff_not] at h18
        refine (HT_exit ?_)
        refine HT_seq <| (HT_run (by simp [*]; rfl) ?_)
        exact (HT_retE (fun h => ⟨.inr rfl, h⟩) _ (by simp [*]; rfl) (by first | rfl | (simp [*]; done) | (simp only [resR]; (repeat' split) <;> first | rfl | (exfalso; omega) | simp_all)) (by simp))
end Go.Proofs.YtfilidjbpomgoaaGreat
