/- HlP: part of an evaluator of Go code over abstract states, proved sound over the model; used by the proof of the claimed statement. Conditions: none. -/
import Derived.Test.YtpnhnldneecpnaaHlO
namespace Go.Hl
open Go Go.RowKit

/-! ## what an operation reads -/
def tmpsOf : List Operand → List Nat
  | [] => []
  | .tmp t :: l => t :: tmpsOf l
  | _ :: l => tmpsOf l
def opsL : Op → List Operand
  | .move x | .assign x | .box _ x | .load _ x | .unOp _ _ x | .fieldAddr _ x _ | .field _ x _ | .extract x _ => [x]
  | .pick c a b => [c, a, b]
  | .buildSlice _ _ ps => ps.toList.map (·.2)
  | .build _ ps => ps.toList.map (·.2)
  | .store _ a v | .binOp _ _ a v _ | .makeSlice _ a v | .indexAddr _ a v => [a, v]
  | .call { callee := .value f, args := args, .. } => f :: args.toList
  | .call { args := args, .. } => args.toList
  | _ => []
def guardT (ops : Array Oper) (o : Oper) : List Nat :=
  match o.guard with
  | none => []
  | some (j, _) => ((ops[j]?).bind (·.dst)).toList
def readsT (ops : Array Oper) (o : Oper) : List Nat := guardT ops o ++ tmpsOf (opsL o.op)

theorem opd_ins {regs : List (Nat × RV)} {d : Nat} {r : RV} {l : List Operand} (h : d ∉ tmpsOf l) : ∀ x ∈ l, opd (ins d r regs) x = opd regs x := by
  intro x hx
  cases x with
  | tmp t =>
    have : t ≠ d := by
      rintro rfl
      apply h
      clear h
      induction l with
      | nil => cases hx
      | cons y l ih =>
        rcases List.mem_cons.1 hx with rfl | hm
        · simp [tmpsOf]
        · have := ih hm
          cases y <;> simp [tmpsOf, this]
    simp only [opd]
    rw [look_ins_other this]
  | const v => rfl
  | global g => rfl
  | func f => rfl

section
variable {P : Program} {g g' : Operand → RV}

theorem rowsOf_congr {size : Nat} : ∀ (l : List (Nat × Operand)) (k : Nat), (∀ x ∈ l.map (·.2), g x = g' x) → rowsOf size g k l = rowsOf size g' k l
  | [], _, _ => rfl
  | (i, x) :: l, k, h => by
    unfold rowsOf
    rw [h x (by simp), rowsOf_congr l (k + 1) (fun y hy => h y (by simp at hy ⊢; exact .inr hy))]
theorem brwA_congr {objs : List (Nat × Ob)} : ∀ (l : List Operand), (∀ x ∈ l, g x = g' x) → brwA objs g l = brwA objs g' l
  | [], _ => rfl
  | x :: l, h => by
    unfold brwA
    rw [h x (by simp), brwA_congr l fun y hy => h y (by simp [hy])]

theorem fillC_congr {ti : TI} : ∀ (l : List (Nat × Operand)) (cs : List CV), (∀ x ∈ l.map (·.2), g x = g' x) → fillC P ti g cs l = fillC P ti g' cs l
  | [], _, _ => rfl
  | (i, x) :: l, cs, h => by
    unfold fillC
    rw [h x (by simp)]
    split
    · split
      · exact fillC_congr l _ fun y hy => h y (by simp at hy ⊢; exact .inr hy)
      · rfl
    · rfl
theorem evN_call_congr {c : Call} (h : ∀ x ∈ c.args.toList, g x = g' x) : evN P g (.call c) = evN P g' (.call c) := by
  obtain ⟨callee, args, ts⟩ := c
  cases callee with
  | builtin b =>
    cases b <;> try rfl
    · simp only [evN]
      split
      · rename_i x y hxy
        rw [h x (by simp only [hxy]; simp), h y (by simp only [hxy]; simp)]
      · rfl
    · simp only [evN]
      split
      · rename_i x y hxy
        rw [h x (by simp only [hxy]; simp), h y (by simp only [hxy]; simp)]
      · rfl
  | _ => rfl
theorem evN_congr {op : Op} (h : ∀ x ∈ opsL op, g x = g' x) : evN P g op = evN P g' op := by
  by_cases hc : ∃ c, op = .call c
  · obtain ⟨c, rfl⟩ := hc
    refine evN_call_congr fun x hx => h x ?_
    obtain ⟨callee, args, ts⟩ := c
    cases callee <;> simp [opsL] <;> first | exact .inr (by simpa using hx) | simpa using hx
  by_cases hb : ∃ t ps, op = .build t ps
  · obtain ⟨t, ps, rfl⟩ := hb
    simp only [evN, opsL] at h ⊢
    split
    · rw [fillC_congr (g := g) (g' := g') ps.toList _ h]
    · rfl
  cases op <;> try (exfalso; exact hc ⟨_, rfl⟩)
  all_goals try (exfalso; exact hb ⟨_, _, rfl⟩)
  all_goals simp only [evN, opsL, List.mem_cons, List.not_mem_nil, or_false, forall_eq_or_imp, forall_eq] at * <;> simp only [h]
theorem evA_congr {d : Nat} {op : Op} (h : ∀ x ∈ opsL op, g x = g' x) : evA P g d op = evA P g' d op := by
  cases op <;> simp only [evA]
  case box e x => rw [h x (by simp [opsL])]
  case buildSlice t n ps => simp only [rowsOf_congr (g := g) (g' := g') ps.toList 0 h]
  case makeSlice t l c => rw [h l (by simp [opsL]), h c (by simp [opsL])]
theorem arg_mem {c : Call} {i : Nat} {x : Operand} (hx : c.args[i]? = some x) : x ∈ opsL (.call c) := by
  obtain ⟨callee, args, ts⟩ := c
  have : x ∈ args.toList := Array.mem_toList_iff.2 (Array.mem_of_getElem? hx)
  cases callee <;> simp [opsL] <;> first | exact .inr (by simpa using this) | simpa using this
theorem evR_congr {objs : List (Nat × Ob)} {op : Op} (h : ∀ x ∈ opsL op, g x = g' x) : evR P objs g op = evR P objs g' op := by
  cases op with
  | load t x => simp only [evR]; rw [h x (by simp [opsL])]
  | indexAddr t x i => simp only [evR]; rw [h x (by simp [opsL]), h i (by simp [opsL])]
  | call c =>
    obtain ⟨callee, args, ts⟩ := c
    cases callee with
    | builtin b =>
      cases b <;> try rfl
      simp only [evR]
      cases ht : ts[0]? with
      | none => rfl
      | some t =>
        cases hx : args[0]? with
        | none => rfl
        | some x => simp only []; rw [h x (arg_mem (c := ⟨_, args, ts⟩) hx)]
    | _ => rfl
  | _ => rfl
theorem evW_congr {objs : List (Nat × Ob)} {d : Option Nat} {op : Op} (h : ∀ x ∈ opsL op, g x = g' x) : evW P objs g d op = evW P objs g' d op := by
  cases op with
  | store t x y => simp only [evW]; rw [h x (by simp [opsL]), h y (by simp [opsL])]
  | call c =>
    obtain ⟨callee, args, ts⟩ := c
    cases callee with
    | builtin b =>
      cases b <;> try rfl
      simp only [evW]
      cases d with
      | none => rfl
      | some d =>
        cases ht : ts[0]? with
        | none => rfl
        | some t =>
          cases ht' : ts[1]? with
          | none => rfl
          | some t' =>
            cases hx : args[0]? with
            | none => rfl
            | some x =>
              cases hy : args[1]? with
              | none => rfl
              | some y =>
                simp only []
                rw [h x (arg_mem (c := ⟨_, args, ts⟩) hx), h y (arg_mem (c := ⟨_, args, ts⟩) hy)]
    | _ => rfl
  | _ => rfl

end

/-! ## an object that nobody mentions is in nobody's way -/
section
variable {P : Program} {g : Operand → RV} {d : Nat} {ob : Ob} {objs : List (Nat × Ob)}

theorem evR_ins {op : Op} (h : ∀ x ∈ opsL op, ¬ (g x).men d) : evR P (ins d ob objs) g op = evR P objs g op := by
  have hat : ∀ {x : Operand} {n off : Nat}, x ∈ opsL op → g x = .v (.one (.at_ n off)) → lkp (ins d ob objs) n = lkp objs n := fun hx hg =>
    look_ins_other (fun e => h _ hx (by rw [hg]; exact e)) ob objs
  have hel : ∀ {x : Operand} {n s i off : Nat}, x ∈ opsL op → g x = .v (.one (.el n s i off)) → lkp (ins d ob objs) n = lkp objs n := fun hx hg =>
    look_ins_other (fun e => h _ hx (by rw [hg]; exact e)) ob objs
  have how : ∀ {x : Operand} {n : Nat}, x ∈ opsL op → g x = .v (.one (.own n)) → lkp (ins d ob objs) n = lkp objs n := fun hx hg =>
    look_ins_other (fun e => h _ hx (by rw [hg]; exact e)) ob objs
  cases op with
  | load t x =>
    simp only [evR]
    split
    · rename_i hg; rw [hat (by simp [opsL]) hg]
    · rename_i hg; rw [hel (by simp [opsL]) hg]
    · rfl
    · rfl
  | indexAddr t x i =>
    simp only [evR]
    split
    · split
      · split
        · split
          · rfl
          · rename_i hg; rw [how (by simp [opsL]) hg]
          · rfl
        · rfl
      · rfl
    · rfl
  | call c =>
    obtain ⟨callee, args, ts⟩ := c
    cases callee with
    | builtin b =>
      cases b <;> try rfl
      simp only [evR]
      split
      · rename_i t x ht hx
        split
        · rfl
        · rfl
        · rename_i hg; rw [how (arg_mem (c := ⟨_, args, ts⟩) hx) hg]
        · rfl
      · rfl
    | _ => rfl
  | _ => rfl

theorem store_ins {t : TypeId} {x y : Operand} {dst : Option Nat} (h : ¬ (g x).men d) :
    evW P (ins d ob objs) g dst (.store t x y) = (evW P objs g dst (.store t x y)).map fun p => (p.1, ins d ob p.2) := by
  simp only [evW]
  split
  · rename_i n off _ _ hg
    have hne : n ≠ d := fun e => h (by rw [hg]; exact e)
    rw [look_ins_other hne]
    split
    · split
      · split
        · simp only [Option.map_some]; rw [ins_comm hne]
        · rfl
      · rfl
    · rfl
  · rename_i n s i off _ _ hg
    have hne : n ≠ d := fun e => h (by rw [hg]; exact e)
    rw [look_ins_other hne]
    split
    · split
      · split
        · simp only [Option.map_some]; rw [ins_comm hne]
        · rfl
      · rfl
    · rfl
  · rfl

theorem brw_ins {x : CV} (h : ¬ x.men d) : brw (ins d ob objs) x = brw objs x := by
  cases x with
  | own n => simp only [brw]; rw [look_ins_other h]
  | fn f caps => cases caps <;> rfl
  | _ => rfl
theorem brwL_ins : ∀ {xs : List CV}, (∀ x ∈ xs, ¬ x.men d) → brwL (ins d ob objs) xs = brwL objs xs
  | [], _ => rfl
  | x :: xs, h => by
    simp only [brwL]
    rw [brw_ins (h x (by simp)), brwL_ins fun y hy => h y (by simp [hy])]
theorem brwT_ins {r : RV} (h : ¬ r.men d) : brwT (ins d ob objs) r = brwT objs r := by
  cases r with
  | v t =>
    cases t with
    | one x => simp only [brwT]; rw [brw_ins h]
    | agg xs => simp only [brwT]; rw [brwL_ins fun x hx hm => h ⟨x, hx, hm⟩]
  | tup ts => rfl
theorem brwA_ins : ∀ {l : List Operand}, (∀ x ∈ l, ¬ (g x).men d) → brwA (ins d ob objs) g l = brwA objs g l
  | [], _ => rfl
  | x :: l, h => by
    simp only [brwA]
    rw [brwT_ins (h x (by simp)), brwA_ins fun y hy => h y (by simp [hy])]

theorem mem_ins {α : Type} {n : Nat} {x : α} {p : Nat × α} : ∀ {l : List (Nat × α)}, p ∈ ins n x l → p = (n, x) ∨ p ∈ l
  | [], h => by simpa [ins] using h
  | (k, y) :: l, h => by
    unfold ins at h
    split at h
    · simpa using h
    · split at h
      · rcases List.mem_cons.1 h with e | h
        · exact .inl e
        · exact .inr (by simp [h])
      · rcases List.mem_cons.1 h with e | h
        · exact .inr (by simp [e])
        · rcases mem_ins h with e | h
          · exact .inl e
          · exact .inr (by simp [h])
theorem mem_del {α : Type} {n : Nat} {p : Nat × α} : ∀ {l : List (Nat × α)}, p ∈ del n l → p ∈ l
  | [], h => h
  | (k, y) :: l, h => by
    unfold del at h
    split at h
    · exact List.mem_cons_of_mem _ (mem_del h)
    · rcases List.mem_cons.1 h with e | h
      · simp [e]
      · exact List.mem_cons_of_mem _ (mem_del h)

/-! ## no operation brings up a name but its own -/
theorem partOf_men {ti : TI} {cs : List CV} {off : Nat} {r : RV} (h : partOf ti cs off = some r) (hm : ∀ x ∈ cs, ¬ x.men d) : ¬ r.men d := by
  unfold partOf at h
  split at h
  · split at h
    · cases h
      rintro ⟨x, hx, hxm⟩
      exact hm x (List.mem_of_mem_drop (List.mem_of_mem_take hx)) hxm
    · cases h
  · split at h
    · rename_i x hx
      cases h
      exact hm x (List.mem_of_getElem? hx)
    · cases h

theorem cellsOf_men {r : RV} {cs : List CV} (h : cellsOf r = some cs) (hm : ¬ r.men d) : ∀ x ∈ cs, ¬ x.men d := by
  unfold cellsOf at h
  split at h
  · split at h
    · cases h
      intro x hx
      simp only [List.mem_singleton] at hx
      subst hx
      exact hm
    · cases h
  · cases h
    exact fun x hx hxm => hm ⟨x, hx, hxm⟩
  · cases h

theorem fillC_men {ti : TI} : ∀ (l : List (Nat × Operand)) (cs cs' : List CV), fillC P ti g cs l = some cs' → (∀ x ∈ cs, ¬ x.men d) → (∀ x ∈ l.map (·.2), ¬ (g x).men d) → ∀ x ∈ cs', ¬ x.men d
  | [], cs, cs', h, hc, _ => by cases h; exact hc
  | (i, x) :: l, cs, cs', h, hc, hl => by
    unfold fillC at h
    split at h
    · rename_i off size ys _ hys
      split at h
      · refine fillC_men l _ cs' h (fun y hy => ?_) fun y hy => hl y (by simp at hy ⊢; exact .inr hy)
        rcases List.mem_append.1 hy with hy | hy
        · rcases List.mem_append.1 hy with hy | hy
          · exact hc y (List.mem_of_mem_take hy)
          · exact cellsOf_men hys (hl x (by simp)) y hy
        · exact hc y (List.mem_of_mem_drop hy)
      · cases h
    · cases h

theorem evN_men {op : Op} {r : RV} {o : Option Ob} (h : evN P g op = some (r, o)) (hm : ∀ x ∈ opsL op, ¬ (g x).men d) : ¬ r.men d := by
  cases op <;> simp only [evN] at h
  case move x => cases h; exact hm x (by simp [opsL])
  case assign x => cases h; exact hm x (by simp [opsL])
  case pick c a b =>
    split at h
    · split at h
      · split at h
        · cases h; exact id
        · cases h
      · cases h
        split
        · exact hm a (by simp [opsL])
        · exact hm b (by simp [opsL])
    · cases h
  case fieldAddr s x f =>
    split at h
    · split at h
      · split at h
        · split at h
          · rename_i hg; cases h; have := hm x (by simp [opsL]); rw [hg] at this; exact this
          · rename_i hg; cases h; have := hm x (by simp [opsL]); rw [hg] at this; exact this
          · cases h; exact id
          · cases h
        · cases h
      · cases h
    · cases h
  case field t x f =>
    split at h
    · split at h
      · rename_i ti xs _ hg
        simp only [Option.map_eq_some_iff] at h
        obtain ⟨r', hr', he⟩ := h
        cases he
        refine partOf_men hr' fun y hy hym => hm x (by simp [opsL]) ?_
        rw [hg]; exact ⟨y, hy, hym⟩
      · cases h
    · cases h
  case extract x i =>
    split at h
    · rename_i ts hg
      simp only [Option.map_eq_some_iff] at h
      obtain ⟨t, ht, he⟩ := h
      cases he
      intro htm
      refine hm x (by simp [opsL]) ?_
      rw [hg]; exact ⟨t, List.mem_of_getElem? ht, htm⟩
    · cases h
  case binOp op t x y t' =>
    split at h
    · simp only [Option.map_eq_some_iff] at h
      obtain ⟨v, hv, he⟩ := h
      cases he
      exact id
    · cases h
  case unOp op t x =>
    split at h
    · simp only [Option.map_eq_some_iff] at h
      obtain ⟨v, hv, he⟩ := h
      cases he
      exact id
    · cases h
  case build t ps =>
    split at h
    · split at h
      · split at h
        · rename_i cs hcs
          cases h
          rintro ⟨x, hx, hxm⟩
          exact fillC_men ps.toList _ cs hcs (fun y hy => by obtain ⟨v, _, rfl⟩ := List.mem_map.1 hy; exact id) (fun x hx => hm x hx) x hx hxm
        · cases h
      · cases h
    · cases h
  case call c =>
    obtain ⟨callee, args, ts⟩ := c
    cases callee with
    | value f => cases h
    | invoke f m => cases h
    | builtin b =>
      cases b <;> simp only at h <;> try cases h
      · split at h
        · split at h
          · split at h
            · cases h; exact id
            · cases h
          · cases h
        · cases h
      · split at h
        · split at h
          · split at h
            · cases h; exact id
            · cases h
          · cases h
        · cases h
  all_goals cases h

theorem evA_men {op : Op} {d' : Nat} {r : RV} {o : Option Ob} (hd : d' ≠ d) (h : evA P g d' op = some (r, o)) (hm : ∀ x ∈ opsL op, ¬ (g x).men d) : ¬ r.men d ∧ ∀ o', o = some o' → ¬ o'.men d := by
  cases op <;> simp only [evA] at h
  case alloc e =>
    split at h
    · cases h
      refine ⟨hd, ?_⟩
      rintro _ ⟨⟩ ⟨x, hx, hxm⟩
      obtain ⟨v, _, rfl⟩ := List.mem_map.1 hx
      exact hxm
    · cases h
  case box e x =>
    split at h
    · rename_i cs hcs
      cases h
      refine ⟨hd, ?_⟩
      rintro _ ⟨⟩ ⟨y, hy, hym⟩
      exact cellsOf_men hcs (hm x (by simp [opsL])) y hy hym
    · cases h
  case buildSlice t len parts =>
    split at h
    · split at h
      · split at h
        · simp only [Option.map_eq_some_iff] at h
          obtain ⟨rows, _, he⟩ := h
          cases he
          exact ⟨hd, by rintro _ ⟨⟩; exact id⟩
        · cases h
      · cases h
    · cases h
  case makeSlice t l c =>
    split at h
    · split at h
      · split at h
        · cases h
          exact ⟨hd, by rintro _ ⟨⟩; exact id⟩
        · cases h
      · cases h
    · cases h
  all_goals cases h

theorem evR_men {op : Op} {r : RV} (h : evR P objs g op = some r) (hm : ∀ x ∈ opsL op, ¬ (g x).men d) (ho : ∀ n o, lkp objs n = some o → n ≠ d ∧ ¬ o.men d) : ¬ r.men d := by
  unfold evR at h
  split at h
  · rename_i t x
    split at h
    · split at h
      · rename_i cs hl
        exact partOf_men h fun y hy hym => (ho _ _ hl).2 ⟨y, hy, hym⟩
      · cases h
    · split at h
      · split at h
        · split at h
          · refine partOf_men h fun y hy hym => ?_
            obtain ⟨c, _, rfl⟩ := List.mem_map.1 hy
            exact hym
          · cases h
        · cases h
      · cases h
    · refine partOf_men h fun y hy hym => ?_
      obtain ⟨c, _, rfl⟩ := List.mem_map.1 hy
      exact hym
    · cases h
  · rename_i t x i
    split at h
    · split at h
      · split at h
        · split at h
          · split at h
            · split at h
              · cases h; exact id
              · cases h
            · cases h
          · split at h
            · rename_i n hg _ hl
              split at h
              · cases h
                exact (ho _ _ hl).1
              · cases h
            · cases h
          · cases h
        · unfold idxArr at h
          split at h
          · split at h
            · split at h
              · split at h
                · rename_i hg; cases h; have := hm x (by simp [opsL]); rw [hg] at this; exact this
                · rename_i hg; cases h; have := hm x (by simp [opsL]); rw [hg] at this; exact this
                · cases h; exact id
                · cases h
              · cases h
            · cases h
          · cases h
      · cases h
    · cases h
  · split at h
    · split at h
      · cases h; exact id
      · cases h; exact id
      · split at h
        · cases h; exact id
        · cases h
      · cases h
    · cases h
  · cases h

theorem evW_men {op : Op} {dst : Option Nat} {r : RV} {objs' : List (Nat × Ob)} (hd : ∀ d', dst = some d' → isAlloc op = true → d' ≠ d) (h : evW P objs g dst op = some (r, objs')) (hm : ∀ x ∈ opsL op, ¬ (g x).men d)
    (ho : ∀ n o, (n, o) ∈ objs → n ≠ d ∧ ¬ o.men d) : ¬ r.men d ∧ ∀ n o, (n, o) ∈ objs' → n ≠ d ∧ ¬ o.men d := by
  unfold evW at h
  split at h
  · rename_i t x y
    split at h
    · rename_i n off _ hcs hg
      split at h
      · split at h
        · rename_i xs hl
          split at h
          · cases h
            refine ⟨id, fun m o hlm => ?_⟩
            rcases mem_ins hlm with e | hlm
            · cases e
              refine ⟨(ho _ _ (look_mem hl)).1, ?_⟩
              rintro ⟨z, hz, hzm⟩
              rcases List.mem_append.1 hz with hz | hz
              · rcases List.mem_append.1 hz with hz | hz
                · exact (ho _ _ (look_mem hl)).2 ⟨z, List.mem_of_mem_take hz, hzm⟩
                · exact cellsOf_men hcs (hm y (by simp [opsL])) z hz hzm
              · exact (ho _ _ (look_mem hl)).2 ⟨z, List.mem_of_mem_drop hz, hzm⟩
            · exact ho m o hlm
          · cases h
        · cases h
      · cases h
    · split at h
      · split at h
        · rename_i hl _
          split at h
          · cases h
            refine ⟨id, fun m o hlm => ?_⟩
            rcases mem_ins hlm with e | hlm
            · cases e
              exact ⟨(ho _ _ (look_mem hl)).1, id⟩
            · exact ho m o hlm
          · cases h
        · cases h
      · cases h
    · cases h
  · cases dst with
    | none => cases h
    | some d' =>
    split at h
    · rename_i heq _ _ _ _
      cases heq
      split at h
      · split at h
        · split at h
          · split at h
            · split at h
              · cases h
                have hne := hd d' rfl rfl
                refine ⟨hne, fun m o hlm => ?_⟩
                rcases mem_ins hlm with e | hlm
                · cases e
                  exact ⟨hne, id⟩
                · split at hlm
                  · exact ho m o (mem_del hlm)
                  · exact ho m o hlm
              · cases h
            · cases h
          · cases h
        · cases h
      · cases h
    · cases h
  · cases h
end
end Go.Hl
