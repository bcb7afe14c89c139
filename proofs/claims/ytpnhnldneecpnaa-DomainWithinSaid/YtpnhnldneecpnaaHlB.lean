/- HlB: part of an evaluator of Go code over abstract states, proved sound over the model; used by the proof of the claimed statement. Conditions: none. -/
import Derived.Test.YtpnhnldneecpnaaHlA
namespace Go.Hl
open Go Go.RowKit

/-! ## what the table of types says -/
inductive TK where
  | slice (e : TypeId)
  | struct (fs : List (Nat × TypeId))
  | array (n : Nat) (e : TypeId)
  | other

structure TI where
  size : Nat
  bytes : Nat
  agg : Bool
  zero : List Value
  kind : TK

def kindOf : TypeDesc → TK
  | .slice e => .slice e
  | .struct fs => .struct (fs.toList.map fun f => (f.offset, f.type))
  | .array n e => .array n e
  | _ => .other

def aggOf : TypeDesc → Bool
  | .struct _ => true
  | .array _ _ => true
  | _ => false

def tyOf (P : Program) (t : TypeId) : Option TI :=
  match P.info? t, P.underlying t with
  | some i, some d => match i.zero with
    | some z => some { size := i.size, bytes := i.bytes, agg := aggOf d, zero := z.cells.toList, kind := kindOf d }
    | none => none
  | _, _ => none

def elemTy (P : Program) (t : TypeId) : Option TypeId :=
  match tyOf P t with
  | some ti => match ti.kind with
    | .slice e => some e
    | _ => none
  | none => none

def fieldOf (P : Program) (t : TypeId) (f : Nat) : Option (Nat × TypeId) :=
  match tyOf P t with
  | some ti => match ti.kind with
    | .struct fs => fs[f]?
    | _ => none
  | none => none

def arrOf (P : Program) (t : TypeId) : Option (Nat × TypeId) :=
  match tyOf P t with
  | some ti => match ti.kind with
    | .array n e => some (n, e)
    | _ => none
  | none => none

/-- the address of an array's element -/
def idxArr (P : Program) (t : TypeId) (k : Nat) (x : RV) : Option RV :=
  match arrOf P t with
  | some (n, e) => match tyOf P e with
    | some ti => if k < n then match x with
        | .v (.one (.at_ m off)) => some (.v (.one (.at_ m (off + k * ti.size))))
        | .v (.one (.el m s i off)) => some (.v (.one (.el m s i (off + k * ti.size))))
        | .v (.one (.c (.ptr cs))) => some (.v (.one (.c (.ptr (cs.drop (k * ti.size))))))
        | _ => none
      else none
    | none => none
  | none => none

/-! ## operands -/
def constRV : Value → RV
  | .agg cs => .v (.agg (cs.toList.map fun v => .c (.lit v)))
  | v => .v (.one (.c (.lit v)))

def opd (regs : List (Nat × RV)) : Operand → RV
  | .tmp t => (lkp regs t).getD (.v (.one .any))
  | .const v => constRV v
  | .func f => .v (.one (.fn f []))
  | .global _ => .v (.one .any)

def CD.cell : CD → Bool
  | .lit v => v.oneCell'
  | _ => true
def CV.cell : CV → Bool
  | .any => false
  | .gd _ _ => false
  | .c d => d.cell
  | _ => true

def cellsOf : RV → Option (List CV)
  | .v (.one x) => if x.cell then some [x] else none
  | .v (.agg xs) => some xs
  | .tup _ => none

def litOf : RV → Option Value
  | .v (.one (.c (.lit v))) => some v
  | _ => none

def lit (v : Value) : RV := .v (.one (.c (.lit v)))

/-- 'if b then b'', kept whole where it is reckoned -/
def impB (b b' : Bool) : Bool := !b || b'
theorem impB_self (b : Bool) : impB b b = true := by cases b <;> rfl
theorem impB_true (b : Bool) : impB b true = true := by cases b <;> rfl
theorem impB_false (b : Bool) : impB false b = true := rfl
theorem impB_one (b : Bool) : impB true b = b := rfl
def pickB (t x y : Bool) : Bool := (t && x) || (!t && y)
theorem pickB_or (t y : Bool) : pickB t true y = (t || y) := by cases t <;> cases y <;> rfl
theorem pickB_and (t x : Bool) : pickB t x false = (t && x) := by cases t <;> cases x <;> rfl
theorem pickB_true (x y : Bool) : pickB true x y = x := by cases x <;> cases y <;> rfl
theorem pickB_false (x y : Bool) : pickB false x y = y := by cases x <;> cases y <;> rfl

/-- a literal, and whether it is there -/
def litG : RV → Option (Bool × Value)
  | .v (.one (.c (.lit v))) => some (true, v)
  | .v (.one (.gd b (.c (.lit v)))) => some (b, v)
  | _ => none

/-- a part of a list of cells, as a variable of type 't' holds it -/
def partOf (ti : TI) (cs : List CV) (off : Nat) : Option RV :=
  if ti.agg then (if off + ti.size ≤ cs.length then some (.v (.agg ((cs.drop off).take ti.size))) else none)
  else match cs[off]? with
    | some x => some (.v (.one x))
    | none => none

def boolT (P : Program) (t : TypeId) : Bool :=
  match P.underlying t with
  | some .bool => true
  | _ => false
def evBin (bt : Bool) (op : BinOp) : Value → Value → Option Value
  | .int k a, .int k' b =>
    if k = k' then match op with
      | .add => some (.int k (k.wrap (a + b)))
      | .sub => some (.int k (k.wrap (a - b)))
      | .mul => some (.int k (k.wrap (a * b)))
      | .quo => if b = 0 then none else some (.int k (k.wrap (a.tdiv b)))
      | .rem => if b = 0 then none else some (.int k (a.tmod b))
      | .eql => some (.bool (decide (a = b)))
      | .neq => some (.bool (decide (a ≠ b)))
      | .lss => some (.bool (decide (a < b)))
      | .leq => some (.bool (decide (a ≤ b)))
      | .gtr => some (.bool (decide (b < a)))
      | .geq => some (.bool (decide (b ≤ a)))
      | _ => none
    else none
  | .bool a, .bool b => if bt = true then match op with
      | .eql => some (.bool (a == b))
      | .neq => some (.bool (a != b))
      | _ => none
    else none
  | _, _ => none

def evUn : UnOp → Value → Option Value
  | .not, .bool b => some (.bool (!b))
  | .neg, .int k n => some (.int k (k.wrap (-n)))
  | _, _ => none

def dataOf : List CV → Option (List CD)
  | [] => some []
  | .c d :: l => (dataOf l).map (d :: ·)
  | _ :: _ => none

/-- the parts of a struct or an array that is built -/
def placeOf (P : Program) (ti : TI) (i : Nat) : Option (Nat × Nat) :=
  match ti.kind with
  | .struct fs => match fs[i]? with
    | some (o, t) => match tyOf P t with
      | some u => some (o, u.size)
      | none => none
    | none => none
  | .array _ e => match tyOf P e with
    | some u => some (i * u.size, u.size)
    | none => none
  | _ => none
def allTyped (P : Program) (ti : TI) : Bool :=
  match ti.kind with
  | .struct fs => fs.all fun f => (tyOf P f.2).isSome
  | .array _ e => (tyOf P e).isSome
  | _ => true
def fillC (P : Program) (ti : TI) (g : Operand → RV) : List CV → List (Nat × Operand) → Option (List CV)
  | cs, [] => some cs
  | cs, (i, x) :: l => match placeOf P ti i, cellsOf (g x) with
    | some (off, size), some ys => if ys.length = size ∧ off + ys.length ≤ cs.length then fillC P ti g (cs.take off ++ ys ++ cs.drop (off + ys.length)) l else none
    | _, _ => none

def rowsOf (size : Nat) (g : Operand → RV) : Nat → List (Nat × Operand) → Option (List (List CD))
  | _, [] => some []
  | k, (i, x) :: l => if i = k then
      match (cellsOf (g x)).bind dataOf, rowsOf size g (k + 1) l with
      | some r, some rs => if r.length = size ∧ r.all CD.cell then some (r :: rs) else none
      | _, _ => none
    else none

/-! ## neutral operations: they do not lkp at the objects; they may make one, named by the slot that they write -/
def evN (P : Program) (g : Operand → RV) : Op → Option (RV × Option Ob)
  | .move x => some (g x, none)
  | .assign x => some (g x, none)
  | .pick c a b => match litOf (g c) with
    | some (.bool t) => match litG (g a), litG (g b) with
      | some (fa, .bool x), some (fb, .bool y) => if (impB t fa && impB (!t) fb) = true then some (lit (.bool (pickB t x y)), none) else none
      | _, _ => some (if t = true then g a else g b, none)
    | _ => none
  | .fieldAddr s x f => match fieldOf P s f with
    | some (o, t) => match tyOf P t with
      | some ti => if 0 < ti.size then match g x with
          | .v (.one (.at_ n off)) => some (.v (.one (.at_ n (off + o))), none)
          | .v (.one (.el n s i off)) => some (.v (.one (.el n s i (off + o))), none)
          | .v (.one (.c (.ptr cs))) => some (.v (.one (.c (.ptr (cs.drop o)))), none)
          | _ => none
        else none
      | none => none
    | none => none
  | .field t x f => match fieldOf P t f with
    | some (o, t) => match tyOf P t, g x with
      | some ti, .v (.agg xs) => (partOf ti xs o).map fun r => (r, none)
      | _, _ => none
    | none => none
  | .extract x i => match g x with
    | .tup ts => (ts[i]?).map fun t => (.v t, none)
    | _ => none
  | .binOp op t x y _ => match litOf (g x), litOf (g y) with
    | some a, some b => (evBin (boolT P t) op a b).map fun v => (lit v, none)
    | _, _ => none
  | .unOp op _ x => match litOf (g x) with
    | some a => (evUn op a).map fun v => (lit v, none)
    | _ => none
  | .build t parts => match tyOf P t with
    | some ti => if ti.agg = true ∧ allTyped P ti = true then match fillC P ti g (ti.zero.map fun v => .c (.lit v)) parts.toList with
      | some cs => some (.v (.agg cs), none)
      | none => none
      else none
    | none => none
  | .call { callee := .builtin .min, args := args, .. } => match args.toList with
    | [x, y] => match litOf (g x), litOf (g y) with
      | some (.int k a), some (.int k' b) => if k = k' then some (lit (.int k (if b < a then b else a)), none) else none
      | _, _ => none
    | _ => none
  | .call { callee := .builtin .max, args := args, .. } => match args.toList with
    | [x, y] => match litOf (g x), litOf (g y) with
      | some (.int k a), some (.int k' b) => if k = k' then some (lit (.int k (if a < b then b else a)), none) else none
      | _, _ => none
    | _ => none
  | _ => none

/-- .. that make an object -/
def evA (P : Program) (g : Operand → RV) (d : Nat) : Op → Option (RV × Option Ob)
  | .alloc e => match tyOf P e with
    | some ti => some (.v (.one (.at_ d 0)), some (.box (ti.zero.map fun v => .c (.lit v))))
    | none => none
  | .box _ x => match cellsOf (g x) with
    | some cs => some (.v (.one (.at_ d 0)), some (.box cs))
    | none => none
  | .buildSlice t len parts => match elemTy P t with
    | some e => match tyOf P e with
      | some ti => if 0 < ti.size ∧ len = parts.size ∧ len * ti.size ≤ 16777216 ∧ ti.zero.length = ti.size then
          (rowsOf ti.size g 0 parts.toList).map fun rows => (.v (.one (.own d)), some (.row e ti.size rows))
        else none
      | none => none
    | none => none
  | .makeSlice t l c => match elemTy P t, litOf (g l), litOf (g c) with
    | some e, some (.int .i64 n), some (.int .i64 m) => match tyOf P e with
      | some ti => if 0 < ti.size ∧ 0 ≤ n ∧ n = m ∧ n ≤ maxLen ∧ ti.bytes * n ≤ 281474976710656 ∧ ti.zero.length = ti.size ∧ ti.zero.all Value.oneCell' then
          some (.v (.one (.own d)), some (.row e ti.size (List.replicate n.toNat (ti.zero.map .lit))))
        else none
      | none => none
    | _, _, _ => none
  | _ => none

def isAlloc : Op → Bool
  | .alloc _ | .box _ _ | .buildSlice _ _ _ | .makeSlice _ _ _ => true
  | .call { callee := .builtin .append, .. } => true
  | _ => false

/-- reading operations -/
def evR (P : Program) (objs : List (Nat × Ob)) (g : Operand → RV) : Op → Option RV
  | .load t x => match tyOf P t, g x with
    | some ti, .v (.one (.at_ n off)) => match lkp objs n with
      | some (.box cs) => partOf ti cs off
      | _ => none
    | some ti, .v (.one (.el n s i off)) => match lkp objs n with
      | some (.row _ s' rows) => if s = s' then match rows[i]? with
          | some r => partOf ti (r.map .c) off
          | none => none
        else none
      | _ => none
    | some ti, .v (.one (.c (.ptr cs))) => partOf ti (cs.map .c) 0
    | _, _ => none
  | .indexAddr t x i => match litOf (g i) with
    | some (.int .i64 k) => if 0 ≤ k then match elemTy P t with
      | some e => match tyOf P e, g x with
        | some ti, .v (.one (.c (.sl s rows))) => if s = ti.size then match rows[k.toNat]? with
            | some r => some (.v (.one (.c (.ptr r))))
            | none => none
          else none
        | some ti, .v (.one (.own n)) => match lkp objs n with
          | some (.row _ s rows) => if s = ti.size ∧ k.toNat < rows.length then some (.v (.one (.el n s k.toNat 0))) else none
          | _ => none
        | _, _ => none
      | none => idxArr P t k.toNat (g x)
      else none
    | _ => none
  | .call { callee := .builtin .len, args := args, argTypes := ts } => match ts[0]?, args[0]? with
    | some t, some x => match elemTy P t, g x with
      | some _, .v (.one (.c (.sl _ rows))) => some (lit (.int .i64 rows.length))
      | some _, .v (.one (.c (.lit (.slice _ n _)))) => some (lit (.int .i64 n))
      | some _, .v (.one (.own n)) => match lkp objs n with
        | some (.row _ _ rows) => some (lit (.int .i64 rows.length))
        | _ => none
      | _, _ => none
    | _, _ => none
  | _ => none

def setRow (rows : List (List CD)) (i off : Nat) (ds : List CD) : List (List CD) :=
  match rows[i]? with
  | some r => rows.set i (r.take off ++ ds ++ r.drop (off + ds.length))
  | none => rows

/-- the row that 'append' goes on with; what it puts behind it -/
def baseOf (objs : List (Nat × Ob)) (e : TypeId) (size : Nat) : RV → Option (Option Nat × List (List CD))
  | .v (.one (.c (.lit (.slice none 0 0)))) => some (none, [])
  | .v (.one (.own n)) => match lkp objs n with
    | some (.row e' s rows) => if e' = e ∧ s = size then some (some n, rows) else none
    | _ => none
  | _ => none
def moreOf (objs : List (Nat × Ob)) (size : Nat) : RV → Option (List (List CD))
  | .v (.one (.c (.sl s rows))) => if s = size then some rows else none
  | .v (.one (.own m)) => match lkp objs m with
    | some (.row _ s rows) => if s = size then some rows else none
    | _ => none
  | _ => none

/-- so many elements find room -/
def room (n bytes : Nat) : Prop := n ≤ maxLen ∧ n * bytes ≤ 140737488355328
instance (n bytes : Nat) : Decidable (room n bytes) := by unfold room; exact inferInstance
theorem room_of {n bytes : Nat} (h : n ≤ 2097152) (hb : bytes ≤ 1048576) : room n bytes :=
  ⟨by unfold maxLen; omega, Nat.le_trans (Nat.mul_le_mul h hb) (by omega)⟩

/-- writing operations -/
def evW (P : Program) (objs : List (Nat × Ob)) (g : Operand → RV) (d : Option Nat) : Op → Option (RV × List (Nat × Ob))
  | .store t x y => match tyOf P t, cellsOf (g y), g x with
    | some ti, some cs, .v (.one (.at_ n off)) => if cs.length = ti.size ∧ cs.all CV.cell then match lkp objs n with
      | some (.box xs) => if off + cs.length ≤ xs.length then some (.v (.one .any), ins n (.box (xs.take off ++ cs ++ xs.drop (off + cs.length))) objs) else none
      | _ => none
      else none
    | some ti, some cs, .v (.one (.el n s i off)) => if cs.length = ti.size ∧ cs.all CV.cell then match lkp objs n, dataOf cs with
      | some (.row e s' rows), some ds => if s = s' ∧ i < rows.length ∧ off + ds.length ≤ s then some (.v (.one .any), ins n (.row e s (setRow rows i off ds)) objs) else none
      | _, _ => none
      else none
    | _, _, _ => none
  | .call { callee := .builtin .append, args := args, argTypes := ts } => match d, ts[0]?, ts[1]?, args[0]?, args[1]? with
    | some d, some t, some t', some x, some y => if t = t' then match elemTy P t with
      | some e => match tyOf P e with
        | some ti => match baseOf objs e ti.size (g x), moreOf objs ti.size (g y) with
          | some (n, rows), some more =>
            if 0 < ti.size ∧ ti.zero.length = ti.size ∧ room (rows.length + more.length) ti.bytes then
              some (.v (.one (.own d)), ins d (.row e ti.size (rows ++ more)) (match n with | some n => del n objs | none => objs))
            else none
          | _, _ => none
        | none => none
      | none => none
      else none
    | _, _, _, _, _ => none
  | _ => none
end Go.Hl
