/- HmB: part of an evaluator of Go code over abstract states, proved sound over the model; used by the proof of the claimed statement. Conditions: none. -/
import Derived.Test.YtdajceakaakdoaaGreatHmA
set_option linter.unusedSimpArgs false
set_option linter.unusedVariables false
namespace Go.Hl
open Go Go.RowKit
inductive TK where
 |slice (e:TypeId)
 |struct (fs:List (Nat×TypeId))
 |array (n:Nat) (e:TypeId)
 |other
structure TI where
 size:Nat
 bytes:Nat
 agg:Bool
 zero:List Value
 kind:TK
def X15:TypeDesc→TK
 | .slice e=>.slice e
 | .struct fs=>.struct (fs.toList.map fun f=>(f.offset,f.type))
 | .array n e=>.array n e
 |_=>.other
def X6M:TypeDesc→Bool
 | .struct _=>true
 | .array _ _=>true
 |_=>false
def XF (P:Program) (t:TypeId):Option TI:=
 match P.info? t,P.underlying t with
 | some i,some d=>match i.zero with
   |some z=>some {size:=i.size,bytes:=i.bytes,agg:=X6M d,zero:=z.cells.toList,kind:=X15 d}
   |none=>none
 |_,_=>none
def Z2 (P:Program) (t:TypeId):Option TypeId:=
 match XF P t with
 | some ti=>match ti.kind with
   | .slice e=>some e
   |_=>none
 |none=>none
def X2Q (P:Program) (t:TypeId) (f:Nat):Option (Nat×TypeId):=
 match XF P t with
 | some ti=>match ti.kind with
   | .struct fs=>fs[f]?
   |_=>none
 |none=>none
def X8w (P:Program) (t:TypeId):Option (Nat×TypeId):=
 match XF P t with
 | some ti=>match ti.kind with
   | .array n e=>some (n,e)
   |_=>none
 |none=>none
def X7s (P:Program) (t:TypeId) (k:Nat) (x:RV):Option RV:=
 match X8w P t with
 | some (n,e)=>match XF P e with
   | some ti=>if k<n then match x with
     | .v (.one (.at_ m off))=>some (.v (.one (.at_ m (off+k*ti.size))))
     | .v (.one (.el m s i off))=>some (.v (.one (.el m s i (off+k*ti.size))))
     | .v (.one (.c (.ptr cs)))=>some (.v (.one (.c (.ptr (cs.drop (k*ti.size))))))
     |_=>none
     else none
   |none=>none
 |none=>none
def inR {α:Type} (l:List α) (i:Nat):Bool:=(l[i]?).isSome
theorem X3Y {α:Type} {l:List α} {i:Nat} (h:inR l i=true):i<l.length:=by
 rcases Nat.lt_or_ge i l.length with h1|h1
 · exact h1
 simp[inR,List.getElem?_eq_none h1]at h
def X3H:Value→RV
 | .agg cs=>.v (.agg (cs.toList.map fun v=>.c (.lit v)))
 |v=>.v (.one (.c (.lit v)))
def opd (regs:List (Nat×RV)):Operand→RV
 | .tmp t=>(lkp regs t).getD (.v (.one .any))
 | .const v=>X3H v
 | .func f=>.v (.one (.fn f []))
 | .global _=>.v (.one .any)
def CD.cell:CD→Bool
 | .lit v=>v.oneCell'
 |_=>true
def CV.cell:CV→Bool
 | .any=>false
 | .gd _ _=>false
 | .c d=>d.cell
 |_=>true
def cellsOf:RV→Option (List CV)
 | .v (.one x)=>if x.cell then some [x] else none
 | .v (.agg xs)=>some xs
 | .tup _=>none
def Wc:RV→Option Value
 | .v (.one (.c (.lit v)))=>some v
 |_=>none
def lit (v:Value):RV:=.v (.one (.c (.lit v)))
def X1o (b b':Bool):Bool:= !b||b'
theorem Xbn (b:Bool):X1o b b=true:=by cases b<;>rfl
theorem XbZ (b:Bool):X1o b true=true:=by cases b<;>rfl
theorem Xa5 (b:Bool):X1o false b=true:=rfl
theorem impB_and (a b:Bool):X1o a (a&&b)=X1o a b:=by cases a<;>rfl
theorem XbA (a b c:Bool):X1o (a&&b) (a&&b&&c)=X1o (a&&b) c:=by cases a<;>cases b<;>rfl
theorem impB_imp (a b:Bool):X1o b (X1o a b)=true:=by cases a<;>cases b<;>rfl
theorem impB_one (b:Bool):X1o true b=b:=rfl
def X6L (t x y:Bool):Bool:=(t&&x)||(!t&&y)
theorem pickB_or (t y:Bool):X6L t true y=(t||y):=by cases t<;>cases y<;>rfl
theorem Xbl (t x:Bool):X6L t x false=(t&&x):=by cases t<;>cases x<;>rfl
theorem X5J (x y:Bool):X6L true x y=x:=by cases x<;>cases y<;>rfl
theorem X4B (x y:Bool):X6L false x y=y:=by cases x<;>cases y<;>rfl
def X45:RV→Option (Bool×Value)
 | .v (.one (.c (.lit v)))=>some (true,v)
 | .v (.one (.gd b (.c (.lit v))))=>some (b,v)
 |_=>none
def WY (ti:TI) (cs:List CV) (off:Nat):Option RV:=
 if ti.agg then(if off+ti.size≤cs.length then some (.v (.agg ((cs.drop off).take ti.size)))else none)
 else match cs[off]? with
  |some x=>some (.v (.one x))
  |none=>none
def X63 (P:Program) (t:TypeId):Bool:=
 match P.underlying t with
 |some .bool=>true
 |_=>false
def X6a (bt:Bool) (op:BinOp):Value→Value→Option Value
 | .int k a,.int k' b=>
   if k=k' then match op with
    | .add=>some (.int k (k.wrap (a+b)))
    | .sub=>some (.int k (k.wrap (a - b)))
    | .mul=>some (.int k (k.wrap (a*b)))
    | .quo=>if b=0 then none else some (.int k (k.wrap (a.tdiv b)))
    | .rem=>if b=0 then none else some (.int k (a.tmod b))
    | .eql=>some (.bool (decide (a=b)))
    | .neq=>some (.bool (decide (a≠b)))
    | .lss=>some (.bool (decide (a<b)))
    | .leq=>some (.bool (decide (a≤b)))
    | .gtr=>some (.bool (decide (b<a)))
    | .geq=>some (.bool (decide (b≤a)))
    |_=>none
   else none
 | .bool a,.bool b=>if bt=true then match op with
   | .eql=>some (.bool (a==b))
   | .neq=>some (.bool (a !=b))
   |_=>none
   else none
 |_,_=>none
def strT (P:Program) (t:TypeId):Bool:=
 match P.underlying t with
 |some .string=>true
 |_=>false
def Q1 (P:Program) (t:TypeId):Bool:=
 match P.underlying t with
 |some (.pointer _)=>true
 |_=>false
def evStr (op:BinOp) (a b:ByteArray):Option Value:=
 match op with
 | .eql=>some (.bool (decide (a=b)))
 | .neq=>some (.bool (decide (a≠b)))
 |_=>none
def X1I:RV→Bool
 | .v (.one (.at_ _ _))=>true
 | .v (.one (.el _ _ _ _))=>true
 | .v (.one (.el2 _ _ _ _ _))=>true
 | .v (.one (.c (.ptr _)))=>true
 |_=>false
def X03:RV→Bool
 | .v (.one (.c (.lit (.pointer none))))=>true
 |_=>false
def evNil (op:BinOp) (x y:RV):Option Bool:=
 match op with
 | .eql=>if(X03 x&&X03 y)=true then some true else if((X03 x&&X1I y)||(X1I x&&X03 y))=true then some false else none
 | .neq=>if(X03 x&&X03 y)=true then some false else if((X03 x&&X1I y)||(X1I x&&X03 y))=true then some true else none
 |_=>none
def arrI (P:Program) (t:TypeId):Option (Nat×IntKind):=
 match P.underlying t with
 | some (.array n e)=>match P.underlying e,P.info? e with
   |some (.int k),some i=>if i.size=1∧P.eqGuardType P.depth t=false then some (n,k)else none
   |_,_=>none
 |_=>none
def X6A (k:IntKind):List CV→Option (List Int)
 |[]=>some []
 | .c (.lit (.int k' n))::l=>if k'=k then(X6A k l).map (n:: ·)else none
 |_::_=>none
def fkind (P:Program) (f:Field) (i:Nat):Option Bool:=
 if f.name≠ "_" ∧f.offset=i then(match P.underlying f.type with
  |some (.int _)=>some true
  |some .string=>some false
  |_=>none)else none
def Zt (P:Program):List Field→Nat→Option (List Bool)
 |[],_=>some []
 | f::l,i=>match fkind P f i,Zt P l (i+1)with
   |some a,some b=>some (a::b)
   |_,_=>none
def X65 (P:Program) (t:TypeId):Option (List Bool):=
 match P.underlying t with
 |some (.struct fs)=>if P.stoodInHeld t=false∧P.eqGuardType P.depth t=false then Zt P fs.toList 0 else none
 |_=>none
def eqFs:List Bool→List CV→List CV→Option Bool
 |[],[],[]=>some true
 |true::ks,.c (.lit (.int k a))::l,.c (.lit (.int k' b))::m=>if k=k' then(eqFs ks l m).map fun q=>decide (a=b)&&q else none
 |false::ks,.c (.lit (.string a))::l,.c (.lit (.string b))::m=>(eqFs ks l m).map fun q=>decide (a=b)&&q
 |_,_,_=>none
def evAgg (P:Program) (op:BinOp) (t:TypeId) (x y:RV):Option Bool:=
 match x,y with
 | .v (.agg xs),.v (.agg ys)=>match arrI P t with
   | some (n,k)=>match X6A k xs,X6A k ys with
     | some as0,some bs=>if as0.length=n∧bs.length=n then match op with
       | .eql=>some (decide (as0=bs))
       | .neq=>some (decide (as0≠bs))
       |_=>none
       else none
     |_,_=>none
   | none=>match X65 P t with
     | some ks=>match eqFs ks xs ys with
       | some q=>match op with
         | .eql=>some q
         | .neq=>some (!q)
         |_=>none
       |none=>none
     |none=>none
 |_,_=>none
def X0r (g:Operand→RV):List Operand→Option (List (Nat×Nat))
 |[]=>some []
 | x::l=>match g x,X0r g l with
   | .v (.one (.at_ n off)),some r=>some ((n,off)::r)
   |_,_=>none
def X4S:TypeDesc→Bool
 | .int _=>true
 | .string=>true
 | .bool=>true
 |_=>false
def mapT (P:Program) (t:TypeId):Option (TypeDesc×Value):=
 match P.underlying t with
 | some (.map k e)=>match P.underlying k,(P.info? e).bind (·.zero)with
   |some kd,some z=>if X4S kd=true∧z.oneCell'=true then some (kd,z)else none
   |_,_=>none
 |_=>none
def X5z (P:Program) (t:TypeId):Bool:=match P.underlying t with
 |some (.map _ _)=>true
 |_=>false
def X4v (kd:TypeDesc) (kv:Value):List (Value×CD)→Option (Option CD)
 |[]=>some none
 | (k,d)::l=>match Instr.sameNow kd kv k with
   |some true=>some (some d)
   |some false=>X4v kd kv l
   |none=>none
def setM (kd:TypeDesc) (kv:Value) (d:CD):List (Value×CD)→Option (List (Value×CD))
 |[]=>none
 | (k,x)::l=>match Instr.sameNow kd kv k with
   |some true=>if Instr.sameBits 10000 k kv=true then some ((kv,d)::l)else none
   |some false=>(setM kd kv d l).map ((k,x):: ·)
   |none=>none
def X6b (objs:List (Nat×Ob)):RV→Option (List (Value×CD))
 | .v (.one (.c (.mp l)))=>some l
 | .v (.one (.c (.lit (.map none))))=>some []
 | .v (.one (.own n))=>match lkp objs n with
   |some (.mp l)=>some l
   |_=>none
 | .v (.one (.sub n i))=>match lkp objs n with
   | some (.mps _ ms)=>match ms[i]? with
     |some (some l)=>some l
     |_=>none
   |_=>none
 |_=>none
def X2F (ok:Bool) (d:CD) (b:Bool):RV:=if ok=true then .tup [.one (.c d),.one (.c (.lit (.bool b)))] else .v (.one (.c d))
def evUn:UnOp→Value→Option Value
 | .not,.bool b=>some (.bool (!b))
 | .neg,.int k n=>some (.int k (k.wrap (-n)))
 |_,_=>none
def W8:List CV→Option (List CD)
 |[]=>some []
 | .c d::l=>(W8 l).map (d:: ·)
 |_::_=>none
def Q3 (P:Program) (ti:TI) (i:Nat):Option (Nat×Nat):=
 match ti.kind with
 | .struct fs=>match fs[i]? with
   | some (o,t)=>match XF P t with
     |some u=>some (o,u.size)
     |none=>none
   |none=>none
 | .array _ e=>match XF P e with
   |some u=>some (i*u.size,u.size)
   |none=>none
 |_=>none
def XO (P:Program) (ti:TI):Bool:=
 match ti.kind with
 | .struct fs=>fs.all fun f=>(XF P f.2).isSome
 | .array _ e=>(XF P e).isSome
 |_=>true
def QE (P:Program) (ti:TI) (g:Operand→RV):List CV→List (Nat×Operand)→Option (List CV)
 |cs,[]=>some cs
 | cs,(i,x)::l=>match Q3 P ti i,cellsOf (g x)with
   |some (off,size),some ys=>if ys.length=size∧off+ys.length≤cs.length then QE P ti g (cs.take off++ys++cs.drop (off+ys.length)) l else none
   |_,_=>none
def WN (size:Nat) (g:Operand→RV):Nat→List (Nat×Operand)→Option (List (List CD))
 |_,[]=>some []
 | k,(i,x)::l=>if i=k then
   match(cellsOf (g x)).bind W8,WN size g (k+1) l with
   |some r,some rs=>if r.length=size∧r.all CD.cell then some (r::rs)else none
   |_,_=>none
   else none
def X0H (g:Operand→RV) (dflt:Nat):Option Operand→Option Nat
 |none=>some dflt
 | some x=>match Wc (g x)with
   |some (.int .i64 n)=>if 0≤n then some n.toNat else none
   |_=>none
def Xs (P:Program) (t:TypeId):Bool:=
 match P.underlying t with
 |some (.slice _)=>true
 |_=>false
def nilSl:RV→Bool
 | .v (.one (.c (.lit (.slice none 0 0))))=>true
 |_=>false
def X5L:RV→Option Bool
 | .v (.one (.c (.lit (.slice none _ _))))=>some true
 | .v (.one (.c (.lit (.slice (some _) _ _))))=>some false
 | .v (.one (.c (.sl _ (_::_))))=>some false
 |_=>none
def X72 (op:BinOp) (x y:RV):Option Bool:=
 if nilSl y=true then match op with
  | .eql=>X5L x
  | .neq=>(X5L x).map (!·)
  |_=>none
 else none
def evN (P:Program) (g:Operand→RV):Op→Option (RV×Option Ob)
 | .move x=>some (g x,none)
 | .assign x=>some (g x,none)
 | .pick c a b=>match Wc (g c)with
   | some (.bool t)=>match X45 (g a),X45 (g b)with
     |some (fa,.bool x),some (fb,.bool y)=>if(X1o t fa&&X1o (!t) fb)=true then some (lit (.bool (X6L t x y)),none)else none
     |_,_=>some (if t=true then g a else g b,none)
   |_=>none
 | .fieldAddr s x f=>match X2Q P s f with
   | some (o,t)=>match XF P t with
     | some ti=>if 0<ti.size then match g x with
       | .v (.one (.at_ n off))=>some (.v (.one (.at_ n (off+o))),none)
       | .v (.one (.el n s i off))=>some (.v (.one (.el n s i (off+o))),none)
       | .v (.one (.el2 n s i j off))=>some (.v (.one (.el2 n s i j (off+o))),none)
       | .v (.one (.c (.ptr cs)))=>some (.v (.one (.c (.ptr (cs.drop o)))),none)
       |_=>none
       else none
     |none=>none
   |none=>none
 | .nilCheck x=>if X1I (g x)=true then some (g x,none)else none
 | .makeFunc fn first caps=>match fn,first.toList with
   | .func f,[]=>(X0r g caps.toList).map fun cs=>(.v (.one (.fn f cs)),none)
   |_,_=>none
 | .index t x i=>match g x with
   | .v (.agg xs)=>match Wc (g i),X8w P t with
     | some (.int _ n),some (len,e)=>match XF P e with
       |some ti=>if 0≤n∧n<len then(WY ti xs (n.toNat*ti.size)).map fun r=>(r,none)else none
       |none=>none
     |_,_=>none
   | _ =>match Wc (g x),Wc (g i)with
     | some (.string s),some (.int _ n)=>if strT P t=true∧0≤n then match s[n.toNat]? with
       |some b=>some (lit (.int .u8 b.toNat),none)
       |none=>none
       else none
     |_,_=>none
 | .slice t x low high none=>match g x with
   | .v (.one (.c (.sl s rows)))=>match Z2 P t with
     | some e=>match XF P e with
       | some ti=>if ti.size=s then match X0H g 0 low,X0H g rows.length high with
         |some l,some h=>if l≤h∧h≤rows.length then some (.v (.one (.c (.sl s ((rows.take h).drop l)))),none)else none
         |_,_=>none
         else none
       |none=>none
     |none=>none
   | .v (.one (.c (.lit (.string b))))=>if strT P t=true then match X0H g 0 low,X0H g b.size high with
     |some l,some h=>if l≤h∧h≤b.size then some (lit (.string (b.extract l h)),none)else none
     |_,_=>none
     else none
   |_=>none
 | .field t x f=>match X2Q P t f with
   | some (o,t)=>match XF P t,g x with
     |some ti,.v (.agg xs)=>(WY ti xs o).map fun r=>(r,none)
     |_,_=>none
   |none=>none
 | .extract x i=>match g x with
   | .tup ts=>(ts[i]?).map fun t=>(.v t,none)
   |_=>none
 | .binOp op t x y _=>match Wc (g x),Wc (g y)with
   |some (.string a),some (.string b)=>if strT P t=true then(evStr op a b).map fun v=>(lit v,none)else none
   |some (.int k a),some b=>(X6a (X63 P t) op (.int k a) b).map fun v=>(lit v,none)
   |some (.bool a),some b=>(X6a (X63 P t) op (.bool a) b).map fun v=>(lit v,none)
   |_,_=>if Q1 P t=true then(evNil op (g x) (g y)).map fun b=>(lit (.bool b),none)else if Xs P t=true then(X72 op (g x) (g y)).map fun b=>(lit (.bool b),none)else(evAgg P op t (g x) (g y)).map fun b=>(lit (.bool b),none)
 | .unOp op _ x=>match Wc (g x)with
   |some a=>(evUn op a).map fun v=>(lit v,none)
   |_=>none
 | .build t parts=>match XF P t with
   | some ti=>if ti.agg=true∧XO P ti=true then match QE P ti g (ti.zero.map fun v=>.c (.lit v)) parts.toList with
     |some cs=>some (.v (.agg cs),none)
     |none=>none
     else none
   |none=>none
 | .call {callee:=.builtin .min,args:=args, .. }=>match args.toList with
   | [x,y]=>match Wc (g x),Wc (g y)with
     |some (.int k a),some (.int k' b)=>if k=k' then some (lit (.int k (if b<a then b else a)),none)else none
     |_,_=>none
   |_=>none
 | .call {callee:=.builtin .max,args:=args, .. }=>match args.toList with
   | [x,y]=>match Wc (g x),Wc (g y)with
     |some (.int k a),some (.int k' b)=>if k=k' then some (lit (.int k (if a<b then b else a)),none)else none
     |_,_=>none
   |_=>none
 |_=>none
def X07 (g:Operand→RV):List (Nat×Operand)→Option Nat
 | [(0,x)]=>match g x with
   | .v (.one (.own n))=>some n
   |_=>none
 |_=>none
def evA (P:Program) (g:Operand→RV) (d:Nat):Op→Option (RV×Option Ob)
 | .alloc e=>match XF P e with
   |some ti=>some (.v (.one (.at_ d 0)),some (.box (ti.zero.map fun v=>.c (.lit v))))
   |none=>none
 | .box _ x=>match cellsOf (g x)with
   |some cs=>some (.v (.one (.at_ d 0)),some (.box cs))
   |none=>none
 | .buildSlice t len parts=>match Z2 P t with
   | some e=>match XF P e with
     | some ti=>if 0<ti.size∧len=parts.size∧len*ti.size≤16777216∧ti.zero.length=ti.size then
       match WN ti.size g 0 parts.toList with
       |some rows=>some (.v (.one (.own d)),some (.row e ti.size rows))
       | none=>match len,ti.size,X07 g parts.toList with
         |1,1,some n=>some (.v (.one (.own d)),some (.refs e [n]))
         |_,_,_=>none
       else none
     |none=>none
   |none=>none
 | .makeSlice t l c=>match Z2 P t,Wc (g l),Wc (g c)with
   | some e,some (.int .i64 n),some (.int .i64 m)=>match XF P e with
     | some ti=>if 0<ti.size∧0≤n∧n=m∧n≤maxLen∧ti.bytes*n≤281474976710656∧ti.zero.length=ti.size∧ti.zero.all Value.oneCell' then
       some (.v (.one (.own d)),some (.row e ti.size (List.replicate n.toNat (ti.zero.map .lit))))
       else none
     |none=>none
   |_,_,_=>none
 | .makeMap _ none=>some (.v (.one (.own d)),some (.mp []))
 | .range t x=>if X5z P t=true then(match g x with
   | .v (.one (.c (.mp l)))=>some (.v (.one (.at_ d 0)),some (.it l []))
   | .v (.one (.c (.lit (.map none))))=>some (.v (.one (.at_ d 0)),some (.it [] []))
   |_=>none)else none
 |_=>none
def isAlloc:Op→Bool
 | .alloc _| .box _ _| .buildSlice _ _ _| .makeSlice _ _ _| .makeMap _ _| .range _ _=>true
 | .call {callee:=.builtin .append, .. }=>true
 |_=>false
def X3u (objs:List (Nat×Ob)):RV→Option RV
 | .v (.one (.at_ n 0))=>match lkp objs n with
   | some (.it l seen)=>match seen.getLast? with
     | some j=>match l[j]? with
       |some (k,d)=>some (.tup [.one (.c (.lit k)),.one (.c d)])
       |none=>none
     |none=>none
   |_=>none
 |_=>none
def evR (P :Program) (objs:List (Nat×Ob)) (g:Operand→RV):Op→Option RV
 | .load t x=>match XF P t,g x with
   | some ti,.v (.one (.at_ n off))=>match lkp objs n with
     |some (.box cs)=>WY ti cs off
     |_=>none
   | some ti,.v (.one (.el n s i off))=>match lkp objs n with
     | some (.row _ s' rows)=>if s=s' then match rows[i]? with
       |some r=>WY ti (r.map .c) off
       |none=>none
       else none
     | some (.mat _ _ _ rows)=>if s=1∧off=0∧ti.agg=false then match rows[i]? with
       |some (some _)=>some (.v (.one (.sub n i)))
       |some none=>some (lit XW)
       |none=>none
       else none
     | some (.mps _ ms)=>if s=1∧off=0∧ti.agg=false then match ms[i]? with
       |some (some _)=>some (.v (.one (.sub n i)))
       |some none=>some (lit (.map none))
       |none=>none
       else none
     |_=>none
   | some ti,.v (.one (.el2 n s i j off))=>match lkp objs n with
     | some (.mat _ _ s' rows)=>if s=s' then match rows[i]? with
       | some (some rs)=>match rs[j]? with
         |some r=>WY ti (r.map .c) off
         |none=>none
       |_=>none
       else none
     |_=>none
   |some ti,.v (.one (.c (.ptr cs)))=>WY ti (cs.map .c) 0
   |_,_=>none
 | .indexAddr t x i=>match Wc (g i)with
   | some (.int .i64 k)=>if 0≤k then match Z2 P t with
     | some e=>match XF P e,g x with
       | some ti,.v (.one (.c (.sl s rows)))=>if s=ti.size then match rows[k.toNat]? with
         |some r=>some (.v (.one (.c (.ptr r))))
         |none=>none
         else none
       | some ti,.v (.one (.own n))=>match lkp objs n with
         |some (.row _ s rows)=>if s=ti.size∧inR rows k.toNat=true then some (.v (.one (.el n s k.toNat 0)))else none
         |some (.mat _ _ _ rows)=>if ti.size=1∧inR rows k.toNat=true then some (.v (.one (.el n 1 k.toNat 0)))else none
         |some (.mps _ ms)=>if ti.size=1∧inR ms k.toNat=true then some (.v (.one (.el n 1 k.toNat 0)))else none
         |_=>none
       | some ti,.v (.one (.sub n i))=>match lkp objs n with
         | some (.mat _ _ s rows)=>match rows[i]? with
           |some (some rs)=>if s=ti.size∧inR rs k.toNat=true then some (.v (.one (.el2 n s i k.toNat 0)))else none
           |_=>none
         |_=>none
       |_,_=>none
     |none=>X7s P t k.toNat (g x)
     else none
   |_=>none
 | .call {callee:=.builtin .len,args:=args,argTypes:=ts}=>match ts[0]?,args[0]? with
   | some t,some x=>match Z2 P t,g x with
     |some _,.v (.one (.c (.sl _ rows)))=>some (lit (.int .i64 rows.length))
     |some _,.v (.one (.c (.lit (.slice _ n _))))=>some (lit (.int .i64 n))
     | some _,.v (.one (.own n))=>match lkp objs n with
       |some (.row _ _ rows)=>some (lit (.int .i64 rows.length))
       |some (.mat _ _ _ rows)=>some (lit (.int .i64 rows.length))
       |some (.mps _ ms)=>some (lit (.int .i64 ms.length))
       |_=>none
     | some _,.v (.one (.sub n i))=>match lkp objs n with
       | some (.mat _ _ _ rows)=>match rows[i]? with
         |some (some rs)=>some (lit (.int .i64 rs.length))
         |_=>none
       |_=>none
     |none,.v (.one (.c (.lit (.string s))))=>if strT P t=true then some (lit (.int .i64 s.size))else none
     |_,_=>none
   |_,_=>none
 | .lookup t x i ok=>match mapT P t,Wc (g i),X6b objs (g x)with
   | some (kd,z),some kv,some l=>match X4v kd kv l with
     |some (some d)=>some (X2F ok d true)
     |some none=>some (X2F ok (.lit z) false)
     |none=>none
   |_,_,_=>none
 | .entry x=>X3u objs (g x)
 |_=>none
def setRow (rows:List (List CD)) (i off:Nat) (ds:List CD):List (List CD):=
 match rows[i]? with
 |some r=>rows.set i (r.take off++ds++r.drop (off+ds.length))
 |none=>rows
def WJ (objs:List (Nat×Ob)) (e:TypeId) (size:Nat):RV→Option (Option Nat×List (List CD))
 | .v (.one (.c (.lit (.slice none 0 0))))=>some (none,[])
 | .v (.one (.own n))=>match lkp objs n with
   |some (.row e' s rows)=>if e'=e∧s=size then some (some n,rows)else none
   |_=>none
 |_=>none
def Wh (objs:List (Nat×Ob)) (size:Nat):RV→Option (List (List CD))
 | .v (.one (.c (.sl s rows)))=>if s=size then some rows else none
 | .v (.one (.own m))=>match lkp objs m with
   |some (.row _ s rows)=>if s=size then some rows else none
   |_=>none
 |_=>none
def Wa (n bytes:Nat):Prop:=n≤maxLen∧n*bytes≤140737488355328
instance (n bytes:Nat):Decidable (Wa n bytes):=by unfold Wa;exact inferInstance
theorem Qc {n bytes:Nat} (h:n≤2097152) (hb:bytes≤1048576):Wa n bytes:=
 ⟨by unfold maxLen;omega,Nat.le_trans (Nat.mul_le_mul h hb) (by omega)⟩
def X1w {α:Type} (rows:List (Option α)) (i:Nat):Bool:=
 match rows[i]? with
 |some none=>true
 |_=>false
def Zg (objs:List (Nat×Ob)) (e:TypeId) (ti:TI) (d:Nat) (x y:RV):Option (List (Nat×Ob)):=
 match x with
 | .v (.one (.own n))=>match lkp objs n with
   | some (.mat e1 e' s rows)=>match y with
     | .v (.one (.own m))=>match lkp objs m with
       | some (.refs _ [r])=>match lkp objs r with
         | some (.row e2 s2 rs)=>if e1=e∧e2=e'∧s2=s∧ti.size=1∧ti.zero.length=1∧Wa (rows.length+1) ti.bytes∧n≠r∧n≠m∧r≠m then
           some (ins d (.mat e e' s (rows++[some rs])) (del r (del n objs)))
           else none
         |_=>none
       |_=>none
     |_=>none
   |_=>none
 |_=>none
def evW (P :Program) (objs:List (Nat×Ob)) (g:Operand→RV) (d:Option Nat):Op→Option (RV×List (Nat×Ob))
 | .store t x y=>match XF P t,cellsOf (g y),g x with
   | some ti,some cs,.v (.one (.at_ n off))=>if cs.length=ti.size∧cs.all CV.cell then match lkp objs n with
     |some (.box xs)=>if off+cs.length≤xs.length then some (.v (.one .any),ins n (.box (xs.take off++cs++xs.drop (off+cs.length))) objs)else none
     |_=>none
     else none
   | some ti,some cs,.v (.one (.el n s i off))=>if cs.length=ti.size∧cs.all CV.cell then match lkp objs n,W8 cs with
     |some (.row e s' rows),some ds=>if s=s'∧inR rows i=true∧off+ds.length≤s then some (.v (.one .any),ins n (.row e s (setRow rows i off ds)) objs)else none
     | some (.mat e e' s2 rows),none=>match g y with
       | .v (.one (.own m))=>match lkp objs m with
         | some (.row e2 s3 rs)=>if e2=e'∧s3=s2∧s=1∧off=0∧ti.size=1∧X1w rows i=true∧n≠m∧n<1000000 then
           some (.v (.one .any),ins n (.mat e e' s2 (rows.set i (some rs))) (del m objs))
           else none
         |_=>none
       |_=>none
     | some (.mps e ms),none=>match g y with
       | .v (.one (.own m))=>match lkp objs m with
         | some (.mp l)=>if s=1∧off=0∧ti.size=1∧X1w ms i=true∧n≠m∧n<1000000 then
           some (.v (.one .any),ins n (.mps e (ms.set i (some l))) (del m objs))
           else none
         |_=>none
       |_=>none
     |_,_=>none
     else none
   | some ti,some cs,.v (.one (.el2 n s i j off))=>if cs.length=ti.size∧cs.all CV.cell then match lkp objs n,W8 cs with
     | some (.mat e e' s' rows),some ds=>match rows[i]? with
       |some (some rs)=>if s=s'∧inR rs j=true∧off+ds.length≤s then some (.v (.one .any),ins n (.mat e e' s (rows.set i (some (setRow rs j off ds)))) objs)else none
       |_=>none
     |_,_=>none
     else none
   |_,_,_=>none
 | .mapUpdate t m k v=>match mapT P t,Wc (g k),g v,g m with
   | some (kd,_),some kv,.v (.one (.c d)),.v (.one (.own n))=>match lkp objs n with
     | some (.mp l)=>if d.cell=true then match X4v kd kv l with
       |some none=>some (.v (.one .any),ins n (.mp (l++[(kv,d)])) objs)
       | some (some _)=>match setM kd kv d l with
         |some l'=>some (.v (.one .any),ins n (.mp l') objs)
         |none=>none
       |none=>none
       else none
     |_=>none
   | some (kd,_),some kv,.v (.one (.c d)),.v (.one (.sub n i))=>match lkp objs n with
     | some (.mps e ms)=>match ms[i]? with
       | some (some l)=>if d.cell=true then match X4v kd kv l with
         |some none=>some (.v (.one .any),ins n (.mps e (ms.set i (some (l++[(kv,d)])))) objs)
         |_=>none
         else none
       |_=>none
     |_=>none
   |_,_,_,_=>none
 | .call { callee:=.builtin .append,args:=args,argTypes:=ts}=>match d,ts[0]?,ts[1]?,args[0]?,args[1]? with
   | some d,some t,some t',some x,some y=>if t=t' then match Z2 P t with
     | some e=>match XF P e with
       | some ti=>match Zg objs e ti d (g x) (g y)with
         |some objs'=>some (.v (.one (.own d)),objs')
         |none=>match WJ objs e ti.size (g x),Wh objs ti.size (g y)with
         | some (n,rows),some more=>
           if 0<ti.size∧ti.zero.length=ti.size∧Wa (rows.length+more.length) ti.bytes then
            some (.v (.one (.own d)),ins d (.row e ti.size (rows++more)) (match n with|some n=>del n objs|none=>objs))
           else none
         |_,_=>none
       |none=>none
     |none=>none
     else none
   |_,_,_,_,_=>none
 |_=>none
end Go.Hl
