/- Contracts of functions and plain facts about what they compute. Conditions: as each theorem states. -/
import Derived.Test.YtdajceakaakdoaaGreatProg
import Derived.Test.YtdajceakaakdoaaGreatH5
import Derived.KernelRfl
import Derived.Test.YtdajceakaakdoaaGreatH6
import Derived.Test.YtdajceakaakdoaaGreatH7
set_option linter.unusedSimpArgs false
set_option linter.unusedVariables false
set_option linter.unnecessarySimpa false
set_option maxRecDepth 100000
set_option maxHeartbeats 2000000
namespace Go.Proofs.YtdajceakaakdoaaGreat
open Go Go.Hl
open Tryz(prog)
@[simp] theorem ty3:XK prog 3=some ⟨1,8,false,[.int .i64 0],.other⟩:=by kernel_rfl
@[simp] theorem pf3:Qg prog 3=false/\Xx prog 3=false/\XK prog 4=some ⟨1,1,false,[.bool false],.other⟩/\X6r prog 4=true/\Qg prog 4=false/\Xx prog 4=false/\XK prog 5=some ⟨1,1,false,[.int .u8 0],.other⟩/\Qg prog 5=false/\Xx prog 5=false/\XK prog 9=some ⟨1,16,false,[.string ⟨#[]⟩],.other⟩/\strT prog 9=true/\Qg prog 9=false/\Xx prog 9=false/\XK prog 22=some ⟨1,24,false,[.slice none 0 0],.slice 89⟩/\Qg prog 22=false/\Xx prog 22=true/\XK prog 23=some ⟨1,24,false,[.slice none 0 0],.slice 93⟩/\Qg prog 23=false/\Xx prog 23=true/\XK prog 24=some ⟨1,24,false,[.slice none 0 0],.slice 70⟩/\Qg prog 24=false/\Xx prog 24=true/\XK prog 26=some ⟨3,72,true,[.slice none 0 0,.slice none 0 0,.slice none 0 0],.struct [(0,22),(1,23),(2,24)]⟩/\Qg prog 26=false/\Xx prog 26=false:=by and_intros<;>kernel_rfl
@[simp] theorem ty29:XK prog 29=some ⟨1,24,false,[.slice none 0 0],.slice 3⟩:=by kernel_rfl
@[simp] theorem pf29:Qg prog 29=false/\Xx prog 29=true/\XK prog 30=some ⟨1,8,false,[.int .i64 0],.other⟩/\Qg prog 30=false/\Xx prog 30=false/\XK prog 37=some ⟨1,24,false,[.slice none 0 0],.slice 51⟩/\Qg prog 37=false/\Xx prog 37=true/\XK prog 39=some ⟨3,40,true,[.int .i64 0,.int .i64 0,.slice none 0 0],.struct [(0,3),(1,3),(2,37)]⟩/\Qg prog 39=false/\Xx prog 39=false/\XK prog 43=some ⟨1,24,false,[.slice none 0 0],.slice 52⟩/\Qg prog 43=false/\Xx prog 43=true/\XK prog 45=some ⟨2,32,true,[.int .i64 0,.slice none 0 0],.struct [(0,3),(1,43)]⟩/\Qg prog 45=false/\Xx prog 45=false/\XK prog 49=some ⟨1,8,false,[.int .i64 0],.other⟩/\Qg prog 49=false/\Xx prog 49=false/\XK prog 51=some ⟨3,24,true,[.int .i64 0,.int .i64 0,.int .i64 0],.struct [(0,3),(1,3),(2,49)]⟩/\Qg prog 51=false/\Xx prog 51=false/\XK prog 52=some ⟨2,16,true,[.int .i64 0,.int .i64 0],.array 2 3⟩/\Qg prog 52=false/\Xx prog 52=false/\arrI prog 52=some (2,.i64)/\XK prog 59=some ⟨3,72,true,[.slice none 0 0,.slice none 0 0,.slice none 0 0],.struct [(0,29),(1,29),(2,29)]⟩/\Qg prog 59=false/\Xx prog 59=false/\XK prog 60=some ⟨6,144,true,[.slice none 0 0,.slice none 0 0,.slice none 0 0,.slice none 0 0,.slice none 0 0,.slice none 0 0],.array 2 59⟩/\Qg prog 60=false/\Xx prog 60=false/\XK prog 64=some ⟨1,8,false,[.int .i64 0],.other⟩/\Qg prog 64=false/\Xx prog 64=false/\XK prog 65=some ⟨1,8,false,[.int .i64 0],.other⟩/\Qg prog 65=false/\Xx prog 65=false/\XK prog 66=some ⟨1,24,false,[.slice none 0 0],.slice 68⟩:=by and_intros<;>kernel_rfl
@[simp] theorem pf66:Qg prog 66=false/\Xx prog 66=true/\XK prog 68=some ⟨3,40,true,[.int .i64 0,.int .i64 0,.slice none 0 0],.struct [(0,65),(1,3),(2,66)]⟩/\Qg prog 68=false/\Xx prog 68=false/\XK prog 70=some ⟨10,144,true,[.int .i64 0,.int .i64 0,.int .i64 0,.int .i64 0,.int .i64 0,.int .i64 0,.slice none 0 0,.slice none 0 0,.slice none 0 0,.slice none 0 0],.struct [(0,64),(1,3),(2,3),(3,3),(4,68),(7,24),(8,24),(9,29)]⟩/\Qg prog 70=false/\Xx prog 70=false/\XK prog 73=some ⟨1,24,false,[.slice none 0 0],.slice 4⟩/\Qg prog 73=false/\Xx prog 73=true/\XK prog 76=some ⟨1,24,false,[.slice none 0 0],.slice 150⟩/\Qg prog 76=false/\Xx prog 76=true/\XK prog 87=some ⟨1,8,false,[.int .i64 0],.other⟩/\Qg prog 87=false/\Xx prog 87=false/\XK prog 89=some ⟨5,48,true,[.string ⟨#[]⟩,.int .i64 0,.int .i64 0,.int .i64 0,.int .i64 0],.struct [(0,9),(1,87),(2,3),(3,3),(4,3)]⟩/\Qg prog 89=false/\Xx prog 89=false/\XK prog 93=some ⟨6,72,true,[.string ⟨#[]⟩,.int .i64 0,.int .i64 0,.int .i64 0,.int .i64 0,.slice none 0 0],.struct [(0,9),(1,3),(2,3),(3,68)]⟩/\Qg prog 93=false/\Xx prog 93=false/\XK prog 95=some ⟨1,24,false,[.slice none 0 0],.slice 9⟩/\Qg prog 95=false/\Xx prog 95=true/\XK prog 96=some ⟨1,24,false,[.slice none 0 0],.slice 207⟩/\Qg prog 96=false/\Xx prog 96=true/\XK prog 98=some ⟨6,112,true,[.slice none 0 0,.slice none 0 0,.slice none 0 0,.slice none 0 0,.int .i64 0,.bool false],.struct [(0,95),(1,43),(2,96),(3,96),(4,3),(5,4)]⟩/\Qg prog 98=false/\Xx prog 98=false/\XK prog 120=some ⟨7,120,true,[.slice none 0 0,.slice none 0 0,.slice none 0 0,.int .i64 0,.int .i64 0,.slice none 0 0,.bool false],.struct [(0,26),(3,3),(4,3),(5,37),(6,4)]⟩/\Qg prog 120=false/\Xx prog 120=false/\XK prog 121=some ⟨1,24,false,[.slice none 0 0],.slice 29⟩/\Qg prog 121=false/\Xx prog 121=true/\XK prog 122=some ⟨1,24,false,[.slice none 0 0],.slice 29⟩/\Qg prog 122=false:=by and_intros<;>kernel_rfl
@[simp] theorem sl122:Xx prog 122=true/\XK prog 127=some ⟨1,24,false,[.slice none 0 0],.slice 195⟩/\Qg prog 127=false/\Xx prog 127=true/\XK prog 129=some ⟨1,24,true,[.slice none 0 0],.struct [(0,127)]⟩/\Qg prog 129=false/\Xx prog 129=false/\XK prog 135=some ⟨1,8,false,[.map none],.other⟩/\Qg prog 135=false/\Xx prog 135=false/\XK prog 137=some ⟨5,104,true,[.slice none 0 0,.slice none 0 0,.slice none 0 0,.slice none 0 0,.map none],.struct [(0,26),(3,24),(4,135)]⟩/\Qg prog 137=false/\Xx prog 137=false/\XK prog 148=some ⟨7,152,true,[.slice none 0 0,.slice none 0 0,.slice none 0 0,.slice none 0 0,.slice none 0 0,.slice none 0 0,.int .i64 0],.struct [(0,26),(3,29),(4,29),(5,76),(6,3)]⟩/\Qg prog 148=false/\Xx prog 148=false/\XK prog 150=some ⟨2,16,true,[.int .i64 0,.int .i64 0],.struct [(0,3),(1,3)]⟩/\Qg prog 150=false/\Xx prog 150=false/\XK prog 157=some ⟨1,8,false,[.pointer none],.other⟩/\Qg prog 157=true/\Xx prog 157=false/\XK prog 158=some ⟨1,8,false,[.nilFunc],.other⟩/\Qg prog 158=false/\Xx prog 158=false/\Qg prog 162=false/\Xx prog 162=false/\XK prog 182=some ⟨2,16,true,[.int .i64 0,.bool false],.struct [(0,3),(1,4)]⟩/\Qg prog 182=false/\Xx prog 182=false/\XK prog 185=some ⟨3,24,true,[.int .i64 0,.int .i64 0,.int .i64 0],.struct [(0,3),(1,3),(2,3)]⟩/\Qg prog 185=false/\Xx prog 185=false/\XK prog 190=some ⟨1,24,false,[.slice none 0 0],.slice 191⟩/\Qg prog 190=false/\Xx prog 190=true/\XK prog 191=some ⟨1,8,false,[.map none],.other⟩/\mapT prog 191=some (.int .i64,.bool false)/\X5s prog 191=true/\Qg prog 191=false:=by and_intros<;>kernel_rfl
@[simp] theorem sf191:Xx prog 191=false/\XK prog 192=some ⟨1,8,false,[.nilFunc],.other⟩/\Qg prog 192=false/\Xx prog 192=false/\XK prog 193=some ⟨1,8,false,[.int .i64 0],.other⟩/\Qg prog 193=false/\Xx prog 193=false/\XK prog 195=some ⟨4,32,true,[.int .i64 0,.int .i64 0,.int .i64 0,.int .i64 0],.struct [(0,193),(1,3),(2,3),(3,3)]⟩/\Qg prog 195=false/\Xx prog 195=false/\XK prog 202=some ⟨1,8,false,[.pointer none],.other⟩/\Qg prog 202=true/\Xx prog 202=false/\XK prog 207=some ⟨2,24,true,[.string ⟨#[]⟩,.int .i64 0],.struct [(0,9),(1,3)]⟩/\Qg prog 207=false/\Xx prog 207=false/\XK prog 216=some ⟨1,8,false,[.int .i64 0],.other⟩/\Qg prog 216=false/\Xx prog 216=false/\Qg prog 223=false/\Xx prog 223=false/\Qg prog 225=false/\Xx prog 225=false/\XK prog 241=some ⟨1,24,false,[.slice none 0 0],.slice 87⟩/\Qg prog 241=false/\Xx prog 241=true/\XK prog 244=some ⟨1,24,false,[.slice none 0 0],.slice 24⟩/\Qg prog 244=false/\Xx prog 244=true/\XK prog 245=some ⟨1,8,false,[.pointer none],.other⟩/\Qg prog 245=true/\Xx prog 245=false/\XK prog 247=some ⟨2,32,true,[.slice none 0 0,.int .i64 0],.struct [(0,127),(1,3)]⟩/\Qg prog 247=false/\Xx prog 247=false/\XK prog 248=some ⟨1,24,false,[.slice none 0 0],.slice 250⟩/\Qg prog 248=false/\Xx prog 248=true/\XK prog 250=some ⟨1,8,false,[.nilFunc],.other⟩/\Qg prog 250=false:=by and_intros<;>kernel_rfl
@[simp] theorem sf250:Xx prog 250=false/\XK prog 262=some ⟨1,8,false,[.map none],.other⟩/\mapT prog 262=some (.string,.int .i64 0)/\X5s prog 262=true/\Qg prog 262=false/\Xx prog 262=false/\XK prog 263=some ⟨1,24,false,[.slice none 0 0],.slice 73⟩/\Qg prog 263=false/\Xx prog 263=true/\XK prog 265=some ⟨5,104,true,[.slice none 0 0,.map none,.slice none 0 0,.slice none 0 0,.slice none 0 0],.struct [(0,95),(1,262),(2,263),(3,121),(4,121)]⟩/\Qg prog 265=false/\Xx prog 265=false/\XK prog 271=some ⟨2,48,true,[.slice none 0 0,.slice none 0 0],.struct [(0,95),(1,263)]⟩/\Qg prog 271=false/\Xx prog 271=false/\Qg prog 273=false/\Xx prog 273=false/\XK prog 287=some ⟨2,16,true,[.int .i64 0,.int .i64 0],.struct [(0,3),(1,3)]⟩/\Qg prog 287=false/\Xx prog 287=false/\XK prog 296=some ⟨1,8,false,[.map none],.other⟩/\mapT prog 296=some (.string,.bool false)/\X5s prog 296=true/\Qg prog 296=false/\Xx prog 296=false/\XK prog 309=some ⟨1,24,false,[.slice none 0 0],.slice 287⟩/\Qg prog 309=false/\Xx prog 309=true/\X4X prog 89=some [false,true,true,true,true]/\arrI prog 89=none:=by and_intros<;>kernel_rfl
theorem X9 {n:Int} (h1:-9223372036854775808<=n:=by omega) (h2:n<=9223372036854775807:=by omega):IntKind.i64.wrap n=n:=IntWalk.i64_in n ⟨h1,h2⟩
inductive Tm where
 |mk (op n:Int) (kids:List Tm)
mutual
def Tm.enc:Tm->List CD
 | .mk o n ks=>[iC o,iC n,.sl 3 (XA ks)]
def XA:List Tm->List (List CD)
 |[]=>[]
 |t::l=>t.enc::XA l
end
inductive St where
 |mk (do_ cost var n:Int) (term:Tm) (then_ else_:List St) (bounds:List Int)
def Xi (l:List Int):List (List CD):=l.map fun n=>[iC n]
mutual
def St.enc:St->List CD
 | .mk d c v n t a b bs=>[iC d,iC c,iC v,iC n]++t.enc++[.sl 10 (X7 a),.sl 10 (X7 b),.sl 1 (Xi bs)]
def X7:List St->List (List CD)
 |[]=>[]
 |s::l=>s.enc::X7 l
end
structure Vr where
 name:ByteArray
 kind:Int
 low:Int
 high:Int
 init:Int
structure Ht where
 name:ByteArray
 low:Int
 high:Int
 term:Tm
structure Fl where
 vars:List Vr
 hats:List Ht
 body:List St
def Vr.enc (v:Vr):List CD:=[sC v.name,iC v.kind,iC v.low,iC v.high,iC v.init]
def Ht.enc (h:Ht):List CD:=[sC h.name,iC h.low,iC h.high]++h.term.enc
def Xm (l:List Vr):List (List CD):=l.map Vr.enc
def Xn (l:List Ht):List (List CD):=l.map Ht.enc
def Fl.enc (f:Fl):List CD:=[.sl 5 (Xm f.vars),.sl 6 (Xn f.hats),.sl 10 (X7 f.body)]
attribute [simp] Vr.enc Ht.enc Fl.enc Tm.enc St.enc
theorem X0N (l:List Tm):XA l=l.map Tm.enc:=by
 induction l with
 |nil=>simp[XA]
 |cons t l ih=>simp[XA,ih]
theorem WP (l:List St):X7 l=l.map St.enc:=by
 induction l with
 |nil=>simp[X7]
 |cons t l ih=>simp[X7,ih]
theorem Tm.ind {p:Tm->Prop} (h:∀o n ks,(∀t∈ks,p t)->p (.mk o n ks)):∀t,p t
 | .mk o n ks=>h o n ks fun t ht=>Tm.ind h t
theorem St.ind {p:St->Prop} (h:∀d c v n t a b bs,(∀s∈a,p s)->(∀s∈b,p s)->p (.mk d c v n t a b bs)):∀s,p s
 | .mk d c v n t a b bs=>h d c v n t a b bs (fun s hs=>St.ind h s) (fun s hs=>St.ind h s)
def Tm.op:Tm->Int| .mk o _ _=>o
def Tm.n:Tm->Int| .mk _ n _=>n
def Tm.kids:Tm->List Tm| .mk _ _ k=>k
def St.do_:St->Int| .mk d _ _ _ _ _ _ _=>d
def St.cost:St->Int| .mk _ c _ _ _ _ _ _=>c
def St.var:St->Int| .mk _ _ v _ _ _ _ _=>v
def St.n:St->Int| .mk _ _ _ n _ _ _ _=>n
def St.term:St->Tm| .mk _ _ _ _ t _ _ _=>t
def St.then_:St->List St| .mk _ _ _ _ _ a _ _=>a
def St.else_:St->List St| .mk _ _ _ _ _ _ b _=>b
def St.bounds:St->List Int| .mk _ _ _ _ _ _ _ bs=>bs
abbrev aT (t:Tm):TV:=.agg (t.enc.map .c)
abbrev aS (s:St):TV:=.agg (s.enc.map .c)
abbrev aV (v:Vr):TV:=.agg (v.enc.map .c)
abbrev aH (h:Ht):TV:=.agg (h.enc.map .c)
abbrev aF (f:Fl):TV:=.agg (f.enc.map .c)
abbrev lV (l:List Vr):TV:=.one (.c (.sl 5 (Xm l)))
abbrev lS (l:List St):TV:=.one (.c (.sl 10 (X7 l)))
abbrev lI (l:List Int):TV:=.one (.c (.sl 1 (Xi l)))
theorem Wx {ks:List Tm} {i:Nat} {t:Tm} (h:ks[i]? =some t):(XA ks)[i]? =some t.enc:=by rw[X0N,Np,h];rfl
theorem Q2 {ks:List St} {i:Nat} {t:St} (h:ks[i]? =some t):(X7 ks)[i]? =some t.enc:=by rw[WP,Np,h];rfl
@[simp] theorem len_encT (ks:List Tm):(XA ks).length=ks.length:=by rw[X0N,NO]
@[simp] theorem len_encS (ks:List St):(X7 ks).length=ks.length:=by rw[WP,NO]
@[simp] theorem len_encV (ks:List Vr):(Xm ks).length=ks.length:=by simp[Xm]
@[simp] theorem len_encH (ks:List Ht):(Xn ks).length=ks.length:=by simp[Xn]
@[simp] theorem WZ (ks:List Int):(Xi ks).length=ks.length:=by simp[Xi]
@[simp] theorem get_encV (ks:List Vr) (i:Nat):(Xm ks)[i]? =ks[i]?.map Vr.enc:=by simp[Xm]
@[simp] theorem get_encH (ks:List Ht) (i:Nat):(Xn ks)[i]? =ks[i]?.map Ht.enc:=by simp[Xn]
@[simp] theorem X5o (ks:List Int) (i:Nat):(Xi ks)[i]? =ks[i]?.map fun n=>[iC n]:=by simp[Xi]
@[simp] theorem encV_nil:Xm []=[]:=rfl
@[simp] theorem encH_nil:Xn []=[]:=rfl
@[simp] theorem encI_nil:Xi []=[]:=rfl
attribute [simp] XA X7
theorem Xu {T:Type} {l:List T} {k:Nat} (h:k<l.length):∃x,l[k]? =some x/\l.drop k=x::l.drop (k+1):=
 ⟨l[k],NA h,List.drop_eq_getElem_cons h⟩
theorem XE {k n:Nat} (h:k<n) (hn:n<=1000000000):IntKind.i64.wrap ((k:Int)+1)=(k:Int)+1:=X9
abbrev Wt (rows:List (List CD)) (d:Int):List (Nat×Ob):=[(900001,.row 195 4 rows),(1000000,.box [.own 900001,.c (iC d)])]
theorem X1f {rows:List (List CD)} {d:Int}:∀n cs,lkp (Wt rows d) n=some (.box cs)->1000000<=n:=by
 intro n cs h;simp only[lkp]at h;split at h
 .cases h
 split at h
 .omega
 cases h
theorem X7p {rows:List (List CD)} {d:Int} {pv:Option Value}:∀v,pv=some v->∃cs,lkp (Wt rows d) 1000000=some (.box cs):=fun _ _=>⟨_,rfl⟩
abbrev atB:RV:=.v (.one (.at_ 1000000 0))
def nxB (v:Value) (rows rows':List (List CD)) (d k:Int) (m c:Nat) (x:RV) (R:List Nat):HS:=
 {trS ⟨⟨12,some v⟩,QQ 0 [.one (.c (iC k)),.one (.c (.ptr [.lit v])),.one (.c (.ptr [iC m]))],[]⟩ [(0,4,x),(1,5,atB),(2,6,atB),(3,7,.v (.one (.own 900001))),(4,8,lit (.int .i64 m)),(5,9,lit (.int .i64 k)),(6,10,.v (.one (.el 900001 4 m 0))),(7,11,.v (.one (.el 900001 4 m c)))] R with objs:=if R.isEmpty then Wt rows' d else Wt rows d}
def stpB:List (List Nat×Nat):=[([0,1,2,3,4,5,6,7,8],0),([0,1,2,3,4,5,6,7,8],4),([0,1,2,3,4,5,6,7,8],5),([1,2,3,4,5,6,7,8],1),([1,2,3,4,5,6,7,8],4),([1,2,3,4,5,6,7,8],5),([0,1,2,3,5,6,7,8],0),([0,1,2,3,5,6,7,8],5),([0,1,2,3,4,6,7,8],0),([0,1,2,3,4,6,7,8],4),([2,3,4,5,6,7,8],2),([2,3,4,5,6,7,8],4),([2,3,4,5,6,7,8],5),([1,2,3,5,6,7,8],1),([1,2,3,5,6,7,8],5),([1,2,3,4,6,7,8],1),([1,2,3,4,6,7,8],4),([0,1,2,3,6,7,8],0),([3,4,5,6,7,8],3),([3,4,5,6,7,8],4),([3,4,5,6,7,8],5),([2,3,5,6,7,8],2),([2,3,5,6,7,8],5),([2,3,4,6,7,8],2),([2,3,4,6,7,8],4),([1,2,3,6,7,8],1),([4,5,6,7,8],4),([4,5,6,7,8],5),([3,5,6,7,8],3),([3,5,6,7,8],5),([3,4,6,7,8],3),([3,4,6,7,8],4),([2,3,6,7,8],2),([5,6,7,8],5),([4,6,7,8],4),([3,6,7,8],3),([6,7,8],6),([7,8],7),([8],8)]
theorem Xcf (v:Value) (rows:List (List CD)) (d k:Int) (m:Nat) (r:List CD) (hr:rows[m]? =some r) (hl:r.length=4):
  Z7 prog 228 (some v) (Wt rows d) [.one (.c (iC k)),.one (.c (.ptr [.lit v])),.one (.c (.ptr [iC m]))] (fun _:Unit=>True) (fun _=>.tup []) (fun _=>Wt (setRow rows m 2 [iC k]) d):=by
 have hin:inR rows m=true:=by simp[inR,(N5.1 hr).1]
 have hlen:m<rows.length:=(N5.1 hr).1;refine XV Tryz.func228 rfl (by kernel_rfl) (NH rfl) ?_ ?_ ?_
 .exact X1f
 .intro v' h;exact⟨_,rfl⟩
 simp only[Tryz.f228];refine X6F (nxB v rows (setRow rows m 2 [iC k]) d k m 2 atB) stpB rfl (by kernel_rfl) (by kernel_rfl) (by kernel_rfl) rfl ?_ ?_
 .simp only[stpB,List.forall_mem_cons,De,false_implies,implies_true,and_true];refine⟨?_,?_,?_,?_,?_,?_,?_,?_,?_,?_,?_,?_,?_,?_,?_,?_,?_,?_,?_,?_,?_,?_,?_,?_,?_,?_,?_,?_,?_,?_,?_,?_,?_,?_,?_,?_,?_,?_,?_⟩
  all_goals first
   |(refine Q4.evE rfl ?_;simp[evc,evs,nxB,trS,QQ,ins,WR,Qv,hin,hlen];done)
   | (refine Q4.evN (nxB v rows (setRow rows m 2 [iC k]) d k m 2 (.v (.one (.c (.lit v))))) rfl ?_ ?_
      .simp[evc,nxB,trS,QQ,ins,WR,Qv]
      refine XaU (v:=v) (cs:=[.own 900001,.c (iC d)]) rfl rfl rfl ?_ ?_<;>simp[nxB,trS,QQ,ins,Qv,WY,pnR,pnC,pnO,pnL,lkp])
 refine⟨.inl rfl,(),trivial,_,le_refl _,⟨[],rfl,rfl⟩,?_⟩;intro n o h;simpa[nxB]using h
theorem Xa4 (v:Value) (rows:List (List CD)) (d k:Int) (m:Nat) (r:List CD) (hr:rows[m]? =some r) (hl:r.length=4):
  Z7 prog 265 (some v) (Wt rows d) [.one (.c (iC k)),.one (.c (.ptr [.lit v])),.one (.c (.ptr [iC m]))] (fun _:Unit=>True) (fun _=>.tup []) (fun _=>Wt (setRow rows m 3 [iC k]) d):=by
 have hin:inR rows m=true:=by simp[inR,(N5.1 hr).1]
 have hlen:m<rows.length:=(N5.1 hr).1;refine XV Tryz.func265 rfl (by kernel_rfl) (NH rfl) ?_ ?_ ?_
 .exact X1f
 .intro v' h;exact⟨_,rfl⟩
 simp only[Tryz.f265];refine X6F (nxB v rows (setRow rows m 3 [iC k]) d k m 3 atB) stpB rfl (by kernel_rfl) (by kernel_rfl) (by kernel_rfl) rfl ?_ ?_
 .simp only[stpB,List.forall_mem_cons,De,false_implies,implies_true,and_true];refine⟨?_,?_,?_,?_,?_,?_,?_,?_,?_,?_,?_,?_,?_,?_,?_,?_,?_,?_,?_,?_,?_,?_,?_,?_,?_,?_,?_,?_,?_,?_,?_,?_,?_,?_,?_,?_,?_,?_,?_⟩
  all_goals first
   |(refine Q4.evE rfl ?_;simp[evc,evs,nxB,trS,QQ,ins,WR,Qv,hin,hlen];done)
   | (refine Q4.evN (nxB v rows (setRow rows m 3 [iC k]) d k m 3 (.v (.one (.c (.lit v))))) rfl ?_ ?_
      .simp[evc,nxB,trS,QQ,ins,WR,Qv]
      refine XaU (v:=v) (cs:=[.own 900001,.c (iC d)]) rfl rfl rfl ?_ ?_<;>simp[nxB,trS,QQ,ins,Qv,WY,pnR,pnC,pnO,pnL,lkp])
 refine⟨.inl rfl,(),trivial,_,le_refl _,⟨[],rfl,rfl⟩,?_⟩;intro n o h;simpa[nxB]using h
def QX (a b:Int):Bool:=decide (a<=b)&&(decide (-1048576<=a)&&decide (b<=1048576))
theorem ZW (a b:Int) (d:Nat):Con prog 181 true [li a,li b] (.v (lb (QX a b))) none d:=by
 refine X6 Tryz.func181 ?_;simp only[Tryz.f181];refine X1 ?_;refine X1 ?_;exact(Xf (he:=by first|rfl|(simp[*,QX,Dc];done)|(simp only[XL,QX,Dc];(repeat' split)<;>first|rfl|(exfalso;omega)|simp_all)))
theorem ZY (a b:Int) (d:Nat):Con prog 51 true [li a,li b] (.v (lb (QX a b))) none d:=by
 refine X6 Tryz.func51 ?_;simp only[Tryz.f51];refine X1 ?_;refine X1 ?_;exact(Xf (he:=by first|rfl|(simp[*,QX,Dc];done)|(simp only[XL,QX,Dc];(repeat' split)<;>first|rfl|(exfalso;omega)|simp_all)))
def Qp (o:Int):Int×Int:=if o=0\/o=24 then(0,0)else if o=6\/o=7 then(1,1)else if 8<=o/\o<=22 then(2,2)else if o=23 then(3,3)else if o=25 then(2,33)else(-1,-1)
theorem X6w (o:Int) (d:Nat):Con prog 248 true [li o] (.tup [li (Qp o).1,li (Qp o).2]) none d:=by
 refine X6 Tryz.func248 ?_;simp only[Tryz.f248];refine X1 ?_;refine X0<|X3<|X0<|X2 ?_;refine(X8 rfl (fun h2=>?_) (fun h2=>?_))
 ·(try simp only[BN]at h2);refine X1 ?_;exact(Xf (he:=by first|rfl|(simp[*,Qp];done)|(simp only[XL,Qp];(repeat' split)<;>first|rfl|(exfalso;omega)|simp_all)))
 (try simp only[BN]at h2);refine X1 ?_;refine(X8 rfl (fun h6=>?_) (fun h6=>?_))
 ·(try simp only[BN]at h6);refine X1 ?_;exact(Xf (he:=by first|rfl|(simp[*,Qp];done)|(simp only[XL,Qp];(repeat' split)<;>first|rfl|(exfalso;omega)|simp_all)))
 (try simp only[BN]at h6);refine X1 ?_;refine(X8 rfl (fun h10=>?_) (fun h10=>?_))
 ·(try simp only[BN]at h10);refine X1 ?_;exact(Xf (he:=by first|rfl|(simp[*,Qp];done)|(simp only[XL,Qp];(repeat' split)<;>first|rfl|(exfalso;omega)|simp_all)))
 (try simp only[BN]at h10);refine X1 ?_;refine(X8 rfl (fun h14=>?_) (fun h14=>?_))
 ·(try simp only[BN]at h14);refine X1 ?_;exact(Xf (he:=by first|rfl|(simp[*,Qp];done)|(simp only[XL,Qp];(repeat' split)<;>first|rfl|(exfalso;omega)|simp_all)))
 (try simp only[BN]at h14);refine X1 ?_;refine(Xc rfl (fun h18=>?_) fun h18=>?_)
 ·(try simp only[BN]at h18);refine X1 ?_;exact(Xf (he:=by first|rfl|(simp[*,Qp];done)|(simp only[XL,Qp];(repeat' split)<;>first|rfl|(exfalso;omega)|simp_all)))
 (try simp only[BN]at h18);refine X1 ?_;exact(Xf (he:=by first|rfl|(simp[*,Qp];done)|(simp only[XL,Qp];(repeat' split)<;>first|rfl|(exfalso;omega)|simp_all)))
theorem Zc (n:Int) (b:Bool) (d:Nat):Con prog 113 true [.one (.c (.ptr [iC n,bC b]))] (.v (lb (b||decide (1024<n)))) none d:=by
 refine X6 Tryz.func113 ?_;simp only[Tryz.f113];refine X1 ?_;refine X1 ?_;exact Xf
def X4B (s:ByteArray) (i:Nat):Bool:=
 match s[i]? with
 |some b=>(decide (97<=(b.toNat:Int))&&decide ((b.toNat:Int)<=122))||(decide (i≠0)&&((decide (48<=(b.toNat:Int))&&decide ((b.toNat:Int)<=57))||decide ((b.toNat:Int)=46)||decide ((b.toNat:Int)=95)))
 |none=>false
def ZT (s:ByteArray):Bool:=decide (1<=s.size)&&decide (s.size<=40)&&(List.range s.size).all (X4B s)
theorem X6T {s:ByteArray} {k:Nat} (h:k<s.size):∃b,s[k]? =some b:=⟨s[k],by simp[h]⟩
theorem X9l {s:ByteArray}:s=⟨#[]⟩↔s.size=0:=by
 obtain⟨a⟩:=s;constructor
 .intro h;cases h;rfl
 intro h;have:a= #[]:=Array.eq_empty_of_size_eq_zero h;rw[this]
theorem X6P {s:ByteArray} {k:Nat} (hk:k<s.size) (h:X4B s k=false):ZT s=false:=by
 unfold ZT;rw[NB];refine .inr ?_;rw[List.all_eq_false];exact⟨k,by simpa using hk,by simp[h]⟩
theorem X67 {s:ByteArray} (h1:1<=s.size) (h2:s.size<=40) (h:∀j:Nat,j<s.size->X4B s j=true):ZT s=true:=by
 unfold ZT;simp only[h1,h2,decide_true,NW,Nm,List.mem_range];exact h
theorem X2q (s:ByteArray) (d:Nat):Con prog 179 true [sv s] (.v (lb (ZT s))) none d:=by
 refine X6 Tryz.func179 ?_;simp only[Tryz.f179];refine X1 ?_;refine X0<|X0<|X2 ?_;refine(Xc rfl (fun h2=>?_) fun h2=>?_)
 .try simp only[BN]at h2
  have hz:ZT s=false:=by
   unfold ZT;simp only[X9l]at h2;rw[NB,NB];simp only[Nj];omega
  refine X1 ?_;exact Xf
 (try simp only[BN]at h2);simp only[X9l]at h2;have h1:1<=s.size:=by omega
 have h40:s.size<=40:=by omega
 refine X0<|X0<|X2 ?_;refine X3<|(Xd [0,14] (fun(x:Nat)=>[(15,.v (li x))]) (fun x=>[]) (fun x=>x<=s.size/\∀j:Nat,j<x->X4B s j=true) (fun x=>s.size - x) (0:Nat) ⟨Nq _,fun j hj=>absurd hj (Dy j)⟩ ?_ ?_)
 .exact X4 (fun n=>n) []
 rintro k ⟨hk,hall⟩;simp only[upS,X5,Xy]
 try simp only[X5,KN,Nat.reduceBEq,Nf,Nc,ins,Nat.reduceLT]
 refine X1 ?_;refine X0<|(X8 rfl (fun h8=>Xb ?_) (fun h8=>?_))
 ·(try simp only[BN]at h8);have hlt:k<s.size:=by omega
  obtain⟨b,hb⟩:=X6T hlt;have hw:=XE hlt (by omega);have hk1:k+1<=s.size:=hlt;clear hlt h8;refine X0<|X3<|X0<|X2 ?_;refine X1 ?_;refine X1 ?_;refine X1 ?_;refine(Xc rfl (fun h13=>?_) fun h13=>?_)
  .try simp only[BN]at h13
   have hbad:X4B s k=false:=by
    unfold X4B;rw[hb];simp only[NV,NB,Nj];omega
   have hz:=X6P hk1 hbad;refine X1 ?_;exact Xf
  try simp only[BN]at h13
  have hgood:X4B s k=true:=by
   unfold X4B;rw[hb];simp only[Nl,N4,N6];omega
  refine X2 ?_;exact⟨k+1,⟨by omega,fun j hj=>(Nat.lt_succ_iff_lt_or_eq.1 hj).elim (hall j) (fun e=>e▸hgood)⟩,by omega,X4 (fun n=>n) []⟩
 (try simp only[BN]at h8);have hz:=X67 h1 h40 (fun j hj=>hall j (by omega));refine(Xg ?_);refine X1 ?_;exact Xf
mutual
def Tm.nodes:Tm->Nat
 | .mk _ _ ks=>1+Qn ks
def Qn:List Tm->Nat
 |[]=>0
 |t::l=>t.nodes+Qn l
end
mutual
def St.nodes:St->Nat
 | .mk _ _ _ _ t a b bs=>1+t.nodes+Xh a+Xh b
def Xh:List St->Nat
 |[]=>0
 |s::l=>s.nodes+Xh l
end
theorem X6y (t:Tm):1<=t.nodes:=by cases t;simp[Tm.nodes]
theorem Xb2 (t:St):1<=t.nodes:=by cases t;simp[St.nodes];omega
theorem Wh:∀l:List Tm,l.length<=Qn l
 |[]=>by simp[Qn]
 |t::l=>by have:=Wh l;have:=X6y t;simp only[Qn,List.length_cons];omega
theorem Qm:∀l:List St,l.length<=Xh l
 |[]=>by simp[Xh]
 |t::l=>by have:=Qm l;have:=Xb2 t;simp only[Xh,List.length_cons];omega
mutual
def mTm:Tm->Int->Int×Bool->Int×Bool
 | .mk _ _ ks,dep,s=>if((s.2||decide (12<dep))||decide (1024<s.1+1))=true then(s.1+1,s.2||decide (12<dep))else X3s ks (dep+1) (s.1+1,s.2||decide (12<dep))
def X3s:List Tm->Int->Int×Bool->Int×Bool
 |[],_,s=>s
 |t::l,dep,s=>X3s l dep (mTm t dep s)
end
mutual
theorem X1k:∀(t:Tm) (dep:Int) (s:Int×Bool),s.1<=(mTm t dep s).1/\(mTm t dep s).1<=s.1+t.nodes
 | .mk o n ks,dep,s=>by
   have:=Xbr ks (dep+1) (s.1+1,s.2||decide (12<dep));simp only[mTm,Tm.nodes];split
   .simp only;omega
   simp only at this;omega
theorem Xbr:∀(l:List Tm) (dep:Int) (s:Int×Bool),s.1<=(X3s l dep s).1/\(X3s l dep s).1<=s.1+Qn l
 |[],dep,s=>by simp[X3s,Qn]
 | t::l,dep,s=>by
   have h1:=X1k t dep s;have h2:=Xbr l dep (mTm t dep s);simp only[X3s,Qn];omega
end
theorem X6K (t:Tm):∀(dep c:Int) (b:Bool),0<=dep->0<=c->c+t.nodes<=1000000000->
  X8w prog 114 [iC c,bC b] [aT t,li dep] (.tup []) [iC (mTm t dep (c,b)).1,bC (mTm t dep (c,b)).2]:=by
 induction t using Tm.ind with
 |h o n ks ih=>
 intro dep c b hdep hc hn;simp only[Tm.nodes]at hn;obtain⟨res,hres⟩:∃r,mTm (.mk o n ks) dep (c,b)=r:=⟨_,rfl⟩;rw[hres];simp only[mTm]at hres;have hlen:=Wh ks;have hw:IntKind.i64.wrap (c+1)=c+1:=X9;refine X3n Tryz.func114 rfl (by kernel_rfl) (NH rfl) ?_;simp only[Tryz.f114,aT,Tm.enc];refine X1 ?_;refine X1 ?_;refine X1 ?_;refine X0<|X0<|(Xo [⟨true,.v (lb ((b||decide (12<dep))||decide (1024<c+1))),none⟩] ?_ ?_)
 .first|exact Zc _ _ _|exact trivial|simpa[*]using Zc _ _ _
 refine(Xc rfl (fun h4=>?_) fun h4=>?_)
 ·(try simp only[BN]at h4);rw[Na (by simpa using h4)]at hres;subst hres;exact Qe (⟨.inr rfl,_,le_refl _,⟨_,by simp[*];rfl,by simp[XL]⟩,by simp[*]⟩)
 (try simp only[BN]at h4);rw[N7 (by simpa using h4)]at hres;have hdep2:dep<=12:=by omega
 have hwd:IntKind.i64.wrap (dep+1)=dep+1:=X9;refine X1 ?_;refine X3<|(Xd [0,2,29,30] (fun(x:Nat×Int×Bool)=>[(31,.v (li x.1))]) (fun x=>[(1000000,.box [.c (iC x.2.1),.c (bC x.2.2)])]) (fun x=>x.1<=ks.length/\X3s (ks.drop x.1) (dep+1) x.2=res/\0<=x.2.1/\x.2.1+Qn (ks.drop x.1)<=1000000000) (fun x=>ks.length - x.1) (0,c+1,b||decide (12<dep)) ⟨Nq _,hres,by simp only;omega,by simp only[List.drop_zero];omega⟩ ?_ ?_)
 .exact X4 (fun n=>n) []
 rintro⟨k,m,q⟩ ⟨hk,hJ,hm,hb⟩;simp only[upS,X5,Xy]
 try simp only[X5,KN,Nat.reduceBEq,Nf,Nc,ins,Nat.reduceLT]
 simp only at hk hJ hm hb;refine X1 ?_;refine X0<|(X8 rfl (fun h9=>Xb ?_) (fun h9=>?_))
 ·(try simp only[BN]at h9);have hlt:k<ks.length:=by omega
  obtain⟨⟨eo,en,ek⟩,he,hd⟩:=Xu hlt;have he':=Wx he;simp only[Tm.enc]at he';have hw1:=XE hlt (by omega);rw[hd]at hJ hb;simp only[X3s,Qn]at hJ hb;have hk1:k+1<=ks.length:=hlt;have hmem:Tm.mk eo en ek∈ks:=N3 he;have hle:=X1k (.mk eo en ek) (dep+1) (m,q);clear hlt h9;refine X0<|X3<|X0<|X2 ?_;refine(X0R 4 (.tup []) ([iC (mTm (.mk eo en ek) (dep+1) (m,q)).1,bC (mTm (.mk eo en ek) (dep+1) (m,q)).2]) rfl (by simp[*];rfl) (by simp[ioOf, *];first|exact⟨rfl,rfl,rfl,rfl,rfl⟩|exact⟨rfl,rfl,rfl,rfl⟩|exact⟨rfl,rfl,rfl⟩|exact⟨rfl,rfl⟩|rfl) (ih _ hmem (dep+1) m q (by omega) hm (by omega)) (by simp) (by simp[*];rfl) ?_);refine X2 ?_;exact⟨(k+1,mTm (.mk eo en ek) (dep+1) (m,q)),⟨hk1,hJ,by simp only at hle⊢;omega,by simp only at hle⊢;omega⟩,by simp only;omega,X4 (fun n=>n) []⟩
 (try simp only[BN]at h9);have hkl:k=ks.length:=by omega
 subst hkl;rw[Nt]at hJ;simp only[X3s]at hJ;subst hJ;refine(Xg ?_);exact(⟨.inl rfl,_,le_refl _,⟨_,by simp[*];rfl,by simp[XL]⟩,by simp[*]⟩)
def X1r (k:List (Int×Int)):List (List CD):=k.map fun p=>[iC p.1,iC p.2]
@[simp] theorem len_encP (k:List (Int×Int)):(X1r k).length=k.length:=by simp[X1r]
@[simp] theorem get_encP (k:List (Int×Int)) (i:Nat):(X1r k)[i]? =k[i]?.map fun p=>[iC p.1,iC p.2]:=by simp[X1r]
@[simp] theorem encP_nil:X1r []=[]:=rfl
abbrev aP (p:Int×Int):TV:=.agg [.c (iC p.1),.c (iC p.2)]
def mn (a b:Int):Int:=if b<a then b else a
def mx (a b:Int):Int:=if a<b then b else a
def Zu (p q:Int×Int):Int×Int:=(mn p.1 q.1,mx p.2 q.2)
def X2s:List (Int×Int)->Int×Int->Int×Int
 |[],p=>p
 |q::l,p=>X2s l (Zu p q)
def mulP (a b:Int×Int):Int×Int:=Zu (Zu (Zu (a.1*b.1,a.1*b.1) (a.1*b.2,a.1*b.2)) (a.2*b.1,a.2*b.1)) (a.2*b.2,a.2*b.2)
def bnd (p:Int×Int):Prop:=-1048576<=p.1/\p.1<=p.2/\p.2<=1048576
theorem X3Q (p q:Int×Int) (d:Nat):Con prog 264 true [aP p,aP q] (.v (aP (Zu p q))) none d:=by
 refine X6 Tryz.func264 ?_;simp only[Tryz.f264];refine X1 ?_;refine X1 ?_;exact(Xf (he:=by simp[XL,Zu,mn,mx]))
theorem X5I {x y:Int} (hx:-1048576<=x/\x<=1048576) (hy:-1048576<=y/\y<=1048576):-1099511627776<=x*y/\x*y<=1099511627776:=by
 have h1:x.natAbs<=1048576:=by omega
 have h2:y.natAbs<=1048576:=by omega
 have h3:=Nat.mul_le_mul h1 h2;rw[<-Int.natAbs_mul]at h3;omega
theorem X3L (x y:Int) (hx:-1048576<=x/\x<=1048576) (hy:-1048576<=y/\y<=1048576) (d:Nat):Con prog 263 true [li x,li y] (.v (li (x*y))) none d:=by
 have hm:=X5I hx hy;have hw:IntKind.i64.wrap (x*y)=x*y:=X9;refine X6 Tryz.func263 ?_;simp only[Tryz.f263];refine X1 ?_;refine X1 ?_;exact Xf
def X9k:List Int->Int×Int->Int×Int
 |[],p=>p
 |q::l,p=>X9k l (Zu p (q,q))
theorem X4S (a b:Int×Int) (ha:bnd a) (hb:bnd b) (d:Nat):Con prog 262 true [aP a,aP b,.one (.fn 263 [])] (.v (aP (mulP a b))) none d:=by
 obtain⟨a1,a2⟩:=a;obtain⟨b1,b2⟩:=b;simp only[bnd]at ha hb;refine X6 Tryz.func262 ?_;simp only[Tryz.f262];obtain⟨L,hL⟩:∃L,L=[a1*b2,a2*b1,a2*b2]:=⟨_,rfl⟩;have hlen:L.length=3:=by rw[hL];rfl
 obtain⟨res,hres⟩:∃res,mulP (a1,a2) (b1,b2)=res:=⟨_,rfl⟩;rw[hres];have hres2:X9k L (a1*b1,a1*b1)=res:=by rw[<-hres,hL];rfl
 clear hres;refine X1 ?_;refine Xk [⟨true,.v (li (a1*b1)),none⟩] ?_ ?_
 .first|exact X3L _ _ (by omega) (by omega) _|exact trivial|simpa[*]using X3L _ _ (by omega) (by omega) _
 refine X1 ?_;refine X0<|X0<|(QC [⟨true,.v (li (a1*b2)),none⟩,⟨true,.v (li (a2*b1)),none⟩,⟨true,.v (li (a2*b2)),none⟩] (by kernel_rfl) (by kernel_rfl) (by rfl) (by simp[*];first|exact⟨rfl,Iff.rfl⟩|exact⟨rfl,trivial⟩|rfl) ?_ ?_)
 .first|exact trivial|exact trivial|(repeat' first|exact trivial|exact X3L _ _ (by omega) (by omega) _|exact X3L _ _ (by omega) (by omega) _|exact X3L _ _ (by omega) (by omega) _|apply And.intro)
 refine X3<|(Xd [6,8,38,39] (fun(x:Nat×Int×Int)=>[(40,.v (li x.1))]) (fun x=>[(6,.box [.c (iC 0),.c (iC 0)]),(8,.box [.c (iC x.2.1),.c (iC x.2.2)]),(38,.row 3 1 (Xi L))]) (fun x=>x.1<=3/\X9k (L.drop x.1) x.2=res) (fun x=>3 - x.1) (0,a1*b1,a1*b1) ⟨Nq _,hres2⟩ ?_ ?_)
 .exact Xl (fun n=>n) [] rfl (by simp[*,upS,X5]) (by simp[upS,Xi,hL]) (by simp[upS])
 rintro⟨k,m,q⟩ ⟨hk,hJ⟩;simp only[upS,X5,Xy]
 try simp only[X5,KN,Nat.reduceBEq,Nf,Nc,ins,Nat.reduceLT]
 simp only at hk hJ;clear hres2 hL;refine X1 ?_;refine X0<|(X8 rfl (fun h6=>Xb ?_) (fun h6=>?_))
 ·(try simp only[BN]at h6);have hlt:k<L.length:=by omega
  obtain⟨e,he,hd⟩:=Xu hlt;have hw1:=XE hlt (by omega);rw[hd]at hJ;simp only[X9k]at hJ;have hk1:k+1<=3:=by omega
  clear hlt h6;refine X0<|X3<|X0<|X2 ?_;refine(Xo [⟨true,.v (aP (Zu (m,q) (e,e))),none⟩] ?_ ?_)
  .first|exact X3Q (m,q) (e,e) _|exact trivial|simpa[*]using X3Q (m,q) (e,e) _
  refine X2 ?_;exact⟨(k+1,Zu (m,q) (e,e)),⟨hk1,hJ⟩,by simp only;omega,X4 (fun n=>n) []⟩
 (try simp only[BN]at h6);have hkl:k=L.length:=by omega
 rw[hkl,Nt]at hJ;simp only[X9k]at hJ;refine(Xg ?_);refine X1 ?_;exact(Xf (he:=by subst hJ;rfl))
def ZX (vars:List Vr) (inp:Bool) (n:Int):Bool:=
 decide (0<=n)&&match vars[n.toNat]? with
  |some v=> !(inp&&decide (v.kind=0))
  |none=>false
def Qi (vars:List Vr) (inp:Bool) (o n:Int) (len:Nat):Bool:=
 (!decide ((Qp o).1<0)&&(!decide ((len:Int)<(Qp o).1)&& !decide ((Qp o).2<(len:Int))))&&(if o=0 then true else if o=24 then ZX vars inp n else decide (n=0))
mutual
def QT (vars:List Vr) (inp:Bool):Tm->Bool
 | .mk o n ks=>Qi vars inp o n ks.length&&WC vars inp ks
def WC (vars:List Vr) (inp:Bool):List Tm->Bool
 |[]=>true
 |t::l=>QT vars inp t&&WC vars inp l
end
theorem X05 {vars:List Vr} {inp:Bool}:∀{l:List Tm},WC vars inp l=true->∀t∈l,QT vars inp t=true
 |[],_,t,ht=>by cases ht
 | a::l,h,t,ht=>by
   simp only[WC,N4]at h;rcases Nh.1 ht with rfl|h1
   .exact h.1
   exact X05 h.2 t h1
theorem X3X {vars:List Vr} {n:Int}:(0<=n/\n<vars.length)->∃v,vars[n.toNat]? =some v:=by
 rintro⟨h1,h2⟩;have:n.toNat<vars.length:=by omega
 exact⟨vars[n.toNat],by simp[this]⟩
theorem X0H {vars:List Vr} {n:Int} (h1:0<=n) (h2:¬n<vars.length):vars[n.toNat]? =none:=by
 rw[Nx];omega
theorem XcY (vars:List Vr) (inp:Bool) (hv:vars.length<=1000000000) (t:Tm):t.nodes<=1000000000->∀d:Nat,
  Con prog 220 true [lV vars,aT t,lb inp] (.v (lb (QT vars inp t))) none d:=by
 induction t using Tm.ind with
 |h o n ks ih=>
 intro hn d;simp only[Tm.nodes]at hn;have hlen:=Wh ks;obtain⟨res,hres⟩:∃r,QT vars inp (.mk o n ks)=r:=⟨_,rfl⟩;rw[hres];simp only[QT]at hres
 have ih':∀t∈ks,∀d,Con prog 220 true [lV vars,aT t,lb inp] (.v (lb (QT vars inp t))) none d:=by
  intro t ht d;refine ih t ht ?_ d
  have:t.nodes<=Qn ks:=by
   clear hres ih hn hlen
   induction ks with
   |nil=>cases ht
   | cons a l ih=>
     simp only[Qn];rcases Nh.1 ht with rfl|h
     .omega
     have:=ih h;omega
  omega
 clear ih;refine X6 Tryz.func220 ?_;simp only[Tryz.f220];simp only[aT,Tm.enc];refine X1 ?_;refine Xk [⟨true,.tup [li (Qp o).1,li (Qp o).2],none⟩] ?_ ?_
 .first|exact X6w o _|exact trivial|simpa[*]using X6w o _
 refine X0<|X0<|X2 ?_;refine(Xc rfl (fun h3=>?_) fun h3=>?_)
 .try simp only[BN]at h3
  have hz:Qi vars inp o n ks.length=false:=by
   unfold Qi;rw[NB];refine .inl ?_;simp only[NB,Bool.not_eq_false',N6];omega
  rw[hz,Dh]at hres;refine X1 ?_;exact(Xf (he:=by first|rfl|simp[*]))
 try simp only[BN]at h3
 have hz:(!decide ((Qp o).1<0)&&(!decide ((ks.length:Int)<(Qp o).1)&& !decide ((Qp o).2<(ks.length:Int))))=true:=by
  simp only[N4,Nw,Nj];omega
 refine(XM [0,2,4] (fun(z:Unit)=>[]) (fun(z:Unit)=>[(4,.box [.c (iC o),.c (iC n),.c (.sl 3 (XA ks))])]) (fun(z:Unit)=>Qi vars inp o n ks.length=true) ?_ ?_)
 ·
  refine X1 ?_;refine X3<|X0<|X2 ?_;refine(X8 rfl (fun h9=>Xb ?_) (fun h9=>?_))
  ·(try simp only[BN]at h9);exact⟨(),by unfold Qi;rw[hz,NW,Na h9],X4 (fun n=>n) []⟩
  (try simp only[BN]at h9);refine X1 ?_;refine(X8 rfl (fun h12=>?_) (fun h12=>?_))
  ·(try simp only[BN]at h12);by_cases hn0:0<=n
   .by_cases hn3:n<vars.length
    .obtain⟨v,hv1⟩:=X3X ⟨hn0,hn3⟩;have hn1:¬(vars.length:Int)<=n:=by omega
     have hn2:¬n<0:=by omega
     clear hn3;refine X1 ?_;refine(Xc rfl (fun h14=>?_) fun h14=>?_)
     .try simp only[BN]at h14
      have hz3:Qi vars inp o n ks.length=false:=by
       unfold Qi ZX;rw[hz,NW,N7 h9,Na h12,hv1];simp[h14]
      rw[hz3,Dh]at hres;refine X1 ?_;exact(Xf (he:=by first|rfl|simp[*]))
     try simp only[BN]at h14
     exact⟨(),by
      unfold Qi ZX;rw[hz,NW,N7 h9,Na h12,hv1];simp only[N4,Nw,NB,N6,Nj]
      exact⟨hn0,h14⟩,X4 (fun n=>n) []⟩
    cases inp
    .have hv1:=X0H hn0 hn3;have hn1:(vars.length:Int)<=n:=by omega
     have hn2:¬n<0:=by omega
     have hz2:∀i,ZX vars i n=false:=by intro i;simp[ZX,hv1]
     clear hn3;refine X1 ?_;refine(Xc rfl (fun h14=>?_) fun h14=>?_)
     .try simp only[BN]at h14
      have hz3:∀i,Qi vars i o n ks.length=false:=by
       intro i;unfold Qi;rw[hz,NW,N7 h9,Na h12,hz2]
      rw[hz3,Dh]at hres;refine X1 ?_;exact(Xf (he:=by first|rfl|simp[*]))
     exact absurd h14 (by simp)
    have hv1:=X0H hn0 hn3;have hn1:(vars.length:Int)<=n:=by omega
    have hn2:¬n<0:=by omega
    have hz2:∀i,ZX vars i n=false:=by intro i;simp[ZX,hv1]
    clear hn3;refine X1 ?_;refine(Xc rfl (fun h14=>?_) fun h14=>?_)
    .try simp only[BN]at h14
     have hz3:∀i,Qi vars i o n ks.length=false:=by
      intro i;unfold Qi;rw[hz,NW,N7 h9,Na h12,hz2]
     rw[hz3,Dh]at hres;refine X1 ?_;exact(Xf (he:=by first|rfl|simp[*]))
    exact absurd h14 (by simp)
   cases inp
   .have hn2:n<0:=by omega
    have hz2:∀i,ZX vars i n=false:=by intro i;simp[ZX,hn0]
    refine X1 ?_;refine(Xc rfl (fun h14=>?_) fun h14=>?_)
    .try simp only[BN]at h14
     have hz3:∀i,Qi vars i o n ks.length=false:=by
      intro i;unfold Qi;rw[hz,NW,N7 h9,Na h12,hz2]
     rw[hz3,Dh]at hres;refine X1 ?_;exact(Xf (he:=by first|rfl|simp[*]))
    exact absurd h14 (by simp)
   have hn2:n<0:=by omega
   have hz2:∀i,ZX vars i n=false:=by intro i;simp[ZX,hn0]
   refine X1 ?_;refine(Xc rfl (fun h14=>?_) fun h14=>?_)
   .try simp only[BN]at h14
    have hz3:∀i,Qi vars i o n ks.length=false:=by
     intro i;unfold Qi;rw[hz,NW,N7 h9,Na h12,hz2]
    rw[hz3,Dh]at hres;refine X1 ?_;exact(Xf (he:=by first|rfl|simp[*]))
   exact absurd h14 (by simp)
  (try simp only[BN]at h12);refine X1 ?_;refine(Xc rfl (fun h19=>?_) fun h19=>?_)
  .try simp only[BN]at h19
   have hz3:Qi vars inp o n ks.length=false:=by
    unfold Qi;rw[hz,NW,N7 h9,N7 h12];simpa using h19
   rw[hz3,Dh]at hres;refine X1 ?_;exact(Xf (he:=by first|rfl|simp[*]))
  try simp only[BN]at h19
  exact⟨(),by
   unfold Qi;rw[hz,NW,N7 h9,N7 h12]
   simpa using h19,X4 (fun n=>n) []⟩
 rintro z hz;simp only[upS,X5,Xy]
 try simp only[X5,KN,Nat.reduceBEq,Nf,Nc,ins,Nat.reduceLT]
 rw[hz,NW]at hres;refine X0<|X0<|X2 ?_;refine X3<|(Xd [0,2,65,66] (fun(x:Nat)=>[(67,.v (li x))]) (fun x=>[]) (fun x=>x<=ks.length/\WC vars inp (ks.drop x)=res) (fun x=>ks.length - x) (0:Nat) ⟨Nq _,hres⟩ ?_ ?_)
 .exact X4 (fun n=>n) []
 rintro k ⟨hk,hJ⟩;simp only[upS,X5,Xy]
 try simp only[X5,KN,Nat.reduceBEq,Nf,Nc,ins,Nat.reduceLT]
 refine X1 ?_;refine X0<|(X8 rfl (fun h26=>Xb ?_) (fun h26=>?_))
 ·(try simp only[BN]at h26);have hlt:k<ks.length:=by omega
  obtain⟨⟨eo,en,ek⟩,he,hd⟩:=Xu hlt;have he':=Wx he;simp only[Tm.enc]at he';have hw1:=XE hlt (by omega);rw[hd]at hJ;simp only[WC]at hJ;have hk1:k+1<=ks.length:=hlt;have hmem:Tm.mk eo en ek∈ks:=N3 he;clear hlt h26;refine X0<|X3<|X0<|X2 ?_;refine Xk [⟨true,.v (lb (QT vars inp (.mk eo en ek))),none⟩] ?_ ?_
  .first|exact ih' _ hmem _|exact trivial|simpa[*]using ih' _ hmem _
  refine(Xc rfl (fun h29=>?_) fun h29=>?_)
  ·(try simp only[BN]at h29);rw[h29,Dh]at hJ;subst hJ;refine X1 ?_;exact(Xf (he:=by first|rfl|simp[*]))
  (try simp only[BN]at h29);rw[h29,NW]at hJ;refine X2 ?_;exact⟨k+1,⟨hk1,hJ⟩,by omega,X4 (fun n=>n) []⟩
 (try simp only[BN]at h26);have hkl:k=ks.length:=by omega
 subst hkl;rw[Nt]at hJ;simp only[WC]at hJ;subst hJ;refine(Xg ?_);refine X1 ?_;exact(Xf (he:=by first|rfl|simp[*]))
theorem ZD {ks:List Tm} {t:Tm} (ht:t∈ks):t.nodes<=Qn ks:=by
 induction ks with
 |nil=>cases ht
 | cons a l ih=>
   simp only[Qn];rcases Nh.1 ht with rfl|h
   .omega
   have:=ih h;omega
theorem Q1 (a b:Int) (d:Nat):Con prog 100 true [li a,li b] (.v (li (mn a b))) none d:=by
 refine X6 Tryz.func100 ?_;simp only[Tryz.f100];refine X1 ?_;refine X0<|X0<|X2 ?_;refine(Xc rfl (fun h2=>?_) fun h2=>?_)
 ·(try simp only[BN]at h2);have hz:mn a b=a:=by unfold mn;split<;>omega
  refine X1 ?_;exact Xf
 (try simp only[BN]at h2);have hz:mn a b=b:=by unfold mn;split<;>omega
 refine X1 ?_;exact Xf
theorem Qw (a b:Int) (d:Nat):Con prog 99 true [li a,li b] (.v (li (mx a b))) none d:=by
 refine X6 Tryz.func99 ?_;simp only[Tryz.f99];refine X1 ?_;refine X0<|X0<|X2 ?_;refine(Xc rfl (fun h2=>?_) fun h2=>?_)
 ·(try simp only[BN]at h2);have hz:mx a b=a:=by unfold mx;split<;>omega
  refine X1 ?_;exact Xf
 (try simp only[BN]at h2);have hz:mx a b=b:=by unfold mx;split<;>omega
 refine X1 ?_;exact Xf
def X3C (a:Int):Int:=if a<0 then -a else a
theorem X99 (a:Int) (h:-1048576<=a/\a<=1048576) (d:Nat):Con prog 212 true [li a] (.v (li (X3C a))) none d:=by
 have hw:IntKind.i64.wrap (-a)=-a:=X9;refine X6 Tryz.func212 ?_;simp only[Tryz.f212];refine X1 ?_;refine X0<|X0<|X2 ?_;refine(Xc rfl (fun h2=>?_) fun h2=>?_)
 ·(try simp only[BN]at h2);refine X1 ?_;exact(Xf (he:=by first|rfl|(simp[*,X3C];done)|(simp only[XL,X3C];(repeat' split)<;>first|rfl|(exfalso;omega)|simp_all)))
 (try simp only[BN]at h2);refine X1 ?_;exact(Xf (he:=by first|rfl|(simp[*,X3C];done)|(simp only[XL,X3C];(repeat' split)<;>first|rfl|(exfalso;omega)|simp_all)))
def Zq (o:Int):Int:=if o=0\/o=24 then 0 else if o=6\/o=7 then 1 else if 8<=o/\o<=22 then 2 else if o=23 then 3 else if o=25 then -2 else -1
theorem X73 (o:Int) (d:Nat):Con prog 161 true [li o] (.v (li (Zq o))) none d:=by
 refine X6 Tryz.func161 ?_;simp only[Tryz.f161];refine X1 ?_;refine X0<|X0<|X2 ?_;refine X3<|(XM [3] (fun(z:Bool)=>[(4,.v (lb z))]) (fun(z:Bool)=>[]) (fun(z:Bool)=>z=decide (o=0\/o=24)) ?_ ?_)
 ·
  refine X1 ?_;refine(X8 rfl (fun h4=>Xb ?_) (fun h4=>?_))
  ·(try simp only[BN]at h4);exact⟨decide (o=0\/o=24),rfl,X4 (fun n=>n) []⟩
  (try simp only[BN]at h4);refine X2 ?_;exact⟨decide (o=0\/o=24),rfl,X4 (fun n=>n) []⟩
 rintro _ rfl;simp only[upS,X5,Xy]
 try simp only[X5,KN,Nat.reduceBEq,Nf,Nc,ins,Nat.reduceLT]
 refine(X8 rfl (fun h8=>?_) (fun h8=>?_))
 ·(try simp only[BN]at h8);refine X1 ?_;exact(Xf (he:=by first|rfl|(simp[*,Zq];done)|(simp only[XL,Zq];(repeat' split)<;>first|rfl|(exfalso;omega)|simp_all)))
 (try simp only[BN]at h8);refine(XM [3] (fun(z:Bool)=>[(7,.v (lb z))]) (fun(z:Bool)=>[]) (fun(z:Bool)=>z=decide (o=6\/o=7)) ?_ ?_)
 ·
  refine X1 ?_;refine(X8 rfl (fun h13=>Xb ?_) (fun h13=>?_))
  ·(try simp only[BN]at h13);exact⟨decide (o=6\/o=7),rfl,X4 (fun n=>n) []⟩
  (try simp only[BN]at h13);refine X2 ?_;exact⟨decide (o=6\/o=7),rfl,X4 (fun n=>n) []⟩
 rintro _ rfl;simp only[upS,X5,Xy]
 try simp only[X5,KN,Nat.reduceBEq,Nf,Nc,ins,Nat.reduceLT]
 refine(X8 rfl (fun h17=>?_) (fun h17=>?_))
 ·(try simp only[BN]at h17);refine X1 ?_;exact(Xf (he:=by first|rfl|(simp[*,Zq];done)|(simp only[XL,Zq];(repeat' split)<;>first|rfl|(exfalso;omega)|simp_all)))
 (try simp only[BN]at h17);refine(XM [3] (fun(z:Bool)=>[(10,.v (lb z))]) (fun(z:Bool)=>[]) (fun(z:Bool)=>z=decide (8<=o/\o<=22)) ?_ ?_)
 ·
  refine X1 ?_;refine(X8 rfl (fun h22=>Xb ?_) (fun h22=>?_))
  ·(try simp only[BN]at h22);exact⟨decide (8<=o/\o<=22),rfl,X4 (fun n=>n) []⟩
  (try simp only[BN]at h22);refine X1 ?_;refine(X8 rfl (fun h25=>Xb ?_) (fun h25=>?_))
  ·(try simp only[BN]at h25);exact⟨decide (8<=o/\o<=22),rfl,X4 (fun n=>n) []⟩
  (try simp only[BN]at h25);refine X1 ?_;refine(X8 rfl (fun h28=>Xb ?_) (fun h28=>?_))
  ·(try simp only[BN]at h28);exact⟨decide (8<=o/\o<=22),rfl,X4 (fun n=>n) []⟩
  (try simp only[BN]at h28);refine X1 ?_;refine(X8 rfl (fun h31=>Xb ?_) (fun h31=>?_))
  ·(try simp only[BN]at h31);exact⟨decide (8<=o/\o<=22),rfl,X4 (fun n=>n) []⟩
  (try simp only[BN]at h31);refine X1 ?_;refine(X8 rfl (fun h34=>Xb ?_) (fun h34=>?_))
  ·(try simp only[BN]at h34);exact⟨decide (8<=o/\o<=22),rfl,X4 (fun n=>n) []⟩
  (try simp only[BN]at h34);refine X1 ?_;refine(X8 rfl (fun h37=>Xb ?_) (fun h37=>?_))
  ·(try simp only[BN]at h37);exact⟨decide (8<=o/\o<=22),rfl,X4 (fun n=>n) []⟩
  (try simp only[BN]at h37);refine X1 ?_;refine(X8 rfl (fun h40=>Xb ?_) (fun h40=>?_))
  ·(try simp only[BN]at h40);exact⟨decide (8<=o/\o<=22),rfl,X4 (fun n=>n) []⟩
  (try simp only[BN]at h40);refine X1 ?_;refine(X8 rfl (fun h43=>Xb ?_) (fun h43=>?_))
  ·(try simp only[BN]at h43);exact⟨decide (8<=o/\o<=22),rfl,X4 (fun n=>n) []⟩
  (try simp only[BN]at h43);refine X1 ?_;refine(X8 rfl (fun h46=>Xb ?_) (fun h46=>?_))
  ·(try simp only[BN]at h46);exact⟨decide (8<=o/\o<=22),rfl,X4 (fun n=>n) []⟩
  (try simp only[BN]at h46);refine X1 ?_;refine(X8 rfl (fun h49=>Xb ?_) (fun h49=>?_))
  ·(try simp only[BN]at h49);exact⟨decide (8<=o/\o<=22),rfl,X4 (fun n=>n) []⟩
  (try simp only[BN]at h49);refine X1 ?_;refine(X8 rfl (fun h52=>Xb ?_) (fun h52=>?_))
  ·(try simp only[BN]at h52);exact⟨decide (8<=o/\o<=22),rfl,X4 (fun n=>n) []⟩
  (try simp only[BN]at h52);refine X1 ?_;refine(X8 rfl (fun h55=>Xb ?_) (fun h55=>?_))
  ·(try simp only[BN]at h55);exact⟨decide (8<=o/\o<=22),rfl,X4 (fun n=>n) []⟩
  (try simp only[BN]at h55);refine X1 ?_;refine(X8 rfl (fun h58=>Xb ?_) (fun h58=>?_))
  ·(try simp only[BN]at h58);exact⟨decide (8<=o/\o<=22),rfl,X4 (fun n=>n) []⟩
  (try simp only[BN]at h58);refine X1 ?_;refine(X8 rfl (fun h61=>Xb ?_) (fun h61=>?_))
  ·(try simp only[BN]at h61);exact⟨decide (8<=o/\o<=22),rfl,X4 (fun n=>n) []⟩
  (try simp only[BN]at h61);refine X2 ?_;have hz:decide (o=22)=(decide (8<=o)&&decide (o<=22)):=by rw[<-Bool.decide_and,decide_eq_decide];omega
  exact⟨decide (8<=o/\o<=22),rfl,X4 (fun n=>n) []⟩
 rintro _ rfl;simp only[upS,X5,Xy]
 try simp only[X5,KN,Nat.reduceBEq,Nf,Nc,ins,Nat.reduceLT]
 refine(X8 rfl (fun h65=>?_) (fun h65=>?_))
 ·(try simp only[BN]at h65);refine X1 ?_;exact(Xf (he:=by first|rfl|(simp[*,Zq];done)|(simp only[XL,Zq];(repeat' split)<;>first|rfl|(exfalso;omega)|simp_all)))
 (try simp only[BN]at h65);refine X1 ?_;refine(X8 rfl (fun h69=>?_) (fun h69=>?_))
 ·(try simp only[BN]at h69);refine X1 ?_;exact(Xf (he:=by first|rfl|(simp[*,Zq];done)|(simp only[XL,Zq];(repeat' split)<;>first|rfl|(exfalso;omega)|simp_all)))
 (try simp only[BN]at h69);refine X1 ?_;refine(Xc rfl (fun h73=>?_) fun h73=>?_)
 ·(try simp only[BN]at h73);refine X1 ?_;exact(Xf (he:=by first|rfl|(simp[*,Zq];done)|(simp only[XL,Zq];(repeat' split)<;>first|rfl|(exfalso;omega)|simp_all)))
 (try simp only[BN]at h73);refine X1 ?_;exact(Xf (he:=by first|rfl|(simp[*,Zq];done)|(simp only[XL,Zq];(repeat' split)<;>first|rfl|(exfalso;omega)|simp_all)))
theorem St.lists {P:List St->Prop} (h:∀l,(∀s∈l,P s.then_/\P s.else_)->P l):∀l,P l:=by
 have key:∀s:St,P s.then_/\P s.else_:=by
  intro s
  induction s using St.ind with
  |h d c v n t a b bs iha ihb=>exact⟨h a iha,h b ihb⟩
 exact fun l=>h l fun s _=>key s
theorem Qz {l:List St} {s:St} (hs:s∈l):1+s.term.nodes+Xh s.then_+Xh s.else_<=Xh l:=by
 induction l with
 |nil=>cases hs
 | cons x l ih=>
   simp only[Xh];rcases Nh.1 hs with rfl|h
   .obtain⟨d,c,v,n,t,a,b,bs⟩:=s;simp only[St.nodes,St.term,St.then_,St.else_];omega
   have:=ih h;omega
def QB (n lo hi:Int):Int:=if n<lo then lo else if hi<n then hi else n
theorem X78 (n lo hi:Int) (h:lo<=hi) (d:Nat):Con prog 229 true [li n,li lo,li hi] (.v (li (QB n lo hi))) none d:=by
 have hz:QB n lo hi=if hi<(if n<lo then lo else n)then hi else(if n<lo then lo else n):=by
  unfold QB
  (repeat' split)<;>omega
 refine X6 Tryz.func229 ?_;simp only[Tryz.f229];refine X1 ?_;refine X1 ?_;exact Xf
theorem X8S (n lo hi:Int) (d:Nat):Con prog 132 true [li n,li lo,li hi] (.v (li (QB n lo hi))) none d:=by
 refine X6 Tryz.func132 ?_;simp only[Tryz.f132];refine X1 ?_;refine X0<|X0<|X2 ?_;refine(Xc rfl (fun h2=>?_) fun h2=>?_)
 ·(try simp only[BN]at h2);refine X1 ?_;exact(Xf (he:=by first|rfl|(simp[*,QB];done)|(simp only[XL,QB];(repeat' split)<;>first|rfl|(exfalso;omega)|simp_all)))
 (try simp only[BN]at h2);refine X0<|X0<|X2 ?_;refine(Xc rfl (fun h6=>?_) fun h6=>?_)
 ·(try simp only[BN]at h6);refine X1 ?_;exact(Xf (he:=by first|rfl|(simp[*,QB];done)|(simp only[XL,QB];(repeat' split)<;>first|rfl|(exfalso;omega)|simp_all)))
 (try simp only[BN]at h6);refine X1 ?_;exact(Xf (he:=by first|rfl|(simp[*,QB];done)|(simp only[XL,QB];(repeat' split)<;>first|rfl|(exfalso;omega)|simp_all)))
theorem X2j {n lo hi:Int} (h:lo<=hi):lo<=QB n lo hi/\QB n lo hi<=hi:=by
 unfold QB
 (repeat' split)<;>omega
def Zh (m c:Int):Int:=if 0<m then c else 0
mutual
def spS:St->Int×Int
 | .mk d c _ n (.mk o tn _) a b _=>
   if d=3 then(QB c 0 67108865+mn (spL a (0,0)).1 (spL b (0,0)).1,QB c 0 67108865+mx (spL a (0,0)).2 (spL b (0,0)).2)
   else if d=4 then
    (if o≠0 then(Zh (QB n 0 4096) (QB c 0 67108865),QB n 0 4096*(QB c 0 67108865+(spL a (0,0)).2))
     else if tn≠0 then(QB n 0 4096*(QB c 0 67108865+(spL a (0,0)).1),QB n 0 4096*(QB c 0 67108865+(spL a (0,0)).2))
     else(Zh (QB n 0 4096) (QB c 0 67108865),Zh (QB n 0 4096) (QB c 0 67108865)))
   else(QB c 0 67108865,QB c 0 67108865)
def spL:List St->Int×Int->Int×Int
 |[],p=>p
 |s::l,p=>spL l (mn (p.1+(spS s).1) 67108865,mn (p.2+(spS s).2) 67108865)
end
theorem mulT {m z:Int} (hm:0<=m/\m<=4096) (hz:0<=z/\z<=134217730):0<=m*z/\m*z<=549755822080:=by
 have h1:m.natAbs*z.natAbs<=4096*134217730:=Nat.mul_le_mul (by omega) (by omega);rw[<-Int.natAbs_mul]at h1;have h2:=DJ hm.1 hz.1;omega
def inT (p:Int×Int):Prop:=0<=p.1/\p.1<=67108865/\0<=p.2/\p.2<=67108865
def inU (p:Int×Int):Prop:=0<=p.1/\p.1<=549755822080/\0<=p.2/\p.2<=549755822080
theorem inT0:inT (0,0):=⟨by decide,by decide,by decide,by decide⟩
theorem Xb7 {m c:Int} (hc:0<=c/\c<=67108865):0<=Zh m c/\Zh m c<=67108865:=by
 unfold Zh;split<;>omega
theorem X76 {a:Int} (h:0<=a):0<=mn a 67108865/\mn a 67108865<=67108865:=by
 unfold mn;split<;>omega
mutual
theorem Xab:∀s:St,inU (spS s)
 | .mk d c v n (.mk o tn ks) a b bs=>by
   have ha:=X2T a (0,0) inT0;have hb:=X2T b (0,0) inT0;have hc:=X2j (n:=c) (lo:=0) (hi:=67108865) (by decide);have hn:=X2j (n:=n) (lo:=0) (hi:=4096) (by decide);have ho:=Xb7 (m:=QB n 0 4096) hc;unfold inT at ha hb;have h1:=mulT hn (z:=QB c 0 67108865+(spL a (0,0)).1) (by omega);have h2:=mulT hn (z:=QB c 0 67108865+(spL a (0,0)).2) (by omega);unfold inU;simp only[spS];split
   .simp only[mn,mx]
    (repeat' split)<;>omega
   split
   .split
    .simp only;omega
    split
    .simp only;omega
    simp only;omega
   simp only;omega
theorem X2T:∀(l:List St) (p:Int×Int),inT p->inT (spL l p)
 |[],p,h=>h
 | s::l,p,h=>by
   have hs:=Xab s;simp only[spL];refine X2T l _ ?_;unfold inT inU at*;have h1:=X76 (a:=p.1+(spS s).1) (by omega);have h2:=X76 (a:=p.2+(spS s).2) (by omega);simp only;omega
end
theorem XcR (l:List St):Xh l<=1000000000->∀d:Nat,Con prog 192 true [lS l] (.tup [li (spL l (0,0)).1,li (spL l (0,0)).2]) none d:=by
 revert l
 apply St.lists;intro l ih hn d;have hlen:=Qm l;obtain⟨res,hres⟩:∃r,spL l (0,0)=r:=⟨_,rfl⟩;rw[hres];refine X6 Tryz.func192 ?_;simp only[Tryz.f192];refine X1 ?_;refine X0<|X0<|X2 ?_;refine X3<|(Xd [17,18] (fun(x:Nat×Int×Int)=>[(2,.v (li x.2.1)),(3,.v (li x.2.2)),(19,.v (li x.1))]) (fun x=>[]) (fun x=>x.1<=l.length/\spL (l.drop x.1) x.2=res/\inT x.2) (fun x=>l.length - x.1) (0,0,0) ⟨Nq _,hres,inT0⟩ ?_ ?_)
 .exact X4 (fun n=>n) []
 rintro⟨k,m,q⟩ ⟨hk,hJ,hin⟩;simp only[upS,X5,Xy]
 try simp only[X5,KN,Nat.reduceBEq,Nf,Nc,ins,Nat.reduceLT]
 simp only at hk hJ;unfold inT at hin;simp only at hin;clear hres;refine X1 ?_;refine X0<|(X8 rfl (fun h4=>Xb ?_) (fun h4=>?_))
 ·(try simp only[BN]at h4);have hlt:k<l.length:=by omega
  obtain⟨s,he,hd⟩:=Xu hlt;have hmem:s∈l:=N3 he;have hnm:=Qz hmem;have iha:=fun h=>(ih s hmem).1 h;have ihb:=fun h=>(ih s hmem).2 h;have hw1:=XE hlt (by omega);have hk1:k+1<=l.length:=hlt;rw[hd]at hJ;simp only[spL]at hJ;have hsin:=Xab s;obtain⟨pq,hpq⟩:∃pq,spS s=pq:=⟨_,rfl⟩;rw[hpq]at hJ hsin;obtain⟨sd,sc,sv,sn,⟨so,stn,sks⟩,sa,sb,sbs⟩:=s;simp only[St.then_,St.else_,St.term]at iha ihb hnm;have ca:=iha (by omega);have cb:=ihb (by omega);have he':=Q2 he;simp only[St.enc,Tm.enc,List.cons_append,List.nil_append]at he';simp only[spS]at hpq;have hxa:=X2T sa (0,0) inT0;have hxb:=X2T sb (0,0) inT0;obtain⟨xa,hxa'⟩:∃x,spL sa (0,0)=x:=⟨_,rfl⟩;obtain⟨xb,hxb'⟩:∃x,spL sb (0,0)=x:=⟨_,rfl⟩;have hci:=X2j (n:=sc) (lo:=0) (hi:=67108865) (by decide);have hni:=X2j (n:=sn) (lo:=0) (hi:=4096) (by decide);obtain⟨cc,hcc⟩:∃x,QB sc 0 67108865=x:=⟨_,rfl⟩;obtain⟨nn,hnn⟩:∃x,QB sn 0 4096=x:=⟨_,rfl⟩;have c1:=X78 sc 0 67108865 (by decide);have c2:=X78 sn 0 4096 (by decide);rw[hxa']at ca hxa hpq;rw[hxb']at cb hxb hpq;rw[hcc]at c1 hci hpq;rw[hnn]at c2 hni hpq;unfold inT at hxa hxb;unfold inU at hsin;clear hlt h4 iha ihb ih hxa' hxb' hcc hnn hmem hnm hd he;refine X0<|X3<|X0<|X2 ?_;refine X0<|(QC [⟨true,.v (li cc),none⟩,⟨true,.v (li nn),none⟩] (by kernel_rfl) (by kernel_rfl) (by rfl) (by simp[*];first|exact⟨rfl,Iff.rfl⟩|exact⟨rfl,trivial⟩|rfl) ?_ ?_)
  .first|exact⟨c1 _,c2 _⟩|exact trivial|(repeat' first|exact trivial|exact c1 _|exact c2 _|apply And.intro)
  refine X1 ?_;refine(XM [2,3,17,18,19] (fun(z:Unit)=>[(8,.v (li pq.1)),(9,.v (li pq.2))]) (fun(z:Unit)=>[]) (fun(z:Unit)=>True) ?_ ?_)
  ·
   refine X1 ?_;refine X3<|X0<|X2 ?_;refine(X8 rfl (fun h11=>?_) (fun h11=>?_))
   ·(try simp only[BN]at h11);rw[Na h11]at hpq;subst hpq;have hmn:(if xb.1<xa.1 then xb.1 else xa.1)=mn xa.1 xb.1:=rfl;have hmx:(if xa.2<xb.2 then xb.2 else xa.2)=mx xa.2 xb.2:=rfl;have hw2:IntKind.i64.wrap (cc+mn xa.1 xb.1)=cc+mn xa.1 xb.1:=X9 (by simp only at hsin;omega) (by simp only at hsin;omega);have hw3:IntKind.i64.wrap (cc+mx xa.2 xb.2)=cc+mx xa.2 xb.2:=X9 (by simp only at hsin;omega) (by simp only at hsin;omega);clear hsin;refine Xk [⟨true,.tup [li xa.1,li xa.2],none⟩] ?_ ?_
    .first|exact ca _|exact trivial|simpa[*]using ca _
    refine Xk [⟨true,.tup [li xb.1,li xb.2],none⟩] ?_ ?_
    .first|exact cb _|exact trivial|simpa[*]using cb _
    refine X2 ?_;exact⟨(),trivial,X4 (fun n=>n) []⟩
   (try simp only[BN]at h11);rw[N7 h11]at hpq;refine X1 ?_;refine(Xc rfl (fun h17=>?_) fun h17=>?_)
   ·(try simp only[BN]at h17);rw[Na h17]at hpq
    have hon:IntKind.i64.wrap ((if 1<nn then 1 else nn)*cc)=Zh nn cc:=by
     have:(if 1<nn then 1 else nn)*cc=Zh nn cc:=by
      unfold Zh;by_cases h:0<nn
      .rw[Na h];have:(if 1<nn then 1 else nn)=1:=by split<;>omega
       rw[this,Int.one_mul]
      rw[N7 h];have:(if 1<nn then 1 else nn)=0:=by split<;>omega
      rw[this,Int.zero_mul]
     rw[this];have:=Xb7 (m:=nn) hci;exact X9
    have hm1:=mulT hni (z:=cc+xa.1) (by omega);have hm2:=mulT hni (z:=cc+xa.2) (by omega);have hw2:IntKind.i64.wrap (cc+xa.1)=cc+xa.1:=X9;have hw3:IntKind.i64.wrap (cc+xa.2)=cc+xa.2:=X9;have hw4:IntKind.i64.wrap (nn*(cc+xa.1))=nn*(cc+xa.1):=X9;have hw5:IntKind.i64.wrap (nn*(cc+xa.2))=nn*(cc+xa.2):=X9;clear hm1 hm2;refine Xk [⟨true,.tup [li xa.1,li xa.2],none⟩] ?_ ?_
    .first|exact ca _|exact trivial|simpa[*]using ca _
    refine X1 ?_;refine X3<|X0<|X2 ?_;refine(X8 rfl (fun h21=>?_) (fun h21=>?_))
    ·(try simp only[BN]at h21);rw[Na h21]at hpq;subst hpq;refine X2 ?_;exact⟨(),trivial,X4 (fun n=>n) []⟩
    (try simp only[BN]at h21);rw[N7 (fun h=>h h21)]at hpq;refine X1 ?_;refine(X8 rfl (fun h25=>?_) (fun h25=>?_))
    ·(try simp only[BN]at h25);rw[Na h25]at hpq;subst hpq;refine X2 ?_;exact⟨(),trivial,X4 (fun n=>n) []⟩
    (try simp only[BN]at h25);rw[N7 (fun h=>h h25)]at hpq;subst hpq;refine X2 ?_;exact⟨(),trivial,X4 (fun n=>n) []⟩
   (try simp only[BN]at h17);rw[N7 h17]at hpq;subst hpq;exact⟨(),trivial,X4 (fun n=>n) []⟩
  rintro z hz;simp only[upS,X5,Xy]
  try simp only[X5,KN,Nat.reduceBEq,Nf,Nc,ins,Nat.reduceLT]
  clear hpq ca cb c1 c2 hci hni hxa hxb;have hw2:IntKind.i64.wrap (m+pq.1)=m+pq.1:=X9;have hw3:IntKind.i64.wrap (q+pq.2)=q+pq.2:=X9;have hm1:=X76 (a:=m+pq.1) (by omega);have hm2:=X76 (a:=q+pq.2) (by omega);have hmn1:(if 67108865<m+pq.1 then 67108865 else m+pq.1)=mn (m+pq.1) 67108865:=rfl;have hmn2:(if 67108865<q+pq.2 then 67108865 else q+pq.2)=mn (q+pq.2) 67108865:=rfl;refine X2 ?_;refine X2 ?_;exact⟨(k+1,mn (m+pq.1) 67108865,mn (q+pq.2) 67108865),⟨hk1,hJ,hm1.1,hm1.2,hm2.1,hm2.2⟩,by simp only;omega,X4 (fun n=>n) []⟩
 (try simp only[BN]at h4);have hkl:k=l.length:=by omega
 rw[hkl,Nt]at hJ;simp only[spL]at hJ;subst hJ;refine(Xg ?_);refine X1 ?_;exact Xf
end Go.Proofs.YtdajceakaakdoaaGreat
namespace Go.Proofs.YtdajceakaakdoaaGreat
open Go Go.Hl Go.RowKit
open Tryz(prog)
inductive CWk:CV->CV->Prop where
 |refl (x:CV):CWk x x
 |nil (s:Nat):CWk (.c (.lit XY)) (.c (.sl s []))
inductive LWk:List CV->List CV->Prop where
 |nil:LWk [] []
 |cons {x y:CV} {l m:List CV}:CWk x y->LWk l m->LWk (x::l) (y::m)
theorem CWk.rel {F:Nat->Prop} {T:Nat->Value} {w:World} {x y:CV} (h:CWk x y) {v:Value} (hr:Xs F T w x v):Xs F T w y v:=by
 cases h with
 |refl=>exact hr
 | nil s=>
   have:v=XY:=Xa.lit_eq (T:=T) (F:=F) (w:=w) (r:=.v (.one (.c (.lit XY)))) rfl hr;rw[this];exact CRel.nil s
theorem LWk.len {l m:List CV} (h:LWk l m):m.length=l.length:=by
 induction h with
 |nil=>rfl
 |cons _ _ ih=>simp[ih]
theorem LWk.get {l m:List CV} (h:LWk l m):∀(j:Nat) y,m[j]? =some y->∃x,l[j]? =some x/\CWk x y:=by
 induction h with
 |nil=>simp
 | cons hc _ ih=>
   intro j y hj;cases j with
   |zero=>cases hj;exact⟨_,rfl,hc⟩
   |succ j=>exact ih j y hj
theorem LWk.rel {F:Nat->Prop} {T:Nat->Value} {w:World} {l m:List CV} (h:LWk l m) {vs:Array Value} (hr:Xq F T w l vs):Xq F T w m vs:=by
 refine⟨hr.1.trans h.len.symm,fun j y u hy hu=>?_⟩;obtain⟨x,hx,hc⟩:=h.get j y hy;exact hc.rel (hr.2 j x u hx hu)
theorem Xb3 {s:HS} (k:Nat) {r r':RV} (hl:lkp s.regs k=some r) (hw:∀(F:Nat->Prop) (T:Nat->Value) (w:World) v,Xa F T w r v->Xa F T w r' v):le s {s with regs:=ins k r' s.regs}:=by
 intro w0 B U F T a w hr;refine⟨F,T,fun _ h=>h,fun _ h=>.inl h,hr.heap,hr.defers,hr.nt,fun j x hj=>?_⟩;rw[XQ]at hj;split at hj
 .rename_i e;cases hj;subst e;exact hw _ _ _ _ (hr.regs j r hl)
 exact hr.regs j x hj
theorem X24 {s:HS} (k:Nat) {xs:List CV} (ys:List CV) (hl:lkp s.regs k=some (.v (.agg xs))) (h:LWk xs ys):le s {s with regs:=ins k (.v (.agg ys)) s.regs}:=by
 refine Xb3 k hl fun F T w v hv=>?_;obtain⟨vs,rfl,hc⟩:=hv;exact⟨vs,rfl,h.rel hc⟩
theorem le_one {s:HS} (k sz:Nat) (hl:lkp s.regs k=some (.v (.one (.c (.lit XY))))):le s {s with regs:=ins k (.v (.one (.c (.sl sz [])))) s.regs}:=
 Xb3 k hl fun F T w v hv=>CWk.rel (T:=T) (CWk.nil sz) hv
theorem le_emp {s:HS} (k sz:Nat) {a:Addr} {cap:Nat} (hl:lkp s.regs k=some (.v (.one (.c (.lit (.slice (some a) 0 cap)))))):le s {s with regs:=ins k (.v (.one (.c (.sl sz [])))) s.regs}:=by
 refine Xb3 k hl fun F T w v hv=>?_;have:v=.slice (some a) 0 cap:=Xa.lit_eq rfl hv;rw[this];exact CRel.emp sz a cap
theorem X2b {s:HS} (t n d:Nat) {e:TypeId} {sz:Nat} {rows:List (List CD)} (hl:opd s.regs (.tmp t)=.v (.one (.own n))) (ho:lkp s.objs n=some (.row e sz rows)) (hd:d<1000000):
  le s ⟨s.nt,[(t,.v (.one (.own d)))],[(d,.row e sz rows)]⟩:=by
 have hp:X0m (fun _=>n) d=n:=by unfold X0m;rw[N7 (by omega)]
 refine Xl (fun _=>n) [] rfl ?_ ?_ ?_
 .refine⟨⟨rfl,?_⟩,trivial⟩;rw[hl];simp only[RV.ren,TV.ren,CV.ren,hp,List.contains_nil,Nz,Nc]
 .simp only[WY,List.contains_nil,Nz,Nc,Ob.okNil,hp,ho,Ob.ren,and_self]
 simp only[WY,true_or,and_self]
theorem le_nameN {s:HS} (t d:Nat) (e:TypeId) (sz:Nat) (hl:opd s.regs (.tmp t)=.v (.one (.c (.lit XY)))) (hs:0<sz) (hd:d<1000000):
  le s ⟨s.nt,[(t,.v (.one (.own d)))],[(d,.row e sz [])]⟩:=by
 refine Xl (fun n=>n) [d] rfl ?_ ?_ ?_ (by simpa using hd)
 .refine⟨⟨by simp[RV.okNil,TV.okNil,CV.okNil],?_⟩,trivial⟩;rw[hl];simp[RV.ren,TV.ren,CV.ren]
 .simp[WY,hs]
 simp[WY]
theorem XbI {P:Program} {f:FuncId} {fresh:Bool} {r:RV} {ob:Option Ob} {d s:Nat} (h1:Con P f fresh [.one (.c (.lit XY))] r ob d) (h2:∀a cap,Con P f fresh [.one (.c (.lit (.slice (some a) 0 cap)))] r ob d):Con P f fresh [.one (.c (.sl s []))] r ob d:=by
 refine⟨h1.1,fun F w vs hF hsz hargs=>?_⟩;have hv:∃u,vs[0]? =some u:=⟨vs[0]'(by rw[hsz];simp),by simp[hsz]⟩;obtain⟨u,hu⟩:=hv;have hr:CRel F w (.sl s []) u:=hargs 0 _ u rfl hu
 have go:∀(v:Value),u=v->Con P f fresh [.one (.c (.lit v))] r ob d->_:=fun v hv hc=>hc.2 F w vs hF (by simpa using hsz) fun j t u' ht hu'=>by
  cases j with
  | zero=>
    cases ht;rw[hu]at hu';cases hu';subst hv;exact CRel.lit u
  |succ j=>cases ht
 rcases CRel.sl_inv hr with⟨_,hv|⟨a,cap,hv⟩⟩|⟨b,o,cap,cells,hv,_⟩
 .exact go _ hv h1
 .exact go _ hv (h2 a cap)
 exact go _ hv (h2 _ cap)
end Go.Proofs.YtdajceakaakdoaaGreat
namespace Go.Proofs.YtdajceakaakdoaaGreat
open Go Go.Hl
open Tryz(prog)
attribute [simp] Ob.flat
def ms114:List (Nat×List Nat):=[(16383,[0,1,3,4,8]),(16382,[1,3,4,8]),(16381,[0,2,3,4,8]),(16375,[0,1,4,8]),(16367,[0,1,3,5,8]),(16127,[0,1,3,4,9]),(16380,[2,3,4,8]),(16374,[1,4,8]),(16366,[1,3,5,8]),(16126,[1,3,4,9]),(16377,[0,3,4,8]),(16373,[0,2,4,8]),(16365,[0,2,3,5,8]),(16125,[0,2,3,4,9]),(16359,[0,1,5,8]),(16119,[0,1,4,9]),(16335,[0,1,3,8]),(16111,[0,1,3,5,9]),(15615,[0,1,3,4,10]),(16376,[3,4,8]),(16372,[2,4,8]),(16364,[2,3,5,8]),(16124,[2,3,4,9]),(16358,[1,5,8]),(16118,[1,4,9]),(16334,[1,3,8]),(16110,[1,3,5,9]),(15614,[1,3,4,10]),(16369,[0,4,8]),(16361,[0,3,5,8]),(16121,[0,3,4,9]),(16357,[0,2,5,8]),(16117,[0,2,4,9]),(16333,[0,2,3,8]),(16109,[0,2,3,5,9]),(15613,[0,2,3,4,10]),(16327,[0,1,6,8]),(16103,[0,1,5,9]),(15607,[0,1,4,10]),(16079,[0,1,3,9]),(15599,[0,1,3,5,10]),(14591,[0,1,3,4]),(16368,[4,8]),(16360,[3,5,8]),(16120,[3,4,9]),(16356,[2,5,8]),(16116,[2,4,9]),(16332,[2,3,8]),(16108,[2,3,5,9]),(15612,[2,3,4,10]),(16326,[1,6,8]),(16102,[1,5,9]),(15606,[1,4,10]),(16078,[1,3,9]),(15598,[1,3,5,10]),(14590,[1,3,4]),(16353,[0,5,8]),(16113,[0,4,9]),(16329,[0,3,8]),(16105,[0,3,5,9]),(15609,[0,3,4,10]),(16325,[0,2,6,8]),(16101,[0,2,5,9]),(15605,[0,2,4,10]),(16077,[0,2,3,9]),(15597,[0,2,3,5,10]),(14589,[0,2,3,4]),(16263,[0,1,7,8]),(16071,[0,1,6,9]),(15591,[0,1,5,10]),(14583,[0,1,4]),(15567,[0,1,3,10]),(14575,[0,1,3,5]),(16352,[5,8]),(16112,[4,9]),(16328,[3,8]),(16104,[3,5,9]),(15608,[3,4,10]),(16324,[2,6,8]),(16100,[2,5,9]),(15604,[2,4,10]),(16076,[2,3,9]),(15596,[2,3,5,10]),(14588,[2,3,4]),(16262,[1,7,8]),(16070,[1,6,9]),(15590,[1,5,10]),(14582,[1,4]),(15566,[1,3,10]),(14574,[1,3,5]),(16321,[0,6,8]),(16097,[0,5,9]),(15601,[0,4,10]),(16073,[0,3,9]),(15593,[0,3,5,10]),(14585,[0,3,4]),(16261,[0,2,7,8]),(16069,[0,2,6,9]),(15589,[0,2,5,10]),(14581,[0,2,4]),(15565,[0,2,3,10]),(14573,[0,2,3,5]),(16135,[0,1,8]),(16007,[0,1,7,9]),(15559,[0,1,6,10]),(14567,[0,1,5]),(14543,[0,1,3]),(16320,[6,8]),(16096,[5,9]),(15600,[4,10]),(16072,[3,9]),(15592,[3,5,10]),(14584,[3,4]),(16260,[2,7,8]),(16068,[2,6,9]),(15588,[2,5,10]),(14580,[2,4]),(15564,[2,3,10]),(14572,[2,3,5]),(16134,[1,8]),(16006,[1,7,9]),(15558,[1,6,10]),(14566,[1,5]),(14542,[1,3]),(16257,[0,7,8]),(16065,[0,6,9]),(15585,[0,5,10]),(14577,[0,4]),(15561,[0,3,10]),(14569,[0,3,5]),(16133,[0,2,8]),(16005,[0,2,7,9]),(15557,[0,2,6,10]),(14565,[0,2,5]),(14541,[0,2,3]),(15879,[0,1,9]),(15495,[0,1,7,10]),(14535,[0,1,6]),(16256,[7,8]),(16064,[6,9]),(15584,[5,10]),(14576,[4]),(15560,[3,10]),(14568,[3,5]),(16132,[2,8]),(16004,[2,7,9]),(15556,[2,6,10]),(14564,[2,5]),(14540,[2,3]),(15878,[1,9]),(15494,[1,7,10]),(14534,[1,6]),(16129,[0,8]),(16001,[0,7,9]),(15553,[0,6,10]),(14561,[0,5]),(14537,[0,3]),(15877,[0,2,9]),(15493,[0,2,7,10]),(14533,[0,2,6]),(15367,[0,1,10]),(14471,[0,1,7]),(16128,[8]),(16000,[7,9]),(15552,[6,10]),(14560,[5]),(14536,[3]),(15876,[2,9]),(15492,[2,7,10]),(14532,[2,6]),(15366,[1,10]),(14470,[1,7]),(15873,[0,9]),(15489,[0,7,10]),(14529,[0,6]),(15365,[0,2,10]),(14469,[0,2,7]),(14343,[0,1,11]),(15872,[9]),(15488,[7,10]),(14528,[6]),(15364,[2,10]),(14468,[2,7]),(14342,[1,11]),(15361,[0,10]),(14465,[0,7]),(14341,[0,2,11]),(12295,[0,1]),(15360,[10]),(14464,[7]),(14340,[2,11]),(12294,[1]),(14337,[0,11]),(12293,[0,2]),(14336,[11]),(12292,[2]),(12289,[0]),(12288,[12]),(8192,[13])]
noncomputable def rgD (d:Nat):Code->Option (Array Oper)
 | .region _ ops _=>if(ops[0]?.bind (·.dst))=some d then some ops else none
 | .seq a b=>match rgD d a with
   |some p=>some p
   |none=>rgD d b
 | .cond _ a b=>match rgD d a with
   |some p=>some p
   |none=>rgD d b
 | .block _ b=>rgD d b
 | .loop b=>rgD d b
 | .scope b=>rgD d b
 |_=>none
def ZU (regs:List (Nat×RV)) (oA oB:List (Nat×Ob)) (outs:List (Nat×Nat×RV)) (R:List Nat):HS:=
 {trS ⟨⟨95,none⟩,regs,[]⟩ outs R with objs:=if R.contains 10 then oA else oB}
def QK (regs:List (Nat×RV)) (o:List (Nat×Ob)) (outs:List (Nat×Nat×RV)) (R:List Nat):HS:=
 {trS ⟨⟨95,none⟩,regs,[]⟩ outs R with objs:=o}
def X1B (l:List Bool):List (List CD):=l.map fun b=>[bC b]
@[simp] theorem encBl_len (l:List Bool):(X1B l).length=l.length:=by simp[X1B]
theorem X4z {l:List Bool} {k:Nat} {b:Bool} (h:l[k]? =some b):(X1B l)[k]? =some [bC b]:=by simp[X1B,h]
theorem Xc7 (l:List Bool) (k:Nat) (b:Bool):(X1B l).set k [CD.lit (.bool b)]=X1B (l.set k b):=by
 unfold X1B;rw[List.map_set]
theorem XcK (n:Nat):X1B (List.replicate n false)=List.replicate n [bC false]:=by simp[X1B]
@[simp] def lBl (l:List Bool):TV:=.one (.c (.sl 1 (X1B l)))
end Go.Proofs.YtdajceakaakdoaaGreat
