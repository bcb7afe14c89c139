/- Contracts of functions and plain facts about what they compute. Conditions: as each theorem states. -/
import Derived.Test.YtdajceakaakdoaaGreatProg
import Derived.Test.YtdajceakaakdoaaGreatH5
import Derived.KernelRfl
import Derived.Test.YtdajceakaakdoaaGreatH7
set_option linter.unusedSimpArgs false
set_option linter.unusedVariables false
set_option linter.unnecessarySimpa false
set_option maxRecDepth 100000
set_option maxHeartbeats 2000000
namespace Go.Proofs.YtdajceakaakdoaaGreat
open Go Go.Hl
open Tryz(prog)
@[simp] theorem ty3:XI prog 3=some ⟨1,8,false,[.int .i64 0],.other⟩:=by kernel_rfl
@[simp] theorem pf3:Qd prog 3=false/\Xv prog 3=false/\XI prog 4=some ⟨1,1,false,[.bool false],.other⟩/\X66 prog 4=true/\Qd prog 4=false/\Xv prog 4=false/\XI prog 5=some ⟨1,1,false,[.int .u8 0],.other⟩/\Qd prog 5=false/\Xv prog 5=false/\XI prog 9=some ⟨1,16,false,[.string ⟨#[]⟩],.other⟩/\strT prog 9=true/\Qd prog 9=false/\Xv prog 9=false/\XI prog 22=some ⟨1,24,false,[.slice none 0 0],.slice 89⟩/\Qd prog 22=false/\Xv prog 22=true/\XI prog 23=some ⟨1,24,false,[.slice none 0 0],.slice 93⟩/\Qd prog 23=false/\Xv prog 23=true/\XI prog 24=some ⟨1,24,false,[.slice none 0 0],.slice 70⟩/\Qd prog 24=false/\Xv prog 24=true/\XI prog 26=some ⟨3,72,true,[.slice none 0 0,.slice none 0 0,.slice none 0 0],.struct [(0,22),(1,23),(2,24)]⟩/\Qd prog 26=false/\Xv prog 26=false:=by and_intros<;>kernel_rfl
@[simp] theorem ty29:XI prog 29=some ⟨1,24,false,[.slice none 0 0],.slice 3⟩:=by kernel_rfl
@[simp] theorem pf29:Qd prog 29=false/\Xv prog 29=true/\XI prog 30=some ⟨1,8,false,[.int .i64 0],.other⟩/\Qd prog 30=false/\Xv prog 30=false/\XI prog 37=some ⟨1,24,false,[.slice none 0 0],.slice 51⟩/\Qd prog 37=false/\Xv prog 37=true/\XI prog 39=some ⟨3,40,true,[.int .i64 0,.int .i64 0,.slice none 0 0],.struct [(0,3),(1,3),(2,37)]⟩/\Qd prog 39=false/\Xv prog 39=false/\XI prog 43=some ⟨1,24,false,[.slice none 0 0],.slice 52⟩/\Qd prog 43=false/\Xv prog 43=true/\XI prog 45=some ⟨2,32,true,[.int .i64 0,.slice none 0 0],.struct [(0,3),(1,43)]⟩/\Qd prog 45=false/\Xv prog 45=false/\XI prog 49=some ⟨1,8,false,[.int .i64 0],.other⟩/\Qd prog 49=false/\Xv prog 49=false/\XI prog 51=some ⟨3,24,true,[.int .i64 0,.int .i64 0,.int .i64 0],.struct [(0,3),(1,3),(2,49)]⟩/\Qd prog 51=false/\Xv prog 51=false/\XI prog 52=some ⟨2,16,true,[.int .i64 0,.int .i64 0],.array 2 3⟩/\Qd prog 52=false/\Xv prog 52=false/\arrI prog 52=some (2,.i64)/\XI prog 59=some ⟨3,72,true,[.slice none 0 0,.slice none 0 0,.slice none 0 0],.struct [(0,29),(1,29),(2,29)]⟩/\Qd prog 59=false/\Xv prog 59=false/\XI prog 60=some ⟨6,144,true,[.slice none 0 0,.slice none 0 0,.slice none 0 0,.slice none 0 0,.slice none 0 0,.slice none 0 0],.array 2 59⟩/\Qd prog 60=false/\Xv prog 60=false/\XI prog 64=some ⟨1,8,false,[.int .i64 0],.other⟩/\Qd prog 64=false/\Xv prog 64=false/\XI prog 65=some ⟨1,8,false,[.int .i64 0],.other⟩/\Qd prog 65=false/\Xv prog 65=false/\XI prog 66=some ⟨1,24,false,[.slice none 0 0],.slice 68⟩:=by and_intros<;>kernel_rfl
@[simp] theorem pf66:Qd prog 66=false/\Xv prog 66=true/\XI prog 68=some ⟨3,40,true,[.int .i64 0,.int .i64 0,.slice none 0 0],.struct [(0,65),(1,3),(2,66)]⟩/\Qd prog 68=false/\Xv prog 68=false/\XI prog 70=some ⟨10,144,true,[.int .i64 0,.int .i64 0,.int .i64 0,.int .i64 0,.int .i64 0,.int .i64 0,.slice none 0 0,.slice none 0 0,.slice none 0 0,.slice none 0 0],.struct [(0,64),(1,3),(2,3),(3,3),(4,68),(7,24),(8,24),(9,29)]⟩/\Qd prog 70=false/\Xv prog 70=false/\XI prog 73=some ⟨1,24,false,[.slice none 0 0],.slice 4⟩/\Qd prog 73=false/\Xv prog 73=true/\XI prog 76=some ⟨1,24,false,[.slice none 0 0],.slice 150⟩/\Qd prog 76=false/\Xv prog 76=true/\XI prog 87=some ⟨1,8,false,[.int .i64 0],.other⟩/\Qd prog 87=false/\Xv prog 87=false/\XI prog 89=some ⟨5,48,true,[.string ⟨#[]⟩,.int .i64 0,.int .i64 0,.int .i64 0,.int .i64 0],.struct [(0,9),(1,87),(2,3),(3,3),(4,3)]⟩/\Qd prog 89=false/\Xv prog 89=false/\XI prog 93=some ⟨6,72,true,[.string ⟨#[]⟩,.int .i64 0,.int .i64 0,.int .i64 0,.int .i64 0,.slice none 0 0],.struct [(0,9),(1,3),(2,3),(3,68)]⟩/\Qd prog 93=false/\Xv prog 93=false/\XI prog 95=some ⟨1,24,false,[.slice none 0 0],.slice 9⟩/\Qd prog 95=false/\Xv prog 95=true/\XI prog 96=some ⟨1,24,false,[.slice none 0 0],.slice 207⟩/\Qd prog 96=false/\Xv prog 96=true/\XI prog 98=some ⟨6,112,true,[.slice none 0 0,.slice none 0 0,.slice none 0 0,.slice none 0 0,.int .i64 0,.bool false],.struct [(0,95),(1,43),(2,96),(3,96),(4,3),(5,4)]⟩/\Qd prog 98=false/\Xv prog 98=false/\XI prog 120=some ⟨7,120,true,[.slice none 0 0,.slice none 0 0,.slice none 0 0,.int .i64 0,.int .i64 0,.slice none 0 0,.bool false],.struct [(0,26),(3,3),(4,3),(5,37),(6,4)]⟩/\Qd prog 120=false/\Xv prog 120=false/\XI prog 121=some ⟨1,24,false,[.slice none 0 0],.slice 29⟩/\Qd prog 121=false/\Xv prog 121=true/\XI prog 122=some ⟨1,24,false,[.slice none 0 0],.slice 29⟩/\Qd prog 122=false:=by and_intros<;>kernel_rfl
@[simp] theorem sl122:Xv prog 122=true/\XI prog 127=some ⟨1,24,false,[.slice none 0 0],.slice 195⟩/\Qd prog 127=false/\Xv prog 127=true/\XI prog 129=some ⟨1,24,true,[.slice none 0 0],.struct [(0,127)]⟩/\Qd prog 129=false/\Xv prog 129=false/\XI prog 135=some ⟨1,8,false,[.map none],.other⟩/\Qd prog 135=false/\Xv prog 135=false/\XI prog 137=some ⟨5,104,true,[.slice none 0 0,.slice none 0 0,.slice none 0 0,.slice none 0 0,.map none],.struct [(0,26),(3,24),(4,135)]⟩/\Qd prog 137=false/\Xv prog 137=false/\XI prog 148=some ⟨7,152,true,[.slice none 0 0,.slice none 0 0,.slice none 0 0,.slice none 0 0,.slice none 0 0,.slice none 0 0,.int .i64 0],.struct [(0,26),(3,29),(4,29),(5,76),(6,3)]⟩/\Qd prog 148=false/\Xv prog 148=false/\XI prog 150=some ⟨2,16,true,[.int .i64 0,.int .i64 0],.struct [(0,3),(1,3)]⟩/\Qd prog 150=false/\Xv prog 150=false/\XI prog 157=some ⟨1,8,false,[.pointer none],.other⟩/\Qd prog 157=true/\Xv prog 157=false/\XI prog 158=some ⟨1,8,false,[.nilFunc],.other⟩/\Qd prog 158=false/\Xv prog 158=false/\Qd prog 162=false/\Xv prog 162=false/\XI prog 182=some ⟨2,16,true,[.int .i64 0,.bool false],.struct [(0,3),(1,4)]⟩/\Qd prog 182=false/\Xv prog 182=false/\XI prog 185=some ⟨3,24,true,[.int .i64 0,.int .i64 0,.int .i64 0],.struct [(0,3),(1,3),(2,3)]⟩/\Qd prog 185=false/\Xv prog 185=false/\XI prog 190=some ⟨1,24,false,[.slice none 0 0],.slice 191⟩/\Qd prog 190=false/\Xv prog 190=true/\XI prog 191=some ⟨1,8,false,[.map none],.other⟩/\mapT prog 191=some (.int .i64,.bool false)/\X75 prog 191=true/\Qd prog 191=false:=by and_intros<;>kernel_rfl
@[simp] theorem sf191:Xv prog 191=false/\XI prog 192=some ⟨1,8,false,[.nilFunc],.other⟩/\Qd prog 192=false/\Xv prog 192=false/\XI prog 193=some ⟨1,8,false,[.int .i64 0],.other⟩/\Qd prog 193=false/\Xv prog 193=false/\XI prog 195=some ⟨4,32,true,[.int .i64 0,.int .i64 0,.int .i64 0,.int .i64 0],.struct [(0,193),(1,3),(2,3),(3,3)]⟩/\Qd prog 195=false/\Xv prog 195=false/\XI prog 202=some ⟨1,8,false,[.pointer none],.other⟩/\Qd prog 202=true/\Xv prog 202=false/\XI prog 207=some ⟨2,24,true,[.string ⟨#[]⟩,.int .i64 0],.struct [(0,9),(1,3)]⟩/\Qd prog 207=false/\Xv prog 207=false/\XI prog 216=some ⟨1,8,false,[.int .i64 0],.other⟩/\Qd prog 216=false/\Xv prog 216=false/\Qd prog 223=false/\Xv prog 223=false/\Qd prog 225=false/\Xv prog 225=false/\XI prog 241=some ⟨1,24,false,[.slice none 0 0],.slice 87⟩/\Qd prog 241=false/\Xv prog 241=true/\XI prog 244=some ⟨1,24,false,[.slice none 0 0],.slice 24⟩/\Qd prog 244=false/\Xv prog 244=true/\XI prog 245=some ⟨1,8,false,[.pointer none],.other⟩/\Qd prog 245=true/\Xv prog 245=false/\XI prog 247=some ⟨2,32,true,[.slice none 0 0,.int .i64 0],.struct [(0,127),(1,3)]⟩/\Qd prog 247=false/\Xv prog 247=false/\XI prog 248=some ⟨1,24,false,[.slice none 0 0],.slice 250⟩/\Qd prog 248=false/\Xv prog 248=true/\XI prog 250=some ⟨1,8,false,[.nilFunc],.other⟩/\Qd prog 250=false:=by and_intros<;>kernel_rfl
@[simp] theorem sf250:Xv prog 250=false/\XI prog 262=some ⟨1,8,false,[.map none],.other⟩/\mapT prog 262=some (.string,.int .i64 0)/\X75 prog 262=true/\Qd prog 262=false/\Xv prog 262=false/\XI prog 263=some ⟨1,24,false,[.slice none 0 0],.slice 73⟩/\Qd prog 263=false/\Xv prog 263=true/\XI prog 265=some ⟨5,104,true,[.slice none 0 0,.map none,.slice none 0 0,.slice none 0 0,.slice none 0 0],.struct [(0,95),(1,262),(2,263),(3,121),(4,121)]⟩/\Qd prog 265=false/\Xv prog 265=false/\XI prog 271=some ⟨2,48,true,[.slice none 0 0,.slice none 0 0],.struct [(0,95),(1,263)]⟩/\Qd prog 271=false/\Xv prog 271=false/\Qd prog 273=false/\Xv prog 273=false/\XI prog 287=some ⟨2,16,true,[.int .i64 0,.int .i64 0],.struct [(0,3),(1,3)]⟩/\Qd prog 287=false/\Xv prog 287=false/\XI prog 296=some ⟨1,8,false,[.map none],.other⟩/\mapT prog 296=some (.string,.bool false)/\X75 prog 296=true/\Qd prog 296=false/\Xv prog 296=false/\XI prog 309=some ⟨1,24,false,[.slice none 0 0],.slice 287⟩/\Qd prog 309=false/\Xv prog 309=true/\X6k prog 89=some [false,true,true,true,true]/\arrI prog 89=none:=by and_intros<;>kernel_rfl
theorem Xa {n:Int} (h1:-9223372036854775808<=n:=by omega) (h2:n<=9223372036854775807:=by omega):IntKind.i64.wrap n=n:=IntWalk.i64_in n ⟨h1,h2⟩
inductive Tm where
 |mk (op n:Int) (kids:List Tm)
mutual
def Tm.enc:Tm->List CD
 | .mk o n ks=>[iC o,iC n,.sl 3 (Xx ks)]
def Xx:List Tm->N1
 |[]=>[]
 |t::l=>t.enc::Xx l
end
inductive St where
 |mk (do_ cost var n:Int) (term:Tm) (then_ else_:List St) (bounds:List Int)
def X9 (l:List Int):N1:=l.map fun n=>[iC n]
mutual
def St.enc:St->List CD
 | .mk d c v n t a b bs=>[iC d,iC c,iC v,iC n]++t.enc++[.sl 10 (X7 a),.sl 10 (X7 b),.sl 1 (X9 bs)]
def X7:List St->N1
 |[]=>[]
 |s::l=>s.enc::X7 l
end
structure Vr where
 name:ByteArray
 kind:Int
 low:Int
 high:Int
 init:Int
structure Ht where
 name:ByteArray
 low:Int
 high:Int
 term:Tm
structure Fl where
 vars:List Vr
 hats:List Ht
 body:List St
def Vr.enc (v:Vr):List CD:=[sC v.name,iC v.kind,iC v.low,iC v.high,iC v.init]
def Ht.enc (h:Ht):List CD:=[sC h.name,iC h.low,iC h.high]++h.term.enc
def Xk (l:List Vr):N1:=l.map Vr.enc
def Xn (l:List Ht):N1:=l.map Ht.enc
def Fl.enc (f:Fl):List CD:=[.sl 5 (Xk f.vars),.sl 6 (Xn f.hats),.sl 10 (X7 f.body)]
attribute [simp] Vr.enc Ht.enc Fl.enc Tm.enc St.enc
theorem X1k (l:List Tm):Xx l=l.map Tm.enc:=by
 induction l with
 |nil=>simp[Xx]
 |cons t l ih=>simp[Xx,ih]
theorem WU (l:List St):X7 l=l.map St.enc:=by
 induction l with
 |nil=>simp[X7]
 |cons t l ih=>simp[X7,ih]
theorem Tm.ind {p:Tm->Prop} (h:∀o n ks,(∀t∈ks,p t)->p (.mk o n ks)):∀t,p t
 | .mk o n ks=>h o n ks fun t ht=>Tm.ind h t
theorem St.ind {p:St->Prop} (h:∀d c v n t a b bs,(∀s∈a,p s)->(∀s∈b,p s)->p (.mk d c v n t a b bs)):∀s,p s
 | .mk d c v n t a b bs=>h d c v n t a b bs (fun s hs=>St.ind h s) (fun s hs=>St.ind h s)
def Tm.op:Tm->Int| .mk o _ _=>o
def Tm.n:Tm->Int| .mk _ n _=>n
def Tm.kids:Tm->List Tm| .mk _ _ k=>k
def St.do_:St->Int| .mk d _ _ _ _ _ _ _=>d
def St.cost:St->Int| .mk _ c _ _ _ _ _ _=>c
def St.var:St->Int| .mk _ _ v _ _ _ _ _=>v
def St.n:St->Int| .mk _ _ _ n _ _ _ _=>n
def St.term:St->Tm| .mk _ _ _ _ t _ _ _=>t
def St.then_:St->List St| .mk _ _ _ _ _ a _ _=>a
def St.else_:St->List St| .mk _ _ _ _ _ _ b _=>b
def St.bounds:St->List Int| .mk _ _ _ _ _ _ _ bs=>bs
abbrev aT (t:Tm):TV:=.agg (t.enc.map .c)
abbrev aS (s:St):TV:=.agg (s.enc.map .c)
abbrev aV (v:Vr):TV:=.agg (v.enc.map .c)
abbrev aH (h:Ht):TV:=.agg (h.enc.map .c)
abbrev aF (f:Fl):TV:=.agg (f.enc.map .c)
abbrev lV (l:List Vr):TV:=.one (.c (.sl 5 (Xk l)))
abbrev lS (l:List St):TV:=.one (.c (.sl 10 (X7 l)))
abbrev lI (l:List Int):TV:=.one (.c (.sl 1 (X9 l)))
theorem Wu {ks:List Tm} {i:Nat} {t:Tm} (h:ks[i]? =some t):(Xx ks)[i]? =some t.enc:=by rw[X1k,Nn,h];rfl
theorem Q4 {ks:List St} {i:Nat} {t:St} (h:ks[i]? =some t):(X7 ks)[i]? =some t.enc:=by rw[WU,Nn,h];rfl
@[simp] theorem len_encT (ks:List Tm):(Xx ks).length=ks.length:=by rw[X1k,NW]
@[simp] theorem len_encS (ks:List St):(X7 ks).length=ks.length:=by rw[WU,NW]
@[simp] theorem len_encV (ks:List Vr):(Xk ks).length=ks.length:=by simp[Xk]
@[simp] theorem len_encH (ks:List Ht):(Xn ks).length=ks.length:=by simp[Xn]
@[simp] theorem Z6 (ks:List Int):(X9 ks).length=ks.length:=by simp[X9]
@[simp] theorem get_encV (ks:List Vr) (i:Nat):(Xk ks)[i]? =ks[i]?.map Vr.enc:=by simp[Xk]
@[simp] theorem get_encH (ks:List Ht) (i:Nat):(Xn ks)[i]? =ks[i]?.map Ht.enc:=by simp[Xn]
@[simp] theorem X6O (ks:List Int) (i:Nat):(X9 ks)[i]? =ks[i]?.map fun n=>[iC n]:=by simp[X9]
@[simp] theorem encV_nil:Xk []=[]:=rfl
@[simp] theorem encH_nil:Xn []=[]:=rfl
@[simp] theorem encI_nil:X9 []=[]:=rfl
attribute [simp] Xx X7
theorem Xt {T:Type} {l:List T} {k:Nat} (h:k<l.length):∃x,l[k]? =some x/\l.drop k=x::l.drop (k+1):=
 ⟨l[k],Nz h,List.drop_eq_getElem_cons h⟩
theorem XD {k n:Nat} (h:k<n) (hn:n<=1000000000):IntKind.i64.wrap ((k:Int)+1)=(k:Int)+1:=Xa
def QT (a b:Int):Bool:=decide (a<=b)&&(decide (-1048576<=a)&&decide (b<=1048576))
theorem X09 (a b:Int) (d:Nat):Con prog 181 true [li a,li b] (.v (lb (QT a b))) none d:=by
 refine X5 Tryz.func181 ?_;simp only[Tryz.f181];refine X2 ?_;refine X2 ?_;exact(Xc (he:=by first|rfl|(simp[*,QT,Dw];done)|(simp only[XG,QT,Dw];(repeat' split)<;>first|rfl|(exfalso;omega)|simp_all)))
theorem X08 (a b:Int) (d:Nat):Con prog 51 true [li a,li b] (.v (lb (QT a b))) none d:=by
 refine X5 Tryz.func51 ?_;simp only[Tryz.f51];refine X2 ?_;refine X2 ?_;exact(Xc (he:=by first|rfl|(simp[*,QT,Dw];done)|(simp only[XG,QT,Dw];(repeat' split)<;>first|rfl|(exfalso;omega)|simp_all)))
def Q5 (o:Int):Int×Int:=if o=0\/o=24 then(0,0)else if o=6\/o=7 then(1,1)else if 8<=o/\o<=22 then(2,2)else if o=23 then(3,3)else if o=25 then(2,33)else(-1,-1)
theorem X7a (o:Int) (d:Nat):Con prog 248 true [li o] (.tup [li (Q5 o).1,li (Q5 o).2]) none d:=by
 refine X5 Tryz.func248 ?_;simp only[Tryz.f248];refine X2 ?_;refine X0<|X3<|X0<|X1 ?_;refine(X6 rfl (fun h2=>?_) (fun h2=>?_))
 ·simp only[BN]at h2;refine X2 ?_;exact(Xc (he:=by first|rfl|(simp[*,Q5];done)|(simp only[XG,Q5];(repeat' split)<;>first|rfl|(exfalso;omega)|simp_all)))
 simp only[BN]at h2;refine X2 ?_;refine(X6 rfl (fun h6=>?_) (fun h6=>?_))
 ·simp only[BN]at h6;refine X2 ?_;exact(Xc (he:=by first|rfl|(simp[*,Q5];done)|(simp only[XG,Q5];(repeat' split)<;>first|rfl|(exfalso;omega)|simp_all)))
 simp only[BN]at h6;refine X2 ?_;refine(X6 rfl (fun h10=>?_) (fun h10=>?_))
 ·simp only[BN]at h10;refine X2 ?_;exact(Xc (he:=by first|rfl|(simp[*,Q5];done)|(simp only[XG,Q5];(repeat' split)<;>first|rfl|(exfalso;omega)|simp_all)))
 simp only[BN]at h10;refine X2 ?_;refine(X6 rfl (fun h14=>?_) (fun h14=>?_))
 ·simp only[BN]at h14;refine X2 ?_;exact(Xc (he:=by first|rfl|(simp[*,Q5];done)|(simp only[XG,Q5];(repeat' split)<;>first|rfl|(exfalso;omega)|simp_all)))
 simp only[BN]at h14;refine X2 ?_;refine(Xb rfl (fun h18=>?_) fun h18=>?_)
 ·simp only[BN]at h18;refine X2 ?_;exact(Xc (he:=by first|rfl|(simp[*,Q5];done)|(simp only[XG,Q5];(repeat' split)<;>first|rfl|(exfalso;omega)|simp_all)))
 simp only[BN]at h18;refine X2 ?_;exact(Xc (he:=by first|rfl|(simp[*,Q5];done)|(simp only[XG,Q5];(repeat' split)<;>first|rfl|(exfalso;omega)|simp_all)))
theorem Zj (n:Int) (b:Bool) (d:Nat):Con prog 113 true [.one (.c (.ptr [iC n,bC b]))] (.v (lb (b||decide (1024<n)))) none d:=by
 refine X5 Tryz.func113 ?_;simp only[Tryz.f113];refine X2 ?_;refine X2 ?_;exact Xc
def X53 (s:ByteArray) (i:Nat):Bool:=
 match s[i]? with
 |some b=>(decide (97<=(b.toNat:Int))&&decide ((b.toNat:Int)<=122))||(decide (i≠0)&&((decide (48<=(b.toNat:Int))&&decide ((b.toNat:Int)<=57))||decide ((b.toNat:Int)=46)||decide ((b.toNat:Int)=95)))
 |none=>false
def X06 (s:ByteArray):Bool:=decide (1<=s.size)&&decide (s.size<=40)&&(List.range s.size).all (X53 s)
theorem X7N {s:ByteArray} {k:Nat} (h:k<s.size):∃b,s[k]? =some b:=⟨s[k],by simp[h]⟩
theorem Xaj {s:ByteArray}:s=⟨#[]⟩↔s.size=0:=by
 obtain⟨a⟩:=s;constructor
 .intro h;cases h;rfl
 intro h;have:a= #[]:=Array.eq_empty_of_size_eq_zero h;rw[this]
theorem X7Y {s:ByteArray} {k:Nat} (hk:k<s.size) (h:X53 s k=false):X06 s=false:=by
 unfold X06;rw[NA];refine .inr ?_;rw[List.all_eq_false];exact⟨k,by simpa using hk,by simp[h]⟩
theorem X6V {s:ByteArray} (h1:1<=s.size) (h2:s.size<=40) (h:∀j:Nat,j<s.size->X53 s j=true):X06 s=true:=by
 unfold X06;simp only[h1,h2,decide_true,NQ,Nm,List.mem_range];exact h
theorem X2O (s:ByteArray) (d:Nat):Con prog 179 true [sv s] (.v (lb (X06 s))) none d:=by
 refine X5 Tryz.func179 ?_;simp only[Tryz.f179];refine X2 ?_;refine X0<|X0<|X1 ?_;refine(Xb rfl (fun h2=>?_) fun h2=>?_)
 .simp only[BN]at h2
  have hz:X06 s=false:=by
   unfold X06;simp only[Xaj]at h2;rw[NA,NA];simp only[Nh];omega
  refine X2 ?_;exact Xc
 simp only[BN]at h2;simp only[Xaj]at h2;have h1:1<=s.size:=by omega
 have h40:s.size<=40:=by omega
 refine X0<|X0<|X1 ?_;refine X3<|(Xg [0,14] (fun(x:Nat)=>[(15,.v (li x))]) (fun x=>[]) (fun x=>x<=s.size/\∀j:Nat,j<x->X53 s j=true) (fun x=>s.size - x) (0:Nat) ⟨Nq _,fun j hj=>absurd hj (Dv j)⟩ ?_ ?_)
 .exact X4 (fun n=>n) []
 rintro k ⟨hk,hall⟩;simp only[upS,X8,Xz]
 simp only[KN,Nat.reduceBEq,Nj,Nc,ins,Nat.reduceLT]
 refine X2 ?_;refine X0<|(X6 rfl (fun h8=>Xe ?_) (fun h8=>?_))
 ·simp only[BN]at h8;have hlt:k<s.size:=by omega
  obtain⟨b,hb⟩:=X7N hlt;have hw:=XD hlt (by omega);have hk1:k+1<=s.size:=hlt;clear hlt h8;refine X0<|X3<|X0<|X1 ?_;refine X2 ?_;refine X2 ?_;refine X2 ?_;refine(Xb rfl (fun h13=>?_) fun h13=>?_)
  .simp only[BN]at h13
   have hbad:X53 s k=false:=by
    unfold X53;rw[hb];simp only[NR,NA,Nh];omega
   have hz:=X7Y hk1 hbad;refine X2 ?_;exact Xc
  simp only[BN]at h13
  have hgood:X53 s k=true:=by
   unfold X53;rw[hb];simp only[Nf,N3,N5];omega
  refine X1 ?_;exact⟨k+1,⟨by omega,fun j hj=>(Nat.lt_succ_iff_lt_or_eq.1 hj).elim (hall j) (fun e=>e▸hgood)⟩,by omega,X4 (fun n=>n) []⟩
 simp only[BN]at h8;have hz:=X6V h1 h40 (fun j hj=>hall j (by omega));refine(Xi ?_);refine X2 ?_;exact Xc
mutual
def Tm.nodes:Tm->Nat
 | .mk _ _ ks=>1+Qm ks
def Qm:List Tm->Nat
 |[]=>0
 |t::l=>t.nodes+Qm l
end
mutual
def St.nodes:St->Nat
 | .mk _ _ _ _ t a b bs=>1+t.nodes+Xl a+Xl b
def Xl:List St->Nat
 |[]=>0
 |s::l=>s.nodes+Xl l
end
theorem X7s (t:Tm):1<=t.nodes:=by cases t;simp[Tm.nodes]
theorem Xc0 (t:St):1<=t.nodes:=by cases t;simp[St.nodes];omega
theorem WN:∀l:List Tm,l.length<=Qm l
 |[]=>by simp[Qm]
 |t::l=>by have:=WN l;have:=X7s t;simp only[Qm,List.length_cons];omega
theorem Qs:∀l:List St,l.length<=Xl l
 |[]=>by simp[Xl]
 |t::l=>by have:=Qs l;have:=Xc0 t;simp only[Xl,List.length_cons];omega
mutual
def mTm:Tm->Int->Int×Bool->Int×Bool
 | .mk _ _ ks,dep,s=>if((s.2||decide (12<dep))||decide (1024<s.1+1))=true then(s.1+1,s.2||decide (12<dep))else X3w ks (dep+1) (s.1+1,s.2||decide (12<dep))
def X3w:List Tm->Int->Int×Bool->Int×Bool
 |[],_,s=>s
 |t::l,dep,s=>X3w l dep (mTm t dep s)
end
mutual
theorem X1F:∀(t:Tm) (dep:Int) (s:Int×Bool),s.1<=(mTm t dep s).1/\(mTm t dep s).1<=s.1+t.nodes
 | .mk o n ks,dep,s=>by
   have:=Xcl ks (dep+1) (s.1+1,s.2||decide (12<dep));simp only[mTm,Tm.nodes];split
   .simp only;omega
   simp only at this;omega
theorem Xcl:∀(l:List Tm) (dep:Int) (s:Int×Bool),s.1<=(X3w l dep s).1/\(X3w l dep s).1<=s.1+Qm l
 |[],dep,s=>by simp[X3w,Qm]
 | t::l,dep,s=>by
   have h1:=X1F t dep s;have h2:=Xcl l dep (mTm t dep s);simp only[X3w,Qm];omega
end
theorem X7g (t:Tm):∀(dep c:Int) (b:Bool),0<=dep->0<=c->c+t.nodes<=1000000000->
  X9y prog 114 [iC c,bC b] [aT t,li dep] (.tup []) [iC (mTm t dep (c,b)).1,bC (mTm t dep (c,b)).2]:=by
 induction t using Tm.ind with
 |h o n ks ih=>
 intro dep c b hdep hc hn;simp only[Tm.nodes]at hn;obtain⟨res,hres⟩:∃r,mTm (.mk o n ks) dep (c,b)=r:=⟨_,rfl⟩;rw[hres];simp only[mTm]at hres;have hlen:=WN ks;have hw:IntKind.i64.wrap (c+1)=c+1:=Xa;refine X4a Tryz.func114 rfl (by kernel_rfl) (NL rfl) ?_;simp only[Tryz.f114,aT,Tm.enc];refine X2 ?_;refine X2 ?_;refine X2 ?_;refine X0<|X0<|(Xo [⟨true,.v (lb ((b||decide (12<dep))||decide (1024<c+1))),none⟩] ?_ ?_)
 .first|exact Zj _ _ _|exact trivial|simpa[*]using Zj _ _ _
 refine(Xb rfl (fun h4=>?_) fun h4=>?_)
 ·simp only[BN]at h4;rw[N8 (by simpa using h4)]at hres;subst hres;exact XZ (⟨.inr rfl,_,le_refl _,⟨_,by simp[*];rfl,by simp[XG]⟩,by simp[*]⟩)
 simp only[BN]at h4;rw[N7 (by simpa using h4)]at hres;have hdep2:dep<=12:=by omega
 have hwd:IntKind.i64.wrap (dep+1)=dep+1:=Xa;refine X2 ?_;refine X3<|(Xg [0,2,29,30] (fun(x:Nat×Int×Bool)=>[(31,.v (li x.1))]) (fun x=>[(1000000,.box [.c (iC x.2.1),.c (bC x.2.2)])]) (fun x=>x.1<=ks.length/\X3w (ks.drop x.1) (dep+1) x.2=res/\0<=x.2.1/\x.2.1+Qm (ks.drop x.1)<=1000000000) (fun x=>ks.length - x.1) (0,c+1,b||decide (12<dep)) ⟨Nq _,hres,by simp only;omega,by simp only[List.drop_zero];omega⟩ ?_ ?_)
 .exact X4 (fun n=>n) []
 rintro⟨k,m,q⟩ ⟨hk,hJ,hm,hb⟩;simp only[upS,X8,Xz]
 simp only[KN,Nat.reduceBEq,Nj,Nc,ins,Nat.reduceLT]
 simp only at hk hJ hm hb;refine X2 ?_;refine X0<|(X6 rfl (fun h9=>Xe ?_) (fun h9=>?_))
 ·simp only[BN]at h9;have hlt:k<ks.length:=by omega
  obtain⟨⟨eo,en,ek⟩,he,hd⟩:=Xt hlt;have he':=Wu he;simp only[Tm.enc]at he';have hw1:=XD hlt (by omega);rw[hd]at hJ hb;simp only[X3w,Qm]at hJ hb;have hk1:k+1<=ks.length:=hlt;have hmem:Tm.mk eo en ek∈ks:=N4 he;have hle:=X1F (.mk eo en ek) (dep+1) (m,q);clear hlt h9;refine X0<|X3<|X0<|X1 ?_;refine(X0X 4 (.tup []) ([iC (mTm (.mk eo en ek) (dep+1) (m,q)).1,bC (mTm (.mk eo en ek) (dep+1) (m,q)).2]) rfl (by simp[*];rfl) (by simp[ioOf, *];first|exact⟨rfl,rfl,rfl,rfl,rfl⟩|exact⟨rfl,rfl,rfl,rfl⟩|exact⟨rfl,rfl,rfl⟩|exact⟨rfl,rfl⟩|rfl) (ih _ hmem (dep+1) m q (by omega) hm (by omega)) (by simp) (by simp[*];rfl) ?_);refine X1 ?_;exact⟨(k+1,mTm (.mk eo en ek) (dep+1) (m,q)),⟨hk1,hJ,by simp only at hle⊢;omega,by simp only at hle⊢;omega⟩,by simp only;omega,X4 (fun n=>n) []⟩
 simp only[BN]at h9;have hkl:k=ks.length:=by omega
 subst hkl;rw[Nw]at hJ;simp only[X3w]at hJ;subst hJ;refine(Xi ?_);exact(⟨.inl rfl,_,le_refl _,⟨_,by simp[*];rfl,by simp[XG]⟩,by simp[*]⟩)
def X1K (k:List (Int×Int)):N1:=k.map fun p=>[iC p.1,iC p.2]
@[simp] theorem len_encP (k:List (Int×Int)):(X1K k).length=k.length:=by simp[X1K]
@[simp] theorem get_encP (k:List (Int×Int)) (i:Nat):(X1K k)[i]? =k[i]?.map fun p=>[iC p.1,iC p.2]:=by simp[X1K]
@[simp] theorem encP_nil:X1K []=[]:=rfl
abbrev aP (p:Int×Int):TV:=.agg [.c (iC p.1),.c (iC p.2)]
def mn (a b:Int):Int:=if b<a then b else a
def mx (a b:Int):Int:=if a<b then b else a
def ZC (p q:Int×Int):Int×Int:=(mn p.1 q.1,mx p.2 q.2)
def X2U:List (Int×Int)->Int×Int->Int×Int
 |[],p=>p
 |q::l,p=>X2U l (ZC p q)
def mulP (a b:Int×Int):Int×Int:=ZC (ZC (ZC (a.1*b.1,a.1*b.1) (a.1*b.2,a.1*b.2)) (a.2*b.1,a.2*b.1)) (a.2*b.2,a.2*b.2)
def bnd (p:Int×Int):Prop:=-1048576<=p.1/\p.1<=p.2/\p.2<=1048576
theorem X44 (p q:Int×Int) (d:Nat):Con prog 264 true [aP p,aP q] (.v (aP (ZC p q))) none d:=by
 refine X5 Tryz.func264 ?_;simp only[Tryz.f264];refine X2 ?_;refine X2 ?_;exact(Xc (he:=by simp[XG,ZC,mn,mx]))
theorem X60 {x y:Int} (hx:-1048576<=x/\x<=1048576) (hy:-1048576<=y/\y<=1048576):-1099511627776<=x*y/\x*y<=1099511627776:=by
 have h1:x.natAbs<=1048576:=by omega
 have h2:y.natAbs<=1048576:=by omega
 have h3:=Nat.mul_le_mul h1 h2;rw[<-Int.natAbs_mul]at h3;omega
theorem X4g (x y:Int) (hx:-1048576<=x/\x<=1048576) (hy:-1048576<=y/\y<=1048576) (d:Nat):Con prog 263 true [li x,li y] (.v (li (x*y))) none d:=by
 have hm:=X60 hx hy;have hw:IntKind.i64.wrap (x*y)=x*y:=Xa;refine X5 Tryz.func263 ?_;simp only[Tryz.f263];refine X2 ?_;refine X2 ?_;exact Xc
def Xa5:List Int->Int×Int->Int×Int
 |[],p=>p
 |q::l,p=>Xa5 l (ZC p (q,q))
theorem X5g (a b:Int×Int) (ha:bnd a) (hb:bnd b) (d:Nat):Con prog 262 true [aP a,aP b,.one (.fn 263 [])] (.v (aP (mulP a b))) none d:=by
 obtain⟨a1,a2⟩:=a;obtain⟨b1,b2⟩:=b;simp only[bnd]at ha hb;refine X5 Tryz.func262 ?_;simp only[Tryz.f262];obtain⟨L,hL⟩:∃L,L=[a1*b2,a2*b1,a2*b2]:=⟨_,rfl⟩;have hlen:L.length=3:=by rw[hL];rfl
 obtain⟨res,hres⟩:∃res,mulP (a1,a2) (b1,b2)=res:=⟨_,rfl⟩;rw[hres];have hres2:Xa5 L (a1*b1,a1*b1)=res:=by rw[<-hres,hL];rfl
 clear hres;refine X2 ?_;refine Xh [⟨true,.v (li (a1*b1)),none⟩] ?_ ?_
 .first|exact X4g _ _ (by omega) (by omega) _|exact trivial|simpa[*]using X4g _ _ (by omega) (by omega) _
 refine X2 ?_;refine X0<|X0<|(XU [⟨true,.v (li (a1*b2)),none⟩,⟨true,.v (li (a2*b1)),none⟩,⟨true,.v (li (a2*b2)),none⟩] (by kernel_rfl) (by kernel_rfl) (by rfl) (by simp[*];first|exact⟨rfl,Iff.rfl⟩|exact⟨rfl,trivial⟩|rfl) ?_ ?_)
 .first|exact trivial|exact trivial|(repeat' first|exact trivial|exact X4g _ _ (by omega) (by omega) _|exact X4g _ _ (by omega) (by omega) _|exact X4g _ _ (by omega) (by omega) _|apply And.intro)
 refine X3<|(Xg [6,8,38,39] (fun(x:Nat×Int×Int)=>[(40,.v (li x.1))]) (fun x=>[(6,.box [.c (iC 0),.c (iC 0)]),(8,.box [.c (iC x.2.1),.c (iC x.2.2)]),(38,.row 3 1 (X9 L))]) (fun x=>x.1<=3/\Xa5 (L.drop x.1) x.2=res) (fun x=>3 - x.1) (0,a1*b1,a1*b1) ⟨Nq _,hres2⟩ ?_ ?_)
 .exact Xw (fun n=>n) [] rfl (by simp[*,upS,X8]) (by simp[upS,X9,hL]) (by simp[upS])
 rintro⟨k,m,q⟩ ⟨hk,hJ⟩;simp only[upS,X8,Xz]
 simp only[KN,Nat.reduceBEq,Nj,Nc,ins,Nat.reduceLT]
 simp only at hk hJ;clear hres2 hL;refine X2 ?_;refine X0<|(X6 rfl (fun h6=>Xe ?_) (fun h6=>?_))
 ·simp only[BN]at h6;have hlt:k<L.length:=by omega
  obtain⟨e,he,hd⟩:=Xt hlt;have hw1:=XD hlt (by omega);rw[hd]at hJ;simp only[Xa5]at hJ;have hk1:k+1<=3:=by omega
  clear hlt h6;refine X0<|X3<|X0<|X1 ?_;refine(Xo [⟨true,.v (aP (ZC (m,q) (e,e))),none⟩] ?_ ?_)
  .first|exact X44 (m,q) (e,e) _|exact trivial|simpa[*]using X44 (m,q) (e,e) _
  refine X1 ?_;exact⟨(k+1,ZC (m,q) (e,e)),⟨hk1,hJ⟩,by simp only;omega,X4 (fun n=>n) []⟩
 simp only[BN]at h6;have hkl:k=L.length:=by omega
 rw[hkl,Nw]at hJ;simp only[Xa5]at hJ;refine(Xi ?_);refine X2 ?_;exact(Xc (he:=by subst hJ;rfl))
def X0a (vars:List Vr) (inp:Bool) (n:Int):Bool:=
 decide (0<=n)&&match vars[n.toNat]? with
  |some v=> !(inp&&decide (v.kind=0))
  |none=>false
def Q3 (vars:List Vr) (inp:Bool) (o n:Int) (len:Nat):Bool:=
 (!decide ((Q5 o).1<0)&&(!decide ((len:Int)<(Q5 o).1)&& !decide ((Q5 o).2<(len:Int))))&&(if o=0 then true else if o=24 then X0a vars inp n else decide (n=0))
mutual
def Qu (vars:List Vr) (inp:Bool):Tm->Bool
 | .mk o n ks=>Q3 vars inp o n ks.length&&WD vars inp ks
def WD (vars:List Vr) (inp:Bool):List Tm->Bool
 |[]=>true
 |t::l=>Qu vars inp t&&WD vars inp l
end
theorem ZO {vars:List Vr} {inp:Bool}:∀{l:List Tm},WD vars inp l=true->∀t∈l,Qu vars inp t=true
 |[],_,t,ht=>by cases ht
 | a::l,h,t,ht=>by
   simp only[WD,N3]at h;rcases Ng.1 ht with rfl|h1
   .exact h.1
   exact ZO h.2 t h1
theorem X3H {vars:List Vr} {n:Int}:(0<=n/\n<vars.length)->∃v,vars[n.toNat]? =some v:=by
 rintro⟨h1,h2⟩;have:n.toNat<vars.length:=by omega
 exact⟨vars[n.toNat],by simp[this]⟩
theorem X1l {vars:List Vr} {n:Int} (h1:0<=n) (h2:¬n<vars.length):vars[n.toNat]? =none:=by
 rw[Ny];omega
theorem Xdf (vars:List Vr) (inp:Bool) (hv:vars.length<=1000000000) (t:Tm):t.nodes<=1000000000->∀d:Nat,
  Con prog 220 true [lV vars,aT t,lb inp] (.v (lb (Qu vars inp t))) none d:=by
 induction t using Tm.ind with
 |h o n ks ih=>
 intro hn d;simp only[Tm.nodes]at hn;have hlen:=WN ks;obtain⟨res,hres⟩:∃r,Qu vars inp (.mk o n ks)=r:=⟨_,rfl⟩;rw[hres];simp only[Qu]at hres
 have ih':∀t∈ks,∀d,Con prog 220 true [lV vars,aT t,lb inp] (.v (lb (Qu vars inp t))) none d:=by
  intro t ht d;refine ih t ht ?_ d
  have:t.nodes<=Qm ks:=by
   clear hres ih hn hlen
   induction ks with
   |nil=>cases ht
   | cons a l ih=>
     simp only[Qm];rcases Ng.1 ht with rfl|h
     .omega
     have:=ih h;omega
  omega
 clear ih;refine X5 Tryz.func220 ?_;simp only[Tryz.f220];simp only[aT,Tm.enc];refine X2 ?_;refine Xh [⟨true,.tup [li (Q5 o).1,li (Q5 o).2],none⟩] ?_ ?_
 .first|exact X7a o _|exact trivial|simpa[*]using X7a o _
 refine X0<|X0<|X1 ?_;refine(Xb rfl (fun h3=>?_) fun h3=>?_)
 .simp only[BN]at h3
  have hz:Q3 vars inp o n ks.length=false:=by
   unfold Q3;rw[NA];refine .inl ?_;simp only[NA,Bool.not_eq_false',N5];omega
  rw[hz,Dc]at hres;refine X2 ?_;exact(Xc (he:=by first|rfl|simp[*]))
 simp only[BN]at h3
 have hz:(!decide ((Q5 o).1<0)&&(!decide ((ks.length:Int)<(Q5 o).1)&& !decide ((Q5 o).2<(ks.length:Int))))=true:=by
  simp only[N3,Nu,Nh];omega
 refine(XT [0,2,4] (fun(z:Unit)=>[]) (fun(z:Unit)=>[(4,.box [.c (iC o),.c (iC n),.c (.sl 3 (Xx ks))])]) (fun(z:Unit)=>Q3 vars inp o n ks.length=true) ?_ ?_)
 ·
  refine X2 ?_;refine X3<|X0<|X1 ?_;refine(X6 rfl (fun h9=>Xe ?_) (fun h9=>?_))
  ·simp only[BN]at h9;exact⟨(),by unfold Q3;rw[hz,NQ,N8 h9],X4 (fun n=>n) []⟩
  simp only[BN]at h9;refine X2 ?_;refine(X6 rfl (fun h12=>?_) (fun h12=>?_))
  ·simp only[BN]at h12;by_cases hn0:0<=n
   .by_cases hn3:n<vars.length
    .obtain⟨v,hv1⟩:=X3H ⟨hn0,hn3⟩;have hn1:¬(vars.length:Int)<=n:=by omega
     have hn2:¬n<0:=by omega
     clear hn3;refine X2 ?_;refine(Xb rfl (fun h14=>?_) fun h14=>?_)
     .simp only[BN]at h14
      have hz3:Q3 vars inp o n ks.length=false:=by
       unfold Q3 X0a;rw[hz,NQ,N7 h9,N8 h12,hv1];simp[h14]
      rw[hz3,Dc]at hres;refine X2 ?_;exact(Xc (he:=by first|rfl|simp[*]))
     simp only[BN]at h14
     exact⟨(),by
      unfold Q3 X0a;rw[hz,NQ,N7 h9,N8 h12,hv1];simp only[N3,Nu,NA,N5,Nh]
      exact⟨hn0,h14⟩,X4 (fun n=>n) []⟩
    cases inp
    .have hv1:=X1l hn0 hn3;have hn1:(vars.length:Int)<=n:=by omega
     have hn2:¬n<0:=by omega
     have hz2:∀i,X0a vars i n=false:=by intro i;simp[X0a,hv1]
     clear hn3;refine X2 ?_;refine(Xb rfl (fun h14=>?_) fun h14=>?_)
     .simp only at h14
      have hz3:∀i,Q3 vars i o n ks.length=false:=by
       intro i;unfold Q3;rw[hz,NQ,N7 h9,N8 h12,hz2]
      rw[hz3,Dc]at hres;refine X2 ?_;exact(Xc (he:=by first|rfl|simp[*]))
     exact absurd h14 (by simp)
    have hv1:=X1l hn0 hn3;have hn1:(vars.length:Int)<=n:=by omega
    have hn2:¬n<0:=by omega
    have hz2:∀i,X0a vars i n=false:=by intro i;simp[X0a,hv1]
    clear hn3;refine X2 ?_;refine(Xb rfl (fun h14=>?_) fun h14=>?_)
    .simp only at h14
     have hz3:∀i,Q3 vars i o n ks.length=false:=by
      intro i;unfold Q3;rw[hz,NQ,N7 h9,N8 h12,hz2]
     rw[hz3,Dc]at hres;refine X2 ?_;exact(Xc (he:=by first|rfl|simp[*]))
    exact absurd h14 (by simp)
   cases inp
   .have hn2:n<0:=by omega
    have hz2:∀i,X0a vars i n=false:=by intro i;simp[X0a,hn0]
    refine X2 ?_;refine(Xb rfl (fun h14=>?_) fun h14=>?_)
    .simp only at h14
     have hz3:∀i,Q3 vars i o n ks.length=false:=by
      intro i;unfold Q3;rw[hz,NQ,N7 h9,N8 h12,hz2]
     rw[hz3,Dc]at hres;refine X2 ?_;exact(Xc (he:=by first|rfl|simp[*]))
    exact absurd h14 (by simp)
   have hn2:n<0:=by omega
   have hz2:∀i,X0a vars i n=false:=by intro i;simp[X0a,hn0]
   refine X2 ?_;refine(Xb rfl (fun h14=>?_) fun h14=>?_)
   .simp only at h14
    have hz3:∀i,Q3 vars i o n ks.length=false:=by
     intro i;unfold Q3;rw[hz,NQ,N7 h9,N8 h12,hz2]
    rw[hz3,Dc]at hres;refine X2 ?_;exact(Xc (he:=by first|rfl|simp[*]))
   exact absurd h14 (by simp)
  simp only[BN]at h12;refine X2 ?_;refine(Xb rfl (fun h19=>?_) fun h19=>?_)
  .simp only[BN]at h19
   have hz3:Q3 vars inp o n ks.length=false:=by
    unfold Q3;rw[hz,NQ,N7 h9,N7 h12];simpa using h19
   rw[hz3,Dc]at hres;refine X2 ?_;exact(Xc (he:=by first|rfl|simp[*]))
  simp only[BN]at h19
  exact⟨(),by
   unfold Q3;rw[hz,NQ,N7 h9,N7 h12]
   simpa using h19,X4 (fun n=>n) []⟩
 rintro z hz;simp only[upS,X8,Xz]
 simp only[KN,Nat.reduceBEq,Nj,Nc]
 rw[hz,NQ]at hres;refine X0<|X0<|X1 ?_;refine X3<|(Xg [0,2,65,66] (fun(x:Nat)=>[(67,.v (li x))]) (fun x=>[]) (fun x=>x<=ks.length/\WD vars inp (ks.drop x)=res) (fun x=>ks.length - x) (0:Nat) ⟨Nq _,hres⟩ ?_ ?_)
 .exact X4 (fun n=>n) []
 rintro k ⟨hk,hJ⟩;simp only[upS,X8,Xz]
 simp only[KN,Nat.reduceBEq,Nj,Nc,ins,Nat.reduceLT]
 refine X2 ?_;refine X0<|(X6 rfl (fun h26=>Xe ?_) (fun h26=>?_))
 ·simp only[BN]at h26;have hlt:k<ks.length:=by omega
  obtain⟨⟨eo,en,ek⟩,he,hd⟩:=Xt hlt;have he':=Wu he;simp only[Tm.enc]at he';have hw1:=XD hlt (by omega);rw[hd]at hJ;simp only[WD]at hJ;have hk1:k+1<=ks.length:=hlt;have hmem:Tm.mk eo en ek∈ks:=N4 he;clear hlt h26;refine X0<|X3<|X0<|X1 ?_;refine Xh [⟨true,.v (lb (Qu vars inp (.mk eo en ek))),none⟩] ?_ ?_
  .first|exact ih' _ hmem _|exact trivial|simpa[*]using ih' _ hmem _
  refine(Xb rfl (fun h29=>?_) fun h29=>?_)
  ·simp only[BN]at h29;rw[h29,Dc]at hJ;subst hJ;refine X2 ?_;exact(Xc (he:=by first|rfl|simp[*]))
  simp only[BN]at h29;rw[h29,NQ]at hJ;refine X1 ?_;exact⟨k+1,⟨hk1,hJ⟩,by omega,X4 (fun n=>n) []⟩
 simp only[BN]at h26;have hkl:k=ks.length:=by omega
 subst hkl;rw[Nw]at hJ;simp only[WD]at hJ;subst hJ;refine(Xi ?_);refine X2 ?_;exact(Xc (he:=by first|rfl|simp[*]))
theorem X1i {ks:List Tm} {t:Tm} (ht:t∈ks):t.nodes<=Qm ks:=by
 induction ks with
 |nil=>cases ht
 | cons a l ih=>
   simp only[Qm];rcases Ng.1 ht with rfl|h
   .omega
   have:=ih h;omega
theorem Ql (a b:Int) (d:Nat):Con prog 100 true [li a,li b] (.v (li (mn a b))) none d:=by
 refine X5 Tryz.func100 ?_;simp only[Tryz.f100];refine X2 ?_;refine X0<|X0<|X1 ?_;refine(Xb rfl (fun h2=>?_) fun h2=>?_)
 ·simp only[BN]at h2;have hz:mn a b=a:=by unfold mn;split<;>omega
  refine X2 ?_;exact Xc
 simp only[BN]at h2;have hz:mn a b=b:=by unfold mn;split<;>omega
 refine X2 ?_;exact Xc
theorem Qx (a b:Int) (d:Nat):Con prog 99 true [li a,li b] (.v (li (mx a b))) none d:=by
 refine X5 Tryz.func99 ?_;simp only[Tryz.f99];refine X2 ?_;refine X0<|X0<|X1 ?_;refine(Xb rfl (fun h2=>?_) fun h2=>?_)
 ·simp only[BN]at h2;have hz:mx a b=a:=by unfold mx;split<;>omega
  refine X2 ?_;exact Xc
 simp only[BN]at h2;have hz:mx a b=b:=by unfold mx;split<;>omega
 refine X2 ?_;exact Xc
def X3D (a:Int):Int:=if a<0 then -a else a
theorem X9x (a:Int) (h:-1048576<=a/\a<=1048576) (d:Nat):Con prog 212 true [li a] (.v (li (X3D a))) none d:=by
 have hw:IntKind.i64.wrap (-a)=-a:=Xa;refine X5 Tryz.func212 ?_;simp only[Tryz.f212];refine X2 ?_;refine X0<|X0<|X1 ?_;refine(Xb rfl (fun h2=>?_) fun h2=>?_)
 ·simp only[BN]at h2;refine X2 ?_;exact(Xc (he:=by first|rfl|(simp[*,X3D];done)|(simp only[XG,X3D];(repeat' split)<;>first|rfl|(exfalso;omega)|simp_all)))
 simp only[BN]at h2;refine X2 ?_;exact(Xc (he:=by first|rfl|(simp[*,X3D];done)|(simp only[XG,X3D];(repeat' split)<;>first|rfl|(exfalso;omega)|simp_all)))
def Zx (o:Int):Int:=if o=0\/o=24 then 0 else if o=6\/o=7 then 1 else if 8<=o/\o<=22 then 2 else if o=23 then 3 else if o=25 then -2 else -1
theorem X7F (o:Int) (d:Nat):Con prog 161 true [li o] (.v (li (Zx o))) none d:=by
 refine X5 Tryz.func161 ?_;simp only[Tryz.f161];refine X2 ?_;refine X0<|X0<|X1 ?_;refine X3<|(XT [3] (fun(z:Bool)=>[(4,.v (lb z))]) (fun(z:Bool)=>[]) (fun(z:Bool)=>z=decide (o=0\/o=24)) ?_ ?_)
 ·
  refine X2 ?_;refine(X6 rfl (fun h4=>Xe ?_) (fun h4=>?_))
  ·simp only[BN]at h4;exact⟨decide (o=0\/o=24),rfl,X4 (fun n=>n) []⟩
  simp only[BN]at h4;refine X1 ?_;exact⟨decide (o=0\/o=24),rfl,X4 (fun n=>n) []⟩
 rintro _ rfl;simp only[upS,X8,Xz]
 simp only[KN,Nat.reduceBEq,Nj,Nc,ins,Nat.reduceLT]
 refine(X6 rfl (fun h8=>?_) (fun h8=>?_))
 ·simp only[BN]at h8;refine X2 ?_;exact(Xc (he:=by first|rfl|(simp[*,Zx];done)|(simp only[XG,Zx];(repeat' split)<;>first|rfl|(exfalso;omega)|simp_all)))
 simp only[BN]at h8;refine(XT [3] (fun(z:Bool)=>[(7,.v (lb z))]) (fun(z:Bool)=>[]) (fun(z:Bool)=>z=decide (o=6\/o=7)) ?_ ?_)
 ·
  refine X2 ?_;refine(X6 rfl (fun h13=>Xe ?_) (fun h13=>?_))
  ·simp only[BN]at h13;exact⟨decide (o=6\/o=7),rfl,X4 (fun n=>n) []⟩
  simp only[BN]at h13;refine X1 ?_;exact⟨decide (o=6\/o=7),rfl,X4 (fun n=>n) []⟩
 rintro _ rfl;simp only[upS,Xz]
 refine(X6 rfl (fun h17=>?_) (fun h17=>?_))
 ·simp only[BN]at h17;refine X2 ?_;exact(Xc (he:=by first|rfl|(simp[*,Zx];done)|(simp only[XG,Zx];(repeat' split)<;>first|rfl|(exfalso;omega)|simp_all)))
 simp only[BN]at h17;refine(XT [3] (fun(z:Bool)=>[(10,.v (lb z))]) (fun(z:Bool)=>[]) (fun(z:Bool)=>z=decide (8<=o/\o<=22)) ?_ ?_)
 ·
  refine X2 ?_;refine(X6 rfl (fun h22=>Xe ?_) (fun h22=>?_))
  ·simp only[BN]at h22;exact⟨decide (8<=o/\o<=22),rfl,X4 (fun n=>n) []⟩
  simp only[BN]at h22;refine X2 ?_;refine(X6 rfl (fun h25=>Xe ?_) (fun h25=>?_))
  ·simp only[BN]at h25;exact⟨decide (8<=o/\o<=22),rfl,X4 (fun n=>n) []⟩
  simp only[BN]at h25;refine X2 ?_;refine(X6 rfl (fun h28=>Xe ?_) (fun h28=>?_))
  ·simp only[BN]at h28;exact⟨decide (8<=o/\o<=22),rfl,X4 (fun n=>n) []⟩
  simp only[BN]at h28;refine X2 ?_;refine(X6 rfl (fun h31=>Xe ?_) (fun h31=>?_))
  ·simp only[BN]at h31;exact⟨decide (8<=o/\o<=22),rfl,X4 (fun n=>n) []⟩
  simp only[BN]at h31;refine X2 ?_;refine(X6 rfl (fun h34=>Xe ?_) (fun h34=>?_))
  ·simp only[BN]at h34;exact⟨decide (8<=o/\o<=22),rfl,X4 (fun n=>n) []⟩
  simp only[BN]at h34;refine X2 ?_;refine(X6 rfl (fun h37=>Xe ?_) (fun h37=>?_))
  ·simp only[BN]at h37;exact⟨decide (8<=o/\o<=22),rfl,X4 (fun n=>n) []⟩
  simp only[BN]at h37;refine X2 ?_;refine(X6 rfl (fun h40=>Xe ?_) (fun h40=>?_))
  ·simp only[BN]at h40;exact⟨decide (8<=o/\o<=22),rfl,X4 (fun n=>n) []⟩
  simp only[BN]at h40;refine X2 ?_;refine(X6 rfl (fun h43=>Xe ?_) (fun h43=>?_))
  ·simp only[BN]at h43;exact⟨decide (8<=o/\o<=22),rfl,X4 (fun n=>n) []⟩
  simp only[BN]at h43;refine X2 ?_;refine(X6 rfl (fun h46=>Xe ?_) (fun h46=>?_))
  ·simp only[BN]at h46;exact⟨decide (8<=o/\o<=22),rfl,X4 (fun n=>n) []⟩
  simp only[BN]at h46;refine X2 ?_;refine(X6 rfl (fun h49=>Xe ?_) (fun h49=>?_))
  ·simp only[BN]at h49;exact⟨decide (8<=o/\o<=22),rfl,X4 (fun n=>n) []⟩
  simp only[BN]at h49;refine X2 ?_;refine(X6 rfl (fun h52=>Xe ?_) (fun h52=>?_))
  ·simp only[BN]at h52;exact⟨decide (8<=o/\o<=22),rfl,X4 (fun n=>n) []⟩
  simp only[BN]at h52;refine X2 ?_;refine(X6 rfl (fun h55=>Xe ?_) (fun h55=>?_))
  ·simp only[BN]at h55;exact⟨decide (8<=o/\o<=22),rfl,X4 (fun n=>n) []⟩
  simp only[BN]at h55;refine X2 ?_;refine(X6 rfl (fun h58=>Xe ?_) (fun h58=>?_))
  ·simp only[BN]at h58;exact⟨decide (8<=o/\o<=22),rfl,X4 (fun n=>n) []⟩
  simp only[BN]at h58;refine X2 ?_;refine(X6 rfl (fun h61=>Xe ?_) (fun h61=>?_))
  ·simp only[BN]at h61;exact⟨decide (8<=o/\o<=22),rfl,X4 (fun n=>n) []⟩
  simp only[BN]at h61;refine X1 ?_;have hz:decide (o=22)=(decide (8<=o)&&decide (o<=22)):=by rw[<-Bool.decide_and,decide_eq_decide];omega
  exact⟨decide (8<=o/\o<=22),rfl,X4 (fun n=>n) []⟩
 rintro _ rfl;simp only[upS,Xz]
 refine(X6 rfl (fun h65=>?_) (fun h65=>?_))
 ·simp only[BN]at h65;refine X2 ?_;exact(Xc (he:=by first|rfl|(simp[*,Zx];done)|(simp only[XG,Zx];(repeat' split)<;>first|rfl|(exfalso;omega)|simp_all)))
 simp only[BN]at h65;refine X2 ?_;refine(X6 rfl (fun h69=>?_) (fun h69=>?_))
 ·simp only[BN]at h69;refine X2 ?_;exact(Xc (he:=by first|rfl|(simp[*,Zx];done)|(simp only[XG,Zx];(repeat' split)<;>first|rfl|(exfalso;omega)|simp_all)))
 simp only[BN]at h69;refine X2 ?_;refine(Xb rfl (fun h73=>?_) fun h73=>?_)
 ·simp only[BN]at h73;refine X2 ?_;exact(Xc (he:=by first|rfl|(simp[*,Zx];done)|(simp only[XG,Zx];(repeat' split)<;>first|rfl|(exfalso;omega)|simp_all)))
 simp only[BN]at h73;refine X2 ?_;exact(Xc (he:=by first|rfl|(simp[*,Zx];done)|(simp only[XG,Zx];(repeat' split)<;>first|rfl|(exfalso;omega)|simp_all)))
end Go.Proofs.YtdajceakaakdoaaGreat
namespace Go.Proofs.YtdajceakaakdoaaGreat
open Go Go.Hl Go.RowKit
open Tryz(prog)
inductive CWk:CV->CV->Prop where
 |refl (x:CV):CWk x x
 |nil (s:Nat):CWk (.c (.lit XX)) (.c (.sl s []))
inductive LWk:List CV->List CV->Prop where
 |nil:LWk [] []
 |cons {x y:CV} {l m:List CV}:CWk x y->LWk l m->LWk (x::l) (y::m)
theorem CWk.rel {F:Nat->Prop} {T:Nat->Value} {w:World} {x y:CV} (h:CWk x y) {v:Value} (hr:Xq F T w x v):Xq F T w y v:=by
 cases h with
 |refl=>exact hr
 | nil s=>
   have:v=XX:=Xd.lit_eq (T:=T) (F:=F) (w:=w) (r:=.v (.one (.c (.lit XX)))) rfl hr;rw[this];exact CRel.nil s
theorem LWk.len {l m:List CV} (h:LWk l m):m.length=l.length:=by
 induction h with
 |nil=>rfl
 |cons _ _ ih=>simp[ih]
theorem LWk.get {l m:List CV} (h:LWk l m):∀(j:Nat) y,m[j]? =some y->∃x,l[j]? =some x/\CWk x y:=by
 induction h with
 |nil=>simp
 | cons hc _ ih=>
   intro j y hj;cases j with
   |zero=>cases hj;exact⟨_,rfl,hc⟩
   |succ j=>exact ih j y hj
theorem LWk.rel {F:Nat->Prop} {T:Nat->Value} {w:World} {l m:List CV} (h:LWk l m) {vs:Array Value} (hr:Xp F T w l vs):Xp F T w m vs:=by
 refine⟨hr.1.trans h.len.symm,fun j y u hy hu=>?_⟩;obtain⟨x,hx,hc⟩:=h.get j y hy;exact hc.rel (hr.2 j x u hx hu)
theorem Xbb {s:HS} (k:Nat) {r r':RV} (hl:lkp s.regs k=some r) (hw:∀(F:Nat->Prop) (T:Nat->Value) (w:World) v,Xd F T w r v->Xd F T w r' v):le s {s with regs:=ins k r' s.regs}:=by
 intro w0 B U F T a w hr;refine⟨F,T,fun _ h=>h,fun _ h=>.inl h,hr.heap,hr.defers,hr.nt,fun j x hj=>?_⟩;rw[XN]at hj;split at hj
 .rename_i e;cases hj;subst e;exact hw _ _ _ _ (hr.regs j r hl)
 exact hr.regs j x hj
theorem X2b {s:HS} (k:Nat) {xs:List CV} (ys:List CV) (hl:lkp s.regs k=some (.v (.agg xs))) (h:LWk xs ys):le s {s with regs:=ins k (.v (.agg ys)) s.regs}:=by
 refine Xbb k hl fun F T w v hv=>?_;obtain⟨vs,rfl,hc⟩:=hv;exact⟨vs,rfl,h.rel hc⟩
theorem X8a {s:HS} (k sz:Nat) (hl:lkp s.regs k=some (.v (.one (.c (.lit XX))))):le s {s with regs:=ins k (.v (.one (.c (.sl sz [])))) s.regs}:=
 Xbb k hl fun F T w v hv=>CWk.rel (T:=T) (CWk.nil sz) hv
theorem le_emp {s:HS} (k sz:Nat) {a:Addr} {cap:Nat} (hl:lkp s.regs k=some (.v (.one (.c (.lit (.slice (some a) 0 cap)))))):le s {s with regs:=ins k (.v (.one (.c (.sl sz [])))) s.regs}:=by
 refine Xbb k hl fun F T w v hv=>?_;have:v=.slice (some a) 0 cap:=Xd.lit_eq rfl hv;rw[this];exact CRel.emp sz a cap
theorem X45 {s:HS} (t n d:Nat) {e:TypeId} {sz:Nat} {rows:N1} (hl:opd s.regs (.tmp t)=.v (.one (.own n))) (ho:lkp s.objs n=some (.row e sz rows)) (hd:d<1000000):
  le s ⟨s.nt,[(t,.v (.one (.own d)))],[(d,.row e sz rows)]⟩:=by
 have hp:X1f (fun _=>n) d=n:=by unfold X1f;rw[N7 (by omega)]
 refine Xw (fun _=>n) [] rfl ?_ ?_ ?_
 .refine⟨⟨rfl,?_⟩,trivial⟩;rw[hl];simp only[RV.ren,TV.ren,CV.ren,hp,List.contains_nil,NB,Nc]
 .simp only[Zs,List.contains_nil,NB,Nc,Ob.okNil,hp,ho,Ob.ren,and_self]
 simp only[Zs,true_or,and_self]
theorem le_nameN {s:HS} (t d:Nat) (e:TypeId) (sz:Nat) (hl:opd s.regs (.tmp t)=.v (.one (.c (.lit XX)))) (hs:0<sz) (hd:d<1000000):
  le s ⟨s.nt,[(t,.v (.one (.own d)))],[(d,.row e sz [])]⟩:=by
 refine Xw (fun n=>n) [d] rfl ?_ ?_ ?_ (by simpa using hd)
 .refine⟨⟨by simp[RV.okNil,TV.okNil,CV.okNil],?_⟩,trivial⟩;rw[hl];simp[RV.ren,TV.ren,CV.ren]
 .simp[Zs,hs]
 simp[Zs]
theorem Xcx {P:Program} {f:FuncId} {fresh:Bool} {r:RV} {ob:Option Ob} {d s:Nat} (h1:Con P f fresh [.one (.c (.lit XX))] r ob d) (h2:∀a cap,Con P f fresh [.one (.c (.lit (.slice (some a) 0 cap)))] r ob d):Con P f fresh [.one (.c (.sl s []))] r ob d:=by
 refine⟨h1.1,fun F w vs hF hsz hargs=>?_⟩;have hv:∃u,vs[0]? =some u:=⟨vs[0]'(by rw[hsz];simp),by simp[hsz]⟩;obtain⟨u,hu⟩:=hv;have hr:CRel F w (.sl s []) u:=hargs 0 _ u rfl hu
 have go:∀(v:Value),u=v->Con P f fresh [.one (.c (.lit v))] r ob d->_:=fun v hv hc=>hc.2 F w vs hF (by simpa using hsz) fun j t u' ht hu'=>by
  cases j with
  | zero=>
    cases ht;rw[hu]at hu';cases hu';subst hv;exact CRel.lit u
  |succ j=>cases ht
 rcases CRel.sl_inv hr with⟨_,hv|⟨a,cap,hv⟩⟩|⟨b,o,cap,cells,hv,_⟩
 .exact go _ hv h1
 .exact go _ hv (h2 a cap)
 exact go _ hv (h2 _ cap)
end Go.Proofs.YtdajceakaakdoaaGreat
namespace Go.Proofs.YtdajceakaakdoaaGreat
open Go Go.Hl
open Tryz(prog)
attribute [simp] Ob.flat
def ms114:List (Nat×List Nat):=[(16383,[0,1,3,4,8]),(16382,[1,3,4,8]),(16381,[0,2,3,4,8]),(16375,[0,1,4,8]),(16367,[0,1,3,5,8]),(16127,[0,1,3,4,9]),(16380,[2,3,4,8]),(16374,[1,4,8]),(16366,[1,3,5,8]),(16126,[1,3,4,9]),(16377,[0,3,4,8]),(16373,[0,2,4,8]),(16365,[0,2,3,5,8]),(16125,[0,2,3,4,9]),(16359,[0,1,5,8]),(16119,[0,1,4,9]),(16335,[0,1,3,8]),(16111,[0,1,3,5,9]),(15615,[0,1,3,4,10]),(16376,[3,4,8]),(16372,[2,4,8]),(16364,[2,3,5,8]),(16124,[2,3,4,9]),(16358,[1,5,8]),(16118,[1,4,9]),(16334,[1,3,8]),(16110,[1,3,5,9]),(15614,[1,3,4,10]),(16369,[0,4,8]),(16361,[0,3,5,8]),(16121,[0,3,4,9]),(16357,[0,2,5,8]),(16117,[0,2,4,9]),(16333,[0,2,3,8]),(16109,[0,2,3,5,9]),(15613,[0,2,3,4,10]),(16327,[0,1,6,8]),(16103,[0,1,5,9]),(15607,[0,1,4,10]),(16079,[0,1,3,9]),(15599,[0,1,3,5,10]),(14591,[0,1,3,4]),(16368,[4,8]),(16360,[3,5,8]),(16120,[3,4,9]),(16356,[2,5,8]),(16116,[2,4,9]),(16332,[2,3,8]),(16108,[2,3,5,9]),(15612,[2,3,4,10]),(16326,[1,6,8]),(16102,[1,5,9]),(15606,[1,4,10]),(16078,[1,3,9]),(15598,[1,3,5,10]),(14590,[1,3,4]),(16353,[0,5,8]),(16113,[0,4,9]),(16329,[0,3,8]),(16105,[0,3,5,9]),(15609,[0,3,4,10]),(16325,[0,2,6,8]),(16101,[0,2,5,9]),(15605,[0,2,4,10]),(16077,[0,2,3,9]),(15597,[0,2,3,5,10]),(14589,[0,2,3,4]),(16263,[0,1,7,8]),(16071,[0,1,6,9]),(15591,[0,1,5,10]),(14583,[0,1,4]),(15567,[0,1,3,10]),(14575,[0,1,3,5]),(16352,[5,8]),(16112,[4,9]),(16328,[3,8]),(16104,[3,5,9]),(15608,[3,4,10]),(16324,[2,6,8]),(16100,[2,5,9]),(15604,[2,4,10]),(16076,[2,3,9]),(15596,[2,3,5,10]),(14588,[2,3,4]),(16262,[1,7,8]),(16070,[1,6,9]),(15590,[1,5,10]),(14582,[1,4]),(15566,[1,3,10]),(14574,[1,3,5]),(16321,[0,6,8]),(16097,[0,5,9]),(15601,[0,4,10]),(16073,[0,3,9]),(15593,[0,3,5,10]),(14585,[0,3,4]),(16261,[0,2,7,8]),(16069,[0,2,6,9]),(15589,[0,2,5,10]),(14581,[0,2,4]),(15565,[0,2,3,10]),(14573,[0,2,3,5]),(16135,[0,1,8]),(16007,[0,1,7,9]),(15559,[0,1,6,10]),(14567,[0,1,5]),(14543,[0,1,3]),(16320,[6,8]),(16096,[5,9]),(15600,[4,10]),(16072,[3,9]),(15592,[3,5,10]),(14584,[3,4]),(16260,[2,7,8]),(16068,[2,6,9]),(15588,[2,5,10]),(14580,[2,4]),(15564,[2,3,10]),(14572,[2,3,5]),(16134,[1,8]),(16006,[1,7,9]),(15558,[1,6,10]),(14566,[1,5]),(14542,[1,3]),(16257,[0,7,8]),(16065,[0,6,9]),(15585,[0,5,10]),(14577,[0,4]),(15561,[0,3,10]),(14569,[0,3,5]),(16133,[0,2,8]),(16005,[0,2,7,9]),(15557,[0,2,6,10]),(14565,[0,2,5]),(14541,[0,2,3]),(15879,[0,1,9]),(15495,[0,1,7,10]),(14535,[0,1,6]),(16256,[7,8]),(16064,[6,9]),(15584,[5,10]),(14576,[4]),(15560,[3,10]),(14568,[3,5]),(16132,[2,8]),(16004,[2,7,9]),(15556,[2,6,10]),(14564,[2,5]),(14540,[2,3]),(15878,[1,9]),(15494,[1,7,10]),(14534,[1,6]),(16129,[0,8]),(16001,[0,7,9]),(15553,[0,6,10]),(14561,[0,5]),(14537,[0,3]),(15877,[0,2,9]),(15493,[0,2,7,10]),(14533,[0,2,6]),(15367,[0,1,10]),(14471,[0,1,7]),(16128,[8]),(16000,[7,9]),(15552,[6,10]),(14560,[5]),(14536,[3]),(15876,[2,9]),(15492,[2,7,10]),(14532,[2,6]),(15366,[1,10]),(14470,[1,7]),(15873,[0,9]),(15489,[0,7,10]),(14529,[0,6]),(15365,[0,2,10]),(14469,[0,2,7]),(14343,[0,1,11]),(15872,[9]),(15488,[7,10]),(14528,[6]),(15364,[2,10]),(14468,[2,7]),(14342,[1,11]),(15361,[0,10]),(14465,[0,7]),(14341,[0,2,11]),(12295,[0,1]),(15360,[10]),(14464,[7]),(14340,[2,11]),(12294,[1]),(14337,[0,11]),(12293,[0,2]),(14336,[11]),(12292,[2]),(12289,[0]),(12288,[12]),(8192,[13])]
noncomputable def rgD (d:Nat):Code->Option (Array Oper)
 | .region _ ops _=>if(ops[0]?.bind (·.dst))=some d then some ops else none
 | .seq a b=>match rgD d a with
   |some p=>some p
   |none=>rgD d b
 | .cond _ a b=>match rgD d a with
   |some p=>some p
   |none=>rgD d b
 | .block _ b=>rgD d b
 | .loop b=>rgD d b
 | .scope b=>rgD d b
 |_=>none
def X05 (regs:List (Nat×RV)) (oA oB:N2) (outs:List (Nat×Nat×RV)) (R:List Nat):HS:=
 {trS ⟨⟨95,none⟩,regs,[]⟩ outs R with objs:=if R.contains 10 then oA else oB}
def QN (regs:List (Nat×RV)) (o:N2) (outs:List (Nat×Nat×RV)) (R:List Nat):HS:=
 {trS ⟨⟨95,none⟩,regs,[]⟩ outs R with objs:=o}
def X23 (l:List Bool):N1:=l.map fun b=>[bC b]
@[simp] theorem encBl_len (l:List Bool):(X23 l).length=l.length:=by simp[X23]
theorem X2I {l:List Bool} {k:Nat} {b:Bool} (h:l[k]? =some b):(X23 l)[k]? =some [bC b]:=by simp[X23,h]
theorem XdV (l:List Bool) (k:Nat) (b:Bool):(X23 l).set k [CD.lit (.bool b)]=X23 (l.set k b):=by
 unfold X23;rw[List.map_set]
theorem Xd6 (n:Nat):X23 (List.replicate n false)=List.replicate n [bC false]:=by simp[X23]
@[simp] def lBl (l:List Bool):TV:=.one (.c (.sl 1 (X23 l)))
end Go.Proofs.YtdajceakaakdoaaGreat
