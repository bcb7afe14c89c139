/- Contracts of functions and plain facts about what they compute. Conditions: as each theorem states. -/
import Derived.Test.YtdccocolnaklkaaGreatDoorProg
import Derived.Test.YtdccocolnaklkaaGreatDoorH6
import Derived.KernelRfl
set_option linter.unusedSimpArgs false
set_option linter.unusedVariables false
set_option linter.unnecessarySimpa false
set_option maxRecDepth 100000
set_option maxHeartbeats 2000000
namespace Go.Proofs.YtdccocolnaklkaaGreatDoor
open Go Go.Hl
open Tryz(prog)
@[simp] theorem ty2:Q8 prog 2=some ⟨1,8,false,[.int .i64 0],.other⟩/\QD prog 2=false/\XQ prog 2=false/\Q8 prog 3=some ⟨1,8,false,[.int .i64 0],.other⟩/\QD prog 3=false/\XQ prog 3=false/\Q8 prog 4=some ⟨1,1,false,[.bool false],.other⟩/\X4d prog 4=true/\QD prog 4=false/\XQ prog 4=false/\Q8 prog 5=some ⟨1,1,false,[.int .u8 0],.other⟩/\QD prog 5=false/\XQ prog 5=false/\Q8 prog 9=some ⟨1,16,false,[.string ⟨#[]⟩],.other⟩/\strT prog 9=true/\QD prog 9=false/\XQ prog 9=false/\Q8 prog 22=some ⟨1,24,false,[.slice none 0 0],.slice 60⟩/\QD prog 22=false/\XQ prog 22=true/\Q8 prog 23=some ⟨1,24,false,[.slice none 0 0],.slice 94⟩/\QD prog 23=false/\XQ prog 23=true/\Q8 prog 24=some ⟨1,24,false,[.slice none 0 0],.slice 63⟩/\QD prog 24=false/\XQ prog 24=true/\Q8 prog 26=some ⟨3,72,true,[.slice none 0 0,.slice none 0 0,.slice none 0 0],.struct [(0,22),(1,23),(2,24)]⟩/\QD prog 26=false/\XQ prog 26=false/\Q8 prog 27=some ⟨1,24,false,[.slice none 0 0],.slice 3⟩/\QD prog 27=false/\XQ prog 27=true/\Q8 prog 30=some ⟨1,8,false,[.int .i64 0],.other⟩/\QD prog 30=false/\XQ prog 30=false/\Q8 prog 37=some ⟨1,24,false,[.slice none 0 0],.slice 40⟩/\QD prog 37=false/\XQ prog 37=true/\Q8 prog 40=some ⟨3,72,true,[.slice none 0 0,.slice none 0 0,.slice none 0 0],.struct [(0,27),(1,27),(2,27)]⟩/\QD prog 40=false:=by and_intros<;>kernel_rfl
@[simp] theorem sf40:XQ prog 40=false/\Q8 prog 42=some ⟨2,32,true,[.slice none 0 0,.int .i64 0],.struct [(0,27),(1,3)]⟩/\QD prog 42=false/\XQ prog 42=false/\Q8 prog 53=some ⟨1,8,false,[.int .i64 0],.other⟩/\QD prog 53=false/\XQ prog 53=false/\Q8 prog 54=some ⟨1,24,false,[.slice none 0 0],.slice 56⟩/\QD prog 54=false/\XQ prog 54=true/\Q8 prog 56=some ⟨3,40,true,[.int .i64 0,.int .i64 0,.slice none 0 0],.struct [(0,53),(1,3),(2,54)]⟩/\QD prog 56=false/\XQ prog 56=false/\Q8 prog 57=some ⟨1,8,false,[.nilFunc],.other⟩/\QD prog 57=false/\XQ prog 57=false/\Q8 prog 58=some ⟨1,8,false,[.int .i64 0],.other⟩/\QD prog 58=false/\XQ prog 58=false/\Q8 prog 60=some ⟨5,48,true,[.string ⟨#[]⟩,.int .i64 0,.int .i64 0,.int .i64 0,.int .i64 0],.struct [(0,9),(1,58),(2,3),(3,3),(4,3)]⟩/\QD prog 60=false/\XQ prog 60=false/\Q8 prog 61=some ⟨1,8,false,[.int .i64 0],.other⟩/\QD prog 61=false/\XQ prog 61=false/\Q8 prog 63=some ⟨10,144,true,[.int .i64 0,.int .i64 0,.int .i64 0,.int .i64 0,.int .i64 0,.int .i64 0,.slice none 0 0,.slice none 0 0,.slice none 0 0,.slice none 0 0],.struct [(0,61),(1,3),(2,3),(3,3),(4,56),(7,24),(8,24),(9,27)]⟩/\QD prog 63=false/\XQ prog 63=false/\Q8 prog 72=some ⟨1,24,false,[.slice none 0 0],.slice 9⟩/\QD prog 72=false/\XQ prog 72=true/\Q8 prog 79=some ⟨1,8,false,[.nilFunc],.other⟩/\QD prog 79=false/\XQ prog 79=false/\Q8 prog 86=some ⟨3,56,true,[.slice none 0 0,.slice none 0 0,.int .i64 0],.struct [(0,27),(1,27),(2,3)]⟩/\QD prog 86=false/\XQ prog 86=false/\Q8 prog 90=some ⟨1,8,false,[.map none],.other⟩/\QD prog 90=false/\XQ prog 90=false:=by and_intros<;>kernel_rfl
@[simp] theorem ty94:Q8 prog 94=some ⟨6,72,true,[.string ⟨#[]⟩,.int .i64 0,.int .i64 0,.int .i64 0,.int .i64 0,.slice none 0 0],.struct [(0,9),(1,3),(2,3),(3,56)]⟩/\QD prog 94=false/\XQ prog 94=false/\Q8 prog 106=some ⟨2,16,true,[.int .i64 0,.bool false],.struct [(0,3),(1,4)]⟩/\QD prog 106=false/\XQ prog 106=false/\Q8 prog 112=some ⟨3,24,true,[.int .i64 0,.int .i64 0,.int .i64 0],.struct [(0,3),(1,3),(2,3)]⟩/\QD prog 112=false/\XQ prog 112=false/\Q8 prog 131=some ⟨1,24,false,[.slice none 0 0],.slice 4⟩/\QD prog 131=false/\XQ prog 131=true/\Q8 prog 140=some ⟨1,24,false,[.slice none 0 0],.slice 58⟩/\QD prog 140=false/\XQ prog 140=true/\Q8 prog 143=some ⟨1,24,false,[.slice none 0 0],.slice 24⟩/\QD prog 143=false/\XQ prog 143=true/\Q8 prog 164=some ⟨2,16,true,[.int .i64 0,.int .i64 0],.struct [(0,3),(1,3)]⟩/\QD prog 164=false/\XQ prog 164=false/\Q8 prog 178=some ⟨1,24,false,[.slice none 0 0],.slice 164⟩/\QD prog 178=false/\XQ prog 178=true/\Q8 prog 180=some ⟨24,24,true,[.int .u8 0,.int .u8 0,.int .u8 0,.int .u8 0,.int .u8 0,.int .u8 0,.int .u8 0,.int .u8 0,.int .u8 0,.int .u8 0,.int .u8 0,.int .u8 0,.int .u8 0,.int .u8 0,.int .u8 0,.int .u8 0,.int .u8 0,.int .u8 0,.int .u8 0,.int .u8 0,.int .u8 0,.int .u8 0,.int .u8 0,.int .u8 0],.array 24 5⟩/\QD prog 180=false/\XQ prog 180=false/\arrI prog 180=some (24,.u8)/\QD prog 181=false/\XQ prog 181=false/\Q8 prog 184=some ⟨1,24,false,[.slice none 0 0],.slice 5⟩/\QD prog 184=false/\XQ prog 184=true/\QD prog 189=false/\XQ prog 189=false/\QD prog 190=false/\XQ prog 190=false/\QD prog 191=false/\XQ prog 191=false/\arrI prog 191=some (65,.u8):=by and_intros<;>kernel_rfl
@[simp] theorem pf192:QD prog 192=false/\XQ prog 192=false/\Q8 prog 195=some ⟨32,32,true,[.int .u8 0,.int .u8 0,.int .u8 0,.int .u8 0,.int .u8 0,.int .u8 0,.int .u8 0,.int .u8 0,.int .u8 0,.int .u8 0,.int .u8 0,.int .u8 0,.int .u8 0,.int .u8 0,.int .u8 0,.int .u8 0,.int .u8 0,.int .u8 0,.int .u8 0,.int .u8 0,.int .u8 0,.int .u8 0,.int .u8 0,.int .u8 0,.int .u8 0,.int .u8 0,.int .u8 0,.int .u8 0,.int .u8 0,.int .u8 0,.int .u8 0,.int .u8 0],.array 32 5⟩/\QD prog 195=false/\XQ prog 195=false/\arrI prog 195=some (32,.u8)/\QD prog 196=false/\XQ prog 196=false/\arrI prog 196=some (64,.u8)/\X6W prog 60=some [false,true,true,true,true]/\arrI prog 60=none:=by and_intros<;>kernel_rfl
theorem X5 {n:Int} (h1:-9223372036854775808<=n:=by omega) (h2:n<=9223372036854775807:=by omega):IntKind.i64.wrap n=n:=IntWalk.i64_in n ⟨h1,h2⟩
inductive Tm where
 |mk (op n:Int) (kids:List Tm)
mutual
def Tm.enc:Tm->List CD
 | .mk o n ks=>[iC o,iC n,.sl 3 (Xg ks)]
def Xg:List Tm->List (List CD)
 |[]=>[]
 |t::l=>t.enc::Xg l
end
inductive St where
 |mk (do_ cost var n:Int) (term:Tm) (then_ else_:List St) (bounds:List Int)
def Xk (l:List Int):List (List CD):=l.map fun n=>[iC n]
mutual
def St.enc:St->List CD
 | .mk d c v n t a b bs=>[iC d,iC c,iC v,iC n]++t.enc++[.sl 10 (Xf a),.sl 10 (Xf b),.sl 1 (Xk bs)]
def Xf:List St->List (List CD)
 |[]=>[]
 |s::l=>s.enc::Xf l
end
structure Vr where
 name:ByteArray
 kind:Int
 low:Int
 high:Int
 init:Int
structure Ht where
 name:ByteArray
 low:Int
 high:Int
 term:Tm
structure Fl where
 vars:List Vr
 hats:List Ht
 body:List St
def Vr.enc (v:Vr):List CD:=[sC v.name,iC v.kind,iC v.low,iC v.high,iC v.init]
def Ht.enc (h:Ht):List CD:=[sC h.name,iC h.low,iC h.high]++h.term.enc
def Xr (l:List Vr):List (List CD):=l.map Vr.enc
def Xu (l:List Ht):List (List CD):=l.map Ht.enc
def Fl.enc (f:Fl):List CD:=[.sl 5 (Xr f.vars),.sl 6 (Xu f.hats),.sl 10 (Xf f.body)]
attribute [simp] Vr.enc Ht.enc Fl.enc Tm.enc St.enc
theorem WZ (l:List Tm):Xg l=l.map Tm.enc:=by
 induction l with
 |nil=>simp[Xg]
 |cons t l ih=>simp[Xg,ih]
theorem QZ (l:List St):Xf l=l.map St.enc:=by
 induction l with
 |nil=>simp[Xf]
 |cons t l ih=>simp[Xf,ih]
theorem Tm.ind {p:Tm->Prop} (h:∀o n ks,(∀t∈ks,p t)->p (.mk o n ks)):∀t,p t
 | .mk o n ks=>h o n ks fun t ht=>Tm.ind h t
theorem St.ind {p:St->Prop} (h:∀d c v n t a b bs,(∀s∈a,p s)->(∀s∈b,p s)->p (.mk d c v n t a b bs)):∀s,p s
 | .mk d c v n t a b bs=>h d c v n t a b bs (fun s hs=>St.ind h s) (fun s hs=>St.ind h s)
def Tm.op:Tm->Int| .mk o _ _=>o
def Tm.n:Tm->Int| .mk _ n _=>n
def Tm.kids:Tm->List Tm| .mk _ _ k=>k
def St.do_:St->Int| .mk d _ _ _ _ _ _ _=>d
def St.cost:St->Int| .mk _ c _ _ _ _ _ _=>c
def St.var:St->Int| .mk _ _ v _ _ _ _ _=>v
def St.n:St->Int| .mk _ _ _ n _ _ _ _=>n
def St.term:St->Tm| .mk _ _ _ _ t _ _ _=>t
def St.then_:St->List St| .mk _ _ _ _ _ a _ _=>a
def St.else_:St->List St| .mk _ _ _ _ _ _ b _=>b
def St.bounds:St->List Int| .mk _ _ _ _ _ _ _ bs=>bs
abbrev aT (t:Tm):TV:=.agg (t.enc.map .c)
abbrev aS (s:St):TV:=.agg (s.enc.map .c)
abbrev aV (v:Vr):TV:=.agg (v.enc.map .c)
abbrev aH (h:Ht):TV:=.agg (h.enc.map .c)
abbrev aF (f:Fl):TV:=.agg (f.enc.map .c)
abbrev lV (l:List Vr):TV:=.one (.c (.sl 5 (Xr l)))
abbrev lS (l:List St):TV:=.one (.c (.sl 10 (Xf l)))
abbrev lT (l:List Tm):TV:=.one (.c (.sl 3 (Xg l)))
abbrev lI (l:List Int):TV:=.one (.c (.sl 1 (Xk l)))
theorem Qc {ks:List Tm} {i:Nat} {t:Tm} (h:ks[i]? =some t):(Xg ks)[i]? =some t.enc:=by rw[WZ,Nf,h];rfl
theorem Q7 {ks:List St} {i:Nat} {t:St} (h:ks[i]? =some t):(Xf ks)[i]? =some t.enc:=by rw[QZ,Nf,h];rfl
@[simp] theorem X7A (ks:List Tm):(Xg ks).length=ks.length:=by rw[WZ,D6]
@[simp] theorem len_encS (ks:List St):(Xf ks).length=ks.length:=by rw[QZ,D6]
@[simp] theorem len_encV (ks:List Vr):(Xr ks).length=ks.length:=by simp[Xr]
@[simp] theorem len_encH (ks:List Ht):(Xu ks).length=ks.length:=by simp[Xu]
@[simp] theorem len_encI (ks:List Int):(Xk ks).length=ks.length:=by simp[Xk]
@[simp] theorem X0f (ks:List Vr) (i:Nat):(Xr ks)[i]? =ks[i]?.map Vr.enc:=by simp[Xr]
@[simp] theorem get_encH (ks:List Ht) (i:Nat):(Xu ks)[i]? =ks[i]?.map Ht.enc:=by simp[Xu]
@[simp] theorem ZB (ks:List Int) (i:Nat):(Xk ks)[i]? =ks[i]?.map fun n=>[iC n]:=by simp[Xk]
@[simp] theorem encV_nil:Xr []=[]:=rfl
@[simp] theorem encH_nil:Xu []=[]:=rfl
@[simp] theorem encI_nil:Xk []=[]:=rfl
attribute [simp] Xg Xf
theorem XaT {T:Type} {l:List T} {i:Nat} {x:T} (h:l[i]? =some x):l.drop i=x::l.drop (i+1):=by
 have hi:i<l.length:=(N5.1 h).1;rw[List.drop_eq_getElem_cons hi];simp only[Nr hi,Option.some.injEq]at h;rw[h]
theorem Xw {T:Type} {l:List T} {k:Nat} (h:k<l.length):∃x,l[k]? =some x/\l.drop k=x::l.drop (k+1):=
 ⟨l[k],Nr h,List.drop_eq_getElem_cons h⟩
theorem Xz {k n:Nat} (h:k<n) (hn:n<=1000000000):IntKind.i64.wrap ((k:Int)+1)=(k:Int)+1:=X5
def QY (a b:Int):Bool:=decide (a<=b)&&(decide (-1048576<=a)&&decide (b<=1048576))
theorem X2m (a b:Int) (d:Nat):Con prog 107 true [li a,li b] (.v (lb (QY a b))) none d:=by
 refine X2 Tryz.func107 ?_;simp only[Tryz.f107];refine X4 ?_;refine X4 ?_;exact(Qd (he:=by first|rfl|(simp[*,QY,NR];done)|(simp only[Xl,QY,NR];(repeat' split)<;>first|rfl|(exfalso;omega)|simp_all)))
theorem X2w (a b:Int) (d:Nat):Con prog 100 true [li a,li b] (.v (lb (QY a b))) none d:=by
 refine X2 Tryz.func100 ?_;simp only[Tryz.f100];refine X4 ?_;refine X4 ?_;exact(Qd (he:=by first|rfl|(simp[*,QY,NR];done)|(simp only[Xl,QY,NR];(repeat' split)<;>first|rfl|(exfalso;omega)|simp_all)))
def XI (o:Int):Int×Int:=if o=0\/o=24 then(0,0)else if o=6\/o=7 then(1,1)else if 8<=o/\o<=22 then(2,2)else if o=23 then(3,3)else if o=25 then(2,33)else(-1,-1)
theorem Xbe (o:Int) (d:Nat):Con prog 153 true [li o] (.tup [li (XI o).1,li (XI o).2]) none d:=by
 refine X2 Tryz.func153 ?_;simp only[Tryz.f153];refine X4 ?_;refine X0<|X3<|(Xc (fun h2=>?_) fun h2=>?_)
 .refine X4 ?_;exact(Qd (he:=by first|rfl|(simp[*,XI];done)|(simp only[Xl,XI];(repeat' split)<;>first|rfl|(exfalso;omega)|simp_all)))
 refine(Xc (fun h6=>?_) fun h6=>?_)
 .refine X4 ?_;exact(Qd (he:=by first|rfl|(simp[*,XI];done)|(simp only[Xl,XI];(repeat' split)<;>first|rfl|(exfalso;omega)|simp_all)))
 refine(Xc (fun h10=>?_) fun h10=>?_)
 .refine X4 ?_;exact(Qd (he:=by first|rfl|(simp[*,XI];done)|(simp only[Xl,XI];(repeat' split)<;>first|rfl|(exfalso;omega)|simp_all)))
 refine(Xc (fun h14=>?_) fun h14=>?_)
 .refine X4 ?_;exact(Qd (he:=by first|rfl|(simp[*,XI];done)|(simp only[Xl,XI];(repeat' split)<;>first|rfl|(exfalso;omega)|simp_all)))
 refine(X8 (fun h18=>?_) fun h18=>?_)
 .refine X4 ?_;exact(Qd (he:=by first|rfl|(simp[*,XI];done)|(simp only[Xl,XI];(repeat' split)<;>first|rfl|(exfalso;omega)|simp_all)))
 refine X4 ?_;exact(Qd (he:=by first|rfl|(simp[*,XI];done)|(simp only[Xl,XI];(repeat' split)<;>first|rfl|(exfalso;omega)|simp_all)))
theorem X1v (n:Int) (b:Bool) (d:Nat):Con prog 67 true [.one (.c (.ptr [iC n,bC b]))] (.v (lb (b||decide (1024<n)))) none d:=by
 refine X2 Tryz.func67 ?_;simp only[Tryz.f67];refine X4 ?_;exact X7
def X3n (s:ByteArray) (i:Nat):Bool:=
 match s[i]? with
 |some b=>(decide (97<=(b.toNat:Int))&&decide ((b.toNat:Int)<=122))||(decide (i≠0)&&((decide (48<=(b.toNat:Int))&&decide ((b.toNat:Int)<=57))||decide ((b.toNat:Int)=46)||decide ((b.toNat:Int)=95)))
 |none=>false
def X0P (s:ByteArray):Bool:=decide (1<=s.size)&&decide (s.size<=40)&&(List.range s.size).all (X3n s)
theorem X5Z {s:ByteArray} {k:Nat} (h:k<s.size):∃b,s[k]? =some b:=⟨s[k],by simp[h]⟩
theorem X71 {s:ByteArray}:s=⟨#[]⟩↔s.size=0:=by
 obtain⟨a⟩:=s;constructor
 .intro h;cases h;rfl
 intro h;have:a= #[]:=Array.eq_empty_of_size_eq_zero h;rw[this]
theorem X5G {s:ByteArray} {k:Nat} (hk:k<s.size) (h:X3n s k=false):X0P s=false:=by
 unfold X0P;rw[Nn];refine .inr ?_;rw[List.all_eq_false];exact⟨k,by simpa using hk,by simp[h]⟩
theorem X47 {s:ByteArray} (h1:1<=s.size) (h2:s.size<=40) (h:∀j:Nat,j<s.size->X3n s j=true):X0P s=true:=by
 unfold X0P;simp only[h1,h2,decide_true,NF,Nh,List.mem_range];exact h
theorem X5E (s:ByteArray) (d:Nat):Con prog 106 true [sv s] (.v (lb (X0P s))) none d:=by
 refine X2 Tryz.func106 ?_;simp only[Tryz.f106];refine X4 ?_;refine X0<|(X8 (fun h2=>?_) fun h2=>?_)
 .have hz:X0P s=false:=by
   unfold X0P;simp only[X71]at h2;rw[Nn,Nn];simp only[Nd];omega
  exact X7
 simp only[X71]at h2;have h1:1<=s.size:=by omega
 have h40:s.size<=40:=by omega
 refine X0<|X0<|X1 ?_;refine X3<|(Xb [0,14] (fun(x:Nat)=>[(15,.v (li x))]) (fun(x:Nat)=>[]) (fun(x:Nat)=>x<=s.size/\∀j:Nat,j<x->X3n s j=true) (fun(x:Nat)=>s.size - x) (0:Nat) ⟨Nc _,fun j hj=>absurd hj (Dk j)⟩ ?_);rintro k ⟨hk,hall⟩;simp only[LN,Nat.reduceBEq,Nat.reduceLT];refine(XS (fun h8=>X6 ?_) fun h8=>?_)
 .have hlt:k<s.size:=by omega
  obtain⟨b,hb⟩:=X5Z hlt;have hw:=Xz hlt (by omega);have hk1:k+1<=s.size:=hlt;clear hlt h8;refine X0<|X3<|X0<|X1 ?_;refine X4 ?_;refine X4 ?_;refine(X8 (fun h13=>?_) fun h13=>?_)
  .have hbad:X3n s k=false:=by
    unfold X3n;rw[hb];simp only[NH,Nn,Nd];omega
   have hz:=X5G hk1 hbad;exact X7
  have hgood:X3n s k=true:=by
   unfold X3n;rw[hb];simp only[Ng,N4,N7];omega
  refine X1 ?_;exact Xj (k+1) (⟨by omega,fun j hj=>(Nat.lt_succ_iff_lt_or_eq.1 hj).elim (hall j) (fun e=>e▸hgood)⟩)
 have hz:=X47 h1 h40 (fun j hj=>hall j (by omega));refine(Xd ?_);exact X7
mutual
def Tm.nodes:Tm->Nat
 | .mk _ _ ks=>1+Xs ks
def Xs:List Tm->Nat
 |[]=>0
 |t::l=>t.nodes+Xs l
end
mutual
def St.nodes:St->Nat
 | .mk _ _ _ _ t a b bs=>1+t.nodes+Xe a+Xe b
def Xe:List St->Nat
 |[]=>0
 |s::l=>s.nodes+Xe l
end
theorem X1p (t:Tm):1<=t.nodes:=by cases t;simp[Tm.nodes]
theorem X8M (t:St):1<=t.nodes:=by cases t;simp[St.nodes];omega
theorem Qy:∀l:List Tm,l.length<=Xs l
 |[]=>by simp[Xs]
 |t::l=>by have:=Qy l;have:=X1p t;simp only[Xs,List.length_cons];omega
theorem XB:∀l:List St,l.length<=Xe l
 |[]=>by simp[Xe]
 |t::l=>by have:=XB l;have:=X8M t;simp only[Xe,List.length_cons];omega
mutual
def mTm:Tm->Int->Int×Bool->Int×Bool
 | .mk _ _ ks,dep,s=>if((s.2||decide (12<dep))||decide (1024<s.1+1))=true then(s.1+1,s.2||decide (12<dep))else X2P ks (dep+1) (s.1+1,s.2||decide (12<dep))
def X2P:List Tm->Int->Int×Bool->Int×Bool
 |[],_,s=>s
 |t::l,dep,s=>X2P l dep (mTm t dep s)
end
mutual
theorem X0J:∀(t:Tm) (dep:Int) (s:Int×Bool),s.1<=(mTm t dep s).1/\(mTm t dep s).1<=s.1+t.nodes
 | .mk o n ks,dep,s=>by
   have:=X9y ks (dep+1) (s.1+1,s.2||decide (12<dep));simp only[mTm,Tm.nodes];split
   .simp only;omega
   simp only at this;omega
theorem X9y:∀(l:List Tm) (dep:Int) (s:Int×Bool),s.1<=(X2P l dep s).1/\(X2P l dep s).1<=s.1+Xs l
 |[],dep,s=>by simp[X2P,Xs]
 | t::l,dep,s=>by
   have h1:=X0J t dep s;have h2:=X9y l dep (mTm t dep s);simp only[X2P,Xs];omega
end
theorem X5T (t:Tm):∀(dep c:Int) (b:Bool),0<=dep->0<=c->c+t.nodes<=1000000000->
  X7p prog 68 [iC c,bC b] [aT t,li dep] (.tup []) [iC (mTm t dep (c,b)).1,bC (mTm t dep (c,b)).2]:=by
 induction t using Tm.ind with
 |h o n ks ih=>
 intro dep c b hdep hc hn;simp only[Tm.nodes]at hn;obtain⟨res,hres⟩:∃r,mTm (.mk o n ks) dep (c,b)=r:=⟨_,rfl⟩;rw[hres];simp only[mTm]at hres;have hlen:=Qy ks;have hw:IntKind.i64.wrap (c+1)=c+1:=X5;refine X2L Tryz.func68 rfl (by kernel_rfl) (Da rfl) ?_;simp only[Tryz.f68,aT,Tm.enc];refine X4 ?_;refine X4 ?_;refine X4 ?_;refine X0<|X0<|(Xa (X1v _ _) ?_);refine(XM (fun h4=>?_) fun h4=>?_)
 .rw[N9 (by simpa using h4)]at hres;subst hres;exact Xn (⟨.inr rfl,_,le_refl _,⟨_,by simp[*];rfl,by simp[Xl]⟩,by simp[*]⟩)
 rw[N6 (by simpa using h4)]at hres;have hdep2:dep<=12:=by omega
 have hwd:IntKind.i64.wrap (dep+1)=dep+1:=X5;refine X4 ?_;refine X3<|(Xb [0,2,29,30] (fun(x:Nat×Int×Bool)=>[(31,.v (li x.1))]) (fun(x:Nat×Int×Bool)=>[(1000000,.box [.c (iC x.2.1),.c (bC x.2.2)])]) (fun(x:Nat×Int×Bool)=>x.1<=ks.length/\X2P (ks.drop x.1) (dep+1) x.2=res/\0<=x.2.1/\x.2.1+Xs (ks.drop x.1)<=1000000000) (fun(x:Nat×Int×Bool)=>ks.length - x.1) (0,c+1,b||decide (12<dep)) ⟨Nc _,hres,by simp only;omega,by simp only[List.drop_zero];omega⟩ ?_);rintro⟨k,m,q⟩ ⟨hk,hJ,hm,hb⟩;simp only[LN,Nat.reduceBEq,Nat.reduceLT];simp only at hk hJ hm hb;refine(XS (fun h9=>X6 ?_) fun h9=>?_)
 .have hlt:k<ks.length:=by omega
  obtain⟨⟨eo,en,ek⟩,he,hd⟩:=Xw hlt;have he':=Qc he;simp only[Tm.enc]at he';have hw1:=Xz hlt (by omega);rw[hd]at hJ hb;simp only[X2P,Xs]at hJ hb;have hk1:k+1<=ks.length:=hlt;have hmem:Tm.mk eo en ek∈ks:=N3 he;have hle:=X0J (.mk eo en ek) (dep+1) (m,q);clear hlt h9;refine X0<|X3<|X0<|X1 ?_;refine(X0r 4 (.tup []) ([iC (mTm (.mk eo en ek) (dep+1) (m,q)).1,bC (mTm (.mk eo en ek) (dep+1) (m,q)).2]) rfl (by simp[*];rfl) (by simp[ioOf, *];first|exact⟨rfl,rfl,rfl,rfl,rfl⟩|exact⟨rfl,rfl,rfl,rfl⟩|exact⟨rfl,rfl,rfl⟩|exact⟨rfl,rfl⟩|rfl) (ih _ hmem (dep+1) m q (by omega) hm (by omega)) (by simp) (by simp[*];rfl) ?_);refine X1 ?_;exact Xj ((k+1,mTm (.mk eo en ek) (dep+1) (m,q))) (⟨hk1,hJ,by simp only at hle⊢;omega,by simp only at hle⊢;omega⟩) (hm:=by simp only;omega)
 have hkl:k=ks.length:=by omega
 subst hkl;rw[Nj]at hJ;simp only[X2P]at hJ;subst hJ;refine(Xd ?_);exact(⟨.inl rfl,_,le_refl _,⟨_,by simp[*];rfl,by simp[Xl]⟩,by simp[*]⟩)
def X0N (k:List (Int×Int)):List (List CD):=k.map fun p=>[iC p.1,iC p.2]
@[simp] theorem len_encP (k:List (Int×Int)):(X0N k).length=k.length:=by simp[X0N]
@[simp] theorem get_encP (k:List (Int×Int)) (i:Nat):(X0N k)[i]? =k[i]?.map fun p=>[iC p.1,iC p.2]:=by simp[X0N]
@[simp] theorem encP_nil:X0N []=[]:=rfl
abbrev aP (p:Int×Int):TV:=.agg [.c (iC p.1),.c (iC p.2)]
def mn (a b:Int):Int:=if b<a then b else a
def mx (a b:Int):Int:=if a<b then b else a
def Wb (p q:Int×Int):Int×Int:=(mn p.1 q.1,mx p.2 q.2)
def Wg:List (Int×Int)->Int×Int->Int×Int
 |[],p=>p
 |q::l,p=>Wg l (Wb p q)
def X2s (a b:Int×Int):Int×Int:=Wb (Wb (Wb (a.1*b.1,a.1*b.1) (a.1*b.2,a.1*b.2)) (a.2*b.1,a.2*b.1)) (a.2*b.2,a.2*b.2)
def bnd (p:Int×Int):Prop:=-1048576<=p.1/\p.1<=p.2/\p.2<=1048576
theorem X7q (p q:Int×Int) (d:Nat):Con prog 164 true [aP p,aP q] (.v (aP (Wb p q))) none d:=by
 refine X2 Tryz.func164 ?_;simp only[Tryz.f164];refine X4 ?_;refine X4 ?_;exact(Qd (he:=by simp[Xl,Wb,mn,mx]))
theorem X1L {x y:Int} (hx:-1048576<=x/\x<=1048576) (hy:-1048576<=y/\y<=1048576):-1099511627776<=x*y/\x*y<=1099511627776:=by
 have h1:x.natAbs<=1048576:=by omega
 have h2:y.natAbs<=1048576:=by omega
 have h3:=Nat.mul_le_mul h1 h2;rw[<-Int.natAbs_mul]at h3;omega
theorem X2c (x y:Int) (hx:-1048576<=x/\x<=1048576) (hy:-1048576<=y/\y<=1048576) (d:Nat):Con prog 163 true [li x,li y] (.v (li (x*y))) none d:=by
 have hm:=X1L hx hy;have hw:IntKind.i64.wrap (x*y)=x*y:=X5;refine X2 Tryz.func163 ?_;simp only[Tryz.f163];refine X4 ?_;exact X7
def X8m:List Int->Int×Int->Int×Int
 |[],p=>p
 |q::l,p=>X8m l (Wb p (q,q))
theorem X3I (a b:Int×Int) (ha:bnd a) (hb:bnd b) (d:Nat):Con prog 162 true [aP a,aP b,.one (.fn 163 [])] (.v (aP (X2s a b))) none d:=by
 obtain⟨a1,a2⟩:=a;obtain⟨b1,b2⟩:=b;simp only[bnd]at ha hb;refine X2 Tryz.func162 ?_;simp only[Tryz.f162];obtain⟨L,hL⟩:∃L,L=[a1*b2,a2*b1,a2*b2]:=⟨_,rfl⟩;have hlen:L.length=3:=by rw[hL];rfl
 obtain⟨res,hres⟩:∃res,X2s (a1,a2) (b1,b2)=res:=⟨_,rfl⟩;rw[hres];have hres2:X8m L (a1*b1,a1*b1)=res:=by rw[<-hres,hL];rfl
 clear hres;refine X4 ?_;refine ZY [⟨true,.v (li (a1*b1)),none⟩] ?_ ?_
 .first|exact X2c _ _ (by omega) (by omega) _|exact trivial|simpa[*]using X2c _ _ (by omega) (by omega) _
 refine X4 ?_;refine X0<|X0<|(Xx [⟨true,.v (li (a1*b2)),none⟩,⟨true,.v (li (a2*b1)),none⟩,⟨true,.v (li (a2*b2)),none⟩] (by kernel_rfl) (by kernel_rfl) (by rfl) (by simp[*];first|exact⟨rfl,Iff.rfl⟩|exact⟨rfl,trivial⟩|rfl) ?_ ?_)
 .first|exact trivial|exact trivial|(repeat' first|exact trivial|exact X2c _ _ (by omega) (by omega) _|exact X2c _ _ (by omega) (by omega) _|exact X2c _ _ (by omega) (by omega) _|apply And.intro)
 refine X3<|(Xb [6,8,38,39] (fun(x:Nat×Int×Int)=>[(40,.v (li x.1))]) (fun(x:Nat×Int×Int)=>[(6,.box [.c (iC 0),.c (iC 0)]),(8,.box [.c (iC x.2.1),.c (iC x.2.2)]),(38,.row 3 1 (Xk L))]) (fun(x:Nat×Int×Int)=>x.1<=3/\X8m (L.drop x.1) x.2=res) (fun(x:Nat×Int×Int)=>3 - x.1) (0,a1*b1,a1*b1) ⟨Nc _,hres2⟩ ?_ (QJ (fun n=>n) [] rfl (by simp[*,upS,Ql]) (by simp[upS,Xk,hL]) (by simp[upS])));rintro⟨k,m,q⟩ ⟨hk,hJ⟩;simp only[LN,Nat.reduceBEq,Nat.reduceLT];simp only at hk hJ;clear hres2 hL;refine(XS (fun h6=>X6 ?_) fun h6=>?_)
 .have hlt:k<L.length:=by omega
  obtain⟨e,he,hd⟩:=Xw hlt;have hw1:=Xz hlt (by omega);rw[hd]at hJ;simp only[X8m]at hJ;have hk1:k+1<=3:=by omega
  clear hlt h6;refine X0<|X3<|X0<|X1 ?_;refine(Xa (X7q (m,q) (e,e)) ?_);refine X1 ?_;exact Xj ((k+1,Wb (m,q) (e,e))) (⟨hk1,hJ⟩) (hm:=by simp only;omega)
 have hkl:k=L.length:=by omega
 rw[hkl,Nj]at hJ;simp only[X8m]at hJ;refine(Xd ?_);refine X4 ?_;exact(Qd (he:=by subst hJ;rfl))
def Zj (vars:List Vr) (inp:Bool) (n:Int):Bool:=
 decide (0<=n)&&match vars[n.toNat]? with
  |some v=> !(inp&&decide (v.kind=0))
  |none=>false
def XK (vars:List Vr) (inp:Bool) (o n:Int) (len:Nat):Bool:=
 (!decide ((XI o).1<0)&&(!decide ((len:Int)<(XI o).1)&& !decide ((XI o).2<(len:Int))))&&(if o=0 then true else if o=24 then Zj vars inp n else decide (n=0))
mutual
def Xt (vars:List Vr) (inp:Bool):Tm->Bool
 | .mk o n ks=>XK vars inp o n ks.length&&Q0 vars inp ks
def Q0 (vars:List Vr) (inp:Bool):List Tm->Bool
 |[]=>true
 |t::l=>Xt vars inp t&&Q0 vars inp l
end
theorem QB {vars:List Vr} {inp:Bool}:∀{l:List Tm},Q0 vars inp l=true->∀t∈l,Xt vars inp t=true
 |[],_,t,ht=>by cases ht
 | a::l,h,t,ht=>by
   simp only[Q0,N4]at h;rcases Ni.1 ht with rfl|h1
   .exact h.1
   exact QB h.2 t h1
theorem X2t {vars:List Vr} {n:Int}:(0<=n/\n<vars.length)->∃v,vars[n.toNat]? =some v:=by
 rintro⟨h1,h2⟩;have:n.toNat<vars.length:=by omega
 exact⟨vars[n.toNat],by simp[this]⟩
theorem X0k {vars:List Vr} {n:Int} (h1:0<=n) (h2:¬n<vars.length):vars[n.toNat]? =none:=by
 rw[NB];omega
theorem Xb5 (vars:List Vr) (inp:Bool) (hv:vars.length<=1000000000) (t:Tm):t.nodes<=1000000000->∀d:Nat,
  Con prog 135 true [lV vars,aT t,lb inp] (.v (lb (Xt vars inp t))) none d:=by
 induction t using Tm.ind with
 |h o n ks ih=>
 intro hn d;simp only[Tm.nodes]at hn;have hlen:=Qy ks;obtain⟨res,hres⟩:∃r,Xt vars inp (.mk o n ks)=r:=⟨_,rfl⟩;rw[hres];simp only[Xt]at hres
 have ih':∀t∈ks,∀d,Con prog 135 true [lV vars,aT t,lb inp] (.v (lb (Xt vars inp t))) none d:=by
  intro t ht d;refine ih t ht ?_ d
  have:t.nodes<=Xs ks:=by
   clear hres ih hn hlen
   induction ks with
   |nil=>cases ht
   | cons a l ih=>
     simp only[Xs];rcases Ni.1 ht with rfl|h
     .omega
     have:=ih h;omega
  omega
 clear ih;refine X2 Tryz.func135 ?_;simp only[Tryz.f135];simp only[aT,Tm.enc];refine X4 ?_;refine X0<|(Xa (Xbe o) ?_);refine X0<|(X8 (fun h3=>?_) fun h3=>?_)
 .have hz:XK vars inp o n ks.length=false:=by
   unfold XK;rw[Nn];refine .inl ?_;simp only[Nn,Bool.not_eq_false',N7];omega
  rw[hz,NY]at hres;refine X4 ?_;exact(Qd (he:=by first|rfl|simp[*]))
 have hz:(!decide ((XI o).1<0)&&(!decide ((ks.length:Int)<(XI o).1)&& !decide ((XI o).2<(ks.length:Int))))=true:=by
  simp only[N4,Nk,Nd];omega
 refine(XY [0,2,4] (fun(z:Unit)=>[]) (fun(z:Unit)=>[(4,.box [.c (iC o),.c (iC n),.c (.sl 3 (Xg ks))])]) (fun(z:Unit)=>XK vars inp o n ks.length=true) ?_ ?_)
 .refine X4 ?_;refine X3<|(Xc (fun h9=>X6 ?_) fun h9=>?_)
  .exact Xv (()) (by unfold XK;rw[hz,NF,N9 h9])
  refine(Xc (fun h12=>?_) fun h12=>?_)
  .by_cases hn0:0<=n
   .by_cases hn3:n<vars.length
    .obtain⟨v,hv1⟩:=X2t ⟨hn0,hn3⟩;have hn1:¬(vars.length:Int)<=n:=by omega
     have hn2:¬n<0:=by omega
     clear hn3;refine(X8 (fun h14=>?_) fun h14=>?_)
     .have hz3:XK vars inp o n ks.length=false:=by
       unfold XK Zj;rw[hz,NF,N6 h9,N9 h12,hv1];simp[h14]
      rw[hz3,NY]at hres;refine X4 ?_;exact(Qd (he:=by first|rfl|simp[*]))
     exact Xv (()) (by
      unfold XK Zj;rw[hz,NF,N6 h9,N9 h12,hv1];simp only[N4,Nk,Nn,N7,Nd]
      exact⟨hn0,h14⟩)
    cases inp
    .have hv1:=X0k hn0 hn3;have hn1:(vars.length:Int)<=n:=by omega
     have hn2:¬n<0:=by omega
     have hz2:∀i,Zj vars i n=false:=by intro i;simp[Zj,hv1]
     clear hn3;refine(X8 (fun h14=>?_) fun h14=>?_)
     .have hz3:∀i,XK vars i o n ks.length=false:=by
       intro i;unfold XK;rw[hz,NF,N6 h9,N9 h12,hz2]
      rw[hz3,NY]at hres;refine X4 ?_;exact(Qd (he:=by first|rfl|simp[*]))
     exact absurd h14 (by simp)
    have hv1:=X0k hn0 hn3;have hn1:(vars.length:Int)<=n:=by omega
    have hn2:¬n<0:=by omega
    have hz2:∀i,Zj vars i n=false:=by intro i;simp[Zj,hv1]
    clear hn3;refine(X8 (fun h14=>?_) fun h14=>?_)
    .have hz3:∀i,XK vars i o n ks.length=false:=by
      intro i;unfold XK;rw[hz,NF,N6 h9,N9 h12,hz2]
     rw[hz3,NY]at hres;refine X4 ?_;exact(Qd (he:=by first|rfl|simp[*]))
    exact absurd h14 (by simp)
   cases inp
   .have hn2:n<0:=by omega
    have hz2:∀i,Zj vars i n=false:=by intro i;simp[Zj,hn0]
    refine(X8 (fun h14=>?_) fun h14=>?_)
    .have hz3:∀i,XK vars i o n ks.length=false:=by
      intro i;unfold XK;rw[hz,NF,N6 h9,N9 h12,hz2]
     rw[hz3,NY]at hres;refine X4 ?_;exact(Qd (he:=by first|rfl|simp[*]))
    exact absurd h14 (by simp)
   have hn2:n<0:=by omega
   have hz2:∀i,Zj vars i n=false:=by intro i;simp[Zj,hn0]
   refine(X8 (fun h14=>?_) fun h14=>?_)
   .have hz3:∀i,XK vars i o n ks.length=false:=by
     intro i;unfold XK;rw[hz,NF,N6 h9,N9 h12,hz2]
    rw[hz3,NY]at hres;refine X4 ?_;exact(Qd (he:=by first|rfl|simp[*]))
   exact absurd h14 (by simp)
  refine(X8 (fun h19=>?_) fun h19=>?_)
  .have hz3:XK vars inp o n ks.length=false:=by
    unfold XK;rw[hz,NF,N6 h9,N6 h12];simpa using h19
   rw[hz3,NY]at hres;refine X4 ?_;exact(Qd (he:=by first|rfl|simp[*]))
  exact Xv (()) (by
   unfold XK;rw[hz,NF,N6 h9,N6 h12]
   simpa using h19)
 rintro z hz;simp only[LN,Nat.reduceBEq,Nat.reduceLT];rw[hz,NF]at hres;refine X0<|X0<|X1 ?_;refine X3<|(Xb [0,2,65,66] (fun(x:Nat)=>[(67,.v (li x))]) (fun(x:Nat)=>[]) (fun(x:Nat)=>x<=ks.length/\Q0 vars inp (ks.drop x)=res) (fun(x:Nat)=>ks.length - x) (0:Nat) ⟨Nc _,hres⟩ ?_);rintro k ⟨hk,hJ⟩;simp only[LN,Nat.reduceBEq,Nat.reduceLT];refine(XS (fun h26=>X6 ?_) fun h26=>?_)
 .have hlt:k<ks.length:=by omega
  obtain⟨⟨eo,en,ek⟩,he,hd⟩:=Xw hlt;have he':=Qc he;simp only[Tm.enc]at he';have hw1:=Xz hlt (by omega);rw[hd]at hJ;simp only[Q0]at hJ;have hk1:k+1<=ks.length:=hlt;have hmem:Tm.mk eo en ek∈ks:=N3 he;clear hlt h26;refine X0<|X3<|X0<|X1 ?_;refine X0<|(Xa (ih' _ hmem) ?_);refine(XM (fun h29=>?_) fun h29=>?_)
  .rw[h29,NY]at hJ;subst hJ;refine X4 ?_;exact(Qd (he:=by first|rfl|simp[*]))
  rw[h29,NF]at hJ;refine X1 ?_;exact Xj (k+1) (⟨hk1,hJ⟩)
 have hkl:k=ks.length:=by omega
 subst hkl;rw[Nj]at hJ;simp only[Q0]at hJ;subst hJ;refine(Xd ?_);refine X4 ?_;exact(Qd (he:=by first|rfl|simp[*]))
theorem W3 {ks:List Tm} {t:Tm} (ht:t∈ks):t.nodes<=Xs ks:=by
 induction ks with
 |nil=>cases ht
 | cons a l ih=>
   simp only[Xs];rcases Ni.1 ht with rfl|h
   .omega
   have:=ih h;omega
theorem Qj (a b:Int) (d:Nat):Con prog 104 true [li a,li b] (.v (li (mn a b))) none d:=by
 refine X2 Tryz.func104 ?_;simp only[Tryz.f104];refine X4 ?_;refine X0<|(X8 (fun h2=>?_) fun h2=>?_)
 .have hz:mn a b=a:=by unfold mn;split<;>omega
  exact X7
 have hz:mn a b=b:=by unfold mn;split<;>omega
 exact X7
theorem Qt (a b:Int) (d:Nat):Con prog 103 true [li a,li b] (.v (li (mx a b))) none d:=by
 refine X2 Tryz.func103 ?_;simp only[Tryz.f103];refine X4 ?_;refine X0<|(X8 (fun h2=>?_) fun h2=>?_)
 .have hz:mx a b=a:=by unfold mx;split<;>omega
  exact X7
 have hz:mx a b=b:=by unfold mx;split<;>omega
 exact X7
def X2B (a:Int):Int:=if a<0 then -a else a
theorem X79 (a:Int) (h:-1048576<=a/\a<=1048576) (d:Nat):Con prog 145 true [li a] (.v (li (X2B a))) none d:=by
 have hw:IntKind.i64.wrap (-a)=-a:=X5;refine X2 Tryz.func145 ?_;simp only[Tryz.f145];refine X4 ?_;refine X0<|(X8 (fun h2=>?_) fun h2=>?_)
 .refine X4 ?_;exact(Qd (he:=by first|rfl|(simp[*,X2B];done)|(simp only[Xl,X2B];(repeat' split)<;>first|rfl|(exfalso;omega)|simp_all)))
 refine X4 ?_;exact(Qd (he:=by first|rfl|(simp[*,X2B];done)|(simp only[Xl,X2B];(repeat' split)<;>first|rfl|(exfalso;omega)|simp_all)))
def WO (o:Int):Int:=if o=0\/o=24 then 0 else if o=6\/o=7 then 1 else if 8<=o/\o<=22 then 2 else if o=23 then 3 else if o=25 then -2 else -1
theorem Xb0 (o:Int) (d:Nat):Con prog 149 true [li o] (.v (li (WO o))) none d:=by
 refine X2 Tryz.func149 ?_;simp only[Tryz.f149];refine X4 ?_;refine X0<|X0<|X1 ?_;refine X3<|(XY [3] (fun(z:Bool)=>[(4,.v (lb z))]) (fun(z:Bool)=>[]) (fun(z:Bool)=>z=decide (o=0\/o=24)) ?_ ?_)
 .refine(Xc (fun h4=>X6 ?_) fun h4=>?_)
  .exact Xv (decide (o=0\/o=24)) (rfl)
  refine X1 ?_;exact Xv (decide (o=0\/o=24)) (rfl)
 rintro _ rfl;simp only[LN,Nat.reduceBEq,Nat.reduceLT];refine(QR (fun h8=>?_) fun h8=>?_)
 .refine X4 ?_;exact(Qd (he:=by first|rfl|(simp[*,WO];done)|(simp only[Xl,WO];(repeat' split)<;>first|rfl|(exfalso;omega)|simp_all)))
 refine(XY [3] (fun(z:Bool)=>[(7,.v (lb z))]) (fun(z:Bool)=>[]) (fun(z:Bool)=>z=decide (o=6\/o=7)) ?_ ?_)
 .refine(Xc (fun h13=>X6 ?_) fun h13=>?_)
  .exact Xv (decide (o=6\/o=7)) (rfl)
  refine X1 ?_;exact Xv (decide (o=6\/o=7)) (rfl)
 rintro _ rfl;simp only[LN,Nat.reduceBEq,Nat.reduceLT];refine(QR (fun h17=>?_) fun h17=>?_)
 .refine X4 ?_;exact(Qd (he:=by first|rfl|(simp[*,WO];done)|(simp only[Xl,WO];(repeat' split)<;>first|rfl|(exfalso;omega)|simp_all)))
 refine(XY [3] (fun(z:Bool)=>[(10,.v (lb z))]) (fun(z:Bool)=>[]) (fun(z:Bool)=>z=decide (8<=o/\o<=22)) ?_ ?_)
 .refine(Xc (fun h22=>X6 ?_) fun h22=>?_)
  .exact Xv (decide (8<=o/\o<=22)) (rfl)
  refine(Xc (fun h25=>X6 ?_) fun h25=>?_)
  .exact Xv (decide (8<=o/\o<=22)) (rfl)
  refine(Xc (fun h28=>X6 ?_) fun h28=>?_)
  .exact Xv (decide (8<=o/\o<=22)) (rfl)
  refine(Xc (fun h31=>X6 ?_) fun h31=>?_)
  .exact Xv (decide (8<=o/\o<=22)) (rfl)
  refine(Xc (fun h34=>X6 ?_) fun h34=>?_)
  .exact Xv (decide (8<=o/\o<=22)) (rfl)
  refine(Xc (fun h37=>X6 ?_) fun h37=>?_)
  .exact Xv (decide (8<=o/\o<=22)) (rfl)
  refine(Xc (fun h40=>X6 ?_) fun h40=>?_)
  .exact Xv (decide (8<=o/\o<=22)) (rfl)
  refine(Xc (fun h43=>X6 ?_) fun h43=>?_)
  .exact Xv (decide (8<=o/\o<=22)) (rfl)
  refine(Xc (fun h46=>X6 ?_) fun h46=>?_)
  .exact Xv (decide (8<=o/\o<=22)) (rfl)
  refine(Xc (fun h49=>X6 ?_) fun h49=>?_)
  .exact Xv (decide (8<=o/\o<=22)) (rfl)
  refine(Xc (fun h52=>X6 ?_) fun h52=>?_)
  .exact Xv (decide (8<=o/\o<=22)) (rfl)
  refine(Xc (fun h55=>X6 ?_) fun h55=>?_)
  .exact Xv (decide (8<=o/\o<=22)) (rfl)
  refine(Xc (fun h58=>X6 ?_) fun h58=>?_)
  .exact Xv (decide (8<=o/\o<=22)) (rfl)
  refine(Xc (fun h61=>X6 ?_) fun h61=>?_)
  .exact Xv (decide (8<=o/\o<=22)) (rfl)
  refine X1 ?_;have hz:decide (o=22)=(decide (8<=o)&&decide (o<=22)):=by rw[<-Bool.decide_and,decide_eq_decide];omega
  exact Xv (decide (8<=o/\o<=22)) (rfl)
 rintro _ rfl;simp only[LN,Nat.reduceBEq,Nat.reduceLT];refine(QR (fun h65=>?_) fun h65=>?_)
 .refine X4 ?_;exact(Qd (he:=by first|rfl|(simp[*,WO];done)|(simp only[Xl,WO];(repeat' split)<;>first|rfl|(exfalso;omega)|simp_all)))
 refine(Xc (fun h69=>?_) fun h69=>?_)
 .refine X4 ?_;exact(Qd (he:=by first|rfl|(simp[*,WO];done)|(simp only[Xl,WO];(repeat' split)<;>first|rfl|(exfalso;omega)|simp_all)))
 refine(X8 (fun h73=>?_) fun h73=>?_)
 .refine X4 ?_;exact(Qd (he:=by first|rfl|(simp[*,WO];done)|(simp only[Xl,WO];(repeat' split)<;>first|rfl|(exfalso;omega)|simp_all)))
 refine X4 ?_;exact(Qd (he:=by first|rfl|(simp[*,WO];done)|(simp only[Xl,WO];(repeat' split)<;>first|rfl|(exfalso;omega)|simp_all)))
end Go.Proofs.YtdccocolnaklkaaGreatDoor
