/- Contracts of functions and plain facts about what they compute. Conditions: as each theorem states. -/
import Derived.Test.YtdccocolnaklkaaGreatDoorProg
import Derived.Test.YtdccocolnaklkaaGreatDoorH5
import Derived.KernelRfl
set_option linter.unusedSimpArgs false
set_option linter.unusedVariables false
set_option linter.unnecessarySimpa false
set_option maxRecDepth 100000
set_option maxHeartbeats 2000000
namespace Go.Proofs.YtdccocolnaklkaaGreatDoor
open Go Go.Hl
open Tryz(prog)
@[simp] theorem ty2:XY prog 2=some ⟨1,8,false,[.int .i64 0],.other⟩/\Qv prog 2=false/\XD prog 2=false/\XY prog 3=some ⟨1,8,false,[.int .i64 0],.other⟩/\Qv prog 3=false/\XD prog 3=false/\XY prog 4=some ⟨1,1,false,[.bool false],.other⟩/\X3L prog 4=true/\Qv prog 4=false/\XD prog 4=false/\XY prog 5=some ⟨1,1,false,[.int .u8 0],.other⟩/\Qv prog 5=false/\XD prog 5=false/\XY prog 9=some ⟨1,16,false,[.string ⟨#[]⟩],.other⟩/\strT prog 9=true/\Qv prog 9=false/\XD prog 9=false/\XY prog 22=some ⟨1,24,false,[.slice none 0 0],.slice 60⟩/\Qv prog 22=false/\XD prog 22=true/\XY prog 23=some ⟨1,24,false,[.slice none 0 0],.slice 94⟩/\Qv prog 23=false/\XD prog 23=true/\XY prog 24=some ⟨1,24,false,[.slice none 0 0],.slice 63⟩/\Qv prog 24=false/\XD prog 24=true/\XY prog 26=some ⟨3,72,true,[.slice none 0 0,.slice none 0 0,.slice none 0 0],.struct [(0,22),(1,23),(2,24)]⟩/\Qv prog 26=false/\XD prog 26=false/\XY prog 27=some ⟨1,24,false,[.slice none 0 0],.slice 3⟩/\Qv prog 27=false/\XD prog 27=true/\XY prog 30=some ⟨1,8,false,[.int .i64 0],.other⟩/\Qv prog 30=false/\XD prog 30=false/\XY prog 37=some ⟨1,24,false,[.slice none 0 0],.slice 40⟩/\Qv prog 37=false/\XD prog 37=true/\XY prog 40=some ⟨3,72,true,[.slice none 0 0,.slice none 0 0,.slice none 0 0],.struct [(0,27),(1,27),(2,27)]⟩/\Qv prog 40=false:=by and_intros<;>kernel_rfl
@[simp] theorem sf40:XD prog 40=false/\XY prog 42=some ⟨2,32,true,[.slice none 0 0,.int .i64 0],.struct [(0,27),(1,3)]⟩/\Qv prog 42=false/\XD prog 42=false/\XY prog 53=some ⟨1,8,false,[.int .i64 0],.other⟩/\Qv prog 53=false/\XD prog 53=false/\XY prog 54=some ⟨1,24,false,[.slice none 0 0],.slice 56⟩/\Qv prog 54=false/\XD prog 54=true/\XY prog 56=some ⟨3,40,true,[.int .i64 0,.int .i64 0,.slice none 0 0],.struct [(0,53),(1,3),(2,54)]⟩/\Qv prog 56=false/\XD prog 56=false/\XY prog 57=some ⟨1,8,false,[.nilFunc],.other⟩/\Qv prog 57=false/\XD prog 57=false/\XY prog 58=some ⟨1,8,false,[.int .i64 0],.other⟩/\Qv prog 58=false/\XD prog 58=false/\XY prog 60=some ⟨5,48,true,[.string ⟨#[]⟩,.int .i64 0,.int .i64 0,.int .i64 0,.int .i64 0],.struct [(0,9),(1,58),(2,3),(3,3),(4,3)]⟩/\Qv prog 60=false/\XD prog 60=false/\XY prog 61=some ⟨1,8,false,[.int .i64 0],.other⟩/\Qv prog 61=false/\XD prog 61=false/\XY prog 63=some ⟨10,144,true,[.int .i64 0,.int .i64 0,.int .i64 0,.int .i64 0,.int .i64 0,.int .i64 0,.slice none 0 0,.slice none 0 0,.slice none 0 0,.slice none 0 0],.struct [(0,61),(1,3),(2,3),(3,3),(4,56),(7,24),(8,24),(9,27)]⟩/\Qv prog 63=false/\XD prog 63=false/\XY prog 72=some ⟨1,24,false,[.slice none 0 0],.slice 9⟩/\Qv prog 72=false/\XD prog 72=true/\XY prog 79=some ⟨1,8,false,[.nilFunc],.other⟩/\Qv prog 79=false/\XD prog 79=false/\XY prog 86=some ⟨3,56,true,[.slice none 0 0,.slice none 0 0,.int .i64 0],.struct [(0,27),(1,27),(2,3)]⟩/\Qv prog 86=false/\XD prog 86=false/\XY prog 90=some ⟨1,8,false,[.map none],.other⟩/\Qv prog 90=false/\XD prog 90=false:=by and_intros<;>kernel_rfl
@[simp] theorem ty94:XY prog 94=some ⟨6,72,true,[.string ⟨#[]⟩,.int .i64 0,.int .i64 0,.int .i64 0,.int .i64 0,.slice none 0 0],.struct [(0,9),(1,3),(2,3),(3,56)]⟩/\Qv prog 94=false/\XD prog 94=false/\XY prog 106=some ⟨2,16,true,[.int .i64 0,.bool false],.struct [(0,3),(1,4)]⟩/\Qv prog 106=false/\XD prog 106=false/\XY prog 112=some ⟨3,24,true,[.int .i64 0,.int .i64 0,.int .i64 0],.struct [(0,3),(1,3),(2,3)]⟩/\Qv prog 112=false/\XD prog 112=false/\XY prog 131=some ⟨1,24,false,[.slice none 0 0],.slice 4⟩/\Qv prog 131=false/\XD prog 131=true/\XY prog 140=some ⟨1,24,false,[.slice none 0 0],.slice 58⟩/\Qv prog 140=false/\XD prog 140=true/\XY prog 143=some ⟨1,24,false,[.slice none 0 0],.slice 24⟩/\Qv prog 143=false/\XD prog 143=true/\XY prog 164=some ⟨2,16,true,[.int .i64 0,.int .i64 0],.struct [(0,3),(1,3)]⟩/\Qv prog 164=false/\XD prog 164=false/\XY prog 178=some ⟨1,24,false,[.slice none 0 0],.slice 164⟩/\Qv prog 178=false/\XD prog 178=true/\XY prog 180=some ⟨24,24,true,[.int .u8 0,.int .u8 0,.int .u8 0,.int .u8 0,.int .u8 0,.int .u8 0,.int .u8 0,.int .u8 0,.int .u8 0,.int .u8 0,.int .u8 0,.int .u8 0,.int .u8 0,.int .u8 0,.int .u8 0,.int .u8 0,.int .u8 0,.int .u8 0,.int .u8 0,.int .u8 0,.int .u8 0,.int .u8 0,.int .u8 0,.int .u8 0],.array 24 5⟩/\Qv prog 180=false/\XD prog 180=false/\arrI prog 180=some (24,.u8)/\Qv prog 181=false/\XD prog 181=false/\XY prog 184=some ⟨1,24,false,[.slice none 0 0],.slice 5⟩/\Qv prog 184=false/\XD prog 184=true/\Qv prog 189=false/\XD prog 189=false/\Qv prog 190=false/\XD prog 190=false/\Qv prog 191=false/\XD prog 191=false/\arrI prog 191=some (65,.u8):=by and_intros<;>kernel_rfl
@[simp] theorem pf192:Qv prog 192=false/\XD prog 192=false/\XY prog 195=some ⟨32,32,true,[.int .u8 0,.int .u8 0,.int .u8 0,.int .u8 0,.int .u8 0,.int .u8 0,.int .u8 0,.int .u8 0,.int .u8 0,.int .u8 0,.int .u8 0,.int .u8 0,.int .u8 0,.int .u8 0,.int .u8 0,.int .u8 0,.int .u8 0,.int .u8 0,.int .u8 0,.int .u8 0,.int .u8 0,.int .u8 0,.int .u8 0,.int .u8 0,.int .u8 0,.int .u8 0,.int .u8 0,.int .u8 0,.int .u8 0,.int .u8 0,.int .u8 0,.int .u8 0],.array 32 5⟩/\Qv prog 195=false/\XD prog 195=false/\arrI prog 195=some (32,.u8)/\Qv prog 196=false/\XD prog 196=false/\arrI prog 196=some (64,.u8)/\X67 prog 60=some [false,true,true,true,true]/\arrI prog 60=none:=by and_intros<;>kernel_rfl
theorem X8 {n:Int} (h1:-9223372036854775808<=n:=by omega) (h2:n<=9223372036854775807:=by omega):IntKind.i64.wrap n=n:=IntWalk.i64_in n ⟨h1,h2⟩
inductive Tm where
 |mk (op n:Int) (kids:List Tm)
mutual
def Tm.enc:Tm->List CD
 | .mk o n ks=>[iC o,iC n,.sl 3 (XH ks)]
def XH:List Tm->List (List CD)
 |[]=>[]
 |t::l=>t.enc::XH l
end
inductive St where
 |mk (do_ cost var n:Int) (term:Tm) (then_ else_:List St) (bounds:List Int)
def Xg (l:List Int):List (List CD):=l.map fun n=>[iC n]
mutual
def St.enc:St->List CD
 | .mk d c v n t a b bs=>[iC d,iC c,iC v,iC n]++t.enc++[.sl 10 (Xe a),.sl 10 (Xe b),.sl 1 (Xg bs)]
def Xe:List St->List (List CD)
 |[]=>[]
 |s::l=>s.enc::Xe l
end
structure Vr where
 name:ByteArray
 kind:Int
 low:Int
 high:Int
 init:Int
structure Ht where
 name:ByteArray
 low:Int
 high:Int
 term:Tm
structure Fl where
 vars:List Vr
 hats:List Ht
 body:List St
def Vr.enc (v:Vr):List CD:=[sC v.name,iC v.kind,iC v.low,iC v.high,iC v.init]
def Ht.enc (h:Ht):List CD:=[sC h.name,iC h.low,iC h.high]++h.term.enc
def Xt (l:List Vr):List (List CD):=l.map Vr.enc
def Xz (l:List Ht):List (List CD):=l.map Ht.enc
def Fl.enc (f:Fl):List CD:=[.sl 5 (Xt f.vars),.sl 6 (Xz f.hats),.sl 10 (Xe f.body)]
attribute [simp] Vr.enc Ht.enc Fl.enc Tm.enc St.enc
theorem ZU (l:List Tm):XH l=l.map Tm.enc:=by
 induction l with
 |nil=>simp[XH]
 |cons t l ih=>simp[XH,ih]
theorem WK (l:List St):Xe l=l.map St.enc:=by
 induction l with
 |nil=>simp[Xe]
 |cons t l ih=>simp[Xe,ih]
theorem Tm.ind {p:Tm->Prop} (h:∀o n ks,(∀t∈ks,p t)->p (.mk o n ks)):∀t,p t
 | .mk o n ks=>h o n ks fun t ht=>Tm.ind h t
theorem St.ind {p:St->Prop} (h:∀d c v n t a b bs,(∀s∈a,p s)->(∀s∈b,p s)->p (.mk d c v n t a b bs)):∀s,p s
 | .mk d c v n t a b bs=>h d c v n t a b bs (fun s hs=>St.ind h s) (fun s hs=>St.ind h s)
def Tm.op:Tm->Int| .mk o _ _=>o
def Tm.n:Tm->Int| .mk _ n _=>n
def Tm.kids:Tm->List Tm| .mk _ _ k=>k
def St.do_:St->Int| .mk d _ _ _ _ _ _ _=>d
def St.cost:St->Int| .mk _ c _ _ _ _ _ _=>c
def St.var:St->Int| .mk _ _ v _ _ _ _ _=>v
def St.n:St->Int| .mk _ _ _ n _ _ _ _=>n
def St.term:St->Tm| .mk _ _ _ _ t _ _ _=>t
def St.then_:St->List St| .mk _ _ _ _ _ a _ _=>a
def St.else_:St->List St| .mk _ _ _ _ _ _ b _=>b
def St.bounds:St->List Int| .mk _ _ _ _ _ _ _ bs=>bs
abbrev aT (t:Tm):TV:=.agg (t.enc.map .c)
abbrev aS (s:St):TV:=.agg (s.enc.map .c)
abbrev aV (v:Vr):TV:=.agg (v.enc.map .c)
abbrev aH (h:Ht):TV:=.agg (h.enc.map .c)
abbrev aF (f:Fl):TV:=.agg (f.enc.map .c)
abbrev lV (l:List Vr):TV:=.one (.c (.sl 5 (Xt l)))
abbrev lS (l:List St):TV:=.one (.c (.sl 10 (Xe l)))
abbrev lI (l:List Int):TV:=.one (.c (.sl 1 (Xg l)))
theorem QP {ks:List Tm} {i:Nat} {t:Tm} (h:ks[i]? =some t):(XH ks)[i]? =some t.enc:=by rw[ZU,Nj,h];rfl
theorem Qo {ks:List St} {i:Nat} {t:St} (h:ks[i]? =some t):(Xe ks)[i]? =some t.enc:=by rw[WK,Nj,h];rfl
@[simp] theorem len_encT (ks:List Tm):(XH ks).length=ks.length:=by rw[ZU,NY]
@[simp] theorem len_encS (ks:List St):(Xe ks).length=ks.length:=by rw[WK,NY]
@[simp] theorem len_encV (ks:List Vr):(Xt ks).length=ks.length:=by simp[Xt]
@[simp] theorem len_encH (ks:List Ht):(Xz ks).length=ks.length:=by simp[Xz]
@[simp] theorem len_encI (ks:List Int):(Xg ks).length=ks.length:=by simp[Xg]
@[simp] theorem get_encV (ks:List Vr) (i:Nat):(Xt ks)[i]? =ks[i]?.map Vr.enc:=by simp[Xt]
@[simp] theorem get_encH (ks:List Ht) (i:Nat):(Xz ks)[i]? =ks[i]?.map Ht.enc:=by simp[Xz]
@[simp] theorem X3A (ks:List Int) (i:Nat):(Xg ks)[i]? =ks[i]?.map fun n=>[iC n]:=by simp[Xg]
@[simp] theorem encV_nil:Xt []=[]:=rfl
@[simp] theorem encH_nil:Xz []=[]:=rfl
@[simp] theorem encI_nil:Xg []=[]:=rfl
attribute [simp] XH Xe
theorem XF {T:Type} {l:List T} {k:Nat} (h:k<l.length):∃x,l[k]? =some x/\l.drop k=x::l.drop (k+1):=
 ⟨l[k],Ny h,List.drop_eq_getElem_cons h⟩
theorem XB {k n:Nat} (h:k<n) (hn:n<=1000000000):IntKind.i64.wrap ((k:Int)+1)=(k:Int)+1:=X8
def Qp (a b:Int):Bool:=decide (a<=b)&&(decide (-1048576<=a)&&decide (b<=1048576))
theorem Zf (a b:Int) (d:Nat):Con prog 107 true [li a,li b] (.v (lb (Qp a b))) none d:=by
 refine X3 Tryz.func107 ?_;simp only[Tryz.f107];refine X1 ?_;refine X1 ?_;exact(Xb (he:=by first|rfl|(simp[*,Qp,NO];done)|(simp only[Xp,Qp,NO];(repeat' split)<;>first|rfl|(exfalso;omega)|simp_all)))
theorem Zi (a b:Int) (d:Nat):Con prog 100 true [li a,li b] (.v (lb (Qp a b))) none d:=by
 refine X3 Tryz.func100 ?_;simp only[Tryz.f100];refine X1 ?_;refine X1 ?_;exact(Xb (he:=by first|rfl|(simp[*,Qp,NO];done)|(simp only[Xp,Qp,NO];(repeat' split)<;>first|rfl|(exfalso;omega)|simp_all)))
def XK (o:Int):Int×Int:=if o=0\/o=24 then(0,0)else if o=6\/o=7 then(1,1)else if 8<=o/\o<=22 then(2,2)else if o=23 then(3,3)else if o=25 then(2,33)else(-1,-1)
theorem X5e (o:Int) (d:Nat):Con prog 153 true [li o] (.tup [li (XK o).1,li (XK o).2]) none d:=by
 refine X3 Tryz.func153 ?_;simp only[Tryz.f153];refine X1 ?_;refine X0<|X4<|X0<|X2 ?_;refine(X6 rfl (fun h2=>?_) (fun h2=>?_))
 ·(try simp only[BN]at h2);refine X1 ?_;exact(Xb (he:=by first|rfl|(simp[*,XK];done)|(simp only[Xp,XK];(repeat' split)<;>first|rfl|(exfalso;omega)|simp_all)))
 (try simp only[BN]at h2);refine X1 ?_;refine(X6 rfl (fun h6=>?_) (fun h6=>?_))
 ·(try simp only[BN]at h6);refine X1 ?_;exact(Xb (he:=by first|rfl|(simp[*,XK];done)|(simp only[Xp,XK];(repeat' split)<;>first|rfl|(exfalso;omega)|simp_all)))
 (try simp only[BN]at h6);refine X1 ?_;refine(X6 rfl (fun h10=>?_) (fun h10=>?_))
 ·(try simp only[BN]at h10);refine X1 ?_;exact(Xb (he:=by first|rfl|(simp[*,XK];done)|(simp only[Xp,XK];(repeat' split)<;>first|rfl|(exfalso;omega)|simp_all)))
 (try simp only[BN]at h10);refine X1 ?_;refine(X6 rfl (fun h14=>?_) (fun h14=>?_))
 ·(try simp only[BN]at h14);refine X1 ?_;exact(Xb (he:=by first|rfl|(simp[*,XK];done)|(simp only[Xp,XK];(repeat' split)<;>first|rfl|(exfalso;omega)|simp_all)))
 (try simp only[BN]at h14);refine X1 ?_;refine(X9 rfl (fun h18=>?_) fun h18=>?_)
 ·(try simp only[BN]at h18);refine X1 ?_;exact(Xb (he:=by first|rfl|(simp[*,XK];done)|(simp only[Xp,XK];(repeat' split)<;>first|rfl|(exfalso;omega)|simp_all)))
 (try simp only[BN]at h18);refine X1 ?_;exact(Xb (he:=by first|rfl|(simp[*,XK];done)|(simp only[Xp,XK];(repeat' split)<;>first|rfl|(exfalso;omega)|simp_all)))
theorem Wr (n:Int) (b:Bool) (d:Nat):Con prog 67 true [.one (.c (.ptr [iC n,bC b]))] (.v (lb (b||decide (1024<n)))) none d:=by
 refine X3 Tryz.func67 ?_;simp only[Tryz.f67];refine X1 ?_;refine X1 ?_;exact Xb
def X2X (s:ByteArray) (i:Nat):Bool:=
 match s[i]? with
 |some b=>(decide (97<=(b.toNat:Int))&&decide ((b.toNat:Int)<=122))||(decide (i≠0)&&((decide (48<=(b.toNat:Int))&&decide ((b.toNat:Int)<=57))||decide ((b.toNat:Int)=46)||decide ((b.toNat:Int)=95)))
 |none=>false
def Zb (s:ByteArray):Bool:=decide (1<=s.size)&&decide (s.size<=40)&&(List.range s.size).all (X2X s)
theorem X52 {s:ByteArray} {k:Nat} (h:k<s.size):∃b,s[k]? =some b:=⟨s[k],by simp[h]⟩
theorem X6e {s:ByteArray}:s=⟨#[]⟩↔s.size=0:=by
 obtain⟨a⟩:=s;constructor
 .intro h;cases h;rfl
 intro h;have:a= #[]:=Array.eq_empty_of_size_eq_zero h;rw[this]
theorem X4V {s:ByteArray} {k:Nat} (hk:k<s.size) (h:X2X s k=false):Zb s=false:=by
 unfold Zb;rw[No];refine .inr ?_;rw[List.all_eq_false];exact⟨k,by simpa using hk,by simp[h]⟩
theorem X4d {s:ByteArray} (h1:1<=s.size) (h2:s.size<=40) (h:∀j:Nat,j<s.size->X2X s j=true):Zb s=true:=by
 unfold Zb;simp only[h1,h2,decide_true,NF,Nl,List.mem_range];exact h
theorem X1a (s:ByteArray) (d:Nat):Con prog 106 true [sv s] (.v (lb (Zb s))) none d:=by
 refine X3 Tryz.func106 ?_;simp only[Tryz.f106];refine X1 ?_;refine X0<|X0<|X2 ?_;refine(X9 rfl (fun h2=>?_) fun h2=>?_)
 .try simp only[BN]at h2
  have hz:Zb s=false:=by
   unfold Zb;simp only[X6e]at h2;rw[No,No];simp only[Nc];omega
  refine X1 ?_;exact Xb
 (try simp only[BN]at h2);simp only[X6e]at h2;have h1:1<=s.size:=by omega
 have h40:s.size<=40:=by omega
 refine X0<|X0<|X2 ?_;refine X4<|(Xf [0,14] (fun(x:Nat)=>[(15,.v (li x))]) (fun x=>[]) (fun x=>x<=s.size/\∀j:Nat,j<x->X2X s j=true) (fun x=>s.size - x) (0:Nat) ⟨Nf _,fun j hj=>absurd hj (Dd j)⟩ ?_ ?_)
 .exact X5 (fun n=>n) []
 rintro k ⟨hk,hall⟩;simp only[upS,X7,Xy]
 try simp only[X7,KN,Nat.reduceBEq,Nd,Nb,ins,Nat.reduceLT]
 refine X1 ?_;refine X0<|(X6 rfl (fun h8=>Xc ?_) (fun h8=>?_))
 ·(try simp only[BN]at h8);have hlt:k<s.size:=by omega
  obtain⟨b,hb⟩:=X52 hlt;have hw:=XB hlt (by omega);have hk1:k+1<=s.size:=hlt;clear hlt h8;refine X0<|X4<|X0<|X2 ?_;refine X1 ?_;refine X1 ?_;refine X1 ?_;refine(X9 rfl (fun h13=>?_) fun h13=>?_)
  .try simp only[BN]at h13
   have hbad:X2X s k=false:=by
    unfold X2X;rw[hb];simp only[NC,No,Nc];omega
   have hz:=X4V hk1 hbad;refine X1 ?_;exact Xb
  try simp only[BN]at h13
  have hgood:X2X s k=true:=by
   unfold X2X;rw[hb];simp only[Ni,N4,N5];omega
  refine X2 ?_;exact⟨k+1,⟨by omega,fun j hj=>(Nat.lt_succ_iff_lt_or_eq.1 hj).elim (hall j) (fun e=>e▸hgood)⟩,by omega,X5 (fun n=>n) []⟩
 (try simp only[BN]at h8);have hz:=X4d h1 h40 (fun j hj=>hall j (by omega));refine(Xj ?_);refine X1 ?_;exact Xb
mutual
def Tm.nodes:Tm->Nat
 | .mk _ _ ks=>1+Q5 ks
def Q5:List Tm->Nat
 |[]=>0
 |t::l=>t.nodes+Q5 l
end
mutual
def St.nodes:St->Nat
 | .mk _ _ _ _ t a b bs=>1+t.nodes+Xh a+Xh b
def Xh:List St->Nat
 |[]=>0
 |s::l=>s.nodes+Xh l
end
theorem X2Y (t:Tm):1<=t.nodes:=by cases t;simp[Tm.nodes]
theorem X84 (t:St):1<=t.nodes:=by cases t;simp[St.nodes];omega
theorem W6:∀l:List Tm,l.length<=Q5 l
 |[]=>by simp[Q5]
 |t::l=>by have:=W6 l;have:=X2Y t;simp only[Q5,List.length_cons];omega
theorem XW:∀l:List St,l.length<=Xh l
 |[]=>by simp[Xh]
 |t::l=>by have:=XW l;have:=X84 t;simp only[Xh,List.length_cons];omega
mutual
def mTm:Tm->Int->Int×Bool->Int×Bool
 | .mk _ _ ks,dep,s=>if((s.2||decide (12<dep))||decide (1024<s.1+1))=true then(s.1+1,s.2||decide (12<dep))else X1P ks (dep+1) (s.1+1,s.2||decide (12<dep))
def X1P:List Tm->Int->Int×Bool->Int×Bool
 |[],_,s=>s
 |t::l,dep,s=>X1P l dep (mTm t dep s)
end
mutual
theorem X0j:∀(t:Tm) (dep:Int) (s:Int×Bool),s.1<=(mTm t dep s).1/\(mTm t dep s).1<=s.1+t.nodes
 | .mk o n ks,dep,s=>by
   have:=X8p ks (dep+1) (s.1+1,s.2||decide (12<dep));simp only[mTm,Tm.nodes];split
   .simp only;omega
   simp only at this;omega
theorem X8p:∀(l:List Tm) (dep:Int) (s:Int×Bool),s.1<=(X1P l dep s).1/\(X1P l dep s).1<=s.1+Q5 l
 |[],dep,s=>by simp[X1P,Q5]
 | t::l,dep,s=>by
   have h1:=X0j t dep s;have h2:=X8p l dep (mTm t dep s);simp only[X1P,Q5];omega
end
theorem X4G (t:Tm):∀(dep c:Int) (b:Bool),0<=dep->0<=c->c+t.nodes<=1000000000->
  X6r prog 68 [iC c,bC b] [aT t,li dep] (.tup []) [iC (mTm t dep (c,b)).1,bC (mTm t dep (c,b)).2]:=by
 induction t using Tm.ind with
 |h o n ks ih=>
 intro dep c b hdep hc hn;simp only[Tm.nodes]at hn;obtain⟨res,hres⟩:∃r,mTm (.mk o n ks) dep (c,b)=r:=⟨_,rfl⟩;rw[hres];simp only[mTm]at hres;have hlen:=W6 ks;have hw:IntKind.i64.wrap (c+1)=c+1:=X8;refine X2r Tryz.func68 rfl (by kernel_rfl) (Dj rfl) ?_;simp only[Tryz.f68,aT,Tm.enc];refine X1 ?_;refine X1 ?_;refine X1 ?_;refine X0<|X0<|(Xl [⟨true,.v (lb ((b||decide (12<dep))||decide (1024<c+1))),none⟩] ?_ ?_)
 .first|exact Wr _ _ _|exact trivial|simpa[*]using Wr _ _ _
 refine(X9 rfl (fun h4=>?_) fun h4=>?_)
 ·(try simp only[BN]at h4);rw[N9 (by simpa using h4)]at hres;subst hres;exact Xr (⟨.inr rfl,_,le_refl _,⟨_,by simp[*];rfl,by simp[Xp]⟩,by simp[*]⟩)
 (try simp only[BN]at h4);rw[N6 (by simpa using h4)]at hres;have hdep2:dep<=12:=by omega
 have hwd:IntKind.i64.wrap (dep+1)=dep+1:=X8;refine X1 ?_;refine X4<|(Xf [0,2,29,30] (fun(x:Nat×Int×Bool)=>[(31,.v (li x.1))]) (fun x=>[(1000000,.box [.c (iC x.2.1),.c (bC x.2.2)])]) (fun x=>x.1<=ks.length/\X1P (ks.drop x.1) (dep+1) x.2=res/\0<=x.2.1/\x.2.1+Q5 (ks.drop x.1)<=1000000000) (fun x=>ks.length - x.1) (0,c+1,b||decide (12<dep)) ⟨Nf _,hres,by simp only;omega,by simp only[List.drop_zero];omega⟩ ?_ ?_)
 .exact X5 (fun n=>n) []
 rintro⟨k,m,q⟩ ⟨hk,hJ,hm,hb⟩;simp only[upS,X7,Xy]
 try simp only[X7,KN,Nat.reduceBEq,Nd,Nb,ins,Nat.reduceLT]
 simp only at hk hJ hm hb;refine X1 ?_;refine X0<|(X6 rfl (fun h9=>Xc ?_) (fun h9=>?_))
 ·(try simp only[BN]at h9);have hlt:k<ks.length:=by omega
  obtain⟨⟨eo,en,ek⟩,he,hd⟩:=XF hlt;have he':=QP he;simp only[Tm.enc]at he';have hw1:=XB hlt (by omega);rw[hd]at hJ hb;simp only[X1P,Q5]at hJ hb;have hk1:k+1<=ks.length:=hlt;have hmem:Tm.mk eo en ek∈ks:=N3 he;have hle:=X0j (.mk eo en ek) (dep+1) (m,q);clear hlt h9;refine X0<|X4<|X0<|X2 ?_;refine(ZW 4 (.tup []) ([iC (mTm (.mk eo en ek) (dep+1) (m,q)).1,bC (mTm (.mk eo en ek) (dep+1) (m,q)).2]) rfl (by simp[*];rfl) (by simp[ioOf, *];first|exact⟨rfl,rfl,rfl,rfl,rfl⟩|exact⟨rfl,rfl,rfl,rfl⟩|exact⟨rfl,rfl,rfl⟩|exact⟨rfl,rfl⟩|rfl) (ih _ hmem (dep+1) m q (by omega) hm (by omega)) (by simp) (by simp[*];rfl) ?_);refine X2 ?_;exact⟨(k+1,mTm (.mk eo en ek) (dep+1) (m,q)),⟨hk1,hJ,by simp only at hle⊢;omega,by simp only at hle⊢;omega⟩,by simp only;omega,X5 (fun n=>n) []⟩
 (try simp only[BN]at h9);have hkl:k=ks.length:=by omega
 subst hkl;rw[Nq]at hJ;simp only[X1P]at hJ;subst hJ;refine(Xj ?_);exact(⟨.inl rfl,_,le_refl _,⟨_,by simp[*];rfl,by simp[Xp]⟩,by simp[*]⟩)
def X0x (k:List (Int×Int)):List (List CD):=k.map fun p=>[iC p.1,iC p.2]
@[simp] theorem len_encP (k:List (Int×Int)):(X0x k).length=k.length:=by simp[X0x]
@[simp] theorem get_encP (k:List (Int×Int)) (i:Nat):(X0x k)[i]? =k[i]?.map fun p=>[iC p.1,iC p.2]:=by simp[X0x]
@[simp] theorem encP_nil:X0x []=[]:=rfl
abbrev aP (p:Int×Int):TV:=.agg [.c (iC p.1),.c (iC p.2)]
def mn (a b:Int):Int:=if b<a then b else a
def mx (a b:Int):Int:=if a<b then b else a
def W3 (p q:Int×Int):Int×Int:=(mn p.1 q.1,mx p.2 q.2)
def WE:List (Int×Int)->Int×Int->Int×Int
 |[],p=>p
 |q::l,p=>WE l (W3 p q)
def mulP (a b:Int×Int):Int×Int:=W3 (W3 (W3 (a.1*b.1,a.1*b.1) (a.1*b.2,a.1*b.2)) (a.2*b.1,a.2*b.1)) (a.2*b.2,a.2*b.2)
def bnd (p:Int×Int):Prop:=-1048576<=p.1/\p.1<=p.2/\p.2<=1048576
theorem X1K (p q:Int×Int) (d:Nat):Con prog 164 true [aP p,aP q] (.v (aP (W3 p q))) none d:=by
 refine X3 Tryz.func164 ?_;simp only[Tryz.f164];refine X1 ?_;refine X1 ?_;exact(Xb (he:=by simp[Xp,W3,mn,mx]))
theorem X1x {x y:Int} (hx:-1048576<=x/\x<=1048576) (hy:-1048576<=y/\y<=1048576):-1099511627776<=x*y/\x*y<=1099511627776:=by
 have h1:x.natAbs<=1048576:=by omega
 have h2:y.natAbs<=1048576:=by omega
 have h3:=Nat.mul_le_mul h1 h2;rw[<-Int.natAbs_mul]at h3;omega
theorem X2t (x y:Int) (hx:-1048576<=x/\x<=1048576) (hy:-1048576<=y/\y<=1048576) (d:Nat):Con prog 163 true [li x,li y] (.v (li (x*y))) none d:=by
 have hm:=X1x hx hy;have hw:IntKind.i64.wrap (x*y)=x*y:=X8;refine X3 Tryz.func163 ?_;simp only[Tryz.f163];refine X1 ?_;refine X1 ?_;exact Xb
def X7m:List Int->Int×Int->Int×Int
 |[],p=>p
 |q::l,p=>X7m l (W3 p (q,q))
theorem X3e (a b:Int×Int) (ha:bnd a) (hb:bnd b) (d:Nat):Con prog 162 true [aP a,aP b,.one (.fn 163 [])] (.v (aP (mulP a b))) none d:=by
 obtain⟨a1,a2⟩:=a;obtain⟨b1,b2⟩:=b;simp only[bnd]at ha hb;refine X3 Tryz.func162 ?_;simp only[Tryz.f162];obtain⟨L,hL⟩:∃L,L=[a1*b2,a2*b1,a2*b2]:=⟨_,rfl⟩;have hlen:L.length=3:=by rw[hL];rfl
 obtain⟨res,hres⟩:∃res,mulP (a1,a2) (b1,b2)=res:=⟨_,rfl⟩;rw[hres];have hres2:X7m L (a1*b1,a1*b1)=res:=by rw[<-hres,hL];rfl
 clear hres;refine X1 ?_;refine Xd [⟨true,.v (li (a1*b1)),none⟩] ?_ ?_
 .first|exact X2t _ _ (by omega) (by omega) _|exact trivial|simpa[*]using X2t _ _ (by omega) (by omega) _
 refine X1 ?_;refine X0<|X0<|(Xv [⟨true,.v (li (a1*b2)),none⟩,⟨true,.v (li (a2*b1)),none⟩,⟨true,.v (li (a2*b2)),none⟩] (by kernel_rfl) (by kernel_rfl) (by rfl) (by simp[*];first|exact⟨rfl,Iff.rfl⟩|exact⟨rfl,trivial⟩|rfl) ?_ ?_)
 .first|exact trivial|exact trivial|(repeat' first|exact trivial|exact X2t _ _ (by omega) (by omega) _|exact X2t _ _ (by omega) (by omega) _|exact X2t _ _ (by omega) (by omega) _|apply And.intro)
 refine X4<|(Xf [6,8,38,39] (fun(x:Nat×Int×Int)=>[(40,.v (li x.1))]) (fun x=>[(6,.box [.c (iC 0),.c (iC 0)]),(8,.box [.c (iC x.2.1),.c (iC x.2.2)]),(38,.row 3 1 (Xg L))]) (fun x=>x.1<=3/\X7m (L.drop x.1) x.2=res) (fun x=>3 - x.1) (0,a1*b1,a1*b1) ⟨Nf _,hres2⟩ ?_ ?_)
 .exact Qs (fun n=>n) [] rfl (by simp[*,upS,X7]) (by simp[upS,Xg,hL]) (by simp[upS])
 rintro⟨k,m,q⟩ ⟨hk,hJ⟩;simp only[upS,X7,Xy]
 try simp only[X7,KN,Nat.reduceBEq,Nd,Nb,ins,Nat.reduceLT]
 simp only at hk hJ;clear hres2 hL;refine X1 ?_;refine X0<|(X6 rfl (fun h6=>Xc ?_) (fun h6=>?_))
 ·(try simp only[BN]at h6);have hlt:k<L.length:=by omega
  obtain⟨e,he,hd⟩:=XF hlt;have hw1:=XB hlt (by omega);rw[hd]at hJ;simp only[X7m]at hJ;have hk1:k+1<=3:=by omega
  clear hlt h6;refine X0<|X4<|X0<|X2 ?_;refine(Xl [⟨true,.v (aP (W3 (m,q) (e,e))),none⟩] ?_ ?_)
  .first|exact X1K (m,q) (e,e) _|exact trivial|simpa[*]using X1K (m,q) (e,e) _
  refine X2 ?_;exact⟨(k+1,W3 (m,q) (e,e)),⟨hk1,hJ⟩,by simp only;omega,X5 (fun n=>n) []⟩
 (try simp only[BN]at h6);have hkl:k=L.length:=by omega
 rw[hkl,Nq]at hJ;simp only[X7m]at hJ;refine(Xj ?_);refine X1 ?_;exact(Xb (he:=by subst hJ;rfl))
def ZA (vars:List Vr) (inp:Bool) (n:Int):Bool:=
 decide (0<=n)&&match vars[n.toNat]? with
  |some v=> !(inp&&decide (v.kind=0))
  |none=>false
def XU (vars:List Vr) (inp:Bool) (o n:Int) (len:Nat):Bool:=
 (!decide ((XK o).1<0)&&(!decide ((len:Int)<(XK o).1)&& !decide ((XK o).2<(len:Int))))&&(if o=0 then true else if o=24 then ZA vars inp n else decide (n=0))
mutual
def Qb (vars:List Vr) (inp:Bool):Tm->Bool
 | .mk o n ks=>XU vars inp o n ks.length&&Wb vars inp ks
def Wb (vars:List Vr) (inp:Bool):List Tm->Bool
 |[]=>true
 |t::l=>Qb vars inp t&&Wb vars inp l
end
theorem WQ {vars:List Vr} {inp:Bool}:∀{l:List Tm},Wb vars inp l=true->∀t∈l,Qb vars inp t=true
 |[],_,t,ht=>by cases ht
 | a::l,h,t,ht=>by
   simp only[Wb,N4]at h;rcases Np.1 ht with rfl|h1
   .exact h.1
   exact WQ h.2 t h1
theorem X1R {vars:List Vr} {n:Int}:(0<=n/\n<vars.length)->∃v,vars[n.toNat]? =some v:=by
 rintro⟨h1,h2⟩;have:n.toNat<vars.length:=by omega
 exact⟨vars[n.toNat],by simp[this]⟩
theorem ZX {vars:List Vr} {n:Int} (h1:0<=n) (h2:¬n<vars.length):vars[n.toNat]? =none:=by
 rw[ND];omega
theorem X9D (vars:List Vr) (inp:Bool) (hv:vars.length<=1000000000) (t:Tm):t.nodes<=1000000000->∀d:Nat,
  Con prog 135 true [lV vars,aT t,lb inp] (.v (lb (Qb vars inp t))) none d:=by
 induction t using Tm.ind with
 |h o n ks ih=>
 intro hn d;simp only[Tm.nodes]at hn;have hlen:=W6 ks;obtain⟨res,hres⟩:∃r,Qb vars inp (.mk o n ks)=r:=⟨_,rfl⟩;rw[hres];simp only[Qb]at hres
 have ih':∀t∈ks,∀d,Con prog 135 true [lV vars,aT t,lb inp] (.v (lb (Qb vars inp t))) none d:=by
  intro t ht d;refine ih t ht ?_ d
  have:t.nodes<=Q5 ks:=by
   clear hres ih hn hlen
   induction ks with
   |nil=>cases ht
   | cons a l ih=>
     simp only[Q5];rcases Np.1 ht with rfl|h
     .omega
     have:=ih h;omega
  omega
 clear ih;refine X3 Tryz.func135 ?_;simp only[Tryz.f135];simp only[aT,Tm.enc];refine X1 ?_;refine Xd [⟨true,.tup [li (XK o).1,li (XK o).2],none⟩] ?_ ?_
 .first|exact X5e o _|exact trivial|simpa[*]using X5e o _
 refine X0<|X0<|X2 ?_;refine(X9 rfl (fun h3=>?_) fun h3=>?_)
 .try simp only[BN]at h3
  have hz:XU vars inp o n ks.length=false:=by
   unfold XU;rw[No];refine .inl ?_;simp only[No,Bool.not_eq_false',N5];omega
  rw[hz,NQ]at hres;refine X1 ?_;exact(Xb (he:=by first|rfl|simp[*]))
 try simp only[BN]at h3
 have hz:(!decide ((XK o).1<0)&&(!decide ((ks.length:Int)<(XK o).1)&& !decide ((XK o).2<(ks.length:Int))))=true:=by
  simp only[N4,Nm,Nc];omega
 refine(Q0 [0,2,4] (fun(z:Unit)=>[]) (fun(z:Unit)=>[(4,.box [.c (iC o),.c (iC n),.c (.sl 3 (XH ks))])]) (fun(z:Unit)=>XU vars inp o n ks.length=true) ?_ ?_)
 ·
  refine X1 ?_;refine X4<|X0<|X2 ?_;refine(X6 rfl (fun h9=>Xc ?_) (fun h9=>?_))
  ·(try simp only[BN]at h9);exact⟨(),by unfold XU;rw[hz,NF,N9 h9],X5 (fun n=>n) []⟩
  (try simp only[BN]at h9);refine X1 ?_;refine(X6 rfl (fun h12=>?_) (fun h12=>?_))
  ·(try simp only[BN]at h12);by_cases hn0:0<=n
   .by_cases hn3:n<vars.length
    .obtain⟨v,hv1⟩:=X1R ⟨hn0,hn3⟩;have hn1:¬(vars.length:Int)<=n:=by omega
     have hn2:¬n<0:=by omega
     clear hn3;refine X1 ?_;refine(X9 rfl (fun h14=>?_) fun h14=>?_)
     .try simp only[BN]at h14
      have hz3:XU vars inp o n ks.length=false:=by
       unfold XU ZA;rw[hz,NF,N6 h9,N9 h12,hv1];simp[h14]
      rw[hz3,NQ]at hres;refine X1 ?_;exact(Xb (he:=by first|rfl|simp[*]))
     try simp only[BN]at h14
     exact⟨(),by
      unfold XU ZA;rw[hz,NF,N6 h9,N9 h12,hv1];simp only[N4,Nm,No,N5,Nc]
      exact⟨hn0,h14⟩,X5 (fun n=>n) []⟩
    cases inp
    .have hv1:=ZX hn0 hn3;have hn1:(vars.length:Int)<=n:=by omega
     have hn2:¬n<0:=by omega
     have hz2:∀i,ZA vars i n=false:=by intro i;simp[ZA,hv1]
     clear hn3;refine X1 ?_;refine(X9 rfl (fun h14=>?_) fun h14=>?_)
     .try simp only[BN]at h14
      have hz3:∀i,XU vars i o n ks.length=false:=by
       intro i;unfold XU;rw[hz,NF,N6 h9,N9 h12,hz2]
      rw[hz3,NQ]at hres;refine X1 ?_;exact(Xb (he:=by first|rfl|simp[*]))
     exact absurd h14 (by simp)
    have hv1:=ZX hn0 hn3;have hn1:(vars.length:Int)<=n:=by omega
    have hn2:¬n<0:=by omega
    have hz2:∀i,ZA vars i n=false:=by intro i;simp[ZA,hv1]
    clear hn3;refine X1 ?_;refine(X9 rfl (fun h14=>?_) fun h14=>?_)
    .try simp only[BN]at h14
     have hz3:∀i,XU vars i o n ks.length=false:=by
      intro i;unfold XU;rw[hz,NF,N6 h9,N9 h12,hz2]
     rw[hz3,NQ]at hres;refine X1 ?_;exact(Xb (he:=by first|rfl|simp[*]))
    exact absurd h14 (by simp)
   cases inp
   .have hn2:n<0:=by omega
    have hz2:∀i,ZA vars i n=false:=by intro i;simp[ZA,hn0]
    refine X1 ?_;refine(X9 rfl (fun h14=>?_) fun h14=>?_)
    .try simp only[BN]at h14
     have hz3:∀i,XU vars i o n ks.length=false:=by
      intro i;unfold XU;rw[hz,NF,N6 h9,N9 h12,hz2]
     rw[hz3,NQ]at hres;refine X1 ?_;exact(Xb (he:=by first|rfl|simp[*]))
    exact absurd h14 (by simp)
   have hn2:n<0:=by omega
   have hz2:∀i,ZA vars i n=false:=by intro i;simp[ZA,hn0]
   refine X1 ?_;refine(X9 rfl (fun h14=>?_) fun h14=>?_)
   .try simp only[BN]at h14
    have hz3:∀i,XU vars i o n ks.length=false:=by
     intro i;unfold XU;rw[hz,NF,N6 h9,N9 h12,hz2]
    rw[hz3,NQ]at hres;refine X1 ?_;exact(Xb (he:=by first|rfl|simp[*]))
   exact absurd h14 (by simp)
  (try simp only[BN]at h12);refine X1 ?_;refine(X9 rfl (fun h19=>?_) fun h19=>?_)
  .try simp only[BN]at h19
   have hz3:XU vars inp o n ks.length=false:=by
    unfold XU;rw[hz,NF,N6 h9,N6 h12];simpa using h19
   rw[hz3,NQ]at hres;refine X1 ?_;exact(Xb (he:=by first|rfl|simp[*]))
  try simp only[BN]at h19
  exact⟨(),by
   unfold XU;rw[hz,NF,N6 h9,N6 h12]
   simpa using h19,X5 (fun n=>n) []⟩
 rintro z hz;simp only[upS,X7,Xy]
 try simp only[X7,KN,Nat.reduceBEq,Nd,Nb,ins,Nat.reduceLT]
 rw[hz,NF]at hres;refine X0<|X0<|X2 ?_;refine X4<|(Xf [0,2,65,66] (fun(x:Nat)=>[(67,.v (li x))]) (fun x=>[]) (fun x=>x<=ks.length/\Wb vars inp (ks.drop x)=res) (fun x=>ks.length - x) (0:Nat) ⟨Nf _,hres⟩ ?_ ?_)
 .exact X5 (fun n=>n) []
 rintro k ⟨hk,hJ⟩;simp only[upS,X7,Xy]
 try simp only[X7,KN,Nat.reduceBEq,Nd,Nb,ins,Nat.reduceLT]
 refine X1 ?_;refine X0<|(X6 rfl (fun h26=>Xc ?_) (fun h26=>?_))
 ·(try simp only[BN]at h26);have hlt:k<ks.length:=by omega
  obtain⟨⟨eo,en,ek⟩,he,hd⟩:=XF hlt;have he':=QP he;simp only[Tm.enc]at he';have hw1:=XB hlt (by omega);rw[hd]at hJ;simp only[Wb]at hJ;have hk1:k+1<=ks.length:=hlt;have hmem:Tm.mk eo en ek∈ks:=N3 he;clear hlt h26;refine X0<|X4<|X0<|X2 ?_;refine Xd [⟨true,.v (lb (Qb vars inp (.mk eo en ek))),none⟩] ?_ ?_
  .first|exact ih' _ hmem _|exact trivial|simpa[*]using ih' _ hmem _
  refine(X9 rfl (fun h29=>?_) fun h29=>?_)
  ·(try simp only[BN]at h29);rw[h29,NQ]at hJ;subst hJ;refine X1 ?_;exact(Xb (he:=by first|rfl|simp[*]))
  (try simp only[BN]at h29);rw[h29,NF]at hJ;refine X2 ?_;exact⟨k+1,⟨hk1,hJ⟩,by omega,X5 (fun n=>n) []⟩
 (try simp only[BN]at h26);have hkl:k=ks.length:=by omega
 subst hkl;rw[Nq]at hJ;simp only[Wb]at hJ;subst hJ;refine(Xj ?_);refine X1 ?_;exact(Xb (he:=by first|rfl|simp[*]))
theorem X00 {ks:List Tm} {t:Tm} (ht:t∈ks):t.nodes<=Q5 ks:=by
 induction ks with
 |nil=>cases ht
 | cons a l ih=>
   simp only[Q5];rcases Np.1 ht with rfl|h
   .omega
   have:=ih h;omega
theorem Q3 (a b:Int) (d:Nat):Con prog 104 true [li a,li b] (.v (li (mn a b))) none d:=by
 refine X3 Tryz.func104 ?_;simp only[Tryz.f104];refine X1 ?_;refine X0<|X0<|X2 ?_;refine(X9 rfl (fun h2=>?_) fun h2=>?_)
 ·(try simp only[BN]at h2);have hz:mn a b=a:=by unfold mn;split<;>omega
  refine X1 ?_;exact Xb
 (try simp only[BN]at h2);have hz:mn a b=b:=by unfold mn;split<;>omega
 refine X1 ?_;exact Xb
theorem Q8 (a b:Int) (d:Nat):Con prog 103 true [li a,li b] (.v (li (mx a b))) none d:=by
 refine X3 Tryz.func103 ?_;simp only[Tryz.f103];refine X1 ?_;refine X0<|X0<|X2 ?_;refine(X9 rfl (fun h2=>?_) fun h2=>?_)
 ·(try simp only[BN]at h2);have hz:mx a b=a:=by unfold mx;split<;>omega
  refine X1 ?_;exact Xb
 (try simp only[BN]at h2);have hz:mx a b=b:=by unfold mx;split<;>omega
 refine X1 ?_;exact Xb
def X2p (a:Int):Int:=if a<0 then -a else a
theorem X6Q (a:Int) (h:-1048576<=a/\a<=1048576) (d:Nat):Con prog 145 true [li a] (.v (li (X2p a))) none d:=by
 have hw:IntKind.i64.wrap (-a)=-a:=X8;refine X3 Tryz.func145 ?_;simp only[Tryz.f145];refine X1 ?_;refine X0<|X0<|X2 ?_;refine(X9 rfl (fun h2=>?_) fun h2=>?_)
 ·(try simp only[BN]at h2);refine X1 ?_;exact(Xb (he:=by first|rfl|(simp[*,X2p];done)|(simp only[Xp,X2p];(repeat' split)<;>first|rfl|(exfalso;omega)|simp_all)))
 (try simp only[BN]at h2);refine X1 ?_;exact(Xb (he:=by first|rfl|(simp[*,X2p];done)|(simp only[Xp,X2p];(repeat' split)<;>first|rfl|(exfalso;omega)|simp_all)))
def Wz (o:Int):Int:=if o=0\/o=24 then 0 else if o=6\/o=7 then 1 else if 8<=o/\o<=22 then 2 else if o=23 then 3 else if o=25 then -2 else -1
theorem X4U (o:Int) (d:Nat):Con prog 149 true [li o] (.v (li (Wz o))) none d:=by
 refine X3 Tryz.func149 ?_;simp only[Tryz.f149];refine X1 ?_;refine X0<|X0<|X2 ?_;refine X4<|(Q0 [3] (fun(z:Bool)=>[(4,.v (lb z))]) (fun(z:Bool)=>[]) (fun(z:Bool)=>z=decide (o=0\/o=24)) ?_ ?_)
 ·
  refine X1 ?_;refine(X6 rfl (fun h4=>Xc ?_) (fun h4=>?_))
  ·(try simp only[BN]at h4);exact⟨decide (o=0\/o=24),rfl,X5 (fun n=>n) []⟩
  (try simp only[BN]at h4);refine X2 ?_;exact⟨decide (o=0\/o=24),rfl,X5 (fun n=>n) []⟩
 rintro _ rfl;simp only[upS,X7,Xy]
 try simp only[X7,KN,Nat.reduceBEq,Nd,Nb,ins,Nat.reduceLT]
 refine(X6 rfl (fun h8=>?_) (fun h8=>?_))
 ·(try simp only[BN]at h8);refine X1 ?_;exact(Xb (he:=by first|rfl|(simp[*,Wz];done)|(simp only[Xp,Wz];(repeat' split)<;>first|rfl|(exfalso;omega)|simp_all)))
 (try simp only[BN]at h8);refine(Q0 [3] (fun(z:Bool)=>[(7,.v (lb z))]) (fun(z:Bool)=>[]) (fun(z:Bool)=>z=decide (o=6\/o=7)) ?_ ?_)
 ·
  refine X1 ?_;refine(X6 rfl (fun h13=>Xc ?_) (fun h13=>?_))
  ·(try simp only[BN]at h13);exact⟨decide (o=6\/o=7),rfl,X5 (fun n=>n) []⟩
  (try simp only[BN]at h13);refine X2 ?_;exact⟨decide (o=6\/o=7),rfl,X5 (fun n=>n) []⟩
 rintro _ rfl;simp only[upS,X7,Xy]
 try simp only[X7,KN,Nat.reduceBEq,Nd,Nb,ins,Nat.reduceLT]
 refine(X6 rfl (fun h17=>?_) (fun h17=>?_))
 ·(try simp only[BN]at h17);refine X1 ?_;exact(Xb (he:=by first|rfl|(simp[*,Wz];done)|(simp only[Xp,Wz];(repeat' split)<;>first|rfl|(exfalso;omega)|simp_all)))
 (try simp only[BN]at h17);refine(Q0 [3] (fun(z:Bool)=>[(10,.v (lb z))]) (fun(z:Bool)=>[]) (fun(z:Bool)=>z=decide (8<=o/\o<=22)) ?_ ?_)
 ·
  refine X1 ?_;refine(X6 rfl (fun h22=>Xc ?_) (fun h22=>?_))
  ·(try simp only[BN]at h22);exact⟨decide (8<=o/\o<=22),rfl,X5 (fun n=>n) []⟩
  (try simp only[BN]at h22);refine X1 ?_;refine(X6 rfl (fun h25=>Xc ?_) (fun h25=>?_))
  ·(try simp only[BN]at h25);exact⟨decide (8<=o/\o<=22),rfl,X5 (fun n=>n) []⟩
  (try simp only[BN]at h25);refine X1 ?_;refine(X6 rfl (fun h28=>Xc ?_) (fun h28=>?_))
  ·(try simp only[BN]at h28);exact⟨decide (8<=o/\o<=22),rfl,X5 (fun n=>n) []⟩
  (try simp only[BN]at h28);refine X1 ?_;refine(X6 rfl (fun h31=>Xc ?_) (fun h31=>?_))
  ·(try simp only[BN]at h31);exact⟨decide (8<=o/\o<=22),rfl,X5 (fun n=>n) []⟩
  (try simp only[BN]at h31);refine X1 ?_;refine(X6 rfl (fun h34=>Xc ?_) (fun h34=>?_))
  ·(try simp only[BN]at h34);exact⟨decide (8<=o/\o<=22),rfl,X5 (fun n=>n) []⟩
  (try simp only[BN]at h34);refine X1 ?_;refine(X6 rfl (fun h37=>Xc ?_) (fun h37=>?_))
  ·(try simp only[BN]at h37);exact⟨decide (8<=o/\o<=22),rfl,X5 (fun n=>n) []⟩
  (try simp only[BN]at h37);refine X1 ?_;refine(X6 rfl (fun h40=>Xc ?_) (fun h40=>?_))
  ·(try simp only[BN]at h40);exact⟨decide (8<=o/\o<=22),rfl,X5 (fun n=>n) []⟩
  (try simp only[BN]at h40);refine X1 ?_;refine(X6 rfl (fun h43=>Xc ?_) (fun h43=>?_))
  ·(try simp only[BN]at h43);exact⟨decide (8<=o/\o<=22),rfl,X5 (fun n=>n) []⟩
  (try simp only[BN]at h43);refine X1 ?_;refine(X6 rfl (fun h46=>Xc ?_) (fun h46=>?_))
  ·(try simp only[BN]at h46);exact⟨decide (8<=o/\o<=22),rfl,X5 (fun n=>n) []⟩
  (try simp only[BN]at h46);refine X1 ?_;refine(X6 rfl (fun h49=>Xc ?_) (fun h49=>?_))
  ·(try simp only[BN]at h49);exact⟨decide (8<=o/\o<=22),rfl,X5 (fun n=>n) []⟩
  (try simp only[BN]at h49);refine X1 ?_;refine(X6 rfl (fun h52=>Xc ?_) (fun h52=>?_))
  ·(try simp only[BN]at h52);exact⟨decide (8<=o/\o<=22),rfl,X5 (fun n=>n) []⟩
  (try simp only[BN]at h52);refine X1 ?_;refine(X6 rfl (fun h55=>Xc ?_) (fun h55=>?_))
  ·(try simp only[BN]at h55);exact⟨decide (8<=o/\o<=22),rfl,X5 (fun n=>n) []⟩
  (try simp only[BN]at h55);refine X1 ?_;refine(X6 rfl (fun h58=>Xc ?_) (fun h58=>?_))
  ·(try simp only[BN]at h58);exact⟨decide (8<=o/\o<=22),rfl,X5 (fun n=>n) []⟩
  (try simp only[BN]at h58);refine X1 ?_;refine(X6 rfl (fun h61=>Xc ?_) (fun h61=>?_))
  ·(try simp only[BN]at h61);exact⟨decide (8<=o/\o<=22),rfl,X5 (fun n=>n) []⟩
  (try simp only[BN]at h61);refine X2 ?_;have hz:decide (o=22)=(decide (8<=o)&&decide (o<=22)):=by rw[<-Bool.decide_and,decide_eq_decide];omega
  exact⟨decide (8<=o/\o<=22),rfl,X5 (fun n=>n) []⟩
 rintro _ rfl;simp only[upS,X7,Xy]
 try simp only[X7,KN,Nat.reduceBEq,Nd,Nb,ins,Nat.reduceLT]
 refine(X6 rfl (fun h65=>?_) (fun h65=>?_))
 ·(try simp only[BN]at h65);refine X1 ?_;exact(Xb (he:=by first|rfl|(simp[*,Wz];done)|(simp only[Xp,Wz];(repeat' split)<;>first|rfl|(exfalso;omega)|simp_all)))
 (try simp only[BN]at h65);refine X1 ?_;refine(X6 rfl (fun h69=>?_) (fun h69=>?_))
 ·(try simp only[BN]at h69);refine X1 ?_;exact(Xb (he:=by first|rfl|(simp[*,Wz];done)|(simp only[Xp,Wz];(repeat' split)<;>first|rfl|(exfalso;omega)|simp_all)))
 (try simp only[BN]at h69);refine X1 ?_;refine(X9 rfl (fun h73=>?_) fun h73=>?_)
 ·(try simp only[BN]at h73);refine X1 ?_;exact(Xb (he:=by first|rfl|(simp[*,Wz];done)|(simp only[Xp,Wz];(repeat' split)<;>first|rfl|(exfalso;omega)|simp_all)))
 (try simp only[BN]at h73);refine X1 ?_;exact(Xb (he:=by first|rfl|(simp[*,Wz];done)|(simp only[Xp,Wz];(repeat' split)<;>first|rfl|(exfalso;omega)|simp_all)))
end Go.Proofs.YtdccocolnaklkaaGreatDoor
