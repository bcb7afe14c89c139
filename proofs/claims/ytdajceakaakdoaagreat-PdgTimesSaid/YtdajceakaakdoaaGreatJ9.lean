/- Contracts of functions and plain facts about what they compute. Conditions: as each theorem states. -/
import Derived.Test.YtdajceakaakdoaaGreatJ5
import Derived.Test.YtdajceakaakdoaaGreatJ1
set_option linter.unusedSimpArgs false
set_option linter.unusedVariables false
set_option linter.unnecessarySimpa false
set_option maxRecDepth 100000
set_option maxHeartbeats 2000000
namespace Go.Proofs.YtdajceakaakdoaaGreat
open Go Go.Hl
open Tryz(prog)
structure B3 where
 s:Int
 o:Int
 t:Int
def bd1 (d c n:Int) (x y:B3):B3:=
 if d=4 then⟨1+n*(1+x.s),n*x.o,n*(c+x.t)⟩
 else if d=3 then⟨1+mx x.s y.s,mx x.o y.o,c+mx x.t y.t⟩
 else if d=1 then⟨1,1,c⟩ else⟨1,0,c⟩
def Qe (C:B3) (x y:B3):B3:=⟨mn (x.s+y.s) C.s,mn (x.o+y.o) C.o,mn (x.t+y.t) C.t⟩
mutual
def bdS (C:B3):St->B3
 | .mk d c _ n _ a b _=>bd1 d c n (bdL C a ⟨0,0,0⟩) (bdL C b ⟨0,0,0⟩)
def bdL (C:B3):List St->B3->B3
 |[],p=>p
 |s::l,p=>bdL C l (Qe C p (bdS C s))
end
mutual
def okS:St->Bool
 | .mk d c _ n _ a b _=>(decide (0<=c)&&(decide (c<=67108864)&&(decide (d≠4)||(decide (0<=n)&&decide (n<=4096)))))&&((decide (d=3)||(decide (d=4)||(a.isEmpty&&b.isEmpty)))&&(okL a&&okL b))
def okL:List St->Bool
 |[]=>true
 |s::l=>okS s&&okL l
end
def CP:B3:=⟨1099511627776,1099511627776,1099511627776⟩
def CR:B3:=⟨4097,9,67108865⟩
def in3 (C p:B3):Prop:=0<=p.s/\p.s<=C.s/\0<=p.o/\p.o<=C.o/\0<=p.t/\p.t<=C.t
def nn3 (p:B3):Prop:=0<=p.s/\0<=p.o/\0<=p.t
theorem mulN {n z:Int} (hn:0<=n/\n<=4096) (hz:0<=z/\z<=1099578736641):0<=n*z/\n*z<=4503874505281536:=by
 have h1:n.natAbs*z.natAbs<=4096*1099578736641:=Nat.mul_le_mul (by omega) (by omega);rw[<-Int.natAbs_mul]at h1;have h2:=D6 hn.1 hz.1;omega
theorem bd1_nn {d c n:Int} {x y:B3} (hc:0<=c) (hn:d=4->0<=n) (hx:nn3 x) (hy:nn3 y):nn3 (bd1 d c n x y):=by
 unfold nn3 at*;unfold bd1;split
 .rename_i h4;have h0:=hn h4;refine⟨?_,D6 h0 hx.2.1,D6 h0 (by omega)⟩;have:=D6 h0 (show(0:Int)<=1+x.s by omega);simp only;omega
 split
 .simp only[mx];refine⟨?_,?_,?_⟩<;>split<;>omega
 split<;>simp only<;>omega
theorem X4A {C p q:B3} (hC:nn3 C) (hp:nn3 p) (hq:nn3 q):in3 C (Qe C p q):=by
 unfold in3 Qe nn3 at*;simp only[mn];refine⟨?_,?_,?_,?_,?_,?_⟩<;>split<;>omega
theorem ZM {C p:B3} (h:in3 C p):nn3 p:=⟨h.1,h.2.2.1,h.2.2.2.2.1⟩
theorem Z0 {C:B3} (hC:nn3 C):in3 C ⟨0,0,0⟩:=⟨NP _,hC.1,NP _,hC.2.1,NP _,hC.2.2⟩
mutual
theorem X3g {C:B3} (hC:nn3 C):∀s:St,okS s=true->nn3 (bdS C s)
 | .mk d c v n t a b bs,h=>by
   simp only[okS,N3,Nf,N5]at h;simp only[bdS];exact bd1_nn h.1.1 (fun h4=>by omega) (ZM (ZK hC a _ h.2.2.1 (Z0 hC))) (ZM (ZK hC b _ h.2.2.2 (Z0 hC)))
theorem ZK {C:B3} (hC:nn3 C):∀(l:List St) (p:B3),okL l=true->in3 C p->in3 C (bdL C l p)
 |[],p,_,h=>h
 | s::l,p,h,hp=>by
   simp only[okL,N3]at h;simp only[bdL];exact ZK hC l _ h.2 (X4A hC (ZM hp) (X3g hC s h.1))
end
def X0B (C p:B3):B3:=⟨mn p.s C.s,mn p.o C.o,mn p.t C.t⟩
theorem X1y {n a b k k' C:Int} (hn:0<=n) (ha:0<=a) (hb:0<=b) (hk:0<=k) (hk':0<=k') (h:mn a C=mn b C):mn (k'+n*(k+a)) C=mn (k'+n*(k+b)) C:=by
 by_cases hac:a<C
 .have:a=b:=by
   unfold mn at h
   (repeat' split at h)<;>omega
  rw[this]
 have hbc:C<=b:=by
  unfold mn at h
  (repeat' split at h)<;>omega
 rcases Int.lt_or_le 0 n with h0|h0
 .have h1:=Int.mul_le_mul_of_nonneg_right (show(1:Int)<=n by omega) (show 0<=k+a by omega);have h2:=Int.mul_le_mul_of_nonneg_right (show(1:Int)<=n by omega) (show 0<=k+b by omega);unfold mn
  (repeat' split)<;>omega
 have:n=0:=by omega
 subst this;simp
theorem bd1_cut {C x x' y y':B3} {d c n:Int} (hc:0<=c) (hn:d=4->0<=n) (hx:nn3 x) (hx':nn3 x') (hy:nn3 y) (hy':nn3 y') (h1:X0B C x=X0B C x') (h2:X0B C y=X0B C y'):X0B C (bd1 d c n x y)=X0B C (bd1 d c n x' y'):=by
 unfold X0B at*;unfold nn3 at*;simp only[B3.mk.injEq]at h1 h2⊢;unfold bd1;split
 .rename_i h4;have h0:=hn h4;have e1:=X1y h0 hx.1 hx'.1 (show(0:Int)<=1 by decide) (show(0:Int)<=1 by decide) h1.1;have e2:=X1y h0 hx.2.1 hx'.2.1 (NP 0) (NP 0) h1.2.1;have e3:=X1y h0 hx.2.2 hx'.2.2 hc (NP 0) h1.2.2;simp only[DJ]at e2 e3;exact⟨e1,e2,e3⟩
 obtain⟨a1,a2,a3⟩:=h1;obtain⟨b1,b2,b3⟩:=h2;split
 .simp only[mx];refine⟨?_,?_,?_⟩
  .clear a2 a3 b2 b3;unfold mn at*;(repeat' split at a1)<;>(repeat' split at b1)<;>(repeat' split)<;>omega
  .clear a1 a3 b1 b3;unfold mn at*;(repeat' split at a2)<;>(repeat' split at b2)<;>(repeat' split)<;>omega
  clear a1 a2 b1 b2;unfold mn at*;(repeat' split at a3)<;>(repeat' split at b3)<;>(repeat' split)<;>omega
 split<;>exact⟨rfl,rfl,rfl⟩
theorem add3_cut {C D p p' x x':B3} (hC:nn3 C) (hD:C.s<=D.s/\C.o<=D.o/\C.t<=D.t) (hp:nn3 p) (hp':nn3 p') (hx:nn3 x) (hx':nn3 x') (h1:X0B C p=X0B C p') (h2:X0B C x=X0B C x'):X0B C (Qe D p x)=X0B C (Qe C p' x'):=by
 unfold X0B at*;unfold nn3 at*;simp only[B3.mk.injEq,Qe]at h1 h2⊢;obtain⟨a1,a2,a3⟩:=h1;obtain⟨b1,b2,b3⟩:=h2;obtain⟨d1,d2,d3⟩:=hD;obtain⟨p1,p2,p3⟩:=hp;obtain⟨q1,q2,q3⟩:=hp';obtain⟨r1,r2,r3⟩:=hx;obtain⟨s1,s2,s3⟩:=hx';obtain⟨c1,c2,c3⟩:=hC;refine⟨?_,?_,?_⟩
 .clear a2 a3 b2 b3;unfold mn at*;(repeat' split at a1)<;>(repeat' split at b1)<;>(repeat' split)<;>omega
 .clear a1 a3 b1 b3;unfold mn at*;(repeat' split at a2)<;>(repeat' split at b2)<;>(repeat' split)<;>omega
 clear a1 a2 b1 b2;unfold mn at*;(repeat' split at a3)<;>(repeat' split at b3)<;>(repeat' split)<;>omega
mutual
theorem bdS_cut {C D:B3} (hC:nn3 C) (hDn:nn3 D) (hD:C.s<=D.s/\C.o<=D.o/\C.t<=D.t):∀s:St,okS s=true->X0B C (bdS D s)=X0B C (bdS C s)
 | .mk d c v n t a b bs,h=>by
   simp only[okS,N3,Nf,N5]at h;simp only[bdS];have ha:=ZM (ZK hDn a _ h.2.2.1 (Z0 hDn));have hb:=ZM (ZK hDn b _ h.2.2.2 (Z0 hDn));have ha':=ZM (ZK hC a _ h.2.2.1 (Z0 hC));have hb':=ZM (ZK hC b _ h.2.2.2 (Z0 hC));have h0:nn3 ⟨0,0,0⟩:=⟨NP _,NP _,NP _⟩;exact bd1_cut h.1.1 (fun h4=>by omega) ha ha' hb hb' (X4y hC hDn hD a _ _ h.2.2.1 (Z0 hDn) (Z0 hC) rfl) (X4y hC hDn hD b _ _ h.2.2.2 (Z0 hDn) (Z0 hC) rfl)
theorem X4y {C D:B3} (hC:nn3 C) (hDn:nn3 D) (hD:C.s<=D.s/\C.o<=D.o/\C.t<=D.t):∀(l:List St) (p q:B3),okL l=true->in3 D p->in3 C q->X0B C p=X0B C q->X0B C (bdL D l p)=X0B C (bdL C l q)
 |[],p,q,_,_,_,h=>h
 | s::l,p,q,h,hp,hq,hpq=>by
   simp only[okL,N3]at h;simp only[bdL]
   exact X4y hC hDn hD l _ _ h.2 (X4A hDn (ZM hp) (X3g hDn s h.1)) (X4A hC (ZM hq) (X3g hC s h.1))
    (add3_cut hC hD (ZM hp) (ZM hq) (X3g hDn s h.1) (X3g hC s h.1) hpq (bdS_cut hC hDn hD s h.1))
end
theorem X61:nn3 CP:=by unfold nn3 CP;decide
theorem X36:nn3 CR:=by unfold nn3 CR;decide
theorem bd_cmp {l:List St} (h:okL l=true):(4096<(bdL CP l ⟨0,0,0⟩).s↔4096<(bdL CR l ⟨0,0,0⟩).s)/\(8<(bdL CP l ⟨0,0,0⟩).o↔8<(bdL CR l ⟨0,0,0⟩).o)/\(67108864<(bdL CP l ⟨0,0,0⟩).t↔67108864<(bdL CR l ⟨0,0,0⟩).t):=by
 have:=X4y X36 X61 (by decide) l _ _ h (Z0 X61) (Z0 X36) rfl;unfold X0B at this;simp only[B3.mk.injEq]at this;obtain⟨h1,h2,h3⟩:=this;generalize bdL CP l ⟨0,0,0⟩=p at*;generalize bdL CR l ⟨0,0,0⟩=q at*;unfold CR at h1 h2 h3;refine⟨?_,?_,?_⟩
 .clear h2 h3;unfold mn at*;simp only at h1;(repeat' split at h1)<;>omega
 .clear h1 h3;unfold mn at*;simp only at h2;(repeat' split at h2)<;>omega
 clear h1 h2;unfold mn at*;simp only at h3;(repeat' split at h3)<;>omega
theorem Xcj {l:List St} (h:okL l=true) {s:St} (hs:s∈l):okS s=true:=by
 induction l with
 |nil=>cases hs
 | cons x l ih=>
   simp only[okL,N3]at h;rcases Ng.1 hs with rfl|h1
   .exact h.1
   exact ih h.2 h1
abbrev aB (p:B3):TV:=.agg [.c (iC p.s),.c (iC p.o),.c (iC p.t)]
theorem X7v (l:List St):Xl l<=1000000000->okL l=true->∀d:Nat,Con prog 118 true [lS l] (.v (aB (bdL CP l ⟨0,0,0⟩))) none d:=by
 revert l
 apply St.lists;intro l ih hn hok d;have hlen:=Qs l;obtain⟨res,hres⟩:∃r,bdL CP l ⟨0,0,0⟩=r:=⟨_,rfl⟩;rw[hres];refine X5 Tryz.func118 ?_;simp only[Tryz.f118];refine X0<|(Xs (by simp[*];rfl) ?_);refine X0<|(Xs (by simp[*];rfl) ?_);refine X0<|X0<|(Xs (by simp[*];rfl) ?_);refine X3<|(Xg [2,3,9,10] (fun(x:Nat×B3)=>[(11,.v (li x.1))]) (fun x=>[(2,.box [.c (iC 0),.c (iC 0),.c (iC 0)]),(3,.box [.c (iC x.2.s),.c (iC x.2.o),.c (iC x.2.t)])]) (fun x=>x.1<=l.length/\bdL CP (l.drop x.1) x.2=res/\in3 CP x.2) (fun x=>l.length - x.1) (0,⟨0,0,0⟩) ⟨Nq _,hres,Z0 X61⟩ ?_ ?_)
 .exact Xw (fun n=>n) [] rfl (by simp[*,upS,X8]) (by simp[*,upS]) (by simp[upS])
 rintro⟨k,⟨m1,m2,m3⟩⟩ ⟨hk,hJ,hin⟩;simp only[upS,X8,Xz]
 simp only[KN,Nat.reduceBEq,Nj,Nc,ins,Nat.reduceLT]
 simp only at hk hJ;unfold in3 CP at hin;simp only at hin;clear hres;refine X0<|(Xs (by simp[*];rfl) ?_);refine X0<|(X6 rfl (fun h5=>Xe ?_) (fun h5=>?_))
 ·simp only[BN]at h5;have hlt:k<l.length:=by omega
  obtain⟨s,he,hd⟩:=Xt hlt;have hmem:s∈l:=N4 he;have hnm:=QJ hmem;have hos:=Xcj hok hmem;have iha:=fun h=>(ih s hmem).1 h;have ihb:=fun h=>(ih s hmem).2 h;have hw1:=XD hlt (by omega);have hk1:k+1<=l.length:=hlt;rw[hd]at hJ;simp only[bdL]at hJ;have hsin:=X3g X61 s hos;obtain⟨pq,hpq⟩:∃pq,bdS CP s=pq:=⟨_,rfl⟩;rw[hpq]at hJ hsin;obtain⟨sd,sc,sv,sn,⟨so,stn,sks⟩,sa,sb,sbs⟩:=s;simp only[St.then_,St.else_,St.term]at iha ihb hnm;simp only[okS,N3,Nf,N5]at hos;have ca:=iha (by omega) hos.2.2.1;have cb:=ihb (by omega) hos.2.2.2;have he':=Q4 he;simp only[St.enc,Tm.enc,List.cons_append,List.nil_append]at he';simp only[bdS]at hpq;have hxa:=ZK X61 sa ⟨0,0,0⟩ hos.2.2.1 (Z0 X61);have hxb:=ZK X61 sb ⟨0,0,0⟩ hos.2.2.2 (Z0 X61);obtain⟨xa,hxa'⟩:∃x,bdL CP sa ⟨0,0,0⟩=x:=⟨_,rfl⟩;obtain⟨xb,hxb'⟩:∃x,bdL CP sb ⟨0,0,0⟩=x:=⟨_,rfl⟩;rw[hxa']at ca hxa hpq;rw[hxb']at cb hxb hpq;unfold in3 CP at hxa hxb;unfold nn3 at hsin;simp only at hxa hxb;obtain⟨a1,a2,a3⟩:=xa;obtain⟨b1,b2,b3⟩:=xb;obtain⟨q1,q2,q3⟩:=pq;simp only at hxa hxb hsin;have hcost:=hos.1;unfold bd1 at hpq;simp only[mx]at hpq;clear hlt h5 iha ihb ih hxa' hxb' hmem hnm hd he hos;refine X0<|X3<|X0<|(Xs (by simp[*];rfl) ?_);refine X0<|(Xs (by simp[*];rfl) ?_);refine X0<|(XU [⟨true,.v (aB ⟨a1,a2,a3⟩),none⟩,⟨true,.v (aB ⟨b1,b2,b3⟩),none⟩] (by kernel_rfl) (by kernel_rfl) (by rfl) (by simp[*];first|exact⟨rfl,Iff.rfl⟩|exact⟨rfl,trivial⟩|rfl) ?_ ?_)
  .first|exact⟨ca _,cb _⟩|exact trivial|(repeat' first|exact trivial|exact ca _|exact cb _|apply And.intro)
  refine(XT [2,3,6,9,10,11] (fun(z:Unit)=>[]) (fun(z:Unit)=>[(2,.box [.c (iC 0),.c (iC 0),.c (iC 0)]),(3,.box [.c (iC m1),.c (iC m2),.c (iC m3)]),(6,.box [.c (iC q1),.c (iC q2),.c (iC q3)])]) (fun(z:Unit)=>q1<=4503874505281537/\q2<=4503874505281537/\q3<=4503874505281537) ?_ ?_)
  ·
   refine X0<|(Xs (by simp[*];rfl) ?_);refine X3<|X0<|(Xs (by simp[*];rfl) ?_);refine(X6 rfl (fun h12=>?_) (fun h12=>?_))
   ·simp only[BN]at h12;rw[N7 (by omega),N7 (by omega),N8 h12]at hpq;simp only[B3.mk.injEq]at hpq;obtain⟨p1,p2,p3⟩:=hpq;subst p1 p2 p3;refine(Xs (by simp[*];rfl) ?_);exact⟨(),⟨by omega,by omega,by omega⟩,X4 (fun n=>n) []⟩
   simp only[BN]at h12;refine X0<|(Xs (by simp[*];rfl) ?_);refine(X6 rfl (fun h16=>?_) (fun h16=>?_))
   ·simp only[BN]at h16;rw[N7 (by omega),N8 h16]at hpq;simp only[B3.mk.injEq]at hpq;obtain⟨p1,p2,p3⟩:=hpq;have hw2:IntKind.i64.wrap (1+(if a1<b1 then b1 else a1))=q1:=by rw[<-p1];exact Xa (by split<;>omega) (by split<;>omega)
    have hw3:IntKind.i64.wrap (sc+(if a3<b3 then b3 else a3))=q3:=by rw[<-p3];exact Xa (by split<;>omega) (by split<;>omega)
    have hq:q1<=4503874505281537/\q2<=4503874505281537/\q3<=4503874505281537:=by
     rw[<-p1,<-p2,<-p3];refine⟨?_,?_,?_⟩<;>split<;>omega
    clear p1 p3;refine X0<|(Xs (by simp[*];rfl) ?_);refine X0<|(Xs (by simp[*];rfl) ?_);refine(Xs (by simp[*];rfl) ?_);exact⟨(),hq,X4 (fun n=>n) []⟩
   simp only[BN]at h16;refine X0<|(Xs (by simp[*];rfl) ?_);refine(Xb rfl (fun h22=>?_) fun h22=>?_)
   ·simp only[BN]at h22;rw[N8 h22]at hpq;simp only[B3.mk.injEq]at hpq;obtain⟨p1,p2,p3⟩:=hpq;have hnn:0<=sn/\sn<=4096:=by omega
    have m4:=mulN hnn (z:=1+a1) (by omega);have m5:=mulN hnn (z:=a2) (by omega);have m6:=mulN hnn (z:=sc+a3) (by omega);have hw2:IntKind.i64.wrap (1+a1)=1+a1:=Xa;have hw3:IntKind.i64.wrap (sn*(1+a1))=sn*(1+a1):=Xa;have hw4:IntKind.i64.wrap (1+sn*(1+a1))=q1:=by rw[<-p1];exact Xa
    have hw5:IntKind.i64.wrap (sn*a2)=q2:=by rw[<-p2];exact Xa
    have hw6:IntKind.i64.wrap (sc+a3)=sc+a3:=Xa;have hw7:IntKind.i64.wrap (sn*(sc+a3))=q3:=by rw[<-p3];exact Xa
    have hq:q1<=4503874505281537/\q2<=4503874505281537/\q3<=4503874505281537:=by omega
    clear p1 p2 p3 m4 m5 m6;refine X0<|(Xs (by simp[*];rfl) ?_);refine X0<|(Xs (by simp[*];rfl) ?_);refine(Xs (by simp[*];rfl) ?_);exact⟨(),hq,X4 (fun n=>n) []⟩
   simp only[BN]at h22;rw[N7 h22,N7 h16,N7 h12]at hpq;simp only[B3.mk.injEq]at hpq;obtain⟨p1,p2,p3⟩:=hpq;subst p1 p2 p3;exact⟨(),⟨by omega,by omega,by omega⟩,X4 (fun n=>n) []⟩
  rintro _ ⟨hq1,hq2,hq3⟩;simp only[upS,X8,Xz]
  simp only[KN,Nat.reduceBEq,Nj,Nc]
  clear hpq ca cb hxa hxb;have hw2:IntKind.i64.wrap (m1+q1)=m1+q1:=Xa;have hw3:IntKind.i64.wrap (m2+q2)=m2+q2:=Xa;have hw4:IntKind.i64.wrap (m3+q3)=m3+q3:=Xa;have hmn1:(if 1099511627776<m1+q1 then 1099511627776 else m1+q1)=mn (m1+q1) 1099511627776:=rfl;have hmn2:(if 1099511627776<m2+q2 then 1099511627776 else m2+q2)=mn (m2+q2) 1099511627776:=rfl;have hmn3:(if 1099511627776<m3+q3 then 1099511627776 else m3+q3)=mn (m3+q3) 1099511627776:=rfl;have hin2:in3 CP (Qe CP ⟨m1,m2,m3⟩ ⟨q1,q2,q3⟩):=X4A X61 ⟨hin.1,hin.2.2.1,hin.2.2.2.2.1⟩ ⟨hsin.1,hsin.2.1,hsin.2.2⟩;refine X0<|(Xs (by simp[*];rfl) ?_);refine X0<|(Xs (by simp[*];rfl) ?_);refine(Xs (by simp[*];rfl) ?_);refine(Xs (by simp[*];rfl) ?_);exact⟨(k+1,Qe CP ⟨m1,m2,m3⟩ ⟨q1,q2,q3⟩),⟨hk1,hJ,hin2⟩,by simp only;omega,Xw (fun n=>n) [] rfl (by simp[*]) (by simp[*,Qe,CP]) (by simp)⟩
 simp only[BN]at h5;have hkl:k=l.length:=by omega
 rw[hkl,Nw]at hJ;simp only[bdL]at hJ;subst hJ;refine(Xi ?_);refine X0<|(Xs (by simp[*];rfl) ?_);exact(Xc (he:=by first|rfl|(simp[*];done)|(simp only[XG];(repeat' split)<;>first|rfl|(exfalso;omega)|simp_all)))
theorem X5a (l:List St):Xl l<=1000000000->okL l=true->∀d:Nat,Con prog 54 true [lS l] (.tup [li (bdL CR l ⟨0,0,0⟩).s,li (bdL CR l ⟨0,0,0⟩).o,li (bdL CR l ⟨0,0,0⟩).t]) none d:=by
 revert l
 apply St.lists;intro l ih hn hok d;have hlen:=Qs l;obtain⟨res,hres⟩:∃r,bdL CR l ⟨0,0,0⟩=r:=⟨_,rfl⟩;rw[hres];refine X5 Tryz.func54 ?_;simp only[Tryz.f54];refine X0<|(Xs (by simp[*];rfl) ?_);refine X0<|(Xs (by simp[*];rfl) ?_);refine X0<|X0<|(Xs (by simp[*];rfl) ?_);refine X3<|(Xg [0] (fun(x:Nat×B3)=>[(5,.v (li x.2.s)),(6,.v (li x.2.o)),(7,.v (li x.2.t)),(8,.v (li x.1))]) (fun x=>[]) (fun x=>x.1<=l.length/\bdL CR (l.drop x.1) x.2=res/\in3 CR x.2) (fun x=>l.length - x.1) (0,⟨0,0,0⟩) ⟨Nq _,hres,Z0 X36⟩ ?_ ?_)
 .exact Xw (fun n=>n) [] rfl (by simp[*,upS,X8]) (by simp[*,upS]) (by simp[upS])
 rintro⟨k,⟨m1,m2,m3⟩⟩ ⟨hk,hJ,hin⟩;simp only[upS,X8,Xz]
 simp only[KN,Nat.reduceBEq,Nj,Nc,ins,Nat.reduceLT]
 simp only at hk hJ;unfold in3 CR at hin;simp only at hin;clear hres;refine X0<|X0<|(Xs (by simp[*];rfl) ?_);refine(X6 rfl (fun h5=>Xe ?_) (fun h5=>?_))
 ·simp only[BN]at h5;have hlt:k<l.length:=by omega
  obtain⟨s,he,hd⟩:=Xt hlt;have hmem:s∈l:=N4 he;have hnm:=QJ hmem;have hos:=Xcj hok hmem;have iha:=fun h=>(ih s hmem).1 h;have ihb:=fun h=>(ih s hmem).2 h;have hw1:=XD hlt (by omega);have hk1:k+1<=l.length:=hlt;rw[hd]at hJ;simp only[bdL]at hJ;have hsin:=X3g X36 s hos;obtain⟨pq,hpq⟩:∃pq,bdS CR s=pq:=⟨_,rfl⟩;rw[hpq]at hJ hsin;obtain⟨sd,sc,sv,sn,⟨so,stn,sks⟩,sa,sb,sbs⟩:=s;simp only[St.then_,St.else_,St.term]at iha ihb hnm;simp only[okS,N3,Nf,N5,De]at hos;have ca:=iha (by omega) hos.2.2.1;have cb:=ihb (by omega) hos.2.2.2;have he':=Q4 he;simp only[St.enc,Tm.enc,List.cons_append,List.nil_append]at he';simp only[bdS]at hpq;have hxa:=ZK X36 sa ⟨0,0,0⟩ hos.2.2.1 (Z0 X36);have hxb:=ZK X36 sb ⟨0,0,0⟩ hos.2.2.2 (Z0 X36);obtain⟨xa,hxa'⟩:∃x,bdL CR sa ⟨0,0,0⟩=x:=⟨_,rfl⟩;obtain⟨xb,hxb'⟩:∃x,bdL CR sb ⟨0,0,0⟩=x:=⟨_,rfl⟩
  have hz:sd≠3->sd≠4->xa=⟨0,0,0⟩/\xb=⟨0,0,0⟩:=by
   intro h3 h4;rcases hos.2.1 with h|h|h
   .exact absurd h h3
   .exact absurd h h4
   rw[<-hxa',<-hxb',h.1,h.2];exact⟨rfl,rfl⟩
  rw[hxa']at ca hxa hpq;rw[hxb']at cb hxb hpq;unfold in3 CR at hxa hxb;unfold nn3 at hsin;simp only at hxa hxb;obtain⟨a1,a2,a3⟩:=xa;obtain⟨b1,b2,b3⟩:=xb;obtain⟨q1,q2,q3⟩:=pq;simp only[B3.mk.injEq]at hz;simp only at hxa hxb hsin;have hcost:=hos.1;unfold bd1 at hpq;simp only at hpq;have hmx1:0<=mx a1 b1/\mx a1 b1<=4097:=by unfold mx;split<;>omega
  have hmx2:0<=mx a2 b2/\mx a2 b2<=9:=by unfold mx;split<;>omega
  have hmx3:0<=mx a3 b3/\mx a3 b3<=67108865:=by unfold mx;split<;>omega
  have hw2:IntKind.i64.wrap (1+mx a1 b1)=1+mx a1 b1:=Xa;have hw3:IntKind.i64.wrap (sc+mx a3 b3)=sc+mx a3 b3:=Xa;clear hlt h5 iha ihb ih hxa' hxb' hmem hnm hd he hos;refine X0<|X3<|X0<|(Xs (by simp[*];rfl) ?_);refine X0<|(Wi [⟨true,.tup [li a1,li a2,li a3],none⟩] (by simp[*];first|exact⟨rfl,Iff.rfl⟩|exact⟨rfl,trivial⟩|rfl) ?_ ?_)
  .first|exact ca _|exact trivial|simpa[*,Qe,CR]using ca _
  refine X0<|(Wi [⟨true,.tup [li b1,li b2,li b3],none⟩] (by simp[*];first|exact⟨rfl,Iff.rfl⟩|exact⟨rfl,trivial⟩|rfl) ?_ ?_)
  .first|exact cb _|exact trivial|simpa[*,Qe,CR]using cb _
  refine X0<|(XU [⟨true,.v (li (mx a1 b1)),none⟩,⟨true,.v (li (mx a2 b2)),none⟩,⟨true,.v (li (mx a3 b3)),none⟩] (by kernel_rfl) (by kernel_rfl) (by rfl) (by simp[*];first|exact⟨rfl,Iff.rfl⟩|exact⟨rfl,trivial⟩|rfl) ?_ ?_)
  .first|exact⟨Qx _ _ _,Qx _ _ _,Qx _ _ _⟩|exact trivial|(repeat' first|exact trivial|exact Qx _ _ _|exact Qx _ _ _|exact Qx _ _ _|apply And.intro)
  refine(XT [0,5,6,7,8,9] (fun(z:Int)=>[(16,.v (li q1)),(17,.v (li z)),(18,.v (li q3))]) (fun(z:Int)=>[(9,.box [.c (iC sd),.c (iC sc),.c (iC sv),.c (iC sn),.c (iC so),.c (iC stn),.c (.sl 3 (Xx sks)),.c (.sl 10 (X7 sa)),.c (.sl 10 (X7 sb)),.c (.sl 1 (X9 sbs))])]) (fun(z:Int)=>(sd≠1->z=q2)/\(sd=1->q2=1)/\q1<=4503874505281537/\q2<=4503874505281537/\q3<=4503874505281537) ?_ ?_)
  ·
   refine X0<|(Xs (by simp[*];rfl) ?_);refine(Xb rfl (fun h12=>?_) fun h12=>?_)
   ·simp only[BN]at h12;rw[N8 h12]at hpq;simp only[B3.mk.injEq]at hpq;obtain⟨p1,p2,p3⟩:=hpq;have hnn:0<=sn/\sn<=4096:=by omega
    have m4:=mulN hnn (z:=1+a1) (by omega);have m5:=mulN hnn (z:=a2) (by omega);have m6:=mulN hnn (z:=sc+a3) (by omega);have hw2:IntKind.i64.wrap (1+a1)=1+a1:=Xa;have hw3:IntKind.i64.wrap (sn*(1+a1))=sn*(1+a1):=Xa;have hw4:IntKind.i64.wrap (1+sn*(1+a1))=q1:=by rw[<-p1];exact Xa
    have hw5:IntKind.i64.wrap (sn*a2)=q2:=by rw[<-p2];exact Xa
    have hw6:IntKind.i64.wrap (sc+a3)=sc+a3:=Xa;have hw7:IntKind.i64.wrap (sn*(sc+a3))=q3:=by rw[<-p3];exact Xa
    have hq:q1<=4503874505281537/\q2<=4503874505281537/\q3<=4503874505281537:=by omega
    clear p1 p2 p3 m4 m5 m6 hz;refine(N0 ?_);exact⟨q2,⟨fun _=>rfl,fun h=>absurd h (by omega),hq⟩,X4 (fun n=>n) []⟩
   simp only[BN]at h12
   have hfin:q1=1+mx a1 b1/\q3=sc+mx a3 b3/\(sd≠1->mx a2 b2=q2)/\(sd=1->q2=1):=by
    rw[N7 h12]at hpq;by_cases h3:sd=3
    .rw[N8 h3]at hpq;simp only[B3.mk.injEq]at hpq;exact⟨hpq.1.symm,hpq.2.2.symm,fun _=>hpq.2.1,fun h=>absurd h (by omega)⟩
    rw[N7 h3]at hpq;obtain⟨⟨e1,e2,e3⟩,e4,e5,e6⟩:=hz h3 h12;subst e1 e2 e3 e4 e5 e6;by_cases h1:sd=1
    .rw[N8 h1]at hpq;simp only[B3.mk.injEq]at hpq;exact⟨by rw[<-hpq.1];rfl,by rw[<-hpq.2.2];simp[mx],fun h=>absurd h1 h,fun _=>hpq.2.1.symm⟩
    rw[N7 h1]at hpq;simp only[B3.mk.injEq]at hpq;exact⟨by rw[<-hpq.1];rfl,by rw[<-hpq.2.2];simp[mx],fun _=>by rw[<-hpq.2.1];rfl,fun h=>absurd h h1⟩
   obtain⟨f1,f2,f3,f4⟩:=hfin;have hq1:q1<=4503874505281537:=by omega
   have hq3:q3<=4503874505281537:=by omega
   have hq2:q2<=4503874505281537:=by
    by_cases h:sd=1
    .have:=f4 h;omega
    have:=f3 h;omega
   clear hpq hz;exact⟨mx a2 b2,⟨f3,f4,hq1,hq2,hq3⟩,X4 (fun n=>n) []⟩
  rintro z2 ⟨hz2,hz3,hq⟩;simp only[upS,X8,Xz]
  simp only[KN,Nat.reduceBEq,Nj,Nc,ins,Nat.reduceLT]
  clear hpq hz hw2 hw3 ca cb;refine(XT [0,5,6,7,8,16,18] (fun(z:Unit)=>[(17,.v (li q2))]) (fun(z:Unit)=>[]) (fun(z:Unit)=>True) ?_ ?_)
  ·
   refine X0<|(Xs (by simp[*];rfl) ?_);refine(Xb rfl (fun h18=>?_) fun h18=>?_)
   ·simp only[BN]at h18;have hq21:=hz3 h18;refine(Xs (by simp[*];rfl) ?_);exact⟨(),trivial,X4 (fun n=>n) []⟩
   simp only[BN]at h18;have hq21:=hz2 h18;exact⟨(),trivial,X4 (fun n=>n) []⟩
  rintro _ _;simp only[upS,Xz]
  clear hz2 hz3;obtain⟨hq1,hq2,hq3⟩:=hq;have hw2:IntKind.i64.wrap (m1+q1)=m1+q1:=Xa;have hw3:IntKind.i64.wrap (m2+q2)=m2+q2:=Xa;have hw4:IntKind.i64.wrap (m3+q3)=m3+q3:=Xa;have hin2:in3 CR (Qe CR ⟨m1,m2,m3⟩ ⟨q1,q2,q3⟩):=X4A X36 ⟨hin.1,hin.2.2.1,hin.2.2.2.2.1⟩ ⟨hsin.1,hsin.2.1,hsin.2.2⟩;refine X0<|(Wi [⟨true,.v (li (mn (m1+q1) 4097)),none⟩] (by simp[*];first|exact⟨rfl,Iff.rfl⟩|exact⟨rfl,trivial⟩|rfl) ?_ ?_)
  .first|exact Ql _ _ _|exact trivial|simpa[*,Qe,CR]using Ql _ _ _
  refine X0<|(Wi [⟨true,.v (li (mn (m2+q2) 9)),none⟩] (by simp[*];first|exact⟨rfl,Iff.rfl⟩|exact⟨rfl,trivial⟩|rfl) ?_ ?_)
  .first|exact Ql _ _ _|exact trivial|simpa[*,Qe,CR]using Ql _ _ _
  refine(Wi [⟨true,.v (li (mn (m3+q3) 67108865)),none⟩] (by simp[*];first|exact⟨rfl,Iff.rfl⟩|exact⟨rfl,trivial⟩|rfl) ?_ ?_)
  .first|exact Ql _ _ _|exact trivial|simpa[*,Qe,CR]using Ql _ _ _
  refine(Xs (by simp[*];rfl) ?_);exact⟨(k+1,Qe CR ⟨m1,m2,m3⟩ ⟨q1,q2,q3⟩),⟨hk1,hJ,hin2⟩,by simp only;omega,Xw (fun n=>n) [] rfl (by simp[*,Qe,CR]) (by simp[*]) (by simp)⟩
 simp only[BN]at h5;have hkl:k=l.length:=by omega
 rw[hkl,Nw]at hJ;simp only[bdL]at hJ;subst hJ;refine(Xi ?_);refine X0<|(Xs (by simp[*];rfl) ?_);exact(Xc (he:=by first|rfl|(simp[*];done)|(simp only[XG];(repeat' split)<;>first|rfl|(exfalso;omega)|simp_all)))
theorem X3r (l:List Int) (hl:l.length<=1000000000) (d:Nat) (hd:d<1000000):Con prog 72 false [lI l] (.v (.one (.own d))) (some (.row 3 1 (X9 l))) d:=by
 have hroom:W5 l.length 8:=⟨by unfold maxLen;omega,by omega⟩;cases l with
 | nil=>
   refine Xcx ?_ ?_
   .refine X5 Tryz.func72 ?_;simp only[Tryz.f72];refine X2 ?_;refine X0<|X0<|X1 ?_;refine(Xb rfl (fun h2=>?_) fun h2=>?_)
    ·simp only at h2;refine X2 ?_;exact XZ ⟨.inr rfl,_,le_nameN 2 d 3 1 rfl (by decide) hd,⟨⟨_,by simp;rfl,by simp[XG]⟩,by simp,fun h=>by cases h⟩⟩
    exact absurd h2 (by simp)
   intro a cap;refine X5 Tryz.func72 ?_;simp only[Tryz.f72];refine X2 ?_;refine X0<|X0<|X1 ?_;refine(Xb rfl (fun h2=>?_) fun h2=>?_)
   .exact absurd h2 (by simp)
   simp only at h2;refine XC (le_emp 0 1 rfl) ?_;refine X2 ?_;exact XZ ⟨.inr rfl,_,X45 2 7 d rfl rfl hd,⟨⟨_,by simp;rfl,by simp[XG]⟩,by simp,fun h=>by cases h⟩⟩
 | cons v r=>
   refine X5 Tryz.func72 ?_;simp only[Tryz.f72];rw[List.length_cons]at hroom;refine X2 ?_;refine X0<|X0<|X1 ?_;refine(Xb rfl (fun h2=>?_) fun h2=>?_)
   .exact absurd h2 (by simp)
   simp only at h2;refine X2 ?_;exact XZ ⟨.inr rfl,_,X45 2 7 d rfl rfl hd,⟨⟨_,by simp;rfl,by simp[XG]⟩,by simp,fun h=>by cases h⟩⟩
end Go.Proofs.YtdajceakaakdoaaGreat
