/- Part 4: contracts of functions of the program and of the reference, and plain facts about what they compute; used by the proof of the claimed statement. Conditions: as each theorem states. -/
import Derived.Test.YtppjennamodfdaaGreatK3
set_option linter.unusedSimpArgs false
set_option linter.unusedVariables false
set_option linter.unnecessarySimpa false
set_option maxRecDepth 100000
set_option maxHeartbeats 2000000
namespace Go.Proofs.YtppjennamodfdaaGreat
open Go Go.Hl
structure B3 where
 s:Int
 o:Int
 t:Int
def bd1 (d c n:Int) (x y:B3):B3:=
 if d=4 then⟨1+n*(1+x.s),n*x.o,n*(c+x.t)⟩
 else if d=3 then⟨1+mx x.s y.s,mx x.o y.o,c+mx x.t y.t⟩
 else if d=1 then⟨1,1,c⟩ else⟨1,0,c⟩
def Qe (C:B3) (x y:B3):B3:=⟨mn (x.s+y.s) C.s,mn (x.o+y.o) C.o,mn (x.t+y.t) C.t⟩
mutual
def bdS (C:B3):St→B3
 | .mk d c _ n _ a b _=>bd1 d c n (bdL C a ⟨0,0,0⟩) (bdL C b ⟨0,0,0⟩)
def bdL (C:B3):List St→B3→B3
 |[],p=>p
 |s::l,p=>bdL C l (Qe C p (bdS C s))
end
mutual
def okS:St→Bool
 | .mk d c _ n _ a b _=>(decide (0≤c)&&(decide (c≤67108864)&&(decide (d≠4)||(decide (0≤n)&&decide (n≤4096)))))&&((decide (d=3)||(decide (d=4)||(a.isEmpty&&b.isEmpty)))&&(okL a&&okL b))
def okL:List St→Bool
 |[]=>true
 |s::l=>okS s&&okL l
end
def CP:B3:=⟨1099511627776,1099511627776,1099511627776⟩
def CR:B3:=⟨4097,9,67108865⟩
def in3 (C p:B3):Prop:=0≤p.s∧p.s≤C.s∧0≤p.o∧p.o≤C.o∧0≤p.t∧p.t≤C.t
def nn3 (p:B3):Prop:=0≤p.s∧0≤p.o∧0≤p.t
theorem mulN {n z:Int} (hn:0≤n∧n≤4096) (hz:0≤z∧z≤1099578736641):0≤n*z∧n*z≤4503874505281536:=by
 have h1:n.natAbs*z.natAbs≤4096*1099578736641:=Nat.mul_le_mul (by omega) (by omega);rw[←Int.natAbs_mul]at h1;have h2:=Int.mul_nonneg hn.1 hz.1;omega
theorem bd1_nn {d c n:Int} {x y:B3} (hc:0≤c) (hn:d=4→0≤n) (hx:nn3 x) (hy:nn3 y):nn3 (bd1 d c n x y):=by
 unfold nn3 at*;unfold bd1;split
 · rename_i h4;have h0:=hn h4;refine⟨?_,Int.mul_nonneg h0 hx.2.1,Int.mul_nonneg h0 (by omega)⟩;have:=Int.mul_nonneg h0 (show(0:Int)≤1+x.s by omega);simp only;omega
 split
 · simp only[mx];refine⟨?_,?_,?_⟩<;>split<;>omega
 split<;>simp only<;>omega
theorem X2m {C p q:B3} (hC:nn3 C) (hp:nn3 p) (hq:nn3 q):in3 C (Qe C p q):=by
 unfold in3 Qe nn3 at*;simp only[mn];refine⟨?_,?_,?_,?_,?_,?_⟩<;>split<;>omega
theorem Z9 {C p:B3} (h:in3 C p):nn3 p:=⟨h.1,h.2.2.1,h.2.2.2.2.1⟩
theorem Wv {C:B3} (hC:nn3 C):in3 C ⟨0,0,0⟩:=⟨Int.le_refl _,hC.1,Int.le_refl _,hC.2.1,Int.le_refl _,hC.2.2⟩
mutual
theorem X1S {C:B3} (hC:nn3 C):∀s:St,okS s=true→nn3 (bdS C s)
 | .mk d c v n t a b bs,h=>by
   simp only[okS,Bool.and_eq_true,Bool.or_eq_true,decide_eq_true_eq]at h;simp only[bdS];exact bd1_nn h.1.1 (fun h4=>by omega) (Z9 (Zk hC a _ h.2.2.1 (Wv hC))) (Z9 (Zk hC b _ h.2.2.2 (Wv hC)))
theorem Zk {C:B3} (hC:nn3 C):∀(l:List St) (p:B3),okL l=true→in3 C p→in3 C (bdL C l p)
 |[],p,_,h=>h
 | s::l,p,h,hp=>by
   simp only[okL,Bool.and_eq_true]at h;simp only[bdL];exact Zk hC l _ h.2 (X2m hC (Z9 hp) (X1S hC s h.1))
end
def X0C (C p:B3):B3:=⟨mn p.s C.s,mn p.o C.o,mn p.t C.t⟩
theorem X5d {n a b k k' C:Int} (hn:0≤n) (ha:0≤a) (hb:0≤b) (hk:0≤k) (hk':0≤k') (h:mn a C=mn b C):mn (k'+n*(k+a)) C=mn (k'+n*(k+b)) C:=by
 by_cases hac:a<C
 · have:a=b:=by
    unfold mn at h
    (repeat' split at h)<;>omega
   rw[this]
 have hbc:C≤b:=by
  unfold mn at h
  (repeat' split at h)<;>omega
 rcases Int.lt_or_le 0 n with h0|h0
 · have h1:=Int.mul_le_mul_of_nonneg_right (show(1:Int)≤n by omega) (show 0≤k+a by omega);have h2:=Int.mul_le_mul_of_nonneg_right (show(1:Int)≤n by omega) (show 0≤k+b by omega);unfold mn
   (repeat' split)<;>omega
 have:n=0:=by omega
 subst this;simp
theorem bd1_cut {C x x' y y':B3} {d c n:Int} (hc:0≤c) (hn:d=4→0≤n) (hx:nn3 x) (hx':nn3 x') (hy:nn3 y) (hy':nn3 y') (h1:X0C C x=X0C C x') (h2:X0C C y=X0C C y'):X0C C (bd1 d c n x y)=X0C C (bd1 d c n x' y'):=by
 unfold X0C at*;unfold nn3 at*;simp only[B3.mk.injEq]at h1 h2⊢;unfold bd1;split
 · rename_i h4;have h0:=hn h4;have e1:=X5d h0 hx.1 hx'.1 (show(0:Int)≤1 by decide) (show(0:Int)≤1 by decide) h1.1;have e2:=X5d h0 hx.2.1 hx'.2.1 (Int.le_refl 0) (Int.le_refl 0) h1.2.1;have e3:=X5d h0 hx.2.2 hx'.2.2 hc (Int.le_refl 0) h1.2.2;simp only[Int.zero_add]at e2 e3;exact⟨e1,e2,e3⟩
 obtain⟨a1,a2,a3⟩:=h1;obtain⟨b1,b2,b3⟩:=h2;split
 · simp only[mx];refine⟨?_,?_,?_⟩
   · clear a2 a3 b2 b3;unfold mn at*;(repeat' split at a1)<;>(repeat' split at b1)<;>(repeat' split)<;>omega
   · clear a1 a3 b1 b3;unfold mn at*;(repeat' split at a2)<;>(repeat' split at b2)<;>(repeat' split)<;>omega
   clear a1 a2 b1 b2;unfold mn at*;(repeat' split at a3)<;>(repeat' split at b3)<;>(repeat' split)<;>omega
 split<;>exact⟨rfl,rfl,rfl⟩
theorem add3_cut {C D p p' x x':B3} (hC:nn3 C) (hD:C.s≤D.s∧C.o≤D.o∧C.t≤D.t) (hp:nn3 p) (hp':nn3 p') (hx:nn3 x) (hx':nn3 x') (h1:X0C C p=X0C C p') (h2:X0C C x=X0C C x'):X0C C (Qe D p x)=X0C C (Qe C p' x'):=by
 unfold X0C at*;unfold nn3 at*;simp only[B3.mk.injEq,Qe]at h1 h2⊢;obtain⟨a1,a2,a3⟩:=h1;obtain⟨b1,b2,b3⟩:=h2;obtain⟨d1,d2,d3⟩:=hD;obtain⟨p1,p2,p3⟩:=hp;obtain⟨q1,q2,q3⟩:=hp';obtain⟨r1,r2,r3⟩:=hx;obtain⟨s1,s2,s3⟩:=hx';obtain⟨c1,c2,c3⟩:=hC;refine⟨?_,?_,?_⟩
 · clear a2 a3 b2 b3;unfold mn at*;(repeat' split at a1)<;>(repeat' split at b1)<;>(repeat' split)<;>omega
 · clear a1 a3 b1 b3;unfold mn at*;(repeat' split at a2)<;>(repeat' split at b2)<;>(repeat' split)<;>omega
 clear a1 a2 b1 b2;unfold mn at*;(repeat' split at a3)<;>(repeat' split at b3)<;>(repeat' split)<;>omega
mutual
theorem bdS_cut {C D:B3} (hC:nn3 C) (hDn:nn3 D) (hD:C.s≤D.s∧C.o≤D.o∧C.t≤D.t):∀s:St,okS s=true→X0C C (bdS D s)=X0C C (bdS C s)
 | .mk d c v n t a b bs,h=>by
   simp only[okS,Bool.and_eq_true,Bool.or_eq_true,decide_eq_true_eq]at h;simp only[bdS];have ha:=Z9 (Zk hDn a _ h.2.2.1 (Wv hDn));have hb:=Z9 (Zk hDn b _ h.2.2.2 (Wv hDn));have ha':=Z9 (Zk hC a _ h.2.2.1 (Wv hC));have hb':=Z9 (Zk hC b _ h.2.2.2 (Wv hC));have h0:nn3 ⟨0,0,0⟩:=⟨Int.le_refl _,Int.le_refl _,Int.le_refl _⟩;exact bd1_cut h.1.1 (fun h4=>by omega) ha ha' hb hb' (X5e hC hDn hD a _ _ h.2.2.1 (Wv hDn) (Wv hC) rfl) (X5e hC hDn hD b _ _ h.2.2.2 (Wv hDn) (Wv hC) rfl)
theorem X5e {C D:B3} (hC:nn3 C) (hDn:nn3 D) (hD:C.s≤D.s∧C.o≤D.o∧C.t≤D.t):∀(l:List St) (p q:B3),okL l=true→in3 D p→in3 C q→X0C C p=X0C C q→X0C C (bdL D l p)=X0C C (bdL C l q)
 |[],p,q,_,_,_,h=>h
 | s::l,p,q,h,hp,hq,hpq=>by
   simp only[okL,Bool.and_eq_true]at h;simp only[bdL]
   exact X5e hC hDn hD l _ _ h.2 (X2m hDn (Z9 hp) (X1S hDn s h.1)) (X2m hC (Z9 hq) (X1S hC s h.1))
    (add3_cut hC hD (Z9 hp) (Z9 hq) (X1S hDn s h.1) (X1S hC s h.1) hpq (bdS_cut hC hDn hD s h.1))
end
theorem nnCP:nn3 CP:=by unfold nn3 CP;decide
theorem X4g:nn3 CR:=by unfold nn3 CR;decide
theorem bd_cmp {l:List St} (h:okL l=true):(4096<(bdL CP l ⟨0,0,0⟩).s↔4096<(bdL CR l ⟨0,0,0⟩).s)∧(8<(bdL CP l ⟨0,0,0⟩).o↔8<(bdL CR l ⟨0,0,0⟩).o)∧(67108864<(bdL CP l ⟨0,0,0⟩).t↔67108864<(bdL CR l ⟨0,0,0⟩).t):=by
 have:=X5e X4g nnCP (by decide) l _ _ h (Wv nnCP) (Wv X4g) rfl;unfold X0C at this;simp only[B3.mk.injEq]at this;obtain⟨h1,h2,h3⟩:=this;generalize bdL CP l ⟨0,0,0⟩=p at*;generalize bdL CR l ⟨0,0,0⟩=q at*;unfold CR at h1 h2 h3;refine⟨?_,?_,?_⟩
 · clear h2 h3;unfold mn at*;simp only at h1;(repeat' split at h1)<;>omega
 · clear h1 h3;unfold mn at*;simp only at h2;(repeat' split at h2)<;>omega
 clear h1 h2;unfold mn at*;simp only at h3;(repeat' split at h3)<;>omega
end Go.Proofs.YtppjennamodfdaaGreat

namespace Go.Proofs.YtppjennamodfdaaGreat
open Go Go.Hl
theorem XbM {l:List St} (h:okL l=true) {s:St} (hs:s∈l):okS s=true:=by
 induction l with
 |nil=>cases hs
 | cons x l ih=>
   simp only[okL,Bool.and_eq_true]at h;rcases List.mem_cons.1 hs with rfl|h1
   · exact h.1
   exact ih h.2 h1
abbrev aB (p:B3):TV:=.agg [.c (iC p.s),.c (iC p.o),.c (iC p.t)]
theorem Xcf (l:List St):Xk l≤1000000000→okL l=true→∀d:Nat,Con Tryz.prog 167 true [lS l] (.v (aB (bdL CP l ⟨0,0,0⟩))) none d:=by
 revert l
 apply St.lists;intro l ih hn hok d;have hlen:=Qg l;obtain⟨res,hres⟩:∃r,bdL CP l ⟨0,0,0⟩=r:=⟨_,rfl⟩;rw[hres];refine X5 Tryz.func167 ?_;simp only[Tryz.f167];refine X1<|(Xq (by simp[*,Qe,CP];rfl) ?_);refine X1<|(Xq (by simp[*,Qe,CP];rfl) ?_);refine X1<|X1<|(Xq (by simp[*,Qe,CP];rfl) ?_);refine X4<|(Xf [2,3,9,10] (fun(x:Nat×B3)=>[(11,.v (li x.1))]) (fun x=>[(2,.box [.c (iC 0),.c (iC 0),.c (iC 0)]),(3,.box [.c (iC x.2.s),.c (iC x.2.o),.c (iC x.2.t)])]) (fun x=>x.1≤l.length∧bdL CP (l.drop x.1) x.2=res∧in3 CP x.2) (fun x=>l.length - x.1) (0,⟨0,0,0⟩) ⟨Nat.zero_le _,hres,Wv nnCP⟩ ?_ ?_)
 · exact Xx (fun n=>n) [] rfl (by simp[*,upS,X8,Qe,CP]) (by simp[*,upS]) (by simp[upS])
 rintro⟨k,⟨m1,m2,m3⟩⟩ ⟨hk,hJ,hin⟩;simp only[upS,X8,Xw]
 try simp only[X8,KN,Nat.reduceBEq,if_true,if_false,ins,Nat.reduceLT]
 simp only at hk hJ;unfold in3 CP at hin;simp only at hin;clear hres;refine X1<|(Xq (by simp[*,Qe,CP];rfl) ?_);refine X1<|(X7 rfl (fun h5=>Xb ?_) (fun h5=>?_))
 · (try simp only[BN]at h5);have hlt:k<l.length:=by omega
   obtain⟨s,he,hd⟩:=Xs hlt;have hmem:s∈l:=List.mem_of_getElem? he;have hnm:=Qj hmem;have hos:=XbM hok hmem;have iha:=fun h=>(ih s hmem).1 h;have ihb:=fun h=>(ih s hmem).2 h;have hw1:=XA hlt (by omega);have hk1:k+1≤l.length:=hlt;rw[hd]at hJ;simp only[bdL]at hJ;have hsin:=X1S nnCP s hos;obtain⟨pq,hpq⟩:∃pq,bdS CP s=pq:=⟨_,rfl⟩;rw[hpq]at hJ hsin;obtain⟨sd,sc,sv,sn,⟨so,stn,sks⟩,sa,sb,sbs⟩:=s;simp only[St.then_,St.else_,St.term]at iha ihb hnm;simp only[okS,Bool.and_eq_true,Bool.or_eq_true,decide_eq_true_eq]at hos;have ca:=iha (by omega) hos.2.2.1;have cb:=ihb (by omega) hos.2.2.2;have he':=Q1 he;simp only[St.enc,Tm.enc,List.cons_append,List.nil_append]at he';simp only[bdS]at hpq;have hxa:=Zk nnCP sa ⟨0,0,0⟩ hos.2.2.1 (Wv nnCP);have hxb:=Zk nnCP sb ⟨0,0,0⟩ hos.2.2.2 (Wv nnCP);obtain⟨xa,hxa'⟩:∃x,bdL CP sa ⟨0,0,0⟩=x:=⟨_,rfl⟩;obtain⟨xb,hxb'⟩:∃x,bdL CP sb ⟨0,0,0⟩=x:=⟨_,rfl⟩;rw[hxa']at ca hxa hpq;rw[hxb']at cb hxb hpq;unfold in3 CP at hxa hxb;unfold nn3 at hsin;simp only at hxa hxb;obtain⟨a1,a2,a3⟩:=xa;obtain⟨b1,b2,b3⟩:=xb;obtain⟨q1,q2,q3⟩:=pq;simp only at hxa hxb hsin;have hcost:=hos.1;unfold bd1 at hpq;simp only[mx]at hpq;clear hlt h5 iha ihb ih hxa' hxb' hmem hnm hd he hos;refine X1<|X4<|X1<|(Xq (by simp[*,Qe,CP];rfl) ?_);refine X1<|(Xq (by simp[*,Qe,CP];rfl) ?_);refine X1<|(XS [⟨true,.v (aB ⟨a1,a2,a3⟩),none⟩,⟨true,.v (aB ⟨b1,b2,b3⟩),none⟩] (by kernel_rfl) (by kernel_rfl) (by rfl) (by simp[*,Qe,CP];first|exact⟨rfl,Iff.rfl⟩|exact⟨rfl,trivial⟩|rfl) ?_ ?_)
   · first|exact⟨ca _,cb _⟩|exact trivial|(repeat' first|exact trivial|exact ca _|exact cb _|apply And.intro)
   refine(XV [2,3,6,9,10,11] (fun(z:Unit)=>[]) (fun(z:Unit)=>[(2,.box [.c (iC 0),.c (iC 0),.c (iC 0)]),(3,.box [.c (iC m1),.c (iC m2),.c (iC m3)]),(6,.box [.c (iC q1),.c (iC q2),.c (iC q3)])]) (fun(z:Unit)=>q1≤4503874505281537∧q2≤4503874505281537∧q3≤4503874505281537) ?_ ?_)
   ·
    refine X1<|(Xq (by simp[*,Qe,CP];rfl) ?_);refine X4<|X1<|(Xq (by simp[*,Qe,CP];rfl) ?_);refine(X7 rfl (fun h12=>?_) (fun h12=>?_))
    · (try simp only[BN]at h12);rw[if_neg (by omega),if_neg (by omega),if_pos h12]at hpq;simp only[B3.mk.injEq]at hpq;obtain⟨p1,p2,p3⟩:=hpq;subst p1 p2 p3;refine(Xq (by simp[*,Qe,CP];rfl) ?_);exact⟨(),⟨by omega,by omega,by omega⟩,X6 (fun n=>n) []⟩
    (try simp only[BN]at h12);refine X1<|(Xq (by simp[*,Qe,CP];rfl) ?_);refine(X7 rfl (fun h16=>?_) (fun h16=>?_))
    · (try simp only[BN]at h16);rw[if_neg (by omega),if_pos h16]at hpq;simp only[B3.mk.injEq]at hpq;obtain⟨p1,p2,p3⟩:=hpq;have hw2:IntKind.i64.wrap (1+(if a1<b1 then b1 else a1))=q1:=by rw[←p1];exact Xd (by split<;>omega) (by split<;>omega)
      have hw3:IntKind.i64.wrap (sc+(if a3<b3 then b3 else a3))=q3:=by rw[←p3];exact Xd (by split<;>omega) (by split<;>omega)
      have hq:q1≤4503874505281537∧q2≤4503874505281537∧q3≤4503874505281537:=by
       rw[←p1,←p2,←p3];refine⟨?_,?_,?_⟩<;>split<;>omega
      clear p1 p3;refine X1<|(Xq (by simp[*,Qe,CP];rfl) ?_);refine X1<|(Xq (by simp[*,Qe,CP];rfl) ?_);refine(Xq (by simp[*,Qe,CP];rfl) ?_);exact⟨(),hq,X6 (fun n=>n) []⟩
    (try simp only[BN]at h16);refine X1<|(Xq (by simp[*,Qe,CP];rfl) ?_);refine(Xa rfl (fun h22=>?_) fun h22=>?_)
    · (try simp only[BN]at h22);rw[if_pos h22]at hpq;simp only[B3.mk.injEq]at hpq;obtain⟨p1,p2,p3⟩:=hpq;have hnn:0≤sn∧sn≤4096:=by omega
      have m4:=mulN hnn (z:=1+a1) (by omega);have m5:=mulN hnn (z:=a2) (by omega);have m6:=mulN hnn (z:=sc+a3) (by omega);have hw2:IntKind.i64.wrap (1+a1)=1+a1:=Xd (by omega) (by omega);have hw3:IntKind.i64.wrap (sn*(1+a1))=sn*(1+a1):=Xd (by omega) (by omega);have hw4:IntKind.i64.wrap (1+sn*(1+a1))=q1:=by rw[←p1];exact Xd (by omega) (by omega)
      have hw5:IntKind.i64.wrap (sn*a2)=q2:=by rw[←p2];exact Xd (by omega) (by omega)
      have hw6:IntKind.i64.wrap (sc+a3)=sc+a3:=Xd (by omega) (by omega);have hw7:IntKind.i64.wrap (sn*(sc+a3))=q3:=by rw[←p3];exact Xd (by omega) (by omega)
      have hq:q1≤4503874505281537∧q2≤4503874505281537∧q3≤4503874505281537:=by omega
      clear p1 p2 p3 m4 m5 m6;refine X1<|(Xq (by simp[*,Qe,CP];rfl) ?_);refine X1<|(Xq (by simp[*,Qe,CP];rfl) ?_);refine(Xq (by simp[*,Qe,CP];rfl) ?_);exact⟨(),hq,X6 (fun n=>n) []⟩
    (try simp only[BN]at h22);rw[if_neg h22,if_neg h16,if_neg h12]at hpq;simp only[B3.mk.injEq]at hpq;obtain⟨p1,p2,p3⟩:=hpq;subst p1 p2 p3;exact⟨(),⟨by omega,by omega,by omega⟩,X6 (fun n=>n) []⟩
   rintro _ ⟨hq1,hq2,hq3⟩;simp only[upS,X8,Xw]
   try simp only[X8,KN,Nat.reduceBEq,if_true,if_false,ins,Nat.reduceLT]
   clear hpq ca cb hxa hxb;have hw2:IntKind.i64.wrap (m1+q1)=m1+q1:=Xd (by omega) (by omega);have hw3:IntKind.i64.wrap (m2+q2)=m2+q2:=Xd (by omega) (by omega);have hw4:IntKind.i64.wrap (m3+q3)=m3+q3:=Xd (by omega) (by omega);have hmn1:(if 1099511627776<m1+q1 then 1099511627776 else m1+q1)=mn (m1+q1) 1099511627776:=rfl;have hmn2:(if 1099511627776<m2+q2 then 1099511627776 else m2+q2)=mn (m2+q2) 1099511627776:=rfl;have hmn3:(if 1099511627776<m3+q3 then 1099511627776 else m3+q3)=mn (m3+q3) 1099511627776:=rfl;have hin2:in3 CP (Qe CP ⟨m1,m2,m3⟩ ⟨q1,q2,q3⟩):=X2m nnCP ⟨hin.1,hin.2.2.1,hin.2.2.2.2.1⟩ ⟨hsin.1,hsin.2.1,hsin.2.2⟩;refine X1<|(Xq (by simp[*,Qe,CP];rfl) ?_);refine X1<|(Xq (by simp[*,Qe,CP];rfl) ?_);refine(Xq (by simp[*,Qe,CP];rfl) ?_);refine(Xq (by simp[*,Qe,CP];rfl) ?_);exact⟨(k+1,Qe CP ⟨m1,m2,m3⟩ ⟨q1,q2,q3⟩),⟨hk1,hJ,hin2⟩,by simp only;omega,Xx (fun n=>n) [] rfl (by simp[upS,X8, *,Qe,CP]) (by simp[*,upS,Qe,CP]) (by simp[upS])⟩
 (try simp only[BN]at h5);have hkl:k=l.length:=by omega
 rw[hkl,List.drop_length]at hJ;simp only[bdL]at hJ;subst hJ;refine(Xi ?_);refine X1<|(Xq (by simp[*,Qe,CP];rfl) ?_);exact(Xl (fun h=>⟨.inr rfl,h⟩) _ (by simp[*,Qe,CP];rfl) (by first|rfl|(simp[*];done)|(simp only[XD];(repeat' split)<;>first|rfl|(exfalso;omega)|simp_all)) (by simp))
theorem X4T (l:List St):Xk l≤1000000000→okL l=true→∀d:Nat,Con Tryz.prog 66 true [lS l] (.tup [li (bdL CR l ⟨0,0,0⟩).s,li (bdL CR l ⟨0,0,0⟩).o,li (bdL CR l ⟨0,0,0⟩).t]) none d:=by
 revert l
 apply St.lists;intro l ih hn hok d;have hlen:=Qg l;obtain⟨res,hres⟩:∃r,bdL CR l ⟨0,0,0⟩=r:=⟨_,rfl⟩;rw[hres];refine X5 Tryz.func66 ?_;simp only[Tryz.f66];refine X1<|(Xq (by simp[*,Qe,CR];rfl) ?_);refine X1<|(Xq (by simp[*,Qe,CR];rfl) ?_);refine X1<|X1<|(Xq (by simp[*,Qe,CR];rfl) ?_);refine X4<|(Xf [0] (fun(x:Nat×B3)=>[(5,.v (li x.2.s)),(6,.v (li x.2.o)),(7,.v (li x.2.t)),(8,.v (li x.1))]) (fun x=>[]) (fun x=>x.1≤l.length∧bdL CR (l.drop x.1) x.2=res∧in3 CR x.2) (fun x=>l.length - x.1) (0,⟨0,0,0⟩) ⟨Nat.zero_le _,hres,Wv X4g⟩ ?_ ?_)
 · exact Xx (fun n=>n) [] rfl (by simp[*,upS,X8,Qe,CR]) (by simp[*,upS]) (by simp[upS])
 rintro⟨k,⟨m1,m2,m3⟩⟩ ⟨hk,hJ,hin⟩;simp only[upS,X8,Xw]
 try simp only[X8,KN,Nat.reduceBEq,if_true,if_false,ins,Nat.reduceLT]
 simp only at hk hJ;unfold in3 CR at hin;simp only at hin;clear hres;refine X1<|X1<|(Xq (by simp[*,Qe,CR];rfl) ?_);refine(X7 rfl (fun h5=>Xb ?_) (fun h5=>?_))
 · (try simp only[BN]at h5);have hlt:k<l.length:=by omega
   obtain⟨s,he,hd⟩:=Xs hlt;have hmem:s∈l:=List.mem_of_getElem? he;have hnm:=Qj hmem;have hos:=XbM hok hmem;have iha:=fun h=>(ih s hmem).1 h;have ihb:=fun h=>(ih s hmem).2 h;have hw1:=XA hlt (by omega);have hk1:k+1≤l.length:=hlt;rw[hd]at hJ;simp only[bdL]at hJ;have hsin:=X1S X4g s hos;obtain⟨pq,hpq⟩:∃pq,bdS CR s=pq:=⟨_,rfl⟩;rw[hpq]at hJ hsin;obtain⟨sd,sc,sv,sn,⟨so,stn,sks⟩,sa,sb,sbs⟩:=s;simp only[St.then_,St.else_,St.term]at iha ihb hnm;simp only[okS,Bool.and_eq_true,Bool.or_eq_true,decide_eq_true_eq,List.isEmpty_iff]at hos;have ca:=iha (by omega) hos.2.2.1;have cb:=ihb (by omega) hos.2.2.2;have he':=Q1 he;simp only[St.enc,Tm.enc,List.cons_append,List.nil_append]at he';simp only[bdS]at hpq;have hxa:=Zk X4g sa ⟨0,0,0⟩ hos.2.2.1 (Wv X4g);have hxb:=Zk X4g sb ⟨0,0,0⟩ hos.2.2.2 (Wv X4g);obtain⟨xa,hxa'⟩:∃x,bdL CR sa ⟨0,0,0⟩=x:=⟨_,rfl⟩;obtain⟨xb,hxb'⟩:∃x,bdL CR sb ⟨0,0,0⟩=x:=⟨_,rfl⟩
   have hz:sd≠3→sd≠4→xa=⟨0,0,0⟩∧xb=⟨0,0,0⟩:=by
    intro h3 h4;rcases hos.2.1 with h|h|h
    · exact absurd h h3
    · exact absurd h h4
    rw[←hxa',←hxb',h.1,h.2];exact⟨rfl,rfl⟩
   rw[hxa']at ca hxa hpq;rw[hxb']at cb hxb hpq;unfold in3 CR at hxa hxb;unfold nn3 at hsin;simp only at hxa hxb;obtain⟨a1,a2,a3⟩:=xa;obtain⟨b1,b2,b3⟩:=xb;obtain⟨q1,q2,q3⟩:=pq;simp only[B3.mk.injEq]at hz;simp only at hxa hxb hsin;have hcost:=hos.1;unfold bd1 at hpq;simp only at hpq;have hmx1:0≤mx a1 b1∧mx a1 b1≤4097:=by unfold mx;split<;>omega
   have hmx2:0≤mx a2 b2∧mx a2 b2≤9:=by unfold mx;split<;>omega
   have hmx3:0≤mx a3 b3∧mx a3 b3≤67108865:=by unfold mx;split<;>omega
   have hw2:IntKind.i64.wrap (1+mx a1 b1)=1+mx a1 b1:=Xd (by omega) (by omega);have hw3:IntKind.i64.wrap (sc+mx a3 b3)=sc+mx a3 b3:=Xd (by omega) (by omega);clear hlt h5 iha ihb ih hxa' hxb' hmem hnm hd he hos;refine X1<|X4<|X1<|(Xq (by simp[*,Qe,CR];rfl) ?_);refine X1<|(QU [⟨true,.tup [li a1,li a2,li a3],none⟩] (by simp[*,Qe,CR];first|exact⟨rfl,Iff.rfl⟩|exact⟨rfl,trivial⟩|rfl) ?_ ?_)
   · first|exact ca _|exact trivial|simpa[*,Qe,CR]using ca _
   refine X1<|(QU [⟨true,.tup [li b1,li b2,li b3],none⟩] (by simp[*,Qe,CR];first|exact⟨rfl,Iff.rfl⟩|exact⟨rfl,trivial⟩|rfl) ?_ ?_)
   · first|exact cb _|exact trivial|simpa[*,Qe,CR]using cb _
   refine X1<|(XS [⟨true,.v (li (mx a1 b1)),none⟩,⟨true,.v (li (mx a2 b2)),none⟩,⟨true,.v (li (mx a3 b3)),none⟩] (by kernel_rfl) (by kernel_rfl) (by rfl) (by simp[*,Qe,CR];first|exact⟨rfl,Iff.rfl⟩|exact⟨rfl,trivial⟩|rfl) ?_ ?_)
   · first|exact⟨Qm _ _ _,Qm _ _ _,Qm _ _ _⟩|exact trivial|(repeat' first|exact trivial|exact Qm _ _ _|exact Qm _ _ _|exact Qm _ _ _|apply And.intro)
   refine(XV [0,5,6,7,8,9] (fun(z:Int)=>[(16,.v (li q1)),(17,.v (li z)),(18,.v (li q3))]) (fun(z:Int)=>[(9,.box [.c (iC sd),.c (iC sc),.c (iC sv),.c (iC sn),.c (iC so),.c (iC stn),.c (.sl 3 (Xo sks)),.c (.sl 10 (X9 sa)),.c (.sl 10 (X9 sb)),.c (.sl 1 (Xe sbs))])]) (fun(z:Int)=>(sd≠1→z=q2)∧(sd=1→q2=1)∧q1≤4503874505281537∧q2≤4503874505281537∧q3≤4503874505281537) ?_ ?_)
   ·
    refine X1<|(Xq (by simp[*,Qe,CR];rfl) ?_);refine(Xa rfl (fun h12=>?_) fun h12=>?_)
    · (try simp only[BN]at h12);rw[if_pos h12]at hpq;simp only[B3.mk.injEq]at hpq;obtain⟨p1,p2,p3⟩:=hpq;have hnn:0≤sn∧sn≤4096:=by omega
      have m4:=mulN hnn (z:=1+a1) (by omega);have m5:=mulN hnn (z:=a2) (by omega);have m6:=mulN hnn (z:=sc+a3) (by omega);have hw2:IntKind.i64.wrap (1+a1)=1+a1:=Xd (by omega) (by omega);have hw3:IntKind.i64.wrap (sn*(1+a1))=sn*(1+a1):=Xd (by omega) (by omega);have hw4:IntKind.i64.wrap (1+sn*(1+a1))=q1:=by rw[←p1];exact Xd (by omega) (by omega)
      have hw5:IntKind.i64.wrap (sn*a2)=q2:=by rw[←p2];exact Xd (by omega) (by omega)
      have hw6:IntKind.i64.wrap (sc+a3)=sc+a3:=Xd (by omega) (by omega);have hw7:IntKind.i64.wrap (sn*(sc+a3))=q3:=by rw[←p3];exact Xd (by omega) (by omega)
      have hq:q1≤4503874505281537∧q2≤4503874505281537∧q3≤4503874505281537:=by omega
      clear p1 p2 p3 m4 m5 m6 hz;refine(Qc (by kernel_rfl) (by kernel_rfl) (by rfl) (by simp[*,Qe,CR];rfl) ?_);exact⟨q2,⟨fun _=>rfl,fun h=>absurd h (by omega),hq⟩,X6 (fun n=>n) []⟩
    try simp only[BN]at h12
    have hfin:q1=1+mx a1 b1∧q3=sc+mx a3 b3∧(sd≠1→mx a2 b2=q2)∧(sd=1→q2=1):=by
     rw[if_neg h12]at hpq;by_cases h3:sd=3
     · rw[if_pos h3]at hpq;simp only[B3.mk.injEq]at hpq;exact⟨hpq.1.symm,hpq.2.2.symm,fun _=>hpq.2.1,fun h=>absurd h (by omega)⟩
     rw[if_neg h3]at hpq;obtain⟨⟨e1,e2,e3⟩,e4,e5,e6⟩:=hz h3 h12;subst e1 e2 e3 e4 e5 e6;by_cases h1:sd=1
     · rw[if_pos h1]at hpq;simp only[B3.mk.injEq]at hpq;exact⟨by rw[←hpq.1];rfl,by rw[←hpq.2.2];simp[mx],fun h=>absurd h1 h,fun _=>hpq.2.1.symm⟩
     rw[if_neg h1]at hpq;simp only[B3.mk.injEq]at hpq;exact⟨by rw[←hpq.1];rfl,by rw[←hpq.2.2];simp[mx],fun _=>by rw[←hpq.2.1];rfl,fun h=>absurd h h1⟩
    obtain⟨f1,f2,f3,f4⟩:=hfin;have hq1:q1≤4503874505281537:=by omega
    have hq3:q3≤4503874505281537:=by omega
    have hq2:q2≤4503874505281537:=by
     by_cases h:sd=1
     · have:=f4 h;omega
     have:=f3 h;omega
    clear hpq hz;exact⟨mx a2 b2,⟨f3,f4,hq1,hq2,hq3⟩,X6 (fun n=>n) []⟩
   rintro z2 ⟨hz2,hz3,hq⟩;simp only[upS,X8,Xw]
   try simp only[X8,KN,Nat.reduceBEq,if_true,if_false,ins,Nat.reduceLT]
   clear hpq hz hw2 hw3 ca cb;refine(XV [0,5,6,7,8,16,18] (fun(z:Unit)=>[(17,.v (li q2))]) (fun(z:Unit)=>[]) (fun(z:Unit)=>True) ?_ ?_)
   ·
    refine X1<|(Xq (by simp[*,Qe,CR];rfl) ?_);refine(Xa rfl (fun h18=>?_) fun h18=>?_)
    · (try simp only[BN]at h18);have hq21:=hz3 h18;refine(Xq (by simp[*,Qe,CR];rfl) ?_);exact⟨(),trivial,X6 (fun n=>n) []⟩
    (try simp only[BN]at h18);have hq21:=hz2 h18;exact⟨(),trivial,X6 (fun n=>n) []⟩
   rintro _ _;simp only[upS,X8,Xw]
   try simp only[X8,KN,Nat.reduceBEq,if_true,if_false,ins,Nat.reduceLT]
   clear hz2 hz3;obtain⟨hq1,hq2,hq3⟩:=hq;have hw2:IntKind.i64.wrap (m1+q1)=m1+q1:=Xd (by omega) (by omega);have hw3:IntKind.i64.wrap (m2+q2)=m2+q2:=Xd (by omega) (by omega);have hw4:IntKind.i64.wrap (m3+q3)=m3+q3:=Xd (by omega) (by omega);have hin2:in3 CR (Qe CR ⟨m1,m2,m3⟩ ⟨q1,q2,q3⟩):=X2m X4g ⟨hin.1,hin.2.2.1,hin.2.2.2.2.1⟩ ⟨hsin.1,hsin.2.1,hsin.2.2⟩;refine X1<|(QU [⟨true,.v (li (mn (m1+q1) 4097)),none⟩] (by simp[*,Qe,CR];first|exact⟨rfl,Iff.rfl⟩|exact⟨rfl,trivial⟩|rfl) ?_ ?_)
   · first|exact Qh _ _ _|exact trivial|simpa[*,Qe,CR]using Qh _ _ _
   refine X1<|(QU [⟨true,.v (li (mn (m2+q2) 9)),none⟩] (by simp[*,Qe,CR];first|exact⟨rfl,Iff.rfl⟩|exact⟨rfl,trivial⟩|rfl) ?_ ?_)
   · first|exact Qh _ _ _|exact trivial|simpa[*,Qe,CR]using Qh _ _ _
   refine(QU [⟨true,.v (li (mn (m3+q3) 67108865)),none⟩] (by simp[*,Qe,CR];first|exact⟨rfl,Iff.rfl⟩|exact⟨rfl,trivial⟩|rfl) ?_ ?_)
   · first|exact Qh _ _ _|exact trivial|simpa[*,Qe,CR]using Qh _ _ _
   refine(Xq (by simp[*,Qe,CR];rfl) ?_);exact⟨(k+1,Qe CR ⟨m1,m2,m3⟩ ⟨q1,q2,q3⟩),⟨hk1,hJ,hin2⟩,by simp only;omega,Xx (fun n=>n) [] rfl (by simp[upS,X8, *,Qe,CR]) (by simp[*,upS,Qe,CR]) (by simp[upS])⟩
 (try simp only[BN]at h5);have hkl:k=l.length:=by omega
 rw[hkl,List.drop_length]at hJ;simp only[bdL]at hJ;subst hJ;refine(Xi ?_);refine X1<|(Xq (by simp[*,Qe,CR];rfl) ?_);exact(Xl (fun h=>⟨.inr rfl,h⟩) _ (by simp[*,Qe,CR];rfl) (by first|rfl|(simp[*];done)|(simp only[XD];(repeat' split)<;>first|rfl|(exfalso;omega)|simp_all)) (by simp))
end Go.Proofs.YtppjennamodfdaaGreat

namespace Go.Proofs.YtppjennamodfdaaGreat
open Go Go.Hl
theorem Xcw (vars:List Vr) (hl:vars.length≤1000000) (d:Nat):Con Tryz.prog 61 true [lV vars] (.v (li (Zy vars))) none d:=by
 obtain⟨res,hres⟩:∃r,Zy vars=r:=⟨_,rfl⟩;rw[hres];obtain⟨cd,hcd⟩:∃r,vcs [] vars=r:=⟨_,rfl⟩;have hgood:cd=0→X08 vars:=fun h=>X31 vars [] (hcd.trans h);unfold Zy at hres;rw[hcd]at hres;refine X5 Tryz.func61 ?_;simp only[Tryz.f61];refine X3 ?_;refine X1<|X1<|X2 ?_;refine X4<|(Xf [0] (fun(x:Nat)=>[(3,.v (li x))]) (fun x=>[]) (fun x=>x≤vars.length∧vcs (vars.take x) (vars.drop x)=cd) (fun x=>vars.length - x) (0:Nat) ⟨Nat.zero_le _,hcd⟩ ?_ ?_)
 · exact X6 (fun n=>n) []
 rintro k ⟨hk,hJ⟩;simp only[upS,X8,Xw]
 try simp only[X8,KN,Nat.reduceBEq,if_true,if_false,ins,Nat.reduceLT]
 clear hcd;refine X1<|X1<|X2 ?_;refine(X7 rfl (fun h4=>Xb ?_) (fun h4=>?_))
 · (try simp only[BN]at h4);have hlt:k<vars.length:=by omega
   obtain⟨v,he,hd⟩:=Xs hlt;have hw1:=XA hlt (by omega);have hk1:k+1≤vars.length:=hlt;have hkl:(vars.take k).length=k:=by rw[List.length_take];omega
   rw[hd]at hJ;simp only[vcs]at hJ;rw[←Zq he]at hJ;clear hlt h4 hgood hd;refine X1<|X4<|X1<|X2 ?_;refine X1<|X1<|(Xm [⟨true,.v (lb (ZN v.name)),none⟩] ?_ ?_)
   · first|exact X2f _ _|exact trivial|simpa[*]using X2f _ _
   refine(Xa rfl (fun h7=>?_) fun h7=>?_)
   · (try simp only[BN]at h7);have hc:Ze (vars.take k) v=7:=by unfold Ze;rw[if_pos h7]
     rw[hc,if_neg (by decide)]at hJ;subst hJ;rw[if_neg (by decide)]at hres;subst hres;refine X3 ?_;exact Xc
   (try simp only[BN]at h7);refine X1<|X1<|X2 ?_;refine X4<|(Xf [0,3,4] (fun(x:Nat)=>[(5,.v (li x))]) (fun x=>[(4,.box [.c (sC v.name),.c (iC v.kind),.c (iC v.low),.c (iC v.high),.c (iC v.init)])]) (fun x=>x≤k∧∀j:Nat,j<x→∀w,vars[j]? =some w→w.name≠v.name) (fun x=>k - x) (0:Nat) ⟨Nat.zero_le _,fun j hj=>absurd hj (Nat.not_lt_zero j)⟩ ?_ ?_)
   · exact X6 (fun n=>n) []
   rintro j ⟨hj,hno⟩;simp only[upS,X8,Xw]
   try simp only[X8,KN,Nat.reduceBEq,if_true,if_false,ins,Nat.reduceLT]
   refine X1<|X1<|X2 ?_;refine(X7 rfl (fun h13=>Xb ?_) (fun h13=>?_))
   · (try simp only[BN]at h13);have hjk:j<k:=by omega
     obtain⟨w,hw⟩:∃w,vars[j]? =some w:=⟨vars[j],by simp[show j<vars.length by omega]⟩;have hwj:=XA hjk (by omega);have hj1:j+1≤k:=hjk
     have hmemw:w∈vars.take k:=by
      have:(vars.take k)[j]? =some w:=by rw[List.getElem?_take_of_lt hjk];exact hw
      exact List.mem_of_getElem? this
     clear hjk h13;refine X1<|X4<|X1<|(Qc (by kernel_rfl) (by kernel_rfl) (by rfl) (by simp[*];rfl) ?_);refine(Xa rfl (fun h15=>?_) fun h15=>?_)
     · try simp only[BN]at h15
       have hany:((vars.take k).any fun w=>decide (w.name=v.name))=true:=by
        rw[List.any_eq_true];exact⟨w,hmemw,by simpa using h15⟩
       have hc:Ze (vars.take k) v=8:=by unfold Ze;rw[if_neg (by simp[h7]),if_pos hany]
       rw[hc,if_neg (by decide)]at hJ;subst hJ;rw[if_neg (by decide)]at hres;subst hres;refine X3 ?_;exact Xc
     (try simp only[BN]at h15);refine X2 ?_
     exact⟨j+1,⟨hj1,fun i hi u hu=>by
      rcases Nat.lt_or_eq_of_le (Nat.le_of_lt_succ hi)with h|h
      · exact hno i h u hu
      subst h;rw[hw]at hu;cases hu
      simpa using h15⟩,by omega,X6 (fun n=>n) []⟩
   (try simp only[BN]at h13);have hjk:j=k:=by omega
   subst hjk
   have hany:((vars.take j).any fun w=>decide (w.name=v.name))=false:=by
    rw[List.any_eq_false];intro w hw;obtain⟨i,hi⟩:=List.mem_iff_getElem?.1 hw;have hij:i<j:=by have:=(List.getElem?_eq_some_iff.1 hi).1;omega
    rw[List.getElem?_take_of_lt hij]at hi;simpa using hno i hij w hi
   clear hno hkl;refine(Xi ?_);refine X1<|X1<|X2 ?_;refine(Xa rfl (fun h21=>?_) fun h21=>?_)
   · (try simp only[BN]at h21);have hc:Ze (vars.take j) v=1:=by unfold Ze;rw[if_neg (by simp[h7]),if_neg (by simp[hany]),if_pos (by omega)]
     rw[hc,if_neg (by decide)]at hJ;subst hJ;rw[if_neg (by decide)]at hres;subst hres;refine X3 ?_;exact Xc
   (try simp only[BN]at h21);have hc:Ze (vars.take j) v=if WE v then 3 else 0:=by unfold Ze;rw[if_neg (by simp[h7]),if_neg (by simp[hany]),if_neg (by omega)]
   clear hany;refine X1<|X1<|(Xm [⟨true,.v (lb (QM v.low v.high)),none⟩] ?_ ?_)
   · first|exact ZT _ _ _|exact trivial|simpa[*]using ZT _ _ _
   refine(Xa rfl (fun h25=>?_) fun h25=>?_)
   · (try simp only[BN]at h25);rw[if_pos (.inl h25)]at hc;rw[hc,if_neg (by decide)]at hJ;subst hJ;rw[if_neg (by decide)]at hres;subst hres;refine X3 ?_;exact Xc
   (try simp only[BN]at h25);refine X3 ?_;refine(Xa rfl (fun h29=>?_) fun h29=>?_)
   · try simp only[BN]at h29
     have hkb:WE v:=by
      unfold WE;omega
     rw[if_pos hkb]at hc;rw[hc,if_neg (by decide)]at hJ;subst hJ;rw[if_neg (by decide)]at hres;subst hres;refine X3 ?_;exact Xc
   try simp only[BN]at h29
   have hkb:¬WE v:=by
    unfold WE;rw[h25];rintro(h|h|h)
    · cases h
    · omega
    omega
   rw[if_neg hkb]at hc;rw[hc,if_pos rfl]at hJ;refine X2 ?_;exact⟨j+1,⟨hk1,hJ⟩,by omega,X6 (fun n=>n) []⟩
 (try simp only[BN]at h4);have hkl:k=vars.length:=by omega
 rw[hkl,List.drop_length]at hJ;simp only[vcs]at hJ;have hv:=hgood hJ.symm;rw[if_pos hJ.symm]at hres;clear hgood hJ hkl hk h4;have c1:=X2E vars 1 hv (by omega);have c2:=X2E vars 2 hv (by omega);have c3:=X2E vars 3 hv (by omega);have hb1:X2X vars 1=decide (4096<spc vars 1):=by simp[X2X]
 have hb2:X2X vars 2=decide (4096<spc vars 2):=by simp[X2X]
 have hb3:X2X vars 3=(decide (4096<spc vars 3)||decide (256<spc vars 3)):=by simp[X2X]
 simp only[List.any_cons,List.any_nil,Bool.or_false,hb1,hb2,hb3]at hres;clear hb1 hb2 hb3;generalize spc vars 1=s1 at*;generalize spc vars 2=s2 at*;generalize spc vars 3=s3 at*;refine(Xi ?_);refine X1<|X1<|(Xm [⟨true,.v (li s1),none⟩,⟨true,.v (li s2),none⟩,⟨true,.v (li s3),none⟩] ?_ ?_)
 · first|exact⟨c1 _,c2 _,c3 _⟩|exact trivial|(repeat' first|exact trivial|exact c1 _|exact c2 _|exact c3 _|apply And.intro)
 refine(Xa rfl (fun h35=>?_) fun h35=>?_)
 · try simp only[BN]at h35
   have hz:(decide (4096<s1)||(decide (4096<s2)||(decide (4096<s3)||decide (256<s3))))=true:=by
    simp only[Bool.or_eq_true,decide_eq_true_eq];omega
   rw[if_pos hz]at hres;subst hres;refine X3 ?_;exact Xc
 try simp only[BN]at h35
 have hz:(decide (4096<s1)||(decide (4096<s2)||(decide (4096<s3)||decide (256<s3))))=false:=by
  simp only[Bool.or_eq_false_iff,decide_eq_false_iff_not];omega
 rw[hz,if_neg (by decide)]at hres;subst hres;refine X3 ?_;exact Xc
end Go.Proofs.YtppjennamodfdaaGreat

namespace Go.Proofs.YtppjennamodfdaaGreat
open Go Go.Hl
@[simp] theorem take_encH (l:List Ht) (i:Nat):(Xu l).take i=Xu (l.take i):=by simp[Xu]
theorem idxH_con (l:List Ht) (g:FuncId) (cap:List CD) (p:Ht→Bool) (hl:l.length≤1000000000) (hp:∀v∈l,∀d,Con Tryz.prog g true (aH v::cap.map fun c=>.one (.c c)) (.v (lb (p v))) none d) (d:Nat):
  ∃r:Int,(∀d,Con Tryz.prog 187 true [.one (.c (.sl 6 (Xu l))),.one (.c (.fn g cap))] (.v (li r)) none d)∧(0≤r↔l.any p=true):=by
 refine⟨(match l.findIdx? p with|some i=>(i:Int)|none=>-1),fun d=>?_,?_⟩
 · have hstep:∀k:Nat,(∀j:Nat,j<k→∀v,l[j]? =some v→p v=false)→∀v,l[k]? =some v→p v=true→l.findIdx? p=some k:=by
    intro k hno v hv hpv;rw[List.findIdx?_eq_some_iff_getElem];have hk:k<l.length:=(List.getElem?_eq_some_iff.1 hv).1;refine⟨hk,?_,fun j hj=>?_⟩
    · simp only[List.getElem?_eq_getElem hk,Option.some.injEq]at hv;rw[hv];exact hpv
    have:=hno j hj l[j] (by simp);simp[this]
   have hnone:(∀j:Nat,j<l.length→∀v,l[j]? =some v→p v=false)→l.findIdx? p=none:=by
    intro hno;rw[List.findIdx?_eq_none_iff];intro v hv;obtain⟨j,hj⟩:=List.mem_iff_getElem?.1 hv;exact hno j (List.getElem?_eq_some_iff.1 hj).1 v hj
   refine X5 Tryz.func187 ?_;simp only[Tryz.f187];refine X3 ?_;refine X1<|X1<|X2 ?_;refine X4<|(Xf [0,1,7] (fun(x:Nat)=>[(8,.v (li x))]) (fun x=>[]) (fun x=>x≤l.length∧∀j:Nat,j<x→∀v,l[j]? =some v→p v=false) (fun x=>l.length - x) (0:Nat) ⟨Nat.zero_le _,fun j hj=>absurd hj (Nat.not_lt_zero j)⟩ ?_ ?_)
   · exact X6 (fun n=>n) []
   rintro k ⟨hk,hJ⟩;simp only[upS,X8,Xw]
   try simp only[X8,KN,Nat.reduceBEq,if_true,if_false,ins,Nat.reduceLT]
   refine X3 ?_;refine X1<|(X7 rfl (fun h4=>Xb ?_) (fun h4=>?_))
   · (try simp only[BN]at h4);have hlt:k<l.length:=by omega
     obtain⟨⟨nm,lo,hi,⟨o,tn,ks⟩⟩,he,hd⟩:=Xs hlt;have hw1:=XA hlt (by omega);have hk1:k+1≤l.length:=hlt;have hpv:=hp _ (List.mem_of_getElem? he);have hs:=hstep k hJ _ he;clear hlt h4 hstep hnone hp;refine X1<|X4<|X1<|X2 ?_;refine Xj [⟨true,.v (lb (p ⟨nm,lo,hi,.mk o tn ks⟩)),none⟩] ?_ ?_
     · first|exact hpv _|exact trivial|simpa[*]using hpv _
     refine(Xa rfl (fun h7=>?_) fun h7=>?_)
     · (try simp only[BN]at h7);rw[hs h7];refine X3 ?_;exact Xc
     (try simp only[BN]at h7);refine X2 ?_;exact⟨k+1,⟨hk1,fun j hj w hw=>(Nat.lt_succ_iff_lt_or_eq.1 hj).elim (fun h=>hJ j h w hw) (fun e=>by subst e;rw[he]at hw;cases hw;exact h7)⟩,by omega,X6 (fun n=>n) []⟩
   (try simp only[BN]at h4);rw[hnone fun j hj=>hJ j (by omega)];refine(Xi ?_);refine X3 ?_;exact Xc
 rw[List.any_eq];cases h:l.findIdx? p with
 | none=>
   rw[List.findIdx?_eq_none_iff]at h;simp only[decide_eq_true_eq];constructor
   · intro h;omega
   rintro⟨v,hv,hpv⟩;have:=h v hv;rw[hpv]at this;cases this
 | some i=>
   rw[List.findIdx?_eq_some_iff_getElem]at h;obtain⟨hi,hpi,_⟩:=h;simp only[decide_eq_true_eq];exact⟨fun _=>⟨l[i],List.getElem_mem _,hpi⟩,fun _=>by omega⟩
theorem conH_con (l:List Ht) (g:FuncId) (cap:List CD) (p:Ht→Bool) (hl:l.length≤1000000000) (hp:∀v∈l,∀d,Con Tryz.prog g true (aH v::cap.map fun c=>.one (.c c)) (.v (lb (p v))) none d) (d:Nat):
  Con Tryz.prog 179 true [.one (.c (.sl 6 (Xu l))),.one (.c (.fn g cap))] (.v (lb (l.any p))) none d:=by
 obtain⟨r,hr,hi⟩:=idxH_con l g cap p hl hp 0;have hd:decide (0≤r)=l.any p:=by rw[Bool.eq_iff_iff,decide_eq_true_eq];exact hi
 clear hi hp;refine X5 Tryz.func179 ?_;simp only[Tryz.f179];refine X3 ?_;refine Xj [⟨true,.v (li r),none⟩] ?_ ?_
 · first|exact hr _|exact trivial|simpa[*]using hr _
 exact Xc
theorem Xdc (w v:Ht) (d:Nat):Con Tryz.prog 178 true [aH w,.one (.c (.ptr v.enc))] (.v (lb (decide (w.name=v.name)))) none d:=by
 obtain⟨n1,l1,h1,⟨o1,t1,k1⟩⟩:=w;obtain⟨n2,l2,h2,⟨o2,t2,k2⟩⟩:=v;refine X5 Tryz.func178 ?_;simp only[Tryz.f178];simp only[aH,Ht.enc,Tm.enc,List.cons_append,List.nil_append];refine X3 ?_;refine X3 ?_;exact Xc
def X5X (vars:List Vr) (seen:List Ht) (h:Ht):Int:=
 if ZN h.name=false then 7 else if(seen.any fun w=>decide (w.name=h.name))=true then 8 else if QM h.low h.high=false then 3 else X0v vars true h.term
def hcs (vars:List Vr):List Ht→List Ht→Int
 |_,[]=>0
 |seen,h::l=>if X5X vars seen h=0 then hcs vars (seen++[h]) l else X5X vars seen h
theorem XcL (f:Fl) (hv:X0g f.vars) (hl:f.vars.length≤1000000) (hh:f.hats.length≤1000000) (hn:∀h∈f.hats,h.term.nodes≤1000000000) (d:Nat):
  Con Tryz.prog 165 true [aF f] (.v (li (hcs f.vars [] f.hats))) none d:=by
 obtain⟨vars,hats,body⟩:=f;simp only at hv hl hh hn⊢;obtain⟨res,hres⟩:∃r,hcs vars [] hats=r:=⟨_,rfl⟩;rw[hres];refine X5 Tryz.func165 ?_;simp only[Tryz.f165];simp only[aF,Fl.enc,List.map_cons,List.map_nil];refine X3 ?_;refine X1<|X1<|X2 ?_;refine X4<|(Xf [1,8,9] (fun(x:Nat)=>[(10,.v (li x))]) (fun x=>[(1,.box [.c (.sl 5 (Xv vars)),.c (.sl 6 (Xu hats)),.c (.sl 10 (X9 body))])]) (fun x=>x≤hats.length∧hcs vars (hats.take x) (hats.drop x)=res) (fun x=>hats.length - x) (0:Nat) ⟨Nat.zero_le _,hres⟩ ?_ ?_)
 · exact X6 (fun n=>n) []
 rintro k ⟨hk,hJ⟩;simp only[upS,X8,Xw]
 try simp only[X8,KN,Nat.reduceBEq,if_true,if_false,ins,Nat.reduceLT]
 clear hres;refine X3 ?_;refine X1<|(X7 rfl (fun h4=>Xb ?_) (fun h4=>?_))
 · (try simp only[BN]at h4);have hlt:k<hats.length:=by omega
   obtain⟨h,he,hd⟩:=Xs hlt;have hw1:=XA hlt (by omega);have hk1:k+1≤hats.length:=hlt;have hkl:(hats.take k).length≤1000000000:=by rw[List.length_take];omega
   rw[hd]at hJ;simp only[hcs]at hJ;rw[←Zq he]at hJ;have ct:=X79 vars true hv (by omega) h.term (hn h (List.mem_of_getElem? he));have cc:=conH_con (hats.take k) 178 [.ptr h.enc] (fun w=>decide (w.name=h.name)) hkl (fun w _ d=>Xdc w h d);obtain⟨nm,lo,hi,⟨o,tn,ks⟩⟩:=h;obtain⟨HC,hHC⟩:∃x,X5X vars (hats.take k) ⟨nm,lo,hi,.mk o tn ks⟩=x:=⟨_,rfl⟩;rw[hHC]at hJ;simp only[X5X]at hHC;simp only[Ht.enc,Tm.enc,List.cons_append,List.nil_append]at cc;simp only at ct;obtain⟨TC,hTC⟩:∃r,X0v vars true (.mk o tn ks)=r:=⟨_,rfl⟩;rw[hTC]at ct hHC;clear hlt h4 hd hn hTC;refine X1<|X4<|X1<|X2 ?_;refine X3 ?_;refine X1<|X4<|X1<|(Xm [⟨true,.v (lb (ZN nm)),none⟩] ?_ ?_)
   · first|exact X2b _ _|exact trivial|simpa[*]using X2b _ _
   refine(X7 rfl (fun h8=>?_) (fun h8=>?_))
   · (try simp only[BN]at h8);rw[if_pos h8]at hHC;subst hHC;rw[if_neg (by decide)]at hJ;subst hJ;refine X3 ?_;exact Xc
   (try simp only[BN]at h8);refine Xj [⟨true,.v (lb ((hats.take k).any fun w=>decide (w.name=nm))),none⟩] ?_ ?_
   · first|exact cc _|exact trivial|simpa[*]using cc _
   refine(X7 rfl (fun h12=>?_) (fun h12=>?_))
   · (try simp only[BN]at h12);rw[if_neg (by simp[h8]),if_pos h12]at hHC;subst hHC;rw[if_neg (by decide)]at hJ;subst hJ;refine X3 ?_;exact Xc
   (try simp only[BN]at h12);refine Xj [⟨true,.v (lb (QM lo hi)),none⟩] ?_ ?_
   · first|exact ZU _ _ _|exact trivial|simpa[*]using ZU _ _ _
   refine(Xa rfl (fun h16=>?_) fun h16=>?_)
   · (try simp only[BN]at h16);rw[if_neg (by simp[h8]),if_neg (by simp[h12]),if_pos h16]at hHC;subst hHC;rw[if_neg (by decide)]at hJ;subst hJ;refine X3 ?_;exact Xc
   (try simp only[BN]at h16);rw[if_neg (by simp[h8]),if_neg (by simp[h12]),if_neg (by simp[h16])]at hHC;subst hHC;refine Xj [⟨true,.v (li TC),none⟩] ?_ ?_
   · first|exact ct _|exact trivial|simpa[*]using ct _
   refine X3 ?_;refine(Xa rfl (fun h21=>?_) fun h21=>?_)
   · (try simp only[BN]at h21);rw[if_neg h21]at hJ;subst hJ;refine X3 ?_;exact Xc
   (try simp only[BN]at h21);rw[if_pos (by simpa using h21)]at hJ;refine X2 ?_;exact⟨k+1,⟨hk1,hJ⟩,by omega,X6 (fun n=>n) []⟩
 (try simp only[BN]at h4);have hkl:k=hats.length:=by omega
 rw[hkl,List.drop_length]at hJ;simp only[hcs]at hJ;subst hJ;refine(Xi ?_);refine X3 ?_;exact Xc
end Go.Proofs.YtppjennamodfdaaGreat

namespace Go.Proofs.YtppjennamodfdaaGreat
open Go Go.Hl
def X2v (l:List Int) (i:Nat):Bool:=
 match l[i]?,l[i+1]? with
 |some a,some b=>decide (a<b)
 |_,_=>true
def X4z (l:List Int):Bool:=(List.range l.length).all (X2v l)
theorem XbG {l:List Int} {i:Nat} (hi:i<l.length) (h:X2v l i=false):X4z l=false:=by
 unfold X4z;rw[List.all_eq_false];exact⟨i,by simpa using hi,by simp[h]⟩
theorem X8O {l:List Int} (h:∀i:Nat,i+1<l.length→X2v l i=true):X4z l=true:=by
 unfold X4z;rw[List.all_eq_true];intro i hi;simp only[List.mem_range]at hi;by_cases h2:i+1<l.length
 · exact h i h2
 unfold X2v;rw[List.getElem?_eq_none (i:=i+1) (by omega)];cases l[i]? <;>rfl
theorem X4Z {l:List Int} {k:Nat} (h:k<l.length):∃b,l[k]? =some b:=⟨l[k],by simp[h]⟩
theorem X9g (l:List Int) (hl:l.length≤1000000000) (d:Nat):Con Tryz.prog 194 true [lI l] (.v (lb (X4z l))) none d:=by
 refine X5 Tryz.func194 ?_;simp only[Tryz.f194];refine X3 ?_;refine X1<|X1<|X2 ?_;refine X4<|(Xf [0,5] (fun(x:Nat)=>[(6,.v (li x))]) (fun x=>[]) (fun x=>x≤l.length∧∀j:Nat,j+1<x→X2v l j=true) (fun x=>l.length - x) (0:Nat) ⟨Nat.zero_le _,fun j hj=>absurd hj (by omega)⟩ ?_ ?_)
 · exact X6 (fun n=>n) []
 rintro k ⟨hk,hJ⟩;simp only[upS,X8,Xw]
 try simp only[X8,KN,Nat.reduceBEq,if_true,if_false,ins,Nat.reduceLT]
 refine X3 ?_;refine X1<|(X7 rfl (fun h4=>Xb ?_) (fun h4=>?_))
 · (try simp only[BN]at h4);have hlt:k<l.length:=by omega
   obtain⟨b,hb⟩:=X4Z hlt;have hw:=XA hlt hl;have hk1:k+1≤l.length:=hlt;have hk9:k≤1000000000:=by omega
   clear hlt h4;refine X1<|X4<|X1<|X2 ?_;rcases k with _|j
   · have hw1:IntKind.i64.wrap 1=1:=Xd (by omega) (by omega);refine X1<|(Qc (by kernel_rfl) (by kernel_rfl) (by rfl) (by simp[*];rfl) ?_);refine(Xa rfl (fun h7=>?_) fun h7=>?_)
     · exact absurd h7 (by simp)
     (try simp only[BN]at h7);refine X2 ?_;exact⟨1,⟨hk1,fun j hj=>absurd hj (by omega)⟩,by omega,X6 (fun n=>n) []⟩
   have hw1:IntKind.i64.wrap ((j:Int)+1+1)=(j:Int)+1+1:=Xd (by omega) (by omega);obtain⟨a,ha⟩:=X4Z (show j<l.length by omega);have hwj:IntKind.i64.wrap (j:Int)=j:=Xd (by omega) (by omega);have hri:X2v l j=decide (a<b):=by unfold X2v;rw[ha,hb]
   have hj0:(0:Int)<(j:Int)+1:=by omega
   have hj1:0≤(j:Int)+1:=by omega
   have hj2:((j:Int)+1).toNat=j+1:=by omega
   refine X1<|(Qc (by kernel_rfl) (by kernel_rfl) (by rfl) (by simp[*];rfl) ?_);refine(Xa rfl (fun h7=>?_) fun h7=>?_)
   · (try simp only[BN]at h7);have hz:X4z l=false:=XbG (i:=j) (by omega) (by rw[hri];simpa using h7);refine X3 ?_;exact Xc
   (try simp only[BN]at h7);refine X2 ?_
   exact⟨j+1+1,⟨hk1,fun i hi=>by
    rcases Nat.lt_or_eq_of_le (Nat.le_of_lt_succ hi)with h|h
    · exact hJ i (by omega)
    have:i=j:=by omega
    rw[this,hri]
    simpa using h7⟩,by omega,X6 (fun n=>n) []⟩
 (try simp only[BN]at h4);have hz:X4z l=true:=X8O fun i hi=>hJ i (by omega);refine(Xi ?_);refine X3 ?_;exact Xc
def X4W (l:List Int):Bool:=
 match l[0]? with
 |some b=>decide (0≤b)
 |none=>false
def ZH (l:List Int):Bool:=(decide (1≤l.length)&&(decide (l.length≤32)&&X4W l))&&X4z l
theorem Xb3 (l:List Int):l=[]∨∃b0,l[0]? =some b0:=by
 cases l with
 |nil=>exact .inl rfl
 |cons b r=>exact .inr ⟨b,rfl⟩
theorem X9c (l:List Int) (hl:l.length≤1000000000) (d:Nat):Con Tryz.prog 131 true [lI l] (.v (lb (ZH l))) none d:=by
 obtain⟨res,hres⟩:∃r,ZH l=r:=⟨_,rfl⟩;rw[hres];refine X5 Tryz.func131 ?_;simp only[Tryz.f131];refine X3 ?_;rcases Xb3 l with h0|⟨b0,hb0⟩
 · subst h0;replace hres:false=res:=hres;refine X1<|X1<|X2 ?_;refine(Xa rfl (fun h2=>?_) fun h2=>?_)
   · (try simp only[BN]at h2);subst hres;refine X3 ?_;exact Xc
   exact absurd h2 (by simp)
 have hh:X4W l=decide (0≤b0):=by unfold X4W;rw[hb0]
 have hpos:1≤l.length:=(List.getElem?_eq_some_iff.1 hb0).1;refine X1<|X1<|X2 ?_;refine(Xa rfl (fun h2=>?_) fun h2=>?_)
 · try simp only[BN]at h2
   have hz:ZH l=false:=by
    unfold ZH;rw[hh];simp only[Bool.and_eq_false_iff,decide_eq_false_iff_not];omega
   rw[hz]at hres;subst hres;refine X3 ?_;exact Xc
 try simp only[BN]at h2
 have hz:ZH l=X4z l:=by
  unfold ZH;rw[hh];rw[decide_eq_true (by omega),decide_eq_true (by omega),decide_eq_true (by omega)];rfl
 rw[hz]at hres;have hl32:l.length≤32:=by omega
 clear hz hh h2 hb0;refine X1<|X1<|X2 ?_;refine X4<|(Xf [0] (fun(x:Nat)=>[(3,.v (li ((x:Int)+1)))]) (fun x=>[]) (fun x=>x+1≤l.length∧∀j:Nat,j<x→X2v l j=true) (fun x=>l.length - x) (0:Nat) ⟨hpos,fun j hj=>absurd hj (Nat.not_lt_zero j)⟩ ?_ ?_)
 · exact X6 (fun n=>n) []
 rintro k ⟨hk,hJ⟩;simp only[upS,X8,Xw]
 try simp only[X8,KN,Nat.reduceBEq,if_true,if_false,ins,Nat.reduceLT]
 refine X1<|X1<|X2 ?_;refine(X7 rfl (fun h8=>Xb ?_) (fun h8=>?_))
 · (try simp only[BN]at h8);have hlt:k+1<l.length:=by omega
   obtain⟨b,hb⟩:=X4Z hlt;obtain⟨a,ha⟩:=X4Z (show k<l.length by omega);have hw:IntKind.i64.wrap ((k:Int)+1+1)=(k:Int)+1+1:=Xd (by omega) (by omega);have hwj:IntKind.i64.wrap (k:Int)=k:=Xd (by omega) (by omega);have hri:X2v l k=decide (a<b):=by unfold X2v;rw[ha,hb]
   have hj1:0≤(k:Int)+1:=by omega
   have hj2:((k:Int)+1).toNat=k+1:=by omega
   have hk1:k+1+1≤l.length:=hlt;clear hlt h8;refine X1<|X4<|X1<|(Qc (by kernel_rfl) (by kernel_rfl) (by rfl) (by simp[*];rfl) ?_);refine(Xa rfl (fun h10=>?_) fun h10=>?_)
   · (try simp only[BN]at h10);have hz:X4z l=false:=XbG (i:=k) (by omega) (by rw[hri];simpa using h10);refine X3 ?_;exact Xc
   (try simp only[BN]at h10);refine X2 ?_
   exact⟨k+1,⟨hk1,fun i hi=>by
    rcases Nat.lt_or_eq_of_le (Nat.le_of_lt_succ hi)with h|h
    · exact hJ i h
    rw[h,hri]
    simpa using h10⟩,by omega,X6 (fun n=>n) []⟩
 (try simp only[BN]at h8);have hz:X4z l=true:=X8O fun i hi=>hJ i (by omega);refine(Xi ?_);refine X3 ?_;exact Xc
end Go.Proofs.YtppjennamodfdaaGreat

namespace Go.Proofs.YtppjennamodfdaaGreat
open Go Go.Hl
def WT:Tm→Bool
 | .mk o n ks=>decide (o=0)&&(decide (n=0)&&decide (ks.length=0))
theorem Xbm (t:Tm) (d:Nat):Con Tryz.prog 130 true [aT t] (.v (lb (WT t))) none d:=by
 obtain⟨o,n,ks⟩:=t;refine X5 Tryz.func130 ?_;simp only[Tryz.f130];simp only[aT,Tm.enc];refine X3 ?_;refine X3 ?_;exact(Xl (fun h=>⟨.inr rfl,h⟩) _ (by simp[*];rfl) (by first|rfl|(simp[*,WT,Bool.and_assoc];done)|(simp only[XD,WT,Bool.and_assoc];(repeat' split)<;>first|rfl|(exfalso;omega)|simp_all)) (by simp))
theorem Xbe (t:Tm) (d:Nat):Con Tryz.prog 193 true [aT t] (.v (lb (WT t))) none d:=by
 obtain⟨o,n,ks⟩:=t;refine X5 Tryz.func193 ?_;simp only[Tryz.f193];simp only[aT,Tm.enc];refine X3 ?_;refine X3 ?_;exact(Xl (fun h=>⟨.inr rfl,h⟩) _ (by simp[*];rfl) (by first|rfl|(simp[*,WT,Bool.and_assoc];done)|(simp only[XD,WT,Bool.and_assoc];(repeat' split)<;>first|rfl|(exfalso;omega)|simp_all)) (by simp))
def uVB (d:Int):Bool:=decide (d=0)||decide (d=5)
def uNB (d:Int):Bool:=decide (d=4)||decide (d=5)
def uTB (d:Int):Bool:=decide (d=0)||(decide (d=1)||(decide (d=3)||decide (d=4)))
theorem uV_con (a:Int) (d:Nat):Con Tryz.prog 190 true [li a] (.v (lb (uVB a))) none d:=by
 refine X5 Tryz.func190 ?_;simp only[Tryz.f190];refine X3 ?_;refine X3 ?_;exact(Xl (fun h=>⟨.inr rfl,h⟩) _ (by simp[*];rfl) (by first|rfl|(simp[*,uVB];done)|(simp only[XD,uVB];(repeat' split)<;>first|rfl|(exfalso;omega)|simp_all)) (by simp))
theorem uN_con (a:Int) (d:Nat):Con Tryz.prog 191 true [li a] (.v (lb (uNB a))) none d:=by
 refine X5 Tryz.func191 ?_;simp only[Tryz.f191];refine X3 ?_;refine X3 ?_;exact(Xl (fun h=>⟨.inr rfl,h⟩) _ (by simp[*];rfl) (by first|rfl|(simp[*,uNB];done)|(simp only[XD,uNB];(repeat' split)<;>first|rfl|(exfalso;omega)|simp_all)) (by simp))
theorem uT_con (a:Int) (d:Nat):Con Tryz.prog 192 true [li a] (.v (lb (uTB a))) none d:=by
 refine X5 Tryz.func192 ?_;simp only[Tryz.f192];refine X3 ?_;refine X3 ?_;exact(Xl (fun h=>⟨.inr rfl,h⟩) _ (by simp[*];rfl) (by first|rfl|(simp[*,uTB,Bool.or_assoc];done)|(simp only[XD,uTB,Bool.or_assoc];(repeat' split)<;>first|rfl|(exfalso;omega)|simp_all)) (by simp))
def W5 (vars:List Vr) (v:Int):Bool:=decide (0≤v)&&(match vars[v.toNat]? with|some w=>decide (w.kind=0)|none=>false)
def shB (vars:List Vr) (nh:Nat) (d v n:Int) (t:Tm) (la lb_:Nat) (bs:List Int) (last:Bool):Bool:=
 if d=0 then((decide (la=0)&&decide (lb_=0))&&W5 vars v&&decide (n=0))&&decide (bs.length=0)
 else if d=1 then((decide (la=0)&&decide (lb_=0))&&decide (v=0)&&decide (n=0))&&decide (bs.length=0)
 else if d=2 then(((decide (la=0)&&decide (lb_=0))&&decide (v=0)&&decide (n=0))&&decide (bs.length=0))&&WT t
 else if d=3 then(decide (v=0)&&decide (n=0))&&decide (bs.length=0)
 else if d=4 then(decide (v=0)&&decide (lb_=0))&&decide (bs.length=0)
 else if d=5 then((((decide (la=0)&&decide (lb_=0))&&W5 vars v&&decide (0≤n))&&decide (n<nh))&&decide (bs.length=0))&&WT t
 else if d=6 then((((decide (la=0)&&decide (lb_=0))&&last&&decide (v=0))&&decide (n=0))&&WT t)&&ZH bs
 else false
theorem X9o (f:Fl) (s:St) (last:Bool) (hv:f.vars.length≤1000000000) (hb:s.bounds.length≤1000000000) (e:Nat):
  Con Tryz.prog 98 true [aF f,aS s,lb last] (.v (lb (shB f.vars f.hats.length s.do_ s.var s.n s.term s.then_.length s.else_.length s.bounds last))) none e:=by
 obtain⟨vars,hats,body⟩:=f;obtain⟨d,c,v,n,t,a,b,bs⟩:=s;simp only[St.do_,St.var,St.n,St.term,St.then_,St.else_,St.bounds]at hb⊢;simp only at hv;have c1:=Xbm t;have c2:=X9c bs hb;obtain⟨P,hP⟩:∃p,WT t=p:=⟨_,rfl⟩;obtain⟨R,hR⟩:∃p,ZH bs=p:=⟨_,rfl⟩;obtain⟨la,hla⟩:∃k,a.length=k:=⟨_,rfl⟩;obtain⟨lc,hlc⟩:∃k,b.length=k:=⟨_,rfl⟩;obtain⟨nb,hnb⟩:∃k,bs.length=k:=⟨_,rfl⟩;obtain⟨nv,hnv⟩:∃k,vars.length=k:=⟨_,rfl⟩;obtain⟨nh,hnh⟩:∃k,hats.length=k:=⟨_,rfl⟩;obtain⟨res,hres⟩:∃r,shB vars hats.length d v n t a.length b.length bs last=r:=⟨_,rfl⟩;rw[hres];simp only[shB,hP,hR,hla,hlc,hnb,hnh]at hres;rw[hP]at c1;rw[hR]at c2;obtain⟨o,tn,ks⟩:=t;clear hP hR;simp only[aT,Tm.enc,List.map_cons,List.map_nil]at c1;refine X5 Tryz.func98 ?_;simp only[Tryz.f98];simp only[aF,aS,Fl.enc,St.enc,Tm.enc,List.map_cons,List.map_nil,List.cons_append,List.nil_append];refine X3 ?_;refine X3 ?_;refine XV [2,3,4,7] (fun(z:Bool)=>[(8,.v (lb z))]) (fun(z:Bool)=>[(3,.box [.c (.sl 5 (Xv vars)),.c (.sl 6 (Xu hats)),.c (.sl 10 (X9 body))]),(4,.box [.c (iC d),.c (iC c),.c (iC v),.c (iC n),.c (iC o),.c (iC tn),.c (.sl 3 (Xo ks)),.c (.sl 10 (X9 a)),.c (.sl 10 (X9 b)),.c (.sl 1 (Xe bs))])]) (fun(z:Bool)=>z=W5 vars v) ?_ ?_
 · by_cases h0:0≤v
   · by_cases h1:v<vars.length
     · obtain⟨w,hw⟩:=X3e ⟨h0,h1⟩;have h2:decide (v<(nv:Int))=true:=decide_eq_true (by omega);have hz:W5 vars v=decide (w.kind=0):=by unfold W5;rw[hw];simp[h0]
       clear h1;refine Xq (by simp[*];rfl) ?_;exact⟨decide (w.kind=0),hz.symm,X6 (fun n=>n) []⟩
     have hw:=X0T h0 h1;have h2:¬v<(nv:Int):=by omega
     have hz:W5 vars v=false:=by unfold W5;rw[hw];simp
     clear h1;refine Xq (by simp[*];rfl) ?_;exact⟨false,hz.symm,X6 (fun n=>n) []⟩
   have hz:W5 vars v=false:=by unfold W5;simp[h0]
   refine Xq (by simp[*];rfl) ?_;exact⟨false,hz.symm,X6 (fun n=>n) []⟩
 rintro LO hLO;simp only[upS,X8,Xw]
 try simp only[X8,KN,Nat.reduceBEq,if_true,if_false,ins,Nat.reduceLT]
 rw[←hLO]at hres;clear hLO;refine X1<|X1<|X2 ?_;refine X4<|X1<|X2 ?_;refine(X7 rfl (fun h5=>?_) (fun h5=>?_))
 · (try simp only[BN]at h5);refine X3 ?_;exact(Xl (fun h=>⟨.inr rfl,h⟩) _ (by simp[*];rfl) (by rw[←hres];simp[*,XD,Bool.and_assoc]) (by simp))
 (try simp only[BN]at h5);refine X3 ?_;refine(X7 rfl (fun h9=>?_) (fun h9=>?_))
 · (try simp only[BN]at h9);refine X3 ?_;exact(Xl (fun h=>⟨.inr rfl,h⟩) _ (by simp[*];rfl) (by rw[←hres];simp[*,XD,Bool.and_assoc]) (by simp))
 (try simp only[BN]at h9);refine X3 ?_;refine(X7 rfl (fun h13=>?_) (fun h13=>?_))
 · (try simp only[BN]at h13);by_cases hg:(la=0∧lc=0)∧v=0∧n=0∧nb=0
   · obtain⟨⟨g1,g2⟩,g3,g4,g5⟩:=hg;refine Xj [⟨true,.v (lb P),none⟩] ?_ ?_
     · first|exact c1 _|exact trivial|simpa[*]using c1 _
     exact(Xl (fun h=>⟨.inr rfl,h⟩) _ (by simp[*];rfl) (by rw[←hres];simp[*,XD,Bool.and_assoc]) (by simp))
   have hgb:(decide (la=0)&&decide (lc=0)&&decide (v=0)&&decide (n=0)&&decide (nb=0))=false:=by simp only[Bool.and_eq_false_iff,decide_eq_false_iff_not];omega
   clear hg
   have hr:false=res:=by
    rw[←hres,if_neg h5,if_neg h9,if_pos h13];rw[hgb];rfl
   subst hr;refine X1<|(WP [none] (by simp[*];first|exact⟨rfl,trivial⟩|exact⟨rfl,Iff.rfl⟩|rfl) ?_ ?_)
   · trivial
   exact(Xl (fun h=>⟨.inr rfl,h⟩) _ (by simp[*];rfl) (by rfl) (by simp))
 (try simp only[BN]at h13);refine X3 ?_;refine(X7 rfl (fun h17=>?_) (fun h17=>?_))
 · (try simp only[BN]at h17);refine X3 ?_;exact(Xl (fun h=>⟨.inr rfl,h⟩) _ (by simp[*];rfl) (by rw[←hres];simp[*,XD,Bool.and_assoc]) (by simp))
 (try simp only[BN]at h17);refine X3 ?_;refine(X7 rfl (fun h21=>?_) (fun h21=>?_))
 · (try simp only[BN]at h21);refine X3 ?_;exact(Xl (fun h=>⟨.inr rfl,h⟩) _ (by simp[*];rfl) (by rw[←hres];simp[*,XD,Bool.and_assoc]) (by simp))
 (try simp only[BN]at h21);refine X3 ?_;refine(X7 rfl (fun h25=>?_) (fun h25=>?_))
 · (try simp only[BN]at h25);by_cases hg:(la=0∧lc=0)∧LO=true∧0≤n∧n<nh∧nb=0
   · obtain⟨⟨g1,g2⟩,g3,g4,g5,g6⟩:=hg;refine Xj [⟨true,.v (lb P),none⟩] ?_ ?_
     · first|exact c1 _|exact trivial|simpa[*]using c1 _
     exact(Xl (fun h=>⟨.inr rfl,h⟩) _ (by simp[*];rfl) (by rw[←hres];simp[*,XD,Bool.and_assoc]) (by simp))
   have hgb:(decide (la=0)&&decide (lc=0)&&LO&&decide (0≤n)&&decide (n<(nh:Int))&&decide (nb=0))=false:=by
    cases LO
    · simp
    simp only[Bool.and_eq_false_iff,decide_eq_false_iff_not];simp only[true_and]at hg;omega
   clear hg
   have hr:false=res:=by
    rw[←hres,if_neg h5,if_neg h9,if_neg h13,if_neg h17,if_neg h21,if_pos h25];rw[hgb];rfl
   subst hr;refine X1<|(WP [none] (by simp[*];first|exact⟨rfl,trivial⟩|exact⟨rfl,Iff.rfl⟩|rfl) ?_ ?_)
   · trivial
   exact(Xl (fun h=>⟨.inr rfl,h⟩) _ (by simp[*];rfl) (by rfl) (by simp))
 (try simp only[BN]at h25);refine X3 ?_;refine(Xa rfl (fun h29=>?_) fun h29=>?_)
 · (try simp only[BN]at h29);by_cases hg:(la=0∧lc=0)∧last=true∧v=0∧n=0
   · obtain⟨⟨g1,g2⟩,g3,g4,g5⟩:=hg;refine Xj [⟨true,.v (lb P),none⟩,⟨true,.v (lb R),none⟩] ?_ ?_
     · first|exact⟨c1 _,c2 _⟩|exact trivial|(repeat' first|exact trivial|exact c1 _|exact c2 _|apply And.intro)
     exact(Xl (fun h=>⟨.inr rfl,h⟩) _ (by simp[*];rfl) (by rw[←hres];simp[*,XD,Bool.and_assoc]) (by simp))
   have hgb:(decide (la=0)&&decide (lc=0)&&last&&decide (v=0)&&decide (n=0))=false:=by
    cases last
    · simp
    simp only[Bool.and_eq_false_iff,decide_eq_false_iff_not];simp only[true_and]at hg;omega
   clear hg
   have hr:false=res:=by
    rw[←hres,if_neg h5,if_neg h9,if_neg h13,if_neg h17,if_neg h21,if_neg h25,if_pos h29];rw[hgb];rfl
   subst hr;refine X1<|(WP [none,none] (by simp[*];first|exact⟨rfl,trivial⟩|exact⟨rfl,Iff.rfl⟩|rfl) ?_ ?_)
   · trivial
   exact(Xl (fun h=>⟨.inr rfl,h⟩) _ (by simp[*];rfl) (by rfl) (by simp))
 (try simp only[BN]at h29);refine X3 ?_;exact(Xl (fun h=>⟨.inr rfl,h⟩) _ (by simp[*];rfl) (by rw[←hres];simp[*,XD,Bool.and_assoc]) (by simp))
end Go.Proofs.YtppjennamodfdaaGreat

namespace Go.Proofs.YtppjennamodfdaaGreat
open Go Go.Hl
def badP (UV UN UT P LO:Bool) (d v n:Int) (la lc nb nh:Nat):Prop:=
 d<0∨6<d∨(UV=false∧v≠0)∨(UN=false∧n≠0)∨(UT=false∧P=false)∨((d≠3∧d≠4)∧0<la)∨(d≠3∧0<lc)∨(d≠6∧0<nb)∨(UV=true∧LO=false)∨(d=5∧(n<0∨nh≤n))
instance (UV UN UT P LO:Bool) (d v n:Int) (la lc nb nh:Nat):Decidable (badP UV UN UT P LO d v n la lc nb nh):=by unfold badP;exact inferInstance
theorem sh_bad {vars:List Vr} {nh:Nat} {d v n:Int} {t:Tm} {la lc:Nat} {bs:List Int} {last:Bool} (h:badP (uVB d) (uNB d) (uTB d) (WT t) (W5 vars v) d v n la lc bs.length nh):shB vars nh d v n t la lc bs last=false:=by
 unfold shB;generalize WT t=P at*;generalize W5 vars v=LO at*
 have hr:ZH bs=true→1≤bs.length:=by
  intro h;unfold ZH at h;simp only[Bool.and_eq_true,decide_eq_true_eq]at h;omega
 generalize ZH bs=R at*;generalize bs.length=nb at*;unfold badP uVB uNB uTB at h
 (repeat' split)<;>(simp only[Bool.and_eq_false_iff,Bool.or_eq_false_iff,Bool.or_eq_true,decide_eq_true_eq,decide_eq_false_iff_not]at h⊢)<;>cases P<;>cases LO<;>cases last<;>cases R<;>simp at h hr⊢ <;>omega
theorem sh_good {vars:List Vr} {nh:Nat} {d v n:Int} {t:Tm} {la lc:Nat} {bs:List Int} {last:Bool} (h:¬badP (uVB d) (uNB d) (uTB d) (WT t) (W5 vars v) d v n la lc bs.length nh):shB vars nh d v n t la lc bs last=(decide (d≠6)||(last&&ZH bs)):=by
 unfold shB;generalize WT t=P at*;generalize W5 vars v=LO at*;generalize ZH bs=R at*;generalize bs.length=nb at*;unfold badP uVB uNB uTB at h;rw[Bool.eq_iff_iff]
 (repeat' split)<;>(simp only[not_or,not_and,Bool.or_eq_false_iff,Bool.or_eq_true,Bool.and_eq_true,decide_eq_true_eq,decide_eq_false_iff_not]at h⊢)<;>cases P<;>cases LO<;>cases last<;>cases R<;>simp at h⊢ <;>omega
end Go.Proofs.YtppjennamodfdaaGreat
