/- Part 3: contracts of functions of the program and of the reference, and plain facts about what they compute; used by the proof of the claimed statement. Conditions: as each theorem states. -/
import Derived.Test.YtppjennamodfdaaGreatProg
import Derived.Test.YtppjennamodfdaaGreatNHmZ
import Derived.KernelRfl
import Derived.Test.YtppjennamodfdaaGreatN1
import Derived.Test.YtppjennamodfdaaGreatN2
set_option linter.unusedSimpArgs false
set_option linter.unusedVariables false
set_option linter.unnecessarySimpa false
set_option maxRecDepth 100000
set_option maxHeartbeats 2000000
namespace Go.Proofs.YtppjennamodfdaaGreat
open Go Go.Hl
theorem St.lists {P:List St→Prop} (h:∀l,(∀s∈l,P s.then_∧P s.else_)→P l):∀l,P l:=by
 have key:∀s:St,P s.then_∧P s.else_:=by
  intro s
  induction s using St.ind with
  |h d c v n t a b bs iha ihb=>exact⟨h a iha,h b ihb⟩
 exact fun l=>h l fun s _=>key s
theorem Qm {l:List St} {s:St} (hs:s∈l):1+s.term.nodes+Xl s.then_+Xl s.else_≤Xl l:=by
 induction l with
 |nil=>cases hs
 | cons x l ih=>
   simp only[Xl];rcases List.mem_cons.1 hs with rfl|h
   · obtain⟨d,c,v,n,t,a,b,bs⟩:=s;simp only[St.nodes,St.term,St.then_,St.else_];omega
   have:=ih h;omega
def heldI (n lo hi:Int):Int:=if n<lo then lo else if hi<n then hi else n
end Go.Proofs.YtppjennamodfdaaGreat

namespace Go.Proofs.YtppjennamodfdaaGreat
open Go Go.Hl
structure B3 where
 s:Int
 o:Int
 t:Int
def bd1 (d c n:Int) (x y:B3):B3:=
 if d=4 then⟨1+n*(1+x.s),n*x.o,n*(c+x.t)⟩
 else if d=3 then⟨1+mx x.s y.s,mx x.o y.o,c+mx x.t y.t⟩
 else if d=1 then⟨1,1,c⟩ else⟨1,0,c⟩
def Ql (C:B3) (x y:B3):B3:=⟨mn (x.s+y.s) C.s,mn (x.o+y.o) C.o,mn (x.t+y.t) C.t⟩
mutual
def bdS (C:B3):St→B3
 | .mk d c _ n _ a b _=>bd1 d c n (bdL C a ⟨0,0,0⟩) (bdL C b ⟨0,0,0⟩)
def bdL (C:B3):List St→B3→B3
 |[],p=>p
 |s::l,p=>bdL C l (Ql C p (bdS C s))
end
mutual
def okS:St→Bool
 | .mk d c _ n _ a b _=>(decide (0≤c)&&(decide (c≤67108864)&&(decide (d≠4)||(decide (0≤n)&&decide (n≤4096)))))&&((decide (d=3)||(decide (d=4)||(a.isEmpty&&b.isEmpty)))&&(okL a&&okL b))
def okL:List St→Bool
 |[]=>true
 |s::l=>okS s&&okL l
end
def CP:B3:=⟨1099511627776,1099511627776,1099511627776⟩
def CR:B3:=⟨4097,9,67108865⟩
def in3 (C p:B3):Prop:=0≤p.s∧p.s≤C.s∧0≤p.o∧p.o≤C.o∧0≤p.t∧p.t≤C.t
def nn3 (p:B3):Prop:=0≤p.s∧0≤p.o∧0≤p.t
theorem mulN {n z:Int} (hn:0≤n∧n≤4096) (hz:0≤z∧z≤1099578736641):0≤n*z∧n*z≤4503874505281536:=by
 have h1:n.natAbs*z.natAbs≤4096*1099578736641:=Nat.mul_le_mul (by omega) (by omega);rw[←Int.natAbs_mul]at h1;have h2:=Int.mul_nonneg hn.1 hz.1;omega
theorem bd1_nn {d c n:Int} {x y:B3} (hc:0≤c) (hn:d=4→0≤n) (hx:nn3 x) (hy:nn3 y):nn3 (bd1 d c n x y):=by
 unfold nn3 at*;unfold bd1;split
 · rename_i h4;have h0:=hn h4;refine⟨?_,Int.mul_nonneg h0 hx.2.1,Int.mul_nonneg h0 (by omega)⟩;have:=Int.mul_nonneg h0 (show(0:Int)≤1+x.s by omega);simp only;omega
 split
 · simp only[mx];refine⟨?_,?_,?_⟩<;>split<;>omega
 split<;>simp only<;>omega
theorem X3x {C p q:B3} (hC:nn3 C) (hp:nn3 p) (hq:nn3 q):in3 C (Ql C p q):=by
 unfold in3 Ql nn3 at*;simp only[mn];refine⟨?_,?_,?_,?_,?_,?_⟩<;>split<;>omega
theorem Zv {C p:B3} (h:in3 C p):nn3 p:=⟨h.1,h.2.2.1,h.2.2.2.2.1⟩
theorem Z9 {C:B3} (hC:nn3 C):in3 C ⟨0,0,0⟩:=⟨Int.le_refl _,hC.1,Int.le_refl _,hC.2.1,Int.le_refl _,hC.2.2⟩
mutual
theorem X2J {C:B3} (hC:nn3 C):∀s:St,okS s=true→nn3 (bdS C s)
 | .mk d c v n t a b bs,h=>by
   simp only[okS,Bool.and_eq_true,Bool.or_eq_true,decide_eq_true_eq]at h;simp only[bdS];exact bd1_nn h.1.1 (fun h4=>by omega) (Zv (Zu hC a _ h.2.2.1 (Z9 hC))) (Zv (Zu hC b _ h.2.2.2 (Z9 hC)))
theorem Zu {C:B3} (hC:nn3 C):∀(l:List St) (p:B3),okL l=true→in3 C p→in3 C (bdL C l p)
 |[],p,_,h=>h
 | s::l,p,h,hp=>by
   simp only[okL,Bool.and_eq_true]at h;simp only[bdL];exact Zu hC l _ h.2 (X3x hC (Zv hp) (X2J hC s h.1))
end
def X0u (C p:B3):B3:=⟨mn p.s C.s,mn p.o C.o,mn p.t C.t⟩
theorem X5d {n a b k k' C:Int} (hn:0≤n) (ha:0≤a) (hb:0≤b) (hk:0≤k) (hk':0≤k') (h:mn a C=mn b C):mn (k'+n*(k+a)) C=mn (k'+n*(k+b)) C:=by
 by_cases hac:a<C
 · have:a=b:=by
    unfold mn at h
    (repeat' split at h)<;>omega
   rw[this]
 have hbc:C≤b:=by
  unfold mn at h
  (repeat' split at h)<;>omega
 rcases Int.lt_or_le 0 n with h0|h0
 · have h1:=Int.mul_le_mul_of_nonneg_right (show(1:Int)≤n by omega) (show 0≤k+a by omega);have h2:=Int.mul_le_mul_of_nonneg_right (show(1:Int)≤n by omega) (show 0≤k+b by omega);unfold mn
   (repeat' split)<;>omega
 have:n=0:=by omega
 subst this;simp
theorem bd1_cut {C x x' y y':B3} {d c n:Int} (hc:0≤c) (hn:d=4→0≤n) (hx:nn3 x) (hx':nn3 x') (hy:nn3 y) (hy':nn3 y') (h1:X0u C x=X0u C x') (h2:X0u C y=X0u C y'):X0u C (bd1 d c n x y)=X0u C (bd1 d c n x' y'):=by
 unfold X0u at*;unfold nn3 at*;simp only[B3.mk.injEq]at h1 h2⊢;unfold bd1;split
 · rename_i h4;have h0:=hn h4;have e1:=X5d h0 hx.1 hx'.1 (show(0:Int)≤1 by decide) (show(0:Int)≤1 by decide) h1.1;have e2:=X5d h0 hx.2.1 hx'.2.1 (Int.le_refl 0) (Int.le_refl 0) h1.2.1;have e3:=X5d h0 hx.2.2 hx'.2.2 hc (Int.le_refl 0) h1.2.2;simp only[Int.zero_add]at e2 e3;exact⟨e1,e2,e3⟩
 obtain⟨a1,a2,a3⟩:=h1;obtain⟨b1,b2,b3⟩:=h2;split
 · simp only[mx];refine⟨?_,?_,?_⟩
   · clear a2 a3 b2 b3;unfold mn at*;(repeat' split at a1)<;>(repeat' split at b1)<;>(repeat' split)<;>omega
   · clear a1 a3 b1 b3;unfold mn at*;(repeat' split at a2)<;>(repeat' split at b2)<;>(repeat' split)<;>omega
   clear a1 a2 b1 b2;unfold mn at*;(repeat' split at a3)<;>(repeat' split at b3)<;>(repeat' split)<;>omega
 split<;>exact⟨rfl,rfl,rfl⟩
theorem add3_cut {C D p p' x x':B3} (hC:nn3 C) (hD:C.s≤D.s∧C.o≤D.o∧C.t≤D.t) (hp:nn3 p) (hp':nn3 p') (hx:nn3 x) (hx':nn3 x') (h1:X0u C p=X0u C p') (h2:X0u C x=X0u C x'):X0u C (Ql D p x)=X0u C (Ql C p' x'):=by
 unfold X0u at*;unfold nn3 at*;simp only[B3.mk.injEq,Ql]at h1 h2⊢;obtain⟨a1,a2,a3⟩:=h1;obtain⟨b1,b2,b3⟩:=h2;obtain⟨d1,d2,d3⟩:=hD;obtain⟨p1,p2,p3⟩:=hp;obtain⟨q1,q2,q3⟩:=hp';obtain⟨r1,r2,r3⟩:=hx;obtain⟨s1,s2,s3⟩:=hx';obtain⟨c1,c2,c3⟩:=hC;refine⟨?_,?_,?_⟩
 · clear a2 a3 b2 b3;unfold mn at*;(repeat' split at a1)<;>(repeat' split at b1)<;>(repeat' split)<;>omega
 · clear a1 a3 b1 b3;unfold mn at*;(repeat' split at a2)<;>(repeat' split at b2)<;>(repeat' split)<;>omega
 clear a1 a2 b1 b2;unfold mn at*;(repeat' split at a3)<;>(repeat' split at b3)<;>(repeat' split)<;>omega
mutual
theorem bdS_cut {C D:B3} (hC:nn3 C) (hDn:nn3 D) (hD:C.s≤D.s∧C.o≤D.o∧C.t≤D.t):∀s:St,okS s=true→X0u C (bdS D s)=X0u C (bdS C s)
 | .mk d c v n t a b bs,h=>by
   simp only[okS,Bool.and_eq_true,Bool.or_eq_true,decide_eq_true_eq]at h;simp only[bdS];have ha:=Zv (Zu hDn a _ h.2.2.1 (Z9 hDn));have hb:=Zv (Zu hDn b _ h.2.2.2 (Z9 hDn));have ha':=Zv (Zu hC a _ h.2.2.1 (Z9 hC));have hb':=Zv (Zu hC b _ h.2.2.2 (Z9 hC));have h0:nn3 ⟨0,0,0⟩:=⟨Int.le_refl _,Int.le_refl _,Int.le_refl _⟩;exact bd1_cut h.1.1 (fun h4=>by omega) ha ha' hb hb' (X5e hC hDn hD a _ _ h.2.2.1 (Z9 hDn) (Z9 hC) rfl) (X5e hC hDn hD b _ _ h.2.2.2 (Z9 hDn) (Z9 hC) rfl)
theorem X5e {C D:B3} (hC:nn3 C) (hDn:nn3 D) (hD:C.s≤D.s∧C.o≤D.o∧C.t≤D.t):∀(l:List St) (p q:B3),okL l=true→in3 D p→in3 C q→X0u C p=X0u C q→X0u C (bdL D l p)=X0u C (bdL C l q)
 |[],p,q,_,_,_,h=>h
 | s::l,p,q,h,hp,hq,hpq=>by
   simp only[okL,Bool.and_eq_true]at h;simp only[bdL]
   exact X5e hC hDn hD l _ _ h.2 (X3x hDn (Zv hp) (X2J hDn s h.1)) (X3x hC (Zv hq) (X2J hC s h.1))
    (add3_cut hC hD (Zv hp) (Zv hq) (X2J hDn s h.1) (X2J hC s h.1) hpq (bdS_cut hC hDn hD s h.1))
end
theorem nnCP:nn3 CP:=by unfold nn3 CP;decide
theorem X4u:nn3 CR:=by unfold nn3 CR;decide
theorem bd_cmp {l:List St} (h:okL l=true):(4096<(bdL CP l ⟨0,0,0⟩).s↔4096<(bdL CR l ⟨0,0,0⟩).s)∧(8<(bdL CP l ⟨0,0,0⟩).o↔8<(bdL CR l ⟨0,0,0⟩).o)∧(67108864<(bdL CP l ⟨0,0,0⟩).t↔67108864<(bdL CR l ⟨0,0,0⟩).t):=by
 have:=X5e X4u nnCP (by decide) l _ _ h (Z9 nnCP) (Z9 X4u) rfl;unfold X0u at this;simp only[B3.mk.injEq]at this;obtain⟨h1,h2,h3⟩:=this;generalize bdL CP l ⟨0,0,0⟩=p at*;generalize bdL CR l ⟨0,0,0⟩=q at*;unfold CR at h1 h2 h3;refine⟨?_,?_,?_⟩
 · clear h2 h3;unfold mn at*;simp only at h1;(repeat' split at h1)<;>omega
 · clear h1 h3;unfold mn at*;simp only at h2;(repeat' split at h2)<;>omega
 clear h1 h2;unfold mn at*;simp only at h3;(repeat' split at h3)<;>omega
end Go.Proofs.YtppjennamodfdaaGreat

namespace Go.Proofs.YtppjennamodfdaaGreat
open Go Go.Hl
theorem Xbm {l:List St} (h:okL l=true) {s:St} (hs:s∈l):okS s=true:=by
 induction l with
 |nil=>cases hs
 | cons x l ih=>
   simp only[okL,Bool.and_eq_true]at h;rcases List.mem_cons.1 hs with rfl|h1
   · exact h.1
   exact ih h.2 h1
abbrev aB (p:B3):TV:=.agg [.c (iC p.s),.c (iC p.o),.c (iC p.t)]
theorem Xcv (l:List St):Xl l≤1000000000→okL l=true→∀d:Nat,Con Tryz.prog 167 true [lS l] (.v (aB (bdL CP l ⟨0,0,0⟩))) none d:=by
 revert l
 apply St.lists;intro l ih hn hok d;have hlen:=Q9 l;obtain⟨res,hres⟩:∃r,bdL CP l ⟨0,0,0⟩=r:=⟨_,rfl⟩;rw[hres];refine X7 Tryz.func167 ?_;simp only[Tryz.f167];refine X0<|(Xn (by simp[*,Ql,CP];rfl) ?_);refine X0<|(Xn (by simp[*,Ql,CP];rfl) ?_);refine X0<|X0<|(Xn (by simp[*,Ql,CP];rfl) ?_);refine X5<|(Xd [2,3,9,10] (fun(x:Nat×B3)=>[(11,.v (li x.1))]) (fun x=>[(2,.box [.c (iC 0),.c (iC 0),.c (iC 0)]),(3,.box [.c (iC x.2.s),.c (iC x.2.o),.c (iC x.2.t)])]) (fun x=>x.1≤l.length∧bdL CP (l.drop x.1) x.2=res∧in3 CP x.2) (fun x=>l.length - x.1) (0,⟨0,0,0⟩) ⟨Nat.zero_le _,hres,Z9 nnCP⟩ ?_ ?_)
 · exact Xu (fun n=>n) [] rfl (by simp[*,upS,X8,Ql,CP]) (by simp[*,upS]) (by simp[upS])
 rintro⟨k,⟨m1,m2,m3⟩⟩ ⟨hk,hJ,hin⟩;simp only[upS,X8,Xy]
 try simp only[X8,KN,Nat.reduceBEq,if_true,if_false,ins,Nat.reduceLT]
 simp only at hk hJ;unfold in3 CP at hin;simp only at hin;clear hres;refine X0<|(Xn (by simp[*,Ql,CP];rfl) ?_);refine X0<|(X9 rfl (fun h5=>Xb ?_) (fun h5=>?_))
 · (try simp only[BN]at h5);have hlt:k<l.length:=by omega
   obtain⟨s,he,hd⟩:=Xq hlt;have hmem:s∈l:=List.mem_of_getElem? he;have hnm:=Qm hmem;have hos:=Xbm hok hmem;have iha:=fun h=>(ih s hmem).1 h;have ihb:=fun h=>(ih s hmem).2 h;have hw1:=XA hlt (by omega);have hk1:k+1≤l.length:=hlt;rw[hd]at hJ;simp only[bdL]at hJ;have hsin:=X2J nnCP s hos;obtain⟨pq,hpq⟩:∃pq,bdS CP s=pq:=⟨_,rfl⟩;rw[hpq]at hJ hsin;obtain⟨sd,sc,sv,sn,⟨so,stn,sks⟩,sa,sb,sbs⟩:=s;simp only[St.then_,St.else_,St.term]at iha ihb hnm;simp only[okS,Bool.and_eq_true,Bool.or_eq_true,decide_eq_true_eq]at hos;have ca:=iha (by omega) hos.2.2.1;have cb:=ihb (by omega) hos.2.2.2;have he':=XX he;simp only[St.enc,Tm.enc,List.cons_append,List.nil_append]at he';simp only[bdS]at hpq;have hxa:=Zu nnCP sa ⟨0,0,0⟩ hos.2.2.1 (Z9 nnCP);have hxb:=Zu nnCP sb ⟨0,0,0⟩ hos.2.2.2 (Z9 nnCP);obtain⟨xa,hxa'⟩:∃x,bdL CP sa ⟨0,0,0⟩=x:=⟨_,rfl⟩;obtain⟨xb,hxb'⟩:∃x,bdL CP sb ⟨0,0,0⟩=x:=⟨_,rfl⟩;rw[hxa']at ca hxa hpq;rw[hxb']at cb hxb hpq;unfold in3 CP at hxa hxb;unfold nn3 at hsin;simp only at hxa hxb;obtain⟨a1,a2,a3⟩:=xa;obtain⟨b1,b2,b3⟩:=xb;obtain⟨q1,q2,q3⟩:=pq;simp only at hxa hxb hsin;have hcost:=hos.1;unfold bd1 at hpq;simp only[mx]at hpq;clear hlt h5 iha ihb ih hxa' hxb' hmem hnm hd he hos;refine X0<|X5<|X0<|(Xn (by simp[*,Ql,CP];rfl) ?_);refine X0<|(Xn (by simp[*,Ql,CP];rfl) ?_);refine X0<|(Qk [⟨true,.v (aB ⟨a1,a2,a3⟩),none⟩,⟨true,.v (aB ⟨b1,b2,b3⟩),none⟩] (by kernel_rfl) (by kernel_rfl) (by rfl) (by simp[*,Ql,CP];first|exact⟨rfl,Iff.rfl⟩|exact⟨rfl,trivial⟩|rfl) ?_ ?_)
   · first|exact⟨ca _,cb _⟩|exact trivial|(repeat' first|exact trivial|exact ca _|exact cb _|apply And.intro)
   refine(XO [2,3,6,9,10,11] (fun(z:Unit)=>[]) (fun(z:Unit)=>[(2,.box [.c (iC 0),.c (iC 0),.c (iC 0)]),(3,.box [.c (iC m1),.c (iC m2),.c (iC m3)]),(6,.box [.c (iC q1),.c (iC q2),.c (iC q3)])]) (fun(z:Unit)=>q1≤4503874505281537∧q2≤4503874505281537∧q3≤4503874505281537) ?_ ?_)
   ·
    refine X0<|(Xn (by simp[*,Ql,CP];rfl) ?_);refine X5<|X0<|(Xn (by simp[*,Ql,CP];rfl) ?_);refine(X9 rfl (fun h12=>?_) (fun h12=>?_))
    · (try simp only[BN]at h12);rw[if_neg (by omega),if_neg (by omega),if_pos h12]at hpq;simp only[B3.mk.injEq]at hpq;obtain⟨p1,p2,p3⟩:=hpq;subst p1 p2 p3;refine(Xn (by simp[*,Ql,CP];rfl) ?_);exact⟨(),⟨by omega,by omega,by omega⟩,X6 (fun n=>n) []⟩
    (try simp only[BN]at h12);refine X0<|(Xn (by simp[*,Ql,CP];rfl) ?_);refine(X9 rfl (fun h16=>?_) (fun h16=>?_))
    · (try simp only[BN]at h16);rw[if_neg (by omega),if_pos h16]at hpq;simp only[B3.mk.injEq]at hpq;obtain⟨p1,p2,p3⟩:=hpq;have hw2:IntKind.i64.wrap (1+(if a1<b1 then b1 else a1))=q1:=by rw[←p1];exact Xc (by split<;>omega) (by split<;>omega)
      have hw3:IntKind.i64.wrap (sc+(if a3<b3 then b3 else a3))=q3:=by rw[←p3];exact Xc (by split<;>omega) (by split<;>omega)
      have hq:q1≤4503874505281537∧q2≤4503874505281537∧q3≤4503874505281537:=by
       rw[←p1,←p2,←p3];refine⟨?_,?_,?_⟩<;>split<;>omega
      clear p1 p3;refine X0<|(Xn (by simp[*,Ql,CP];rfl) ?_);refine X0<|(Xn (by simp[*,Ql,CP];rfl) ?_);refine(Xn (by simp[*,Ql,CP];rfl) ?_);exact⟨(),hq,X6 (fun n=>n) []⟩
    (try simp only[BN]at h16);refine X0<|(Xn (by simp[*,Ql,CP];rfl) ?_);refine(Xe rfl (fun h22=>?_) fun h22=>?_)
    · (try simp only[BN]at h22);rw[if_pos h22]at hpq;simp only[B3.mk.injEq]at hpq;obtain⟨p1,p2,p3⟩:=hpq;have hnn:0≤sn∧sn≤4096:=by omega
      have m4:=mulN hnn (z:=1+a1) (by omega);have m5:=mulN hnn (z:=a2) (by omega);have m6:=mulN hnn (z:=sc+a3) (by omega);have hw2:IntKind.i64.wrap (1+a1)=1+a1:=Xc (by omega) (by omega);have hw3:IntKind.i64.wrap (sn*(1+a1))=sn*(1+a1):=Xc (by omega) (by omega);have hw4:IntKind.i64.wrap (1+sn*(1+a1))=q1:=by rw[←p1];exact Xc (by omega) (by omega)
      have hw5:IntKind.i64.wrap (sn*a2)=q2:=by rw[←p2];exact Xc (by omega) (by omega)
      have hw6:IntKind.i64.wrap (sc+a3)=sc+a3:=Xc (by omega) (by omega);have hw7:IntKind.i64.wrap (sn*(sc+a3))=q3:=by rw[←p3];exact Xc (by omega) (by omega)
      have hq:q1≤4503874505281537∧q2≤4503874505281537∧q3≤4503874505281537:=by omega
      clear p1 p2 p3 m4 m5 m6;refine X0<|(Xn (by simp[*,Ql,CP];rfl) ?_);refine X0<|(Xn (by simp[*,Ql,CP];rfl) ?_);refine(Xn (by simp[*,Ql,CP];rfl) ?_);exact⟨(),hq,X6 (fun n=>n) []⟩
    (try simp only[BN]at h22);rw[if_neg h22,if_neg h16,if_neg h12]at hpq;simp only[B3.mk.injEq]at hpq;obtain⟨p1,p2,p3⟩:=hpq;subst p1 p2 p3;exact⟨(),⟨by omega,by omega,by omega⟩,X6 (fun n=>n) []⟩
   rintro _ ⟨hq1,hq2,hq3⟩;simp only[upS,X8,Xy]
   try simp only[X8,KN,Nat.reduceBEq,if_true,if_false,ins,Nat.reduceLT]
   clear hpq ca cb hxa hxb;have hw2:IntKind.i64.wrap (m1+q1)=m1+q1:=Xc (by omega) (by omega);have hw3:IntKind.i64.wrap (m2+q2)=m2+q2:=Xc (by omega) (by omega);have hw4:IntKind.i64.wrap (m3+q3)=m3+q3:=Xc (by omega) (by omega);have hmn1:(if 1099511627776<m1+q1 then 1099511627776 else m1+q1)=mn (m1+q1) 1099511627776:=rfl;have hmn2:(if 1099511627776<m2+q2 then 1099511627776 else m2+q2)=mn (m2+q2) 1099511627776:=rfl;have hmn3:(if 1099511627776<m3+q3 then 1099511627776 else m3+q3)=mn (m3+q3) 1099511627776:=rfl;have hin2:in3 CP (Ql CP ⟨m1,m2,m3⟩ ⟨q1,q2,q3⟩):=X3x nnCP ⟨hin.1,hin.2.2.1,hin.2.2.2.2.1⟩ ⟨hsin.1,hsin.2.1,hsin.2.2⟩;refine X0<|(Xn (by simp[*,Ql,CP];rfl) ?_);refine X0<|(Xn (by simp[*,Ql,CP];rfl) ?_);refine(Xn (by simp[*,Ql,CP];rfl) ?_);refine(Xn (by simp[*,Ql,CP];rfl) ?_);exact⟨(k+1,Ql CP ⟨m1,m2,m3⟩ ⟨q1,q2,q3⟩),⟨hk1,hJ,hin2⟩,by simp only;omega,Xu (fun n=>n) [] rfl (by simp[upS,X8, *,Ql,CP]) (by simp[*,upS,Ql,CP]) (by simp[upS])⟩
 (try simp only[BN]at h5);have hkl:k=l.length:=by omega
 rw[hkl,List.drop_length]at hJ;simp only[bdL]at hJ;subst hJ;refine(Xg ?_);refine X0<|(Xn (by simp[*,Ql,CP];rfl) ?_);exact(Xm (fun h=>⟨.inr rfl,h⟩) _ (by simp[*,Ql,CP];rfl) (by first|rfl|(simp[*];done)|(simp only[XN];(repeat' split)<;>first|rfl|(exfalso;omega)|simp_all)) (by simp))
theorem X4L (l:List St):Xl l≤1000000000→okL l=true→∀d:Nat,Con Tryz.prog 66 true [lS l] (.tup [li (bdL CR l ⟨0,0,0⟩).s,li (bdL CR l ⟨0,0,0⟩).o,li (bdL CR l ⟨0,0,0⟩).t]) none d:=by
 revert l
 apply St.lists;intro l ih hn hok d;have hlen:=Q9 l;obtain⟨res,hres⟩:∃r,bdL CR l ⟨0,0,0⟩=r:=⟨_,rfl⟩;rw[hres];refine X7 Tryz.func66 ?_;simp only[Tryz.f66];refine X0<|(Xn (by simp[*,Ql,CR];rfl) ?_);refine X0<|(Xn (by simp[*,Ql,CR];rfl) ?_);refine X0<|X0<|(Xn (by simp[*,Ql,CR];rfl) ?_);refine X5<|(Xd [0] (fun(x:Nat×B3)=>[(5,.v (li x.2.s)),(6,.v (li x.2.o)),(7,.v (li x.2.t)),(8,.v (li x.1))]) (fun x=>[]) (fun x=>x.1≤l.length∧bdL CR (l.drop x.1) x.2=res∧in3 CR x.2) (fun x=>l.length - x.1) (0,⟨0,0,0⟩) ⟨Nat.zero_le _,hres,Z9 X4u⟩ ?_ ?_)
 · exact Xu (fun n=>n) [] rfl (by simp[*,upS,X8,Ql,CR]) (by simp[*,upS]) (by simp[upS])
 rintro⟨k,⟨m1,m2,m3⟩⟩ ⟨hk,hJ,hin⟩;simp only[upS,X8,Xy]
 try simp only[X8,KN,Nat.reduceBEq,if_true,if_false,ins,Nat.reduceLT]
 simp only at hk hJ;unfold in3 CR at hin;simp only at hin;clear hres;refine X0<|X0<|(Xn (by simp[*,Ql,CR];rfl) ?_);refine(X9 rfl (fun h5=>Xb ?_) (fun h5=>?_))
 · (try simp only[BN]at h5);have hlt:k<l.length:=by omega
   obtain⟨s,he,hd⟩:=Xq hlt;have hmem:s∈l:=List.mem_of_getElem? he;have hnm:=Qm hmem;have hos:=Xbm hok hmem;have iha:=fun h=>(ih s hmem).1 h;have ihb:=fun h=>(ih s hmem).2 h;have hw1:=XA hlt (by omega);have hk1:k+1≤l.length:=hlt;rw[hd]at hJ;simp only[bdL]at hJ;have hsin:=X2J X4u s hos;obtain⟨pq,hpq⟩:∃pq,bdS CR s=pq:=⟨_,rfl⟩;rw[hpq]at hJ hsin;obtain⟨sd,sc,sv,sn,⟨so,stn,sks⟩,sa,sb,sbs⟩:=s;simp only[St.then_,St.else_,St.term]at iha ihb hnm;simp only[okS,Bool.and_eq_true,Bool.or_eq_true,decide_eq_true_eq,List.isEmpty_iff]at hos;have ca:=iha (by omega) hos.2.2.1;have cb:=ihb (by omega) hos.2.2.2;have he':=XX he;simp only[St.enc,Tm.enc,List.cons_append,List.nil_append]at he';simp only[bdS]at hpq;have hxa:=Zu X4u sa ⟨0,0,0⟩ hos.2.2.1 (Z9 X4u);have hxb:=Zu X4u sb ⟨0,0,0⟩ hos.2.2.2 (Z9 X4u);obtain⟨xa,hxa'⟩:∃x,bdL CR sa ⟨0,0,0⟩=x:=⟨_,rfl⟩;obtain⟨xb,hxb'⟩:∃x,bdL CR sb ⟨0,0,0⟩=x:=⟨_,rfl⟩
   have hz:sd≠3→sd≠4→xa=⟨0,0,0⟩∧xb=⟨0,0,0⟩:=by
    intro h3 h4;rcases hos.2.1 with h|h|h
    · exact absurd h h3
    · exact absurd h h4
    rw[←hxa',←hxb',h.1,h.2];exact⟨rfl,rfl⟩
   rw[hxa']at ca hxa hpq;rw[hxb']at cb hxb hpq;unfold in3 CR at hxa hxb;unfold nn3 at hsin;simp only at hxa hxb;obtain⟨a1,a2,a3⟩:=xa;obtain⟨b1,b2,b3⟩:=xb;obtain⟨q1,q2,q3⟩:=pq;simp only[B3.mk.injEq]at hz;simp only at hxa hxb hsin;have hcost:=hos.1;unfold bd1 at hpq;simp only at hpq;have hmx1:0≤mx a1 b1∧mx a1 b1≤4097:=by unfold mx;split<;>omega
   have hmx2:0≤mx a2 b2∧mx a2 b2≤9:=by unfold mx;split<;>omega
   have hmx3:0≤mx a3 b3∧mx a3 b3≤67108865:=by unfold mx;split<;>omega
   have hw2:IntKind.i64.wrap (1+mx a1 b1)=1+mx a1 b1:=Xc (by omega) (by omega);have hw3:IntKind.i64.wrap (sc+mx a3 b3)=sc+mx a3 b3:=Xc (by omega) (by omega);clear hlt h5 iha ihb ih hxa' hxb' hmem hnm hd he hos;refine X0<|X5<|X0<|(Xn (by simp[*,Ql,CR];rfl) ?_);refine X0<|(QR [⟨true,.tup [li a1,li a2,li a3],none⟩] (by simp[*,Ql,CR];first|exact⟨rfl,Iff.rfl⟩|exact⟨rfl,trivial⟩|rfl) ?_ ?_)
   · first|exact ca _|exact trivial|simpa[*,Ql,CR]using ca _
   refine X0<|(QR [⟨true,.tup [li b1,li b2,li b3],none⟩] (by simp[*,Ql,CR];first|exact⟨rfl,Iff.rfl⟩|exact⟨rfl,trivial⟩|rfl) ?_ ?_)
   · first|exact cb _|exact trivial|simpa[*,Ql,CR]using cb _
   refine X0<|(Qk [⟨true,.v (li (mx a1 b1)),none⟩,⟨true,.v (li (mx a2 b2)),none⟩,⟨true,.v (li (mx a3 b3)),none⟩] (by kernel_rfl) (by kernel_rfl) (by rfl) (by simp[*,Ql,CR];first|exact⟨rfl,Iff.rfl⟩|exact⟨rfl,trivial⟩|rfl) ?_ ?_)
   · first|exact⟨QB _ _ _,QB _ _ _,QB _ _ _⟩|exact trivial|(repeat' first|exact trivial|exact QB _ _ _|exact QB _ _ _|exact QB _ _ _|apply And.intro)
   refine(XO [0,5,6,7,8,9] (fun(z:Int)=>[(16,.v (li q1)),(17,.v (li z)),(18,.v (li q3))]) (fun(z:Int)=>[(9,.box [.c (iC sd),.c (iC sc),.c (iC sv),.c (iC sn),.c (iC so),.c (iC stn),.c (.sl 3 (Xo sks)),.c (.sl 10 (Xa sa)),.c (.sl 10 (Xa sb)),.c (.sl 1 (Xj sbs))])]) (fun(z:Int)=>(sd≠1→z=q2)∧(sd=1→q2=1)∧q1≤4503874505281537∧q2≤4503874505281537∧q3≤4503874505281537) ?_ ?_)
   ·
    refine X0<|(Xn (by simp[*,Ql,CR];rfl) ?_);refine(Xe rfl (fun h12=>?_) fun h12=>?_)
    · (try simp only[BN]at h12);rw[if_pos h12]at hpq;simp only[B3.mk.injEq]at hpq;obtain⟨p1,p2,p3⟩:=hpq;have hnn:0≤sn∧sn≤4096:=by omega
      have m4:=mulN hnn (z:=1+a1) (by omega);have m5:=mulN hnn (z:=a2) (by omega);have m6:=mulN hnn (z:=sc+a3) (by omega);have hw2:IntKind.i64.wrap (1+a1)=1+a1:=Xc (by omega) (by omega);have hw3:IntKind.i64.wrap (sn*(1+a1))=sn*(1+a1):=Xc (by omega) (by omega);have hw4:IntKind.i64.wrap (1+sn*(1+a1))=q1:=by rw[←p1];exact Xc (by omega) (by omega)
      have hw5:IntKind.i64.wrap (sn*a2)=q2:=by rw[←p2];exact Xc (by omega) (by omega)
      have hw6:IntKind.i64.wrap (sc+a3)=sc+a3:=Xc (by omega) (by omega);have hw7:IntKind.i64.wrap (sn*(sc+a3))=q3:=by rw[←p3];exact Xc (by omega) (by omega)
      have hq:q1≤4503874505281537∧q2≤4503874505281537∧q3≤4503874505281537:=by omega
      clear p1 p2 p3 m4 m5 m6 hz;refine(Q6 (by kernel_rfl) (by kernel_rfl) (by rfl) (by simp[*,Ql,CR];rfl) ?_);exact⟨q2,⟨fun _=>rfl,fun h=>absurd h (by omega),hq⟩,X6 (fun n=>n) []⟩
    try simp only[BN]at h12
    have hfin:q1=1+mx a1 b1∧q3=sc+mx a3 b3∧(sd≠1→mx a2 b2=q2)∧(sd=1→q2=1):=by
     rw[if_neg h12]at hpq;by_cases h3:sd=3
     · rw[if_pos h3]at hpq;simp only[B3.mk.injEq]at hpq;exact⟨hpq.1.symm,hpq.2.2.symm,fun _=>hpq.2.1,fun h=>absurd h (by omega)⟩
     rw[if_neg h3]at hpq;obtain⟨⟨e1,e2,e3⟩,e4,e5,e6⟩:=hz h3 h12;subst e1 e2 e3 e4 e5 e6;by_cases h1:sd=1
     · rw[if_pos h1]at hpq;simp only[B3.mk.injEq]at hpq;exact⟨by rw[←hpq.1];rfl,by rw[←hpq.2.2];simp[mx],fun h=>absurd h1 h,fun _=>hpq.2.1.symm⟩
     rw[if_neg h1]at hpq;simp only[B3.mk.injEq]at hpq;exact⟨by rw[←hpq.1];rfl,by rw[←hpq.2.2];simp[mx],fun _=>by rw[←hpq.2.1];rfl,fun h=>absurd h h1⟩
    obtain⟨f1,f2,f3,f4⟩:=hfin;have hq1:q1≤4503874505281537:=by omega
    have hq3:q3≤4503874505281537:=by omega
    have hq2:q2≤4503874505281537:=by
     by_cases h:sd=1
     · have:=f4 h;omega
     have:=f3 h;omega
    clear hpq hz;exact⟨mx a2 b2,⟨f3,f4,hq1,hq2,hq3⟩,X6 (fun n=>n) []⟩
   rintro z2 ⟨hz2,hz3,hq⟩;simp only[upS,X8,Xy]
   try simp only[X8,KN,Nat.reduceBEq,if_true,if_false,ins,Nat.reduceLT]
   clear hpq hz hw2 hw3 ca cb;refine(XO [0,5,6,7,8,16,18] (fun(z:Unit)=>[(17,.v (li q2))]) (fun(z:Unit)=>[]) (fun(z:Unit)=>True) ?_ ?_)
   ·
    refine X0<|(Xn (by simp[*,Ql,CR];rfl) ?_);refine(Xe rfl (fun h18=>?_) fun h18=>?_)
    · (try simp only[BN]at h18);have hq21:=hz3 h18;refine(Xn (by simp[*,Ql,CR];rfl) ?_);exact⟨(),trivial,X6 (fun n=>n) []⟩
    (try simp only[BN]at h18);have hq21:=hz2 h18;exact⟨(),trivial,X6 (fun n=>n) []⟩
   rintro _ _;simp only[upS,X8,Xy]
   try simp only[X8,KN,Nat.reduceBEq,if_true,if_false,ins,Nat.reduceLT]
   clear hz2 hz3;obtain⟨hq1,hq2,hq3⟩:=hq;have hw2:IntKind.i64.wrap (m1+q1)=m1+q1:=Xc (by omega) (by omega);have hw3:IntKind.i64.wrap (m2+q2)=m2+q2:=Xc (by omega) (by omega);have hw4:IntKind.i64.wrap (m3+q3)=m3+q3:=Xc (by omega) (by omega);have hin2:in3 CR (Ql CR ⟨m1,m2,m3⟩ ⟨q1,q2,q3⟩):=X3x X4u ⟨hin.1,hin.2.2.1,hin.2.2.2.2.1⟩ ⟨hsin.1,hsin.2.1,hsin.2.2⟩;refine X0<|(QR [⟨true,.v (li (mn (m1+q1) 4097)),none⟩] (by simp[*,Ql,CR];first|exact⟨rfl,Iff.rfl⟩|exact⟨rfl,trivial⟩|rfl) ?_ ?_)
   · first|exact Qv _ _ _|exact trivial|simpa[*,Ql,CR]using Qv _ _ _
   refine X0<|(QR [⟨true,.v (li (mn (m2+q2) 9)),none⟩] (by simp[*,Ql,CR];first|exact⟨rfl,Iff.rfl⟩|exact⟨rfl,trivial⟩|rfl) ?_ ?_)
   · first|exact Qv _ _ _|exact trivial|simpa[*,Ql,CR]using Qv _ _ _
   refine(QR [⟨true,.v (li (mn (m3+q3) 67108865)),none⟩] (by simp[*,Ql,CR];first|exact⟨rfl,Iff.rfl⟩|exact⟨rfl,trivial⟩|rfl) ?_ ?_)
   · first|exact Qv _ _ _|exact trivial|simpa[*,Ql,CR]using Qv _ _ _
   refine(Xn (by simp[*,Ql,CR];rfl) ?_);exact⟨(k+1,Ql CR ⟨m1,m2,m3⟩ ⟨q1,q2,q3⟩),⟨hk1,hJ,hin2⟩,by simp only;omega,Xu (fun n=>n) [] rfl (by simp[upS,X8, *,Ql,CR]) (by simp[*,upS,Ql,CR]) (by simp[upS])⟩
 (try simp only[BN]at h5);have hkl:k=l.length:=by omega
 rw[hkl,List.drop_length]at hJ;simp only[bdL]at hJ;subst hJ;refine(Xg ?_);refine X0<|(Xn (by simp[*,Ql,CR];rfl) ?_);exact(Xm (fun h=>⟨.inr rfl,h⟩) _ (by simp[*,Ql,CR];rfl) (by first|rfl|(simp[*];done)|(simp only[XN];(repeat' split)<;>first|rfl|(exfalso;omega)|simp_all)) (by simp))
end Go.Proofs.YtppjennamodfdaaGreat

namespace Go.Proofs.YtppjennamodfdaaGreat
open Go Go.Hl
theorem X1G {ks:List Tm} {t:Tm} (ht:t∈ks):t.nodes≤Qr ks:=X0D ht
theorem X6m (t:Tm):t.nodes≤1000000000→∀d:Nat,Con Tryz.prog 91 true [aT t] (.v (li t.nodes)) none d:=by
 induction t using Tm.ind with
 |h o n ks ih=>
 intro hn d;simp only[Tm.nodes]at hn⊢;have hlen:=W8 ks;obtain⟨res,hres⟩:∃r,Qr ks=r:=⟨_,rfl⟩;rw[hres]at hn⊢;refine X7 Tryz.func91 ?_;simp only[Tryz.f91];simp only[aT,Tm.enc];refine X4 ?_;refine X4 ?_;refine X0<|X0<|X3 ?_;refine X5<|(Xd [1] (fun(x:Nat×Nat)=>[(3,.v (li ((x.2:Nat):Int))),(4,.v (li x.1))]) (fun x=>[(1,.box [.c (iC o),.c (iC n),.c (.sl 3 (Xo ks))])]) (fun x=>x.1≤ks.length∧x.2+Qr (ks.drop x.1)=1+res) (fun x=>ks.length - x.1) (0,1) ⟨Nat.zero_le _,by simp[hres]⟩ ?_ ?_)
 · exact X6 (fun n=>n) []
 rintro⟨k,m⟩ ⟨hk,hJ⟩;simp only[upS,X8,Xy]
 try simp only[X8,KN,Nat.reduceBEq,if_true,if_false,ins,Nat.reduceLT]
 simp only at hk hJ;refine X0<|X0<|X3 ?_;refine(X9 rfl (fun h5=>Xb ?_) (fun h5=>?_))
 · (try simp only[BN]at h5);have hlt:k<ks.length:=by omega
   obtain⟨⟨eo,en,ek⟩,he,hd⟩:=Xq hlt;have he':=Wt he;simp only[Tm.enc]at he';have hmem:Tm.mk eo en ek∈ks:=List.mem_of_getElem? he;have hnm:=X0D hmem;have c:=ih _ hmem (by omega);have hw1:=XA hlt (by omega);have hk1:k+1≤ks.length:=hlt;rw[hd]at hJ;simp only[Qr]at hJ;generalize Tm.nodes (.mk eo en ek)=q at*;have hw2:IntKind.i64.wrap ((m:Int)+(q:Int))=(m:Int)+(q:Int):=Xc (by omega) (by omega);clear hlt h5 ih hmem;refine X0<|X5<|(Xp [⟨true,.v (li (q:Int)),none⟩] ?_ ?_)
   · first|exact c _|exact trivial|simpa[*]using c _
   refine X3 ?_;exact⟨(k+1,m+q),⟨hk1,by simp only;omega⟩,by simp only;omega,X6 (fun n=>n) []⟩
 (try simp only[BN]at h5);have hkl:k=ks.length:=by omega
 rw[hkl,List.drop_length]at hJ;simp only[Qr]at hJ;have hm:(m:Int)=1+(res:Int):=by omega
 refine(Xg ?_);refine X4 ?_;exact Xh
theorem XcW (l:List St):Xl l≤1000000000→∀d:Nat,Con Tryz.prog 90 true [lS l] (.v (li (Xl l))) none d:=by
 revert l
 apply St.lists;intro l ih hn d;have hlen:=Q9 l;obtain⟨res,hres⟩:∃r,Xl l=r:=⟨_,rfl⟩;rw[hres];refine X7 Tryz.func90 ?_;simp only[Tryz.f90];refine X4 ?_;refine X4 ?_;refine X0<|X0<|X3 ?_;refine X5<|(Xd [0] (fun(x:Nat×Nat)=>[(3,.v (li ((x.2:Nat):Int))),(4,.v (li x.1))]) (fun x=>[]) (fun x=>x.1≤l.length∧x.2+Xl (l.drop x.1)=res) (fun x=>l.length - x.1) (0,0) ⟨Nat.zero_le _,by simp[hres]⟩ ?_ ?_)
 · exact X6 (fun n=>n) []
 rintro⟨k,m⟩ ⟨hk,hJ⟩;simp only[upS,X8,Xy]
 try simp only[X8,KN,Nat.reduceBEq,if_true,if_false,ins,Nat.reduceLT]
 simp only at hk hJ;refine X0<|X0<|X3 ?_;refine(X9 rfl (fun h5=>Xb ?_) (fun h5=>?_))
 · (try simp only[BN]at h5);have hlt:k<l.length:=by omega
   obtain⟨s,he,hd⟩:=Xq hlt;have hmem:s∈l:=List.mem_of_getElem? he;have hnm:=Qm hmem;have iha:=fun h=>(ih s hmem).1 h;have ihb:=fun h=>(ih s hmem).2 h;have hw1:=XA hlt (by omega);have hk1:k+1≤l.length:=hlt;have ct:=X6m s.term;rw[hd]at hJ;obtain⟨sd,sc,sv,sn,⟨so,stn,sks⟩,sa,sb,sbs⟩:=s;simp only[St.then_,St.else_,St.term]at iha ihb hnm ct;simp only[Xl,St.nodes]at hJ;have ca:=iha (by omega);have cb:=ihb (by omega);have ct:=ct (by omega);have he':=XX he;simp only[St.enc,Tm.enc,List.cons_append,List.nil_append]at he';generalize Tm.nodes (.mk so stn sks)=q at*;generalize Xl sa=na at*;generalize Xl sb=nb at*;have hw2:IntKind.i64.wrap ((m:Int)+1)=(m:Int)+1:=Xc (by omega) (by omega);have hw3:IntKind.i64.wrap ((m:Int)+1+(q:Int))=(m:Int)+1+(q:Int):=Xc (by omega) (by omega);have hw4:IntKind.i64.wrap ((m:Int)+1+(q:Int)+(na:Int))=(m:Int)+1+(q:Int)+(na:Int):=Xc (by omega) (by omega);have hw5:IntKind.i64.wrap ((m:Int)+1+(q:Int)+(na:Int)+(nb:Int))=(m:Int)+1+(q:Int)+(na:Int)+(nb:Int):=Xc (by omega) (by omega);clear hlt h5 ih hmem iha ihb;refine X0<|X5<|(Qk [⟨true,.v (li (q:Int)),none⟩,⟨true,.v (li (na:Int)),none⟩,⟨true,.v (li (nb:Int)),none⟩] (by kernel_rfl) (by kernel_rfl) (by rfl) (by simp[*];first|exact⟨rfl,Iff.rfl⟩|exact⟨rfl,trivial⟩|rfl) ?_ ?_)
   · first|exact⟨ct _,ca _,cb _⟩|exact trivial|(repeat' first|exact trivial|exact ct _|exact ca _|exact cb _|apply And.intro)
   refine X3 ?_;exact⟨(k+1,m+1+q+na+nb),⟨hk1,by simp only;omega⟩,by simp only;omega,X6 (fun n=>n) []⟩
 (try simp only[BN]at h5);have hkl:k=l.length:=by omega
 rw[hkl,List.drop_length]at hJ;simp only[Xl]at hJ;have hm:m=res:=by omega
 refine(Xg ?_);refine X4 ?_;exact Xh
mutual
def tdT:Tm→Nat
 | .mk _ _ ks=>X48 ks+1
def X48:List Tm→Nat
 |[]=>0
 |t::l=>max (tdT t) (X48 l)
end
mutual
theorem td_le:∀t:Tm,tdT t≤t.nodes
 | .mk o n ks=>by have:=Xaj ks;simp only[tdT,Tm.nodes];omega
theorem Xaj:∀l:List Tm,X48 l≤Qr l
 |[]=>by simp[X48]
 |t::l=>by have:=td_le t;have:=Xaj l;simp only[X48,Qr];omega
end
theorem X5m (t:Tm):t.nodes≤1000000000→∀d:Nat,Con Tryz.prog 92 true [aT t] (.v (li (tdT t))) none d:=by
 induction t using Tm.ind with
 |h o n ks ih=>
 intro hn d;simp only[Tm.nodes]at hn;simp only[tdT];have hlen:=W8 ks;have htl:=Xaj ks;obtain⟨res,hres⟩:∃r,X48 ks=r:=⟨_,rfl⟩;rw[hres]at htl⊢;refine X7 Tryz.func92 ?_;simp only[Tryz.f92];simp only[aT,Tm.enc];refine X4 ?_;refine X4 ?_;refine X0<|X0<|X3 ?_;refine X5<|(Xd [1] (fun(x:Nat×Nat)=>[(3,.v (li ((x.2:Nat):Int))),(4,.v (li x.1))]) (fun x=>[(1,.box [.c (iC o),.c (iC n),.c (.sl 3 (Xo ks))])]) (fun x=>x.1≤ks.length∧max x.2 (X48 (ks.drop x.1))=res) (fun x=>ks.length - x.1) (0,0) ⟨Nat.zero_le _,by simp[hres]⟩ ?_ ?_)
 · exact X6 (fun n=>n) []
 rintro⟨k,m⟩ ⟨hk,hJ⟩;simp only[upS,X8,Xy]
 try simp only[X8,KN,Nat.reduceBEq,if_true,if_false,ins,Nat.reduceLT]
 simp only at hk hJ;refine X0<|X0<|X3 ?_;refine(X9 rfl (fun h5=>Xb ?_) (fun h5=>?_))
 · (try simp only[BN]at h5);have hlt:k<ks.length:=by omega
   obtain⟨⟨eo,en,ek⟩,he,hd⟩:=Xq hlt;have he':=Wt he;simp only[Tm.enc]at he';have hmem:Tm.mk eo en ek∈ks:=List.mem_of_getElem? he;have hnm:=X0D hmem;have c:=ih _ hmem (by omega);have hw1:=XA hlt (by omega);have hk1:k+1≤ks.length:=hlt;rw[hd]at hJ;simp only[X48]at hJ;generalize tdT (.mk eo en ek)=q at*;clear hlt h5 ih hmem;refine X0<|X5<|X0<|(Xp [⟨true,.v (li (q:Int)),none⟩] ?_ ?_)
   · first|exact c _|exact trivial|simpa[*]using c _
   refine X4 ?_;refine(Xe rfl (fun h8=>?_) fun h8=>?_)
   · (try simp only[BN]at h8);refine X3 ?_;refine X3 ?_;exact⟨(k+1,q),⟨hk1,by simp only;omega⟩,by simp only;omega,X6 (fun n=>n) []⟩
   (try simp only[BN]at h8);refine X3 ?_;exact⟨(k+1,m),⟨hk1,by simp only;omega⟩,by simp only;omega,X6 (fun n=>n) []⟩
 (try simp only[BN]at h5);have hkl:k=ks.length:=by omega
 rw[hkl,List.drop_length]at hJ;simp only[X48]at hJ;have hm:m=res:=by omega
 subst hm;have hw:IntKind.i64.wrap ((m:Int)+1)=(m:Int)+1:=Xc (by omega) (by omega);refine(Xg ?_);refine X4 ?_;exact Xh
def sdL:List St→Nat
 |[]=>0
 | .mk _ _ _ _ _ a b _::l=>max (max (sdL a+1) (sdL b+1)) (sdL l)
theorem X9A:∀l:List St,sdL l≤Xl l
 |[]=>by simp[sdL]
 | .mk _ _ _ _ t a b _::l=>by have:=X9A a;have:=X9A b;have:=X9A l;have:=X73 t;simp only[sdL,Xl,St.nodes];omega
theorem XaQ (l:List St):Xl l≤1000000000→∀d:Nat,Con Tryz.prog 93 true [lS l] (.v (li (sdL l))) none d:=by
 revert l
 apply St.lists;intro l ih hn d;have hlen:=Q9 l;obtain⟨res,hres⟩:∃r,sdL l=r:=⟨_,rfl⟩;rw[hres];refine X7 Tryz.func93 ?_;simp only[Tryz.f93];refine X4 ?_;refine X4 ?_;refine X0<|X0<|X3 ?_;refine X5<|(Xd [0] (fun(x:Nat×Nat)=>[(3,.v (li ((x.2:Nat):Int))),(4,.v (li x.1))]) (fun x=>[]) (fun x=>x.1≤l.length∧max x.2 (sdL (l.drop x.1))=res) (fun x=>l.length - x.1) (0,0) ⟨Nat.zero_le _,by simp[hres]⟩ ?_ ?_)
 · exact X6 (fun n=>n) []
 rintro⟨k,m⟩ ⟨hk,hJ⟩;simp only[upS,X8,Xy]
 try simp only[X8,KN,Nat.reduceBEq,if_true,if_false,ins,Nat.reduceLT]
 simp only at hk hJ;refine X0<|X0<|X3 ?_;refine(X9 rfl (fun h5=>Xb ?_) (fun h5=>?_))
 · (try simp only[BN]at h5);have hlt:k<l.length:=by omega
   obtain⟨s,he,hd⟩:=Xq hlt;have hmem:s∈l:=List.mem_of_getElem? he;have hnm:=Qm hmem;have iha:=fun h=>(ih s hmem).1 h;have ihb:=fun h=>(ih s hmem).2 h;have hw1:=XA hlt (by omega);have hk1:k+1≤l.length:=hlt;rw[hd]at hJ;obtain⟨sd,sc,sv,sn,⟨so,stn,sks⟩,sa,sb,sbs⟩:=s;simp only[St.then_,St.else_,St.term]at iha ihb hnm;simp only[sdL]at hJ;have ca:=iha (by omega);have cb:=ihb (by omega);have ha:=X9A sa;have hb:=X9A sb;have he':=XX he;simp only[St.enc,Tm.enc,List.cons_append,List.nil_append]at he';generalize sdL sa=na at*;generalize sdL sb=nb at*;have hw2:IntKind.i64.wrap ((na:Int)+1)=(na:Int)+1:=Xc (by omega) (by omega);have hw3:IntKind.i64.wrap ((nb:Int)+1)=(nb:Int)+1:=Xc (by omega) (by omega);clear hlt h5 ih hmem iha ihb;refine X0<|X5<|X0<|(Xp [⟨true,.v (li (na:Int)),none⟩] ?_ ?_)
   · first|exact ca _|exact trivial|simpa[*]using ca _
   refine Xk [⟨true,.v (li (nb:Int)),none⟩] ?_ ?_
   · first|exact cb _|exact trivial|simpa[*]using cb _
   refine(XO [0,4,6] (fun(z:Nat)=>[(3,.v (li (z:Int)))]) (fun(z:Nat)=>[]) (fun(z:Nat)=>z=max m (na+1)) ?_ ?_)
   ·
    refine X4 ?_;refine(Xe rfl (fun h10=>?_) fun h10=>?_)
    · (try simp only[BN]at h10);have hz:max m (na+1)=na+1:=by omega
      refine X3 ?_;exact⟨na+1,hz.symm,X6 (fun n=>n) []⟩
    (try simp only[BN]at h10);have hz:max m (na+1)=m:=by omega
    exact⟨m,hz.symm,X6 (fun n=>n) []⟩
   rintro z hz;simp only[upS,X8,Xy]
   try simp only[X8,KN,Nat.reduceBEq,if_true,if_false,ins,Nat.reduceLT]
   refine X4 ?_;refine(Xe rfl (fun h15=>?_) fun h15=>?_)
   · (try simp only[BN]at h15);refine X3 ?_;refine X3 ?_;exact⟨(k+1,nb+1),⟨hk1,by simp only;omega⟩,by simp only;omega,X6 (fun n=>n) []⟩
   (try simp only[BN]at h15);refine X3 ?_;exact⟨(k+1,z),⟨hk1,by simp only;omega⟩,by simp only;omega,X6 (fun n=>n) []⟩
 (try simp only[BN]at h5);have hkl:k=l.length:=by omega
 rw[hkl,List.drop_length]at hJ;simp only[sdL]at hJ;have hm:m=res:=by omega
 refine(Xg ?_);refine X4 ?_;exact Xh
def WB:List St→Bool
 |[]=>false
 | .mk _ _ _ _ t a b _::l=>((decide (12<tdT t)||WB a)||WB b)||WB l
theorem Xc1 (l:List St):Xl l≤1000000000→∀d:Nat,Con Tryz.prog 94 true [lS l] (.v (lb (WB l))) none d:=by
 revert l
 apply St.lists;intro l ih hn d;have hlen:=Q9 l;obtain⟨res,hres⟩:∃r,WB l=r:=⟨_,rfl⟩;rw[hres];refine X7 Tryz.func94 ?_;simp only[Tryz.f94];refine X4 ?_;refine X0<|X0<|X3 ?_;refine X5<|(Xd [0] (fun(x:Nat)=>[(3,.v (li x))]) (fun x=>[]) (fun x=>x≤l.length∧WB (l.drop x)=res) (fun x=>l.length - x) (0:Nat) ⟨Nat.zero_le _,hres⟩ ?_ ?_)
 · exact X6 (fun n=>n) []
 rintro k ⟨hk,hJ⟩;simp only[upS,X8,Xy]
 try simp only[X8,KN,Nat.reduceBEq,if_true,if_false,ins,Nat.reduceLT]
 refine X0<|X0<|X3 ?_;refine(X9 rfl (fun h4=>Xb ?_) (fun h4=>?_))
 · (try simp only[BN]at h4);have hlt:k<l.length:=by omega
   obtain⟨s,he,hd⟩:=Xq hlt;have hmem:s∈l:=List.mem_of_getElem? he;have hnm:=Qm hmem;have iha:=fun h=>(ih s hmem).1 h;have ihb:=fun h=>(ih s hmem).2 h;have hw1:=XA hlt (by omega);have hk1:k+1≤l.length:=hlt;have ct:=X5m s.term;rw[hd]at hJ;obtain⟨sd,sc,sv,sn,⟨so,stn,sks⟩,sa,sb,sbs⟩:=s;simp only[St.then_,St.else_,St.term]at iha ihb hnm ct;simp only[WB]at hJ;have ca:=iha (by omega);have cb:=ihb (by omega);have ct:=ct (by omega);have he':=XX he;simp only[St.enc,Tm.enc,List.cons_append,List.nil_append]at he';generalize tdT (.mk so stn sks)=q at*;generalize WB sa=na at*;generalize WB sb=nb at*;clear hlt h4 ih hmem iha ihb;refine X0<|X5<|X0<|(Xp [⟨true,.v (li (q:Int)),none⟩,⟨true,.v (lb na),none⟩,⟨true,.v (lb nb),none⟩] ?_ ?_)
   · first|exact⟨ct _,ca _,cb _⟩|exact trivial|(repeat' first|exact trivial|exact ct _|exact ca _|exact cb _|apply And.intro)
   refine(Xe rfl (fun h6=>?_) fun h6=>?_)
   · try simp only[BN]at h6
     have hz:res=true:=by
      rw[←hJ];simp only[Bool.or_eq_true,decide_eq_true_eq];rcases h6 with(h|h)|h
      · exact .inl (.inl (.inl (by omega)))
      · exact .inl (.inl (.inr h))
      exact .inl (.inr h)
     refine X4 ?_;exact Xh
   try simp only[BN]at h6
   have hz:WB (l.drop (k+1))=res:=by
    rw[←hJ];have h12:decide (12<q)=false:=decide_eq_false (by omega);rw[h12,h6.1.2,h6.2];rfl
   clear hJ;refine X3 ?_;exact⟨k+1,⟨hk1,hz⟩,by omega,X6 (fun n=>n) []⟩
 (try simp only[BN]at h4);have hkl:k=l.length:=by omega
 rw[hkl,List.drop_length]at hJ;simp only[WB]at hJ;subst hJ;refine(Xg ?_);refine X4 ?_;exact Xh
end Go.Proofs.YtppjennamodfdaaGreat

namespace Go.Proofs.YtppjennamodfdaaGreat
open Go Go.Hl
def mSs:List St→Int→Int×Bool→Int×Bool
 |[],_,s=>s
 | .mk _ _ _ _ t a b _::l,dep,s=>
   if((s.2||decide (12<dep))||decide (1024<s.1+1))=true then(s.1+1,s.2||decide (12<dep))
   else mSs l dep (mSs b (dep+1) (mSs a (dep+1) (mTm t 1 (s.1+1,s.2||decide (12<dep)))))
theorem X0l:∀(l:List St) (dep:Int) (s:Int×Bool),s.1≤(mSs l dep s).1∧(mSs l dep s).1≤s.1+Xl l
 |[],dep,s=>by simp[mSs,Xl]
 | .mk d c v n t a b bs::l,dep,s=>by
   simp only[mSs,Xl,St.nodes];have h1:=X1h t 1 (s.1+1,s.2||decide (12<dep));have h2:=X0l a (dep+1) (mTm t 1 (s.1+1,s.2||decide (12<dep)));have h3:=X0l b (dep+1) (mSs a (dep+1) (mTm t 1 (s.1+1,s.2||decide (12<dep))));have h4:=X0l l dep (mSs b (dep+1) (mSs a (dep+1) (mTm t 1 (s.1+1,s.2||decide (12<dep)))));split
   · simp only;omega
   simp only at h1;omega
theorem Xan (l:List St):∀(dep c:Int) (b:Bool),0≤dep→0≤c→c+Xl l≤1000000000→
  X8q Tryz.prog 161 [iC c,bC b] [lS l,li dep] (.tup []) [iC (mSs l dep (c,b)).1,bC (mSs l dep (c,b)).2]:=by
 revert l
 apply St.lists;intro l ih dep c b hdep hc hn;have hlen:=Q9 l;obtain⟨res,hres⟩:∃r,mSs l dep (c,b)=r:=⟨_,rfl⟩;rw[hres];refine X2R Tryz.func161 rfl (by kernel_rfl) (Nat.le_of_ble_eq_true rfl) ?_;simp only[Tryz.f161];refine X4 ?_;refine X5<|(Xd [0,2,8,9] (fun(x:Nat×Int×Bool)=>[(10,.v (li x.1))]) (fun x=>[(1000000,.box [.c (iC x.2.1),.c (bC x.2.2)])]) (fun x=>x.1≤l.length∧mSs (l.drop x.1) dep x.2=res∧0≤x.2.1∧x.2.1+Xl (l.drop x.1)≤1000000000) (fun x=>l.length - x.1) (0,c,b) ⟨Nat.zero_le _,hres,hc,by simpa using hn⟩ ?_ ?_)
 · exact X6 (fun n=>n) []
 rintro⟨k,m,q⟩ ⟨hk,hJ,hm,hb⟩;simp only[upS,X8,Xy]
 try simp only[X8,KN,Nat.reduceBEq,if_true,if_false,ins,Nat.reduceLT]
 simp only at hk hJ hm hb;clear hres;refine X4 ?_;refine X0<|(X9 rfl (fun h3=>Xb ?_) (fun h3=>?_))
 · (try simp only[BN]at h3);have hlt:k<l.length:=by omega
   obtain⟨s,he,hd⟩:=Xq hlt;have hmem:s∈l:=List.mem_of_getElem? he;have iha:=(ih s hmem).1;have ihb:=(ih s hmem).2;have hw1:=XA hlt (by omega);have hk1:k+1≤l.length:=hlt;rw[hd]at hJ hb;obtain⟨sd,sc,sv,sn,⟨so,stn,sks⟩,sa,sb,sbs⟩:=s;simp only[St.then_,St.else_]at iha ihb;simp only[mSs]at hJ;simp only[Xl,St.nodes]at hb;have he':=XX he;simp only[St.enc,Tm.enc,List.cons_append,List.nil_append]at he';have hw2:IntKind.i64.wrap (m+1)=m+1:=Xc (by omega) (by omega);clear hlt h3 ih hmem hd he;refine X0<|X5<|X0<|X3 ?_;refine X4 ?_;refine X4 ?_;refine X0<|X0<|(Xp [⟨true,.v (lb ((q||decide (12<dep))||decide (1024<m+1))),none⟩] ?_ ?_)
   · first|exact Za _ _ _|exact trivial|simpa[*]using Za _ _ _
   refine(Xe rfl (fun h8=>?_) fun h8=>?_)
   · (try simp only[BN]at h8);rw[if_pos (by simpa using h8)]at hJ;subst hJ;exact XU (⟨.inr rfl,_,le_refl _,⟨_,by simp[*];rfl,by simp[XN]⟩,by simp[*]⟩)
   (try simp only[BN]at h8);rw[if_neg (by simpa using h8)]at hJ;have hq0:q=false:=h8.1.1;have hdep2:dep≤12:=by omega
   have hwd:IntKind.i64.wrap (dep+1)=dep+1:=Xc (by omega) (by omega);have hqd:(q||decide (12<dep))=false:=by rw[hq0];simp;omega
   rw[hqd]at hJ;have e1:=X1h (.mk so stn sks) 1 (m+1,false);obtain⟨p1,hp1⟩:∃p,mTm (.mk so stn sks) 1 (m+1,false)=p:=⟨_,rfl⟩;have cio1:=X7h (.mk so stn sks) 1 (m+1) false (by omega) (by omega) (by omega);rw[hp1]at cio1 e1 hJ;obtain⟨c1,b1⟩:=p1;simp only at cio1 e1;have e2:=X0l sa (dep+1) (c1,b1);have cio2:=iha (dep+1) c1 b1 (by omega) (by omega) (by omega);obtain⟨p2,hp2⟩:∃p,mSs sa (dep+1) (c1,b1)=p:=⟨_,rfl⟩;rw[hp2]at cio2 e2 hJ;obtain⟨c2,b2⟩:=p2;simp only at cio2 e2;have e3:=X0l sb (dep+1) (c2,b2);have cio3:=ihb (dep+1) c2 b2 (by omega) (by omega) (by omega);obtain⟨p3,hp3⟩:∃p,mSs sb (dep+1) (c2,b2)=p:=⟨_,rfl⟩;rw[hp3]at cio3 e3 hJ;obtain⟨c3,b3⟩:=p3;simp only at cio3 e3;clear iha ihb hp1 hp2 hp3 h8 hqd;refine X0<|(X0P 3 (.tup []) ([iC c1,bC b1]) rfl (by simp[*];rfl) (by simp[ioOf, *];first|exact⟨rfl,rfl,rfl,rfl,rfl⟩|exact⟨rfl,rfl,rfl,rfl⟩|exact⟨rfl,rfl,rfl⟩|exact⟨rfl,rfl⟩|rfl) (cio1) (by simp) (by simp[*];rfl) ?_);refine X0<|(X0P 5 (.tup []) ([iC c2,bC b2]) rfl (by simp[*];rfl) (by simp[ioOf, *];first|exact⟨rfl,rfl,rfl,rfl,rfl⟩|exact⟨rfl,rfl,rfl,rfl⟩|exact⟨rfl,rfl,rfl⟩|exact⟨rfl,rfl⟩|rfl) (cio2) (by simp) (by simp[*];rfl) ?_);refine(X0P 5 (.tup []) ([iC c3,bC b3]) rfl (by simp[*];rfl) (by simp[ioOf, *];first|exact⟨rfl,rfl,rfl,rfl,rfl⟩|exact⟨rfl,rfl,rfl,rfl⟩|exact⟨rfl,rfl,rfl⟩|exact⟨rfl,rfl⟩|rfl) (cio3) (by simp) (by simp[*];rfl) ?_);refine X3 ?_;exact⟨(k+1,c3,b3),⟨hk1,hJ,by simp only;omega,by simp only;omega⟩,by simp only;omega,X6 (fun n=>n) []⟩
 (try simp only[BN]at h3);have hkl:k=l.length:=by omega
 subst hkl;rw[List.drop_length]at hJ;simp only[mSs]at hJ;subst hJ;refine(Xg ?_);exact(⟨.inl rfl,_,le_refl _,⟨_,by simp[*];rfl,by simp[XN]⟩,by simp[*]⟩)
def Wa (s:Int×Bool):Bool:=s.2||decide (1024<s.1)
theorem X4m {s:Int×Bool} (h:Wa s=false):s.2=false∧s.1≤1024:=by
 simp only[Wa,Bool.or_eq_false_iff,decide_eq_false_iff_not]at h;exact⟨h.1,by omega⟩
mutual
theorem mTm_over:∀(t:Tm) (dep:Int) (s:Int×Bool),0≤s.1→Wa s=true→Wa (mTm t dep s)=true
 | .mk o n ks,dep,s,h0,h=>by
   have h1:Wa (s.1+1,s.2||decide (12<dep))=true:=by
    simp only[Wa,Bool.or_eq_true,decide_eq_true_eq]at h⊢;rcases h with h|h
    · exact .inl (.inl h)
    exact .inr (by omega)
   simp only[mTm];split
   · exact h1
   exact X4c ks (dep+1) _ (by simp only;omega) h1
theorem X4c:∀(l:List Tm) (dep:Int) (s:Int×Bool),0≤s.1→Wa s=true→Wa (X3w l dep s)=true
 |[],dep,s,_,h=>h
 |t::l,dep,s,h0,h=>X4c l dep _ (Int.le_trans h0 (X1h t dep s).1) (mTm_over t dep s h0 h)
end
mutual
theorem X7r:∀(t:Tm) (dep:Int) (s:Int×Bool),0≤s.1→dep≤13→Wa s=false→
  (s.1+t.nodes≤1024∧dep+tdT t≤13→mTm t dep s=(s.1+t.nodes,false))∧(¬(s.1+t.nodes≤1024∧dep+tdT t≤13)→Wa (mTm t dep s)=true)
 | .mk o n ks,dep,s,h0,hd,h=>by
   obtain⟨h1,h2⟩:=X4m h;simp only[mTm,Tm.nodes,tdT,h1,Bool.false_or];by_cases hc:(decide (12<dep)||decide (1024<s.1+1))=true
   · rw[if_pos hc];simp only[Bool.or_eq_true,decide_eq_true_eq]at hc;refine⟨fun hf=>by omega,fun _=>?_⟩;simp only[Wa,Bool.or_eq_true,decide_eq_true_eq];omega
   rw[if_neg hc];simp only[Bool.or_eq_true,decide_eq_true_eq,not_or]at hc;have hdd:decide (12<dep)=false:=decide_eq_false hc.1;rw[hdd];have hov:Wa (s.1+1,false)=false:=by simp only[Wa,Bool.false_or,decide_eq_false_iff_not];omega
   have:=X9i ks (dep+1) (s.1+1,false) (by simp only;omega) (by omega) hov;simp only at this;refine⟨fun hf=>?_,fun hf=>this.2 (by omega)⟩;rw[this.1 (by omega)];simp only[Prod.mk.injEq,and_true];omega
theorem X9i:∀(l:List Tm) (dep:Int) (s:Int×Bool),0≤s.1→dep≤13→Wa s=false→
  (s.1+Qr l≤1024∧dep+X48 l≤13→X3w l dep s=(s.1+Qr l,false))∧(¬(s.1+Qr l≤1024∧dep+X48 l≤13)→Wa (X3w l dep s)=true)
 | [],dep,s,h0,hd,h=>by
   obtain⟨h1,h2⟩:=X4m h;obtain⟨c,b⟩:=s;simp only at h1 h2;subst h1;simp only[X3w,Qr,X48];refine⟨fun _=>by simp,fun hf=>by omega⟩
 | t ::l,dep,s,h0,hd,h=>by
   simp only[X3w,Qr,X48];have ht:=X7r t dep s h0 hd h;by_cases hf:s.1+t.nodes≤1024∧dep+tdT t≤13
   · rw[ht.1 hf];have hov:Wa (s.1+t.nodes,false)=false:=by simp only[Wa,Bool.false_or,decide_eq_false_iff_not];omega
     have hl:=X9i l dep (s.1+t.nodes,false) (by simp only;omega) hd hov;simp only at hl;refine⟨fun h2=>?_,fun h2=>hl.2 (by omega)⟩;rw[hl.1 (by omega)];simp only[Prod.mk.injEq,and_true];omega
   refine⟨fun h2=>by omega,fun _=>X4c l dep _ (Int.le_trans h0 (X1h t dep s).1) (ht.2 hf)⟩
end
theorem X0U:∀(l:List St) (dep:Int) (s:Int×Bool),0≤s.1→Wa s=true→Wa (mSs l dep s)=true
 |[],dep,s,_,h=>by simp only[mSs];exact h
 | .mk d c v n t a b bs::l,dep,s,h0,h=>by
   have h1:Wa (s.1+1,s.2||decide (12<dep))=true:=by
    simp only[Wa,Bool.or_eq_true,decide_eq_true_eq]at h⊢;rcases h with h|h
    · exact .inl (.inl h)
    exact .inr (by omega)
   simp only[mSs];split
   · exact h1
   rename_i hc;exact absurd h1 hc
theorem X55:∀(l:List St) (dep:Int) (s:Int×Bool),0≤s.1→dep≤13→Wa s=false→
  (s.1+Xl l≤1024∧dep+sdL l≤13∧WB l=false→mSs l dep s=(s.1+Xl l,false))∧(¬(s.1+Xl l≤1024∧dep+sdL l≤13∧WB l=false)→Wa (mSs l dep s)=true)
 | [],dep,s,h0,hd,h=>by
   obtain⟨h1,h2⟩:=X4m h;obtain⟨c,b⟩:=s;simp only at h1 h2;subst h1;simp only[mSs,Xl,sdL,WB];refine⟨fun _=>by simp,fun hf=>absurd ⟨by omega,by omega,trivial⟩ hf⟩
 | .mk d c v n t a b bs::l,dep,s,h0,hd,h=>by
   obtain⟨h1,h2⟩:=X4m h;simp only[mSs,Xl,St.nodes,sdL,WB,h1,Bool.false_or,Bool.or_eq_false_iff,decide_eq_false_iff_not];by_cases hc:(decide (12<dep)||decide (1024<s.1+1))=true
   · rw[if_pos hc];simp only[Bool.or_eq_true,decide_eq_true_eq]at hc;refine⟨fun hf=>by omega,fun _=>?_⟩;simp only[Wa,Bool.or_eq_true,decide_eq_true_eq];omega
   rw[if_neg hc];simp only[Bool.or_eq_true,decide_eq_true_eq,not_or]at hc;have hdd:decide (12<dep)=false:=decide_eq_false hc.1;rw[hdd]
   have ov:∀x:Int,x≤1024→Wa (x,false)=false:=by
    intro x hx;simp only[Wa,Bool.false_or,decide_eq_false_iff_not];omega
   have ht:=X7r t 1 (s.1+1,false) (by simp only;omega) (by omega) (ov _ (by omega));have g1:=(X1h t 1 (s.1+1,false)).1;have g2:=(X0l a (dep+1) (mTm t 1 (s.1+1,false))).1;have g3:=(X0l b (dep+1) (mSs a (dep+1) (mTm t 1 (s.1+1,false)))).1;simp only at ht g1;by_cases f1:s.1+1+t.nodes≤1024∧1+(tdT t:Int)≤13
   · rw[ht.1 f1];have ha:=X55 a (dep+1) (s.1+1+t.nodes,false) (by simp only;omega) (by omega) (ov _ (by omega));simp only at ha;by_cases f2:s.1+1+t.nodes+Xl a≤1024∧dep+1+sdL a≤13∧WB a=false
     · rw[ha.1 f2];have hb:=X55 b (dep+1) (s.1+1+t.nodes+Xl a,false) (by simp only;omega) (by omega) (ov _ (by omega));simp only at hb;by_cases f3:s.1+1+t.nodes+Xl a+Xl b≤1024∧dep+1+sdL b≤13∧WB b=false
       · rw[hb.1 f3];have hl:=X55 l dep (s.1+1+t.nodes+Xl a+Xl b,false) (by simp only;omega) hd (ov _ (by omega));simp only at hl;refine⟨fun hf=>?_,fun hf=>hl.2 fun h4=>hf ⟨by omega,by omega,⟨⟨by omega,f2.2.2⟩,f3.2.2⟩,h4.2.2⟩⟩;rw[hl.1 ⟨by omega,by omega,hf.2.2.2⟩];simp only[Prod.mk.injEq,and_true];omega
       refine⟨fun hf=>absurd ⟨by omega,by omega,hf.2.2.1.2⟩ f3,fun _=>X0U l dep _ ?_ (hb.2 f3)⟩;have:=(X0l b (dep+1) (s.1+1+t.nodes+Xl a,false)).1;simp only at this;omega
     refine⟨fun hf=>absurd ⟨by omega,by omega,hf.2.2.1.1.2⟩ f2,fun _=>?_⟩;have q1:=(X0l a (dep+1) (s.1+1+t.nodes,false)).1;have q2:=(X0l b (dep+1) (mSs a (dep+1) (s.1+1+t.nodes,false))).1;simp only at q1;exact X0U l dep _ (by omega) (X0U b (dep+1) _ (by omega) (ha.2 f2))
   refine⟨fun hf=>absurd ⟨by omega,by omega⟩ f1,fun _=>?_⟩;exact X0U l dep _ (by omega) (X0U b (dep+1) _ (by omega) (X0U a (dep+1) _ (by omega) (ht.2 f1)))
end Go.Proofs.YtppjennamodfdaaGreat

namespace Go.Proofs.YtppjennamodfdaaGreat
open Go Go.Hl Go.RowKit
inductive CWk:CV→CV→Prop where
 |refl (x:CV):CWk x x
 |nil (s:Nat):CWk (.c (.lit XY)) (.c (.sl s []))
inductive LWk:List CV→List CV→Prop where
 |nil:LWk [] []
 |cons {x y:CV} {l m:List CV}:CWk x y→LWk l m→LWk (x::l) (y::m)
theorem CWk.rel {F:Nat→Prop} {γ:Nat→Value} {w:World} {x y:CV} (h:CWk x y) {v:Value} (hr:Xw F γ w x v):Xw F γ w y v:=by
 cases h with
 |refl=>exact hr
 | nil s=>
   have:v=XY:=Xf.lit_eq (γ:=γ) (F:=F) (w:=w) (r:=.v (.one (.c (.lit XY)))) rfl hr;rw[this];exact CRel.nil s
theorem LWk.len {l m:List CV} (h:LWk l m):m.length=l.length:=by
 induction h with
 |nil=>rfl
 |cons _ _ ih=>simp[ih]
theorem LWk.get {l m:List CV} (h:LWk l m):∀(j:Nat) y,m[j]? =some y→∃x,l[j]? =some x∧CWk x y:=by
 induction h with
 |nil=>simp
 | cons hc _ ih=>
   intro j y hj;cases j with
   |zero=>cases hj;exact⟨_,rfl,hc⟩
   |succ j=>exact ih j y hj
theorem LWk.rel {F:Nat→Prop} {γ:Nat→Value} {w:World} {l m:List CV} (h:LWk l m) {vs:Array Value} (hr:Xr F γ w l vs):Xr F γ w m vs:=by
 refine⟨hr.1.trans h.len.symm,fun j y u hy hu=>?_⟩;obtain⟨x,hx,hc⟩:=h.get j y hy;exact hc.rel (hr.2 j x u hx hu)
theorem XaG {s:HS} (k:Nat) {r r':RV} (hl:lkp s.regs k=some r) (hw:∀(F:Nat→Prop) (γ:Nat→Value) (w:World) v,Xf F γ w r v→Xf F γ w r' v):le s {s with regs:=ins k r' s.regs}:=by
 intro w0 B π F γ a w hr;refine⟨F,γ,fun _ h=>h,fun _ h=>.inl h,hr.heap,hr.defers,hr.nt,fun j x hj=>?_⟩;rw[XZ]at hj;split at hj
 · rename_i e;cases hj;subst e;exact hw _ _ _ _ (hr.regs j r hl)
 exact hr.regs j x hj
theorem X1H {s:HS} (k:Nat) {xs:List CV} (ys:List CV) (hl:lkp s.regs k=some (.v (.agg xs))) (h:LWk xs ys):le s {s with regs:=ins k (.v (.agg ys)) s.regs}:=by
 refine XaG k hl fun F γ w v hv=>?_;obtain⟨vs,rfl,hc⟩:=hv;exact⟨vs,rfl,h.rel hc⟩
theorem le_one {s:HS} (k sz:Nat) (hl:lkp s.regs k=some (.v (.one (.c (.lit XY))))):le s {s with regs:=ins k (.v (.one (.c (.sl sz [])))) s.regs}:=
 XaG k hl fun F γ w v hv=>CWk.rel (γ:=γ) (CWk.nil sz) hv
theorem le_emp {s:HS} (k sz:Nat) {a:Addr} {cap:Nat} (hl:lkp s.regs k=some (.v (.one (.c (.lit (.slice (some a) 0 cap)))))):le s {s with regs:=ins k (.v (.one (.c (.sl sz [])))) s.regs}:=by
 refine XaG k hl fun F γ w v hv=>?_;have:v=.slice (some a) 0 cap:=Xf.lit_eq rfl hv;rw[this];exact CRel.emp sz a cap
theorem X7O {s:HS} (t n d:Nat) {e:TypeId} {sz:Nat} {rows:List (List CD)} (hl:opd s.regs (.tmp t)=.v (.one (.own n))) (ho:lkp s.objs n=some (.row e sz rows)) (hd:d<1000000):
  le s ⟨s.nt,[(t,.v (.one (.own d)))],[(d,.row e sz rows)]⟩:=by
 have hp:X0E (fun _=>n) d=n:=by unfold X0E;rw[if_neg (by omega)]
 refine Xu (fun _=>n) [] rfl ?_ ?_ ?_
 · refine⟨⟨rfl,?_⟩,trivial⟩;rw[hl];simp only[RV.ren,TV.ren,CV.ren,hp,List.contains_nil,Bool.false_eq_true,if_false]
 · simp only[Zr,List.contains_nil,Bool.false_eq_true,if_false,Ob.okNil,hp,ho,Ob.ren,and_self]
 simp only[Zr,true_or,and_self]
theorem XbA {P:Program} {f:FuncId} {fresh:Bool} {r:RV} {ob:Option Ob} {d s:Nat} (h1:Con P f fresh [.one (.c (.lit XY))] r ob d) (h2:∀a cap,Con P f fresh [.one (.c (.lit (.slice (some a) 0 cap)))] r ob d):Con P f fresh [.one (.c (.sl s []))] r ob d:=by
 refine⟨h1.1,fun F w vs hF hsz hargs=>?_⟩;have hv:∃u,vs[0]? =some u:=⟨vs[0]'(by rw[hsz];simp),by simp[hsz]⟩;obtain⟨u,hu⟩:=hv;have hr:CRel F w (.sl s []) u:=hargs 0 _ u rfl hu
 have go:∀(v:Value),u=v→Con P f fresh [.one (.c (.lit v))] r ob d→_:=fun v hv hc=>hc.2 F w vs hF (by simpa using hsz) fun j t u' ht hu'=>by
  cases j with
  | zero=>
    cases ht;rw[hu]at hu';cases hu';subst hv;exact CRel.lit u
  |succ j=>cases ht
 rcases CRel.sl_inv hr with⟨_,hv|⟨a,cap,hv⟩⟩|⟨b,o,cap,cells,hv,_⟩
 · exact go _ hv h1
 · exact go _ hv (h2 a cap)
 exact go _ hv (h2 _ cap)
end Go.Proofs.YtppjennamodfdaaGreat

namespace Go.Proofs.YtppjennamodfdaaGreat
open Go Go.Hl
abbrev wr (x:Int):Int:=IntKind.i64.wrap x
def X2S (b:Bool):Int:=if b=true then 1 else 0
def divI (a b:Int):Int:=
 if b=0 then 0 else if(!decide (a.tmod b=0)&&(decide (a<0)!=decide (b<0)))=true then wr (wr (a.tdiv b) - 1)else wr (a.tdiv b)
def modI (a b:Int):Int:=if b=0 then 0 else wr (a - wr (b*divI a b))
def binI (o a b:Int):Int:=
 if o=8 then wr (a+b)else if o=9 then wr (a - b)else if o=10 then wr (a*b)else if o=11 then divI a b else if o=12 then modI a b
 else if o=13 then X2S (decide (a=b))else if o=14 then X2S (!decide (a=b))else if o=15 then X2S (decide (a<b))else if o=16 then X2S (decide (a≤b))
 else if o=17 then X2S (decide (b<a))else if o=18 then X2S (decide (b≤a))else if o=19 then X2S (!decide (a=0)&& !decide (b=0))
 else if o=20 then X2S (!decide (a=0)|| !decide (b=0))else if o=21 then mn a b else mx a b
end Go.Proofs.YtppjennamodfdaaGreat

namespace Go.Proofs.YtppjennamodfdaaGreat
open Go Go.Hl
def selI (k0:Int) (len:Nat):Int:=wr (1+heldI k0 0 (wr ((len:Int) - 2)))
def valN (vs:List Int) (o n:Int) (k:List Int):Int:=
 if o=0 then n else if o=24 then(vs[n.toNat]?).getD 0 else if o=6 then wr (-((k[0]?).getD 0))else if o=7 then X2S (decide ((k[0]?).getD 0=0))
 else if o=23 then(if(k[0]?).getD 0=0 then(k[2]?).getD 0 else(k[1]?).getD 0)
 else if o=25 then(k[(selI ((k[0]?).getD 0) k.length).toNat]?).getD 0
 else binI o ((k[0]?).getD 0) ((k[1]?).getD 0)
mutual
def vT (vs:List Int):Tm→Int
 | .mk o n ks=>valN vs o n (vTs vs ks)
def vTs (vs:List Int):List Tm→List Int
 |[]=>[]
 |t::l=>vT vs t::vTs vs l
end
end Go.Proofs.YtppjennamodfdaaGreat

namespace Go.Proofs.YtppjennamodfdaaGreat
open Go Go.Hl
def X4s:List Int→Int→Nat→Int
 |[],_,_=>-1
 |y::l,x,k=>if x=y then k else X4s l x (k+1)
theorem X95:∀(l:List Int) (x:Int) (k:Nat),x∈l→0≤X4s l x k
 |[],_,_,h=>by cases h
 | y::l,x,k,h=>by
   simp only[X4s];split
   · omega
   rename_i hne;rcases List.mem_cons.1 h with h|h
   · exact absurd h hne
   exact X95 l x _ h
theorem XcL (l:List Int) (x:Int) (hl:l.length≤1000000000) (d:Nat):Con Tryz.prog 52 true [lI l,li x] (.v (li (X4s l x 0))) none d:=by
 obtain⟨res,hres⟩:∃r,X4s l x 0=r:=⟨_,rfl⟩;rw[hres];refine X7 Tryz.func52 ?_;simp only[Tryz.f52];refine X4 ?_;refine X0<|X0<|X3 ?_;refine X5<|(Xd [0,1,7] (fun(z:Nat)=>[(8,.v (li z))]) (fun z=>[]) (fun z=>z≤l.length∧X4s (l.drop z) x z=res) (fun z=>l.length - z) (0:Nat) ⟨Nat.zero_le _,hres⟩ ?_ ?_)
 · exact X6 (fun n=>n) []
 rintro k ⟨hk,hJ⟩;simp only[upS,X8,Xy]
 try simp only[X8,KN,Nat.reduceBEq,if_true,if_false,ins,Nat.reduceLT]
 clear hres;refine X4 ?_;refine X0<|(X9 rfl (fun h4=>Xb ?_) (fun h4=>?_))
 · (try simp only[BN]at h4);have hlt:k<l.length:=by omega
   obtain⟨b,he,hd⟩:=Xq hlt;have hw1:=XA hlt (by omega);have hk1:k+1≤l.length:=hlt;rw[hd]at hJ;simp only[X4s]at hJ;clear hlt h4 hd;refine X0<|X5<|X0<|X3 ?_;refine X4 ?_;refine(Xe rfl (fun h7=>?_) fun h7=>?_)
   · (try simp only[BN]at h7);rw[if_pos (by simpa using h7)]at hJ;subst hJ;refine X4 ?_;exact Xh
   (try simp only[BN]at h7);rw[if_neg (by simpa using h7)]at hJ;refine X3 ?_;exact⟨k+1,⟨hk1,hJ⟩,by omega,X6 (fun n=>n) []⟩
 (try simp only[BN]at h4);have hkl:k=l.length:=by omega
 rw[hkl,List.drop_length]at hJ;simp only[X4s]at hJ;subst hJ;refine(Xg ?_);refine X4 ?_;exact Xh
theorem X7S (l:List Int) (x:Int) (hl:l.length≤1000000000) (d:Nat):Con Tryz.prog 18 true [lI l,li x] (.v (lb (decide (0≤X4s l x 0)))) none d:=by
 have ci:=XcL l x hl;obtain⟨res,hres⟩:∃r,X4s l x 0=r:=⟨_,rfl⟩;rw[hres]at ci⊢;clear hres;refine X7 Tryz.func18 ?_;simp only[Tryz.f18];refine X4 ?_;refine Xk [⟨true,.v (li res),none⟩] ?_ ?_
 · first|exact ci _|exact trivial|simpa[*]using ci _
 exact Xh
end Go.Proofs.YtppjennamodfdaaGreat
