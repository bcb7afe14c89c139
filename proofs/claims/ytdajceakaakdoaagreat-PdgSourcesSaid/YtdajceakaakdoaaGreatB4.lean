/- Contracts of functions and plain facts about what they compute. Conditions: as each theorem states. -/
import Derived.Test.YtdajceakaakdoaaGreatB1
import Derived.Test.YtdajceakaakdoaaGreatH6
set_option linter.unusedSimpArgs false
set_option linter.unusedVariables false
set_option linter.unnecessarySimpa false
set_option maxRecDepth 100000
set_option maxHeartbeats 2000000
namespace Go.Proofs.YtdajceakaakdoaaGreat
open Go Go.Hl
open Tryz(prog)
abbrev pV (b:Nat):Value:=.pointer (some ⟨b,0,none⟩)
abbrev nxC (b m:Nat):CD:=.fn 228 [.ptr [.lit (pV b)],.ptr [iC m]]
abbrev otC (b m:Nat):CD:=.fn 265 [.ptr [.lit (pV b)],.ptr [iC m]]
theorem X1Y (b m:Nat) (d:Nat):Con prog 189 false [.one (.c (.lit (pV b))),.one (.c (iC m))] (.v (.one (.c (nxC b m)))) none d:=by
 refine X6 Tryz.func189 ?_;simp only[Tryz.f189];refine X1 ?_;refine X1 ?_;exact XbG (fun h=>⟨.inr rfl,h⟩) (regs:=[(4,.v (.one (.c (nxC b m))))]) (Xbe (by simp[WY,X22,X20,Zl,lkp])) (by simp;rfl) rfl
theorem X4v (b m:Nat) (d:Nat):Con prog 251 false [.one (.c (.lit (pV b))),.one (.c (iC m))] (.v (.one (.c (otC b m)))) none d:=by
 refine X6 Tryz.func251 ?_;simp only[Tryz.f251];refine X1 ?_;refine X1 ?_;exact XbG (fun h=>⟨.inr rfl,h⟩) (regs:=[(4,.v (.one (.c (otC b m))))]) (Xbe (by simp[WY,X22,X20,Zl,lkp])) (by simp;rfl) rfl
abbrev XT (k d:Int):List CD:=[iC k,iC d,iC (-1),iC (-1)]
theorem Z3 (b:Nat) (rows:List (List CD)) (d k:Int) (hr:rows.length<=2000000):
  Z7 prog 250 (some (pV b)) (Wt rows d) [.one (.c (.lit (pV b))),.one (.c (iC k))] (fun _:Unit=>True) (fun _=>.tup []) (fun _=>Wt (rows++[XT k d]) d):=by
 have hroom:W4 (rows.length+1) 32:=XX (by omega) (by decide);refine XV Tryz.func250 rfl (by kernel_rfl) (NH rfl) X1f X7p ?_;simp only[Tryz.f250];refine XB (s':=⟨⟨19,some (pV b)⟩,[(0,atB),(1,lit (.int .i64 k))],Wt rows d⟩) (XaU (v:=pV b) (cs:=[.own 900001,.c (iC d)]) rfl rfl rfl (by simp[QQ,WY,pnR,pnC,lkp]) (by simp[WY,pnO,pnL,pnC,lkp])) ?_;refine X96 [(7,1000000),(12,1000000),(18,1000000)] (by kernel_rfl) (by kernel_rfl) (by rfl) (by simp[evsH,X4E,Qy,hroom,XO,QE,Q3,cellsOf,W2,WV,WU,Wq,Zj,lkp,ins,del];rfl) ?_;refine⟨.inl rfl,(),trivial,⟨⟨19,some (pV b)⟩,[],Wt (rows++[XT k d]) d⟩,Xl (fun n=>if n=900001 then 16 else n) [] rfl ?_ ?_ ?_,⟨[],rfl,rfl⟩,fun n o h=>h⟩
 .trivial
 .simp[WY,X0m,Ob.okNil,Ob.ren,lkp,CV.ren,CV.okNil]
 simp[WY,X0m]
abbrev Wv:=Bool×Nat
abbrev Wv.c (b:Nat) (s:Wv):CD:=.fn (if s.1=true then 265 else 228) [.ptr [.lit (pV b)],.ptr [iC s.2]]
def X0y (rows:List (List CD)) (s:Wv) (k:Nat):List (List CD):=setRow rows s.2 (if s.1=true then 3 else 2) [iC k]
def XD (k:Nat):List Wv->List (List CD)->List (List CD)
 |[],rows=>rows
 |s::l,rows=>XD k l (X0y rows s k)
abbrev Bst:=List (List CD)×Int
mutual
def Z8:St->Nat->Bst->Bst×List Wv
 | .mk o _ _ _ _ a b _,k,st=>
   if o=3 then
    let x:=Qd a [(false,k)] (st.1++[XT 3 st.2],st.2+1)
    let y:=Qd b [(true,k)] x.1
    (y.1,x.2++y.2)
   else if o=4 then
    let x:=Qd a [(false,k+1)] (setRow (st.1++[XT 4 st.2]++[XT 5 st.2]) k 2 [iC ((k:Int)+1)],st.2+1)
    ((XD (k+1) x.2 x.1.1,x.1.2),[(true,k+1)])
   else((st.1++[XT 2 st.2],st.2+1),[(false,k)])
def Qd:List St->List Wv->Bst->Bst×List Wv
 |[],sl,st=>(st,sl)
 | s::l,sl,st=>
   let x:=Z8 s st.1.length (XD st.1.length sl st.1,st.2)
   Qd l x.2 x.1
end
mutual
def szN:St->Nat
 | .mk _ _ _ _ _ a b _=>2+X0j a+X0j b
def X0j:List St->Nat
 |[]=>0
 |s::l=>szN s+X0j l
end
structure okB (sl:List Wv) (rows:List (List CD)):Prop where
 four:∀r∈rows,r.length=4
 lt:∀s∈sl,s.2<rows.length
theorem WH (rows:List (List CD)) (i off:Nat) (ds:List CD):(setRow rows i off ds).length=rows.length:=by
 unfold setRow;split<;>simp
theorem X0u {rows:List (List CD)} {i off:Nat} {x:CD} (h:∀r∈rows,r.length=4) (ho:off<4):∀r∈setRow rows i off [x],r.length=4:=by
 intro r hr;unfold setRow at hr;split at hr
 .rename_i r0 h0;rcases Dg hr with hr|rfl
  .exact h r hr
  have:=h r0 (N3 h0);simp[this];omega
 exact h r hr
theorem X1x (rows:List (List CD)) (s:Wv) (k:Nat):(X0y rows s k).length=rows.length:=WH ..
theorem Qb (k:Nat):∀(sl:List Wv) (rows:List (List CD)),(XD k sl rows).length=rows.length
 |[],_=>rfl
 |s::l,rows=>by rw[XD,Qb k l,X1x]
theorem X03 {rows:List (List CD)} {s:Wv} {k:Nat} (h:∀r∈rows,r.length=4):∀r∈X0y rows s k,r.length=4:=
 X0u h (by split<;>omega)
theorem ZS (k:Nat):∀(sl:List Wv) (rows:List (List CD)),(∀r∈rows,r.length=4)->∀r∈XD k sl rows,r.length=4
 |[],_,h=>h
 |s::l,rows,h=>ZS k l _ (X03 h)
theorem Ww {rows:List (List CD)} {k d:Int} (h:∀r∈rows,r.length=4):∀r∈rows++[XT k d],r.length=4:=by
 intro r hr;rcases Ng.1 hr with hr|hr
 .exact h r hr
 simp only[Nk]at hr;rw[hr];rfl
mutual
theorem X5d:∀(s:St) (k:Nat) (st:Bst),(∀r∈st.1,r.length=4)->k=st.1.length->
  okB (Z8 s k st).2 (Z8 s k st).1.1/\st.1.length<=(Z8 s k st).1.1.length/\(Z8 s k st).1.1.length<=st.1.length+szN s/\st.2<=(Z8 s k st).1.2/\(Z8 s k st).1.2<=st.2+szN s
 | .mk o c v n t a b bs,k,st,h4,hk=>by
   unfold Z8 szN;split
   .have ha:=Ws a [(false,k)] (st.1++[XT 3 st.2],st.2+1) ⟨Ww h4,by simp[hk]⟩;obtain⟨a1,a2,a3,a4,a5⟩:=ha;obtain⟨x,hx⟩:∃x,Qd a [(false,k)] (st.1++[XT 3 st.2],st.2+1)=x:=⟨_,rfl⟩;simp only[hx]at a1 a2 a3 a4 a5⊢;simp only[N9,List.length_singleton]at a2 a3;have hb:=Ws b [(true,k)] x.1 ⟨a1.four,by simp;omega⟩;obtain⟨b1,b2,b3,b4,b5⟩:=hb;refine⟨⟨b1.four,fun s hs=>?_⟩,by omega,by omega,by omega,by omega⟩;rcases Ng.1 hs with hs|hs
    .exact NJ (a1.lt s hs) b2
    exact b1.lt s hs
   split
   .have ha:=Ws a [(false,k+1)] (setRow (st.1++[XT 4 st.2]++[XT 5 st.2]) k 2 [iC ((k:Int)+1)],st.2+1) ⟨X0u (Ww (Ww h4)) (by omega),by simp[hk,WH]⟩;obtain⟨a1,a2,a3,a4,a5⟩:=ha;obtain⟨x,hx⟩:∃x,Qd a [(false,k+1)] (setRow (st.1++[XT 4 st.2]++[XT 5 st.2]) k 2 [iC ((k:Int)+1)],st.2+1)=x:=⟨_,rfl⟩;simp only[hx]at a1 a2 a3 a4 a5⊢;simp only[WH,N9,List.length_singleton]at a2 a3;refine⟨⟨ZS _ _ _ a1.four,fun s hs=>?_⟩,by rw[Qb];omega,by rw[Qb];omega,by omega,by omega⟩;simp only[Nk]at hs;rw[hs,Qb];show k+1<_;omega
   refine⟨⟨Ww h4,fun s hs=>?_⟩,by simp,by simp;omega,by show st.2<=st.2+1;omega,by show st.2+1<=_;omega⟩;simp only[Nk]at hs;rw[hs];simp[hk]
theorem Ws:∀(l:List St) (sl:List Wv) (st:Bst),okB sl st.1->
  okB (Qd l sl st).2 (Qd l sl st).1.1/\st.1.length<=(Qd l sl st).1.1.length/\(Qd l sl st).1.1.length<=st.1.length+X0j l/\st.2<=(Qd l sl st).1.2/\(Qd l sl st).1.2<=st.2+X0j l
 | [],sl,st,h=>by
   unfold Qd X0j;exact⟨h,NK _,NK _,D9 _,by simp⟩
 | s::l,sl,st,h=>by
   unfold Qd X0j;have ha:=X5d s st.1.length (XD st.1.length sl st.1,st.2) (ZS _ _ _ h.four) (Qb ..).symm;obtain⟨a1,a2,a3,a4,a5⟩:=ha;obtain⟨x,hx⟩:∃x,Z8 s st.1.length (XD st.1.length sl st.1,st.2)=x:=⟨_,rfl⟩;simp only[hx,Qb]at a1 a2 a3 a4 a5⊢;obtain⟨b1,b2,b3,b4,b5⟩:=Ws l x.2 x.1 a1;exact⟨b1,by omega,by omega,by omega,by omega⟩
end
mutual
theorem X8I:∀(s:St) (k:Nat) (st:Bst),(Z8 s k st).2.length<=szN s
 | .mk o c v n t a b bs,k,st=>by
   unfold Z8 szN;split
   .have h1:=ZE a [(false,k)] (st.1++[XT 3 st.2],st.2+1);have h2:=ZE b [(true,k)] (Qd a [(false,k)] (st.1++[XT 3 st.2],st.2+1)).1;simp only[List.length_singleton]at h1 h2;simp only[N9];omega
   split<;>simp only[List.length_singleton]<;>omega
theorem ZE:∀(l:List St) (sl:List Wv) (st:Bst),(Qd l sl st).2.length<=max sl.length (X0j l)
 | [],sl,st=>by
   unfold Qd X0j;exact Nat.le_max_left ..
 | s::l,sl,st=>by
   unfold Qd X0j;have h1:=X8I s st.1.length (XD st.1.length sl st.1,st.2);have h2:=ZE l (Z8 s st.1.length (XD st.1.length sl st.1,st.2)).2 (Z8 s st.1.length (XD st.1.length sl st.1,st.2)).1;simp only at h1 h2⊢;omega
end
structure B3 where
 s:Int
 o:Int
 t:Int
def bd1 (d c n:Int) (x y:B3):B3:=
 if d=4 then⟨1+n*(1+x.s),n*x.o,n*(c+x.t)⟩
 else if d=3 then⟨1+mx x.s y.s,mx x.o y.o,c+mx x.t y.t⟩
 else if d=1 then⟨1,1,c⟩ else⟨1,0,c⟩
def Qf (C:B3) (x y:B3):B3:=⟨mn (x.s+y.s) C.s,mn (x.o+y.o) C.o,mn (x.t+y.t) C.t⟩
mutual
def bdS (C:B3):St->B3
 | .mk d c _ n _ a b _=>bd1 d c n (bdL C a ⟨0,0,0⟩) (bdL C b ⟨0,0,0⟩)
def bdL (C:B3):List St->B3->B3
 |[],p=>p
 |s::l,p=>bdL C l (Qf C p (bdS C s))
end
mutual
def okS:St->Bool
 | .mk d c _ n _ a b _=>(decide (0<=c)&&(decide (c<=67108864)&&(decide (d≠4)||(decide (0<=n)&&decide (n<=4096)))))&&((decide (d=3)||(decide (d=4)||(a.isEmpty&&b.isEmpty)))&&(okL a&&okL b))
def okL:List St->Bool
 |[]=>true
 |s::l=>okS s&&okL l
end
def CP:B3:=⟨1099511627776,1099511627776,1099511627776⟩
def CR:B3:=⟨4097,9,67108865⟩
def in3 (C p:B3):Prop:=0<=p.s/\p.s<=C.s/\0<=p.o/\p.o<=C.o/\0<=p.t/\p.t<=C.t
def nn3 (p:B3):Prop:=0<=p.s/\0<=p.o/\0<=p.t
theorem mulN {n z:Int} (hn:0<=n/\n<=4096) (hz:0<=z/\z<=1099578736641):0<=n*z/\n*z<=4503874505281536:=by
 have h1:n.natAbs*z.natAbs<=4096*1099578736641:=Nat.mul_le_mul (by omega) (by omega);rw[<-Int.natAbs_mul]at h1;have h2:=DJ hn.1 hz.1;omega
theorem bd1_nn {d c n:Int} {x y:B3} (hc:0<=c) (hn:d=4->0<=n) (hx:nn3 x) (hy:nn3 y):nn3 (bd1 d c n x y):=by
 unfold nn3 at*;unfold bd1;split
 .rename_i h4;have h0:=hn h4;refine⟨?_,DJ h0 hx.2.1,DJ h0 (by omega)⟩;have:=DJ h0 (show(0:Int)<=1+x.s by omega);simp only;omega
 split
 .simp only[mx];refine⟨?_,?_,?_⟩<;>split<;>omega
 split<;>simp only<;>omega
theorem X30 {C p q:B3} (hC:nn3 C) (hp:nn3 p) (hq:nn3 q):in3 C (Qf C p q):=by
 unfold in3 Qf nn3 at*;simp only[mn];refine⟨?_,?_,?_,?_,?_,?_⟩<;>split<;>omega
theorem Zy {C p:B3} (h:in3 C p):nn3 p:=⟨h.1,h.2.2.1,h.2.2.2.2.1⟩
theorem WS {C:B3} (hC:nn3 C):in3 C ⟨0,0,0⟩:=⟨D9 _,hC.1,D9 _,hC.2.1,D9 _,hC.2.2⟩
mutual
theorem X2K {C:B3} (hC:nn3 C):∀s:St,okS s=true->nn3 (bdS C s)
 | .mk d c v n t a b bs,h=>by
   simp only[okS,N4,Nl,N6]at h;simp only[bdS];exact bd1_nn h.1.1 (fun h4=>by omega) (Zy (ZB hC a _ h.2.2.1 (WS hC))) (Zy (ZB hC b _ h.2.2.2 (WS hC)))
theorem ZB {C:B3} (hC:nn3 C):∀(l:List St) (p:B3),okL l=true->in3 C p->in3 C (bdL C l p)
 |[],p,_,h=>h
 | s::l,p,h,hp=>by
   simp only[okL,N4]at h;simp only[bdL];exact ZB hC l _ h.2 (X30 hC (Zy hp) (X2K hC s h.1))
end
def X0o (C p:B3):B3:=⟨mn p.s C.s,mn p.o C.o,mn p.t C.t⟩
theorem X2Z {n a b k k' C:Int} (hn:0<=n) (ha:0<=a) (hb:0<=b) (hk:0<=k) (hk':0<=k') (h:mn a C=mn b C):mn (k'+n*(k+a)) C=mn (k'+n*(k+b)) C:=by
 by_cases hac:a<C
 .have:a=b:=by
   unfold mn at h
   (repeat' split at h)<;>omega
  rw[this]
 have hbc:C<=b:=by
  unfold mn at h
  (repeat' split at h)<;>omega
 rcases Int.lt_or_le 0 n with h0|h0
 .have h1:=Int.mul_le_mul_of_nonneg_right (show(1:Int)<=n by omega) (show 0<=k+a by omega);have h2:=Int.mul_le_mul_of_nonneg_right (show(1:Int)<=n by omega) (show 0<=k+b by omega);unfold mn
  (repeat' split)<;>omega
 have:n=0:=by omega
 subst this;simp
theorem bd1_cut {C x x' y y':B3} {d c n:Int} (hc:0<=c) (hn:d=4->0<=n) (hx:nn3 x) (hx':nn3 x') (hy:nn3 y) (hy':nn3 y') (h1:X0o C x=X0o C x') (h2:X0o C y=X0o C y'):X0o C (bd1 d c n x y)=X0o C (bd1 d c n x' y'):=by
 unfold X0o at*;unfold nn3 at*;simp only[B3.mk.injEq]at h1 h2⊢;unfold bd1;split
 .rename_i h4;have h0:=hn h4;have e1:=X2Z h0 hx.1 hx'.1 (show(0:Int)<=1 by decide) (show(0:Int)<=1 by decide) h1.1;have e2:=X2Z h0 hx.2.1 hx'.2.1 (D9 0) (D9 0) h1.2.1;have e3:=X2Z h0 hx.2.2 hx'.2.2 hc (D9 0) h1.2.2;simp only[DM]at e2 e3;exact⟨e1,e2,e3⟩
 obtain⟨a1,a2,a3⟩:=h1;obtain⟨b1,b2,b3⟩:=h2;split
 .simp only[mx];refine⟨?_,?_,?_⟩
  .clear a2 a3 b2 b3;unfold mn at*;(repeat' split at a1)<;>(repeat' split at b1)<;>(repeat' split)<;>omega
  .clear a1 a3 b1 b3;unfold mn at*;(repeat' split at a2)<;>(repeat' split at b2)<;>(repeat' split)<;>omega
  clear a1 a2 b1 b2;unfold mn at*;(repeat' split at a3)<;>(repeat' split at b3)<;>(repeat' split)<;>omega
 split<;>exact⟨rfl,rfl,rfl⟩
theorem add3_cut {C D p p' x x':B3} (hC:nn3 C) (hD:C.s<=D.s/\C.o<=D.o/\C.t<=D.t) (hp:nn3 p) (hp':nn3 p') (hx:nn3 x) (hx':nn3 x') (h1:X0o C p=X0o C p') (h2:X0o C x=X0o C x'):X0o C (Qf D p x)=X0o C (Qf C p' x'):=by
 unfold X0o at*;unfold nn3 at*;simp only[B3.mk.injEq,Qf]at h1 h2⊢;obtain⟨a1,a2,a3⟩:=h1;obtain⟨b1,b2,b3⟩:=h2;obtain⟨d1,d2,d3⟩:=hD;obtain⟨p1,p2,p3⟩:=hp;obtain⟨q1,q2,q3⟩:=hp';obtain⟨r1,r2,r3⟩:=hx;obtain⟨s1,s2,s3⟩:=hx';obtain⟨c1,c2,c3⟩:=hC;refine⟨?_,?_,?_⟩
 .clear a2 a3 b2 b3;unfold mn at*;(repeat' split at a1)<;>(repeat' split at b1)<;>(repeat' split)<;>omega
 .clear a1 a3 b1 b3;unfold mn at*;(repeat' split at a2)<;>(repeat' split at b2)<;>(repeat' split)<;>omega
 clear a1 a2 b1 b2;unfold mn at*;(repeat' split at a3)<;>(repeat' split at b3)<;>(repeat' split)<;>omega
mutual
theorem bdS_cut {C D:B3} (hC:nn3 C) (hDn:nn3 D) (hD:C.s<=D.s/\C.o<=D.o/\C.t<=D.t):∀s:St,okS s=true->X0o C (bdS D s)=X0o C (bdS C s)
 | .mk d c v n t a b bs,h=>by
   simp only[okS,N4,Nl,N6]at h;simp only[bdS];have ha:=Zy (ZB hDn a _ h.2.2.1 (WS hDn));have hb:=Zy (ZB hDn b _ h.2.2.2 (WS hDn));have ha':=Zy (ZB hC a _ h.2.2.1 (WS hC));have hb':=Zy (ZB hC b _ h.2.2.2 (WS hC));have h0:nn3 ⟨0,0,0⟩:=⟨D9 _,D9 _,D9 _⟩;exact bd1_cut h.1.1 (fun h4=>by omega) ha ha' hb hb' (X3M hC hDn hD a _ _ h.2.2.1 (WS hDn) (WS hC) rfl) (X3M hC hDn hD b _ _ h.2.2.2 (WS hDn) (WS hC) rfl)
theorem X3M {C D:B3} (hC:nn3 C) (hDn:nn3 D) (hD:C.s<=D.s/\C.o<=D.o/\C.t<=D.t):∀(l:List St) (p q:B3),okL l=true->in3 D p->in3 C q->X0o C p=X0o C q->X0o C (bdL D l p)=X0o C (bdL C l q)
 |[],p,q,_,_,_,h=>h
 | s::l,p,q,h,hp,hq,hpq=>by
   simp only[okL,N4]at h;simp only[bdL]
   exact X3M hC hDn hD l _ _ h.2 (X30 hDn (Zy hp) (X2K hDn s h.1)) (X30 hC (Zy hq) (X2K hC s h.1))
    (add3_cut hC hD (Zy hp) (Zy hq) (X2K hDn s h.1) (X2K hC s h.1) hpq (bdS_cut hC hDn hD s h.1))
end
theorem X5T:nn3 CP:=by unfold nn3 CP;decide
theorem X2Q:nn3 CR:=by unfold nn3 CR;decide
theorem bd_cmp {l:List St} (h:okL l=true):(4096<(bdL CP l ⟨0,0,0⟩).s↔4096<(bdL CR l ⟨0,0,0⟩).s)/\(8<(bdL CP l ⟨0,0,0⟩).o↔8<(bdL CR l ⟨0,0,0⟩).o)/\(67108864<(bdL CP l ⟨0,0,0⟩).t↔67108864<(bdL CR l ⟨0,0,0⟩).t):=by
 have:=X3M X2Q X5T (by decide) l _ _ h (WS X5T) (WS X2Q) rfl;unfold X0o at this;simp only[B3.mk.injEq]at this;obtain⟨h1,h2,h3⟩:=this;generalize bdL CP l ⟨0,0,0⟩=p at*;generalize bdL CR l ⟨0,0,0⟩=q at*;unfold CR at h1 h2 h3;refine⟨?_,?_,?_⟩
 .clear h2 h3;unfold mn at*;simp only at h1;(repeat' split at h1)<;>omega
 .clear h1 h3;unfold mn at*;simp only at h2;(repeat' split at h2)<;>omega
 clear h1 h2;unfold mn at*;simp only at h3;(repeat' split at h3)<;>omega
abbrev wr (x:Int):Int:=IntKind.i64.wrap x
def X3Z (b:Bool):Int:=if b=true then 1 else 0
def divI (a b:Int):Int:=
 if b=0 then 0 else if(!decide (a.tmod b=0)&&(decide (a<0)!=decide (b<0)))=true then wr (wr (a.tdiv b) - 1)else wr (a.tdiv b)
def modI (a b:Int):Int:=if b=0 then 0 else wr (a - wr (b*divI a b))
def binI (o a b:Int):Int:=
 if o=8 then wr (a+b)else if o=9 then wr (a - b)else if o=10 then wr (a*b)else if o=11 then divI a b else if o=12 then modI a b
 else if o=13 then X3Z (decide (a=b))else if o=14 then X3Z (!decide (a=b))else if o=15 then X3Z (decide (a<b))else if o=16 then X3Z (decide (a<=b))
 else if o=17 then X3Z (decide (b<a))else if o=18 then X3Z (decide (b<=a))else if o=19 then X3Z (!decide (a=0)&& !decide (b=0))
 else if o=20 then X3Z (!decide (a=0)|| !decide (b=0))else if o=21 then mn a b else mx a b
end Go.Proofs.YtdajceakaakdoaaGreat
