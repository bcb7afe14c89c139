/- Contracts of functions and plain facts about what they compute. Conditions: as each theorem states. -/
import Derived.Test.YtdccocolnaklkaaGreatDoorK1
set_option linter.unusedSimpArgs false
set_option linter.unusedVariables false
set_option linter.unnecessarySimpa false
set_option maxRecDepth 100000
set_option maxHeartbeats 2000000
namespace Go.Proofs.YtdccocolnaklkaaGreatDoor
open Go Go.Hl
open Tryz(prog)
theorem St.lists {P:List St->Prop} (h:∀l,(∀s∈l,P s.then_/\P s.else_)->P l):∀l,P l:=by
 have key:∀s:St,P s.then_/\P s.else_:=by
  intro s
  induction s using St.ind with
  |h d c v n t a b bs iha ihb=>exact⟨h a iha,h b ihb⟩
 exact fun l=>h l fun s _=>key s
theorem Q2 {l:List St} {s:St} (hs:s∈l):1+s.term.nodes+Xe s.then_+Xe s.else_<=Xe l:=by
 induction l with
 |nil=>cases hs
 | cons x l ih=>
   simp only[Xe];rcases Ni.1 hs with rfl|h
   .obtain⟨d,c,v,n,t,a,b,bs⟩:=s;simp only[St.nodes,St.term,St.then_,St.else_];omega
   have:=ih h;omega
def XP (n lo hi:Int):Int:=if n<lo then lo else if hi<n then hi else n
theorem X5A (n lo hi:Int) (h:lo<=hi) (d:Nat):Con prog 161 true [li n,li lo,li hi] (.v (li (XP n lo hi))) none d:=by
 have hz:XP n lo hi=if hi<(if n<lo then lo else n)then hi else(if n<lo then lo else n):=by
  unfold XP
  (repeat' split)<;>omega
 refine X2 Tryz.func161 ?_;simp only[Tryz.f161];refine X4 ?_;exact X7
theorem X4H (n lo hi:Int) (d:Nat):Con prog 120 true [li n,li lo,li hi] (.v (li (XP n lo hi))) none d:=by
 refine X2 Tryz.func120 ?_;simp only[Tryz.f120];refine X4 ?_;refine X0<|(X8 (fun h2=>?_) fun h2=>?_)
 .refine X4 ?_;exact(Qd (he:=by first|rfl|(simp[*,XP];done)|(simp only[Xl,XP];(repeat' split)<;>first|rfl|(exfalso;omega)|simp_all)))
 refine X0<|(X8 (fun h6=>?_) fun h6=>?_)
 .refine X4 ?_;exact(Qd (he:=by first|rfl|(simp[*,XP];done)|(simp only[Xl,XP];(repeat' split)<;>first|rfl|(exfalso;omega)|simp_all)))
 refine X4 ?_;exact(Qd (he:=by first|rfl|(simp[*,XP];done)|(simp only[Xl,XP];(repeat' split)<;>first|rfl|(exfalso;omega)|simp_all)))
theorem X2g {n lo hi:Int} (h:lo<=hi):lo<=XP n lo hi/\XP n lo hi<=hi:=by
 unfold XP
 (repeat' split)<;>omega
def X2d (m c:Int):Int:=if 0<m then c else 0
mutual
def spS:St->Int×Int
 | .mk d c _ n (.mk o tn _) a b _=>
   if d=3 then(XP c 0 67108865+mn (spL a (0,0)).1 (spL b (0,0)).1,XP c 0 67108865+mx (spL a (0,0)).2 (spL b (0,0)).2)
   else if d=4 then
    (if o≠0 then(X2d (XP n 0 4096) (XP c 0 67108865),XP n 0 4096*(XP c 0 67108865+(spL a (0,0)).2))
     else if tn≠0 then(XP n 0 4096*(XP c 0 67108865+(spL a (0,0)).1),XP n 0 4096*(XP c 0 67108865+(spL a (0,0)).2))
     else(X2d (XP n 0 4096) (XP c 0 67108865),X2d (XP n 0 4096) (XP c 0 67108865)))
   else(XP c 0 67108865,XP c 0 67108865)
def spL:List St->Int×Int->Int×Int
 |[],p=>p
 |s::l,p=>spL l (mn (p.1+(spS s).1) 67108865,mn (p.2+(spS s).2) 67108865)
end
theorem mulT {m z:Int} (hm:0<=m/\m<=4096) (hz:0<=z/\z<=134217730):0<=m*z/\m*z<=549755822080:=by
 have h1:m.natAbs*z.natAbs<=4096*134217730:=Nat.mul_le_mul (by omega) (by omega);rw[<-Int.natAbs_mul]at h1;have h2:=Dr hm.1 hz.1;omega
def inT (p:Int×Int):Prop:=0<=p.1/\p.1<=67108865/\0<=p.2/\p.2<=67108865
def inU (p:Int×Int):Prop:=0<=p.1/\p.1<=549755822080/\0<=p.2/\p.2<=549755822080
theorem inT0:inT (0,0):=⟨by decide,by decide,by decide,by decide⟩
theorem Xa9 {m c:Int} (hc:0<=c/\c<=67108865):0<=X2d m c/\X2d m c<=67108865:=by
 unfold X2d;split<;>omega
theorem mn_in {a:Int} (h:0<=a):0<=mn a 67108865/\mn a 67108865<=67108865:=by
 unfold mn;split<;>omega
mutual
theorem spS_in:∀s:St,inU (spS s)
 | .mk d c v n (.mk o tn ks) a b bs=>by
   have ha:=X1G a (0,0) inT0;have hb:=X1G b (0,0) inT0;have hc:=X2g (n:=c) (lo:=0) (hi:=67108865) (by decide);have hn:=X2g (n:=n) (lo:=0) (hi:=4096) (by decide);have ho:=Xa9 (m:=XP n 0 4096) hc;unfold inT at ha hb;have h1:=mulT hn (z:=XP c 0 67108865+(spL a (0,0)).1) (by omega);have h2:=mulT hn (z:=XP c 0 67108865+(spL a (0,0)).2) (by omega);unfold inU;simp only[spS];split
   .simp only[mn,mx]
    (repeat' split)<;>omega
   split
   .split
    .simp only;omega
    split
    .simp only;omega
    simp only;omega
   simp only;omega
theorem X1G:∀(l:List St) (p:Int×Int),inT p->inT (spL l p)
 |[],p,h=>h
 | s::l,p,h=>by
   have hs:=spS_in s;simp only[spL];refine X1G l _ ?_;unfold inT inU at*;have h1:=mn_in (a:=p.1+(spS s).1) (by omega);have h2:=mn_in (a:=p.2+(spS s).2) (by omega);simp only;omega
end
theorem Xas (l:List St):Xe l<=1000000000->∀d:Nat,Con prog 148 true [lS l] (.tup [li (spL l (0,0)).1,li (spL l (0,0)).2]) none d:=by
 revert l
 apply St.lists;intro l ih hn d;have hlen:=XB l;obtain⟨res,hres⟩:∃r,spL l (0,0)=r:=⟨_,rfl⟩;rw[hres];refine X2 Tryz.func148 ?_;simp only[Tryz.f148];refine X4 ?_;refine X0<|X0<|X1 ?_;refine X3<|(Xb [17,18] (fun(x:Nat×Int×Int)=>[(2,.v (li x.2.1)),(3,.v (li x.2.2)),(19,.v (li x.1))]) (fun(x:Nat×Int×Int)=>[]) (fun(x:Nat×Int×Int)=>x.1<=l.length/\spL (l.drop x.1) x.2=res/\inT x.2) (fun(x:Nat×Int×Int)=>l.length - x.1) (0,0,0) ⟨Nc _,hres,inT0⟩ ?_);rintro⟨k,m,q⟩ ⟨hk,hJ,hin⟩;simp only[LN,Nat.reduceBEq,Nat.reduceLT];simp only at hk hJ;unfold inT at hin;simp only at hin;clear hres;refine(XS (fun h4=>X6 ?_) fun h4=>?_)
 .have hlt:k<l.length:=by omega
  obtain⟨s,he,hd⟩:=Xw hlt;have hmem:s∈l:=N3 he;have hnm:=Q2 hmem;have iha:=fun h=>(ih s hmem).1 h;have ihb:=fun h=>(ih s hmem).2 h;have hw1:=Xz hlt (by omega);have hk1:k+1<=l.length:=hlt;rw[hd]at hJ;simp only[spL]at hJ;have hsin:=spS_in s;obtain⟨pq,hpq⟩:∃pq,spS s=pq:=⟨_,rfl⟩;rw[hpq]at hJ hsin;obtain⟨sd,sc,sv,sn,⟨so,stn,sks⟩,sa,sb,sbs⟩:=s;simp only[St.then_,St.else_,St.term]at iha ihb hnm;have ca:=iha (by omega);have cb:=ihb (by omega);have he':=Q7 he;simp only[St.enc,Tm.enc,List.cons_append,List.nil_append]at he';simp only[spS]at hpq;have hxa:=X1G sa (0,0) inT0;have hxb:=X1G sb (0,0) inT0;obtain⟨xa,hxa'⟩:∃x,spL sa (0,0)=x:=⟨_,rfl⟩;obtain⟨xb,hxb'⟩:∃x,spL sb (0,0)=x:=⟨_,rfl⟩;have hci:=X2g (n:=sc) (lo:=0) (hi:=67108865) (by decide);have hni:=X2g (n:=sn) (lo:=0) (hi:=4096) (by decide);obtain⟨cc,hcc⟩:∃x,XP sc 0 67108865=x:=⟨_,rfl⟩;obtain⟨nn,hnn⟩:∃x,XP sn 0 4096=x:=⟨_,rfl⟩;have c1:=X5A sc 0 67108865 (by decide);have c2:=X5A sn 0 4096 (by decide);rw[hxa']at ca hxa hpq;rw[hxb']at cb hxb hpq;rw[hcc]at c1 hci hpq;rw[hnn]at c2 hni hpq;unfold inT at hxa hxb;unfold inU at hsin;clear hlt h4 iha ihb ih hxa' hxb' hcc hnn hmem hnm hd he;refine X0<|X3<|X0<|X1 ?_;refine X0<|(Xx [⟨true,.v (li cc),none⟩,⟨true,.v (li nn),none⟩] (by kernel_rfl) (by kernel_rfl) (by rfl) (by simp[*];first|exact⟨rfl,Iff.rfl⟩|exact⟨rfl,trivial⟩|rfl) ?_ ?_)
  .first|exact⟨c1 _,c2 _⟩|exact trivial|(repeat' first|exact trivial|exact c1 _|exact c2 _|apply And.intro)
  refine X4 ?_;refine(XY [2,3,17,18,19] (fun(z:Unit)=>[(8,.v (li pq.1)),(9,.v (li pq.2))]) (fun(z:Unit)=>[]) (fun(z:Unit)=>True) ?_ ?_)
  .refine X4 ?_;refine X3<|(Xc (fun h11=>?_) fun h11=>?_)
   .rw[N9 h11]at hpq;subst hpq;have hmn:(if xb.1<xa.1 then xb.1 else xa.1)=mn xa.1 xb.1:=rfl;have hmx:(if xa.2<xb.2 then xb.2 else xa.2)=mx xa.2 xb.2:=rfl;have hw2:IntKind.i64.wrap (cc+mn xa.1 xb.1)=cc+mn xa.1 xb.1:=X5 (by simp only at hsin;omega) (by simp only at hsin;omega);have hw3:IntKind.i64.wrap (cc+mx xa.2 xb.2)=cc+mx xa.2 xb.2:=X5 (by simp only at hsin;omega) (by simp only at hsin;omega);clear hsin;refine X0<|(Xa ca ?_);refine X0<|(Xa cb ?_);refine X1 ?_;exact Xv (()) (trivial)
   rw[N6 h11]at hpq;refine(X8 (fun h17=>?_) fun h17=>?_)
   .rw [N9 h17]at hpq
    have hon:IntKind.i64.wrap ((if 1<nn then 1 else nn)*cc)=X2d nn cc:=by
     have:(if 1<nn then 1 else nn)*cc=X2d nn cc:=by
      unfold X2d;by_cases h:0<nn
      .rw[N9 h];have:(if 1<nn then 1 else nn)=1:=by split<;>omega
       rw[this,Int.one_mul]
      rw[N6 h];have:(if 1<nn then 1 else nn)=0:=by split<;>omega
      rw[this,Int.zero_mul]
     rw[this];have:=Xa9 (m:=nn) hci;exact X5
    have hm1:=mulT hni (z:=cc+xa.1) (by omega);have hm2:=mulT hni (z:=cc+xa.2) (by omega);have hw2:IntKind.i64.wrap (cc+xa.1)=cc+xa.1:=X5;have hw3:IntKind.i64.wrap (cc+xa.2)=cc+xa.2:=X5;have hw4:IntKind.i64.wrap (nn*(cc+xa.1))=nn*(cc+xa.1):=X5;have hw5:IntKind.i64.wrap (nn*(cc+xa.2))=nn*(cc+xa.2):=X5;clear hm1 hm2;refine X0<|(Xa ca ?_);refine X4 ?_;refine X3<|(Xc (fun h21=>?_) fun h21=>?_)
    .rw[N9 h21]at hpq;subst hpq;refine X1 ?_;exact Xv (()) (trivial)
    rw[N6 (fun h=>h h21)]at hpq;refine(Xc (fun h25=>?_) fun h25=>?_)
    .rw[N9 h25]at hpq;subst hpq;refine X1 ?_;exact Xv (()) (trivial)
    rw[N6 (fun h=>h h25)]at hpq;subst hpq;refine X1 ?_;exact Xv (()) (trivial)
   rw[N6 h17]at hpq;subst hpq;exact Xv (()) (trivial)
  rintro z hz;simp only[LN,Nat.reduceBEq,Nat.reduceLT];clear hpq ca cb c1 c2 hci hni hxa hxb;have hw2:IntKind.i64.wrap (m+pq.1)=m+pq.1:=X5;have hw3:IntKind.i64.wrap (q+pq.2)=q+pq.2:=X5;have hm1:=mn_in (a:=m+pq.1) (by omega);have hm2:=mn_in (a:=q+pq.2) (by omega);have hmn1:(if 67108865<m+pq.1 then 67108865 else m+pq.1)=mn (m+pq.1) 67108865:=rfl;have hmn2:(if 67108865<q+pq.2 then 67108865 else q+pq.2)=mn (q+pq.2) 67108865:=rfl;refine X1 ?_;refine X1 ?_;exact Xj ((k+1,mn (m+pq.1) 67108865,mn (q+pq.2) 67108865)) (⟨hk1,hJ,hm1.1,hm1.2,hm2.1,hm2.2⟩) (hm:=by simp only;omega)
 have hkl:k=l.length:=by omega
 rw[hkl,Nj]at hJ;simp only[spL]at hJ;subst hJ;refine(Xd ?_);exact X7
theorem takeM {T Y:Type} (f:T->Y) (l:List T):(l.map f).take l.length=l.map f:=by
 rw[List.take_of_length_le (by simp)]
def X0n (b:Int×Int):Int:=if b.1<0 then mn (b.1+1) 0 else 0
def X2k (b:Int×Int):Int:=if 0<b.2 then mx (b.2 - 1) 0 else 0
@[simp] def g2 (k:List (Int×Int)) (i:Nat):Int×Int:=k[i]?.getD ((0:Int),(0:Int))
def Q5 (vars:List Vr) (o n:Int) (k:List (Int×Int)):Int×Int:=
 if o=0 then(n,n)else if o=24 then(match vars[n.toNat]? with|some v=>(v.low,v.high)|none=>(0,0))
 else if o=6 then(-(g2 k 0).2,-(g2 k 0).1)
 else if o=8 then((g2 k 0).1+(g2 k 1).1,(g2 k 0).2+(g2 k 1).2)
 else if o=9 then((g2 k 0).1 - (g2 k 1).2,(g2 k 0).2 - (g2 k 1).1)
 else if o=10 then X2s (g2 k 0) (g2 k 1)
 else if o=11 then(if 0<=(g2 k 0).1/\0<=(g2 k 1).1 then(0,mx (g2 k 0).2 (-(g2 k 0).1))else(-(mx (g2 k 0).2 (-(g2 k 0).1)),mx (g2 k 0).2 (-(g2 k 0).1)))
 else if o=12 then(X0n (g2 k 1),X2k (g2 k 1))
 else if o=21 then(mn (g2 k 0).1 (g2 k 1).1,mn (g2 k 0).2 (g2 k 1).2)
 else if o=22 then(mx (g2 k 0).1 (g2 k 1).1,mx (g2 k 0).2 (g2 k 1).2)
 else if o=23\/o=25 then Wg (k.drop 2) (g2 k 1)else(0,1)
theorem kid {k:List (Int×Int)} (hk:∀p∈k,bnd p) {i:Nat} (h:i+1<=k.length):∃a1 a2,k[i]? =some (a1,a2)∧-1048576<=a1/\a1<=a2/\a2<=1048576:=by
 have:k[i]? =some k[i]:=by simp[show i<k.length from h]
 have h2:=hk k[i] (Di _);exact⟨k[i].1,k[i].2,this,h2⟩
theorem WJ {vars:List Vr} {inp:Bool} {o n:Int} {len:Nat} (h:XK vars inp o n len=true):0<=(XI o).1/\(XI o).1<=len/\(len:Int)<=(XI o).2:=by
 unfold XK at h;simp only[N4,Nk,Nd]at h;omega
theorem Wn {vars:List Vr} {inp:Bool} {n:Int} {len:Nat} (h:XK vars inp 24 n len=true):0<=n/\∃v,vars[n.toNat]? =some v/\(inp=true->v.kind≠0):=by
 unfold XK Zj at h;simp only[N4,Int.reduceEq,NW,NG,N7]at h;obtain⟨_,h0,h⟩:=h;refine⟨h0,?_⟩;split at h
 .rename_i v hv;refine⟨v,hv,fun hi hk=>?_⟩;simp[hi,hk]at h
 cases h
theorem kids1 {o:Int} (h:o=6\/o=7):XI o=(1,1):=by
 unfold XI;rw[N6 (by omega),N9 h]
theorem kids2 {o:Int} (h:8<=o/\o<=22):XI o=(2,2):=by
 unfold XI;rw[N6 (by omega),N6 (by omega),N9 h]
theorem kids3:XI 23=(3,3):=by decide
theorem kids4:XI 25=(2,33):=by decide
theorem rule_con (vars:List Vr) (inp:Bool) (o n:Int) (K:CD) (k:List (Int×Int)) (hf:XK vars inp o n k.length=true) (hk:∀p∈k,bnd p) (d:Nat):
  Con prog 154 true [lV vars,.agg [.c (iC o),.c (iC n),.c K],.one (.c (.sl 2 (X0N k)))] (.v (aP (Q5 vars o n k))) none d:=by
 have har:=WJ hf;have hrf:o=24->0<=n/\∃v,vars[n.toNat]? =some v/\(inp=true->v.kind≠0):=fun h=>Wn (by rw[<-h];exact hf);clear hf;have ar1:o=6->0+1<=k.length:=fun h=>by have:=kids1 (.inl h);rw[this]at har;simp only at har;omega
 have ar2:8<=o/\o<=22->0+1<=k.length/\1+1<=k.length:=fun h=>by have:=kids2 h;rw[this]at har;simp only at har;omega
 have ar3:o=23\/o=25->2<=k.length/\k.length<=33:=fun h=>by
  rcases h with h|h
  .have:=kids3;rw[h,this]at har;simp only at har;omega
  have:=kids4;rw[h,this]at har;simp only at har;omega
 clear har;refine X2 Tryz.func154 ?_;simp only[Tryz.f154];refine X4 ?_;refine X0<|X0<|X1 ?_;refine X3<|(Xc (fun h3=>?_) fun h3=>?_)
 .refine X4 ?_;exact(Qd (he:=by first|rfl|(simp[*,Q5];done)|(simp only[Xl,Q5];(repeat' split)<;>first|rfl|(exfalso;omega)|simp_all)))
 refine(Xc (fun h7=>?_) fun h7=>?_)
 .obtain⟨hn0,v,hv,_⟩:=hrf h7;clear hrf;refine X0<|(N0 ?_);exact(Qd (he:=by first|rfl|(simp[*,Q5];done)|(simp only[Xl,Q5];(repeat' split)<;>first|rfl|(exfalso;omega)|simp_all)))
 refine(Xc (fun h11=>?_) fun h11=>?_)
 .obtain⟨a1,a2,ha,hb1,hb2,hb3⟩:=kid hk (ar1 h11);have hw1:IntKind.i64.wrap (-a1)=-a1:=X5;have hw2:IntKind.i64.wrap (-a2)=-a2:=X5;clear ar1 ar2 ar3;refine X0<|(N0 ?_);exact(Qd (he:=by first|rfl|(simp[*,Q5];done)|(simp only[Xl,Q5];(repeat' split)<;>first|rfl|(exfalso;omega)|simp_all)))
 refine(Xc (fun h15=>?_) fun h15=>?_)
 .obtain⟨a1,a2,ha,hb1,hb2,hb3⟩:=kid hk (ar2 (by omega)).1;obtain⟨c1,c2,hc,hc1,hc2,hc3⟩:=kid hk (ar2 (by omega)).2;have hw1:IntKind.i64.wrap (a1+c1)=a1+c1:=X5;have hw2:IntKind.i64.wrap (a2+c2)=a2+c2:=X5;clear ar1 ar2 ar3;refine X0<|(N0 ?_);exact(Qd (he:=by first|rfl|(simp[*,Q5];done)|(simp only[Xl,Q5];(repeat' split)<;>first|rfl|(exfalso;omega)|simp_all)))
 refine(Xc (fun h19=>?_) fun h19=>?_)
 .obtain⟨a1,a2,ha,hb1,hb2,hb3⟩:=kid hk (ar2 (by omega)).1;obtain⟨c1,c2,hc,hc1,hc2,hc3⟩:=kid hk (ar2 (by omega)).2;have hw1:IntKind.i64.wrap (a1 - c2)=a1 - c2:=X5;have hw2:IntKind.i64.wrap (a2 - c1)=a2 - c1:=X5;clear ar1 ar2 ar3;refine X0<|(N0 ?_);exact(Qd (he:=by first|rfl|(simp[*,Q5];done)|(simp only[Xl,Q5];(repeat' split)<;>first|rfl|(exfalso;omega)|simp_all)))
 refine(Xc (fun h23=>?_) fun h23=>?_)
 .obtain⟨a1,a2,ha,hb1,hb2,hb3⟩:=kid hk (ar2 (by omega)).1;obtain⟨c1,c2,hc,hc1,hc2,hc3⟩:=kid hk (ar2 (by omega)).2;clear ar1 ar2 ar3;refine X0<|(Xx [⟨true,.v (aP (X2s (a1,a2) (c1,c2))),none⟩] (by kernel_rfl) (by kernel_rfl) (by rfl) (by simp[*];first|exact⟨rfl,Iff.rfl⟩|exact⟨rfl,trivial⟩|rfl) ?_ ?_)
  .first|exact X3I (a1,a2) (c1,c2) ⟨hb1,hb2,hb3⟩ ⟨hc1,hc2,hc3⟩ _|exact trivial|simpa[*]using X3I (a1,a2) (c1,c2) ⟨hb1,hb2,hb3⟩ ⟨hc1,hc2,hc3⟩ _
  exact(Qd (he:=by first|rfl|(simp[*,Q5];done)|(simp only[Xl,Q5];(repeat' split)<;>first|rfl|(exfalso;omega)|simp_all)))
 refine(Xc (fun h27=>?_) fun h27=>?_)
 .obtain⟨a1,a2,ha,hb1,hb2,hb3⟩:=kid hk (ar2 (by omega)).1;obtain⟨c1,c2,hc,hc1,hc2,hc3⟩:=kid hk (ar2 (by omega)).2;have hw1:IntKind.i64.wrap (-a1)=-a1:=X5;have hm:-1048576<=mx a2 (-a1)/\mx a2 (-a1)<=1048576:=by unfold mx;split<;>omega
  have hw2:IntKind.i64.wrap (-(mx a2 (-a1)))=-(mx a2 (-a1)):=X5;have hmx:(if a2< -a1 then -a1 else a2)=mx a2 (-a1):=rfl;clear ar1 ar2 ar3;refine X0<|(N0 ?_);refine X0<|(X8 (fun h30=>?_) fun h30=>?_)
  .refine X4 ?_;exact(Qd (he:=by first|rfl|(simp[*,Q5];done)|(simp only[Xl,Q5];(repeat' split)<;>first|rfl|(exfalso;omega)|simp_all)))
  have hng:¬(0<=a1/\0<=c1):=by omega
  refine X4 ?_;exact(Qd (he:=by first|rfl|(simp[*,Q5];done)|(simp only[Xl,Q5];(repeat' split)<;>first|rfl|(exfalso;omega)|simp_all)))
 refine(Xc (fun h36=>?_) fun h36=>?_)
 .obtain⟨c1,c2,hc,hc1,hc2,hc3⟩:=kid hk (ar2 (by omega)).2;have hw1:IntKind.i64.wrap (c1+1)=c1+1:=X5;have hw2:IntKind.i64.wrap (c2 - 1)=c2 - 1:=X5;have hmn:(if 0<c1+1 then 0 else c1+1)=mn (c1+1) 0:=rfl;have hmx:(if c2 - 1<0 then 0 else c2 - 1)=mx (c2 - 1) 0:=rfl;clear ar1 ar2 ar3;refine X4 ?_;refine(XY [2,6,8] (fun(z:Int)=>[]) (fun(z:Int)=>[(6,.box [.c (iC 0),.c (iC 0)]),(8,.box [.c (iC z),.c (iC 0)])]) (fun(z:Int)=>z=X0n (c1,c2)) ?_ ?_)
  .refine(X8 (fun h40=>?_) fun h40=>?_)
   .have hml:mn (c1+1) 0=X0n (c1,c2):=by simp only[X0n];rw[N9 h40]
    refine X1 ?_;exact Xv (X0n (c1,c2)) (rfl)
   have hml:(0:Int)=X0n (c1,c2):=by simp only[X0n];rw[N6 h40]
   exact Xv (X0n (c1,c2)) (rfl)
  rintro _ rfl;simp only[LN,Nat.reduceBEq,Nat.reduceLT];refine X0<|(X8 (fun h45=>?_) fun h45=>?_)
  .have hmh:mx (c2 - 1) 0=X2k (c1,c2):=by simp only[X2k];rw[N9 h45]
   refine X1 ?_;refine X4 ?_;exact(Qd (he:=by first|rfl|(simp[*,Q5];done)|(simp only[Xl,Q5];(repeat' split)<;>first|rfl|(exfalso;omega)|simp_all)))
  have hmh:X2k (c1,c2)=0:=by simp only[X2k];rw[N6 h45]
  refine X4 ?_;exact(Qd (he:=by first|rfl|(simp[*,Q5];done)|(simp only[Xl,Q5];(repeat' split)<;>first|rfl|(exfalso;omega)|simp_all)))
 refine(Xc (fun h52=>?_) fun h52=>?_)
 .obtain⟨a1,a2,ha,hb1,hb2,hb3⟩:=kid hk (ar2 (by omega)).1;obtain⟨c1,c2,hc,hc1,hc2,hc3⟩:=kid hk (ar2 (by omega)).2;clear ar1 ar2 ar3;refine X0<|(N0 ?_);exact(Qd (he:=by simp[*,Q5,Xl,mn]))
 refine(Xc (fun h56=>?_) fun h56=>?_)
 .obtain⟨a1,a2,ha,hb1,hb2,hb3⟩:=kid hk (ar2 (by omega)).1;obtain⟨c1,c2,hc,hc1,hc2,hc3⟩:=kid hk (ar2 (by omega)).2;clear ar1 ar2 ar3;refine X0<|(N0 ?_);exact(Qd (he:=by simp[*,Q5,Xl,mx]))
 refine(XY [2,6] (fun(z:Bool)=>[(200,.v (lb z))]) (fun(z:Bool)=>[(6,.box [.c (iC 0),.c (iC 0)])]) (fun(z:Bool)=>z=decide (o=23\/o=25)) ?_ ?_)
 .refine(Xc (fun h61=>X6 ?_) fun h61=>?_)
  .exact Xv (true) (by simp[h61])
  refine X1 ?_;exact Xv (decide (o=25)) (by simp[h61])
 rintro z hz;simp only[LN,Nat.reduceBEq,Nat.reduceLT];subst hz;obtain⟨res,hres⟩:∃r,Q5 vars o n k=r:=⟨_,rfl⟩;rw[hres];simp only[Q5,h3,h7,h11,h15,h19,h23,h27,h36,h52,h56,NW]at hres;refine(XM (fun h65=>?_) fun h65=>?_)
 .have h2:=ar3 h65;rw[N9 h65]at hres;clear ar1 ar2 ar3 h65;rcases k with _|⟨a,_|⟨c,r⟩⟩
  .simp at h2
  .simp at h2
  have hr33:r.length<=31:=by simp only[List.length_cons]at h2;omega
  clear h2;simp at hres;refine X0<|(XF (by simp[*,X0N];rfl) ?_);refine X0<|X0<|(XF (by simp[*,X0N,takeM];rfl) ?_);refine X3<|(Xb [6,9,207,208] (fun(x:Nat×Int×Int)=>[(209,.v (li x.1))]) (fun(x:Nat×Int×Int)=>[(6,.box [.c (iC 0),.c (iC 0)]),(9,.box [.c (iC x.2.1),.c (iC x.2.2)])]) (fun(x:Nat×Int×Int)=>x.1<=r.length/\Wg (r.drop x.1) x.2=res) (fun(x:Nat×Int×Int)=>r.length - x.1) (0,c) ⟨Nc _,hres⟩ ?_);rintro⟨k,m,q⟩ ⟨hk',hJ⟩;simp only[LN,Nat.reduceBEq,Nat.reduceLT];simp only at hk' hJ;clear hres;refine(XS (fun h70=>X6 ?_) fun h70=>?_)
  .have hlt:k<r.length:=by omega
   obtain⟨⟨e1,e2⟩,he,hd⟩:=Xw hlt;have hw1:=Xz hlt (by omega);rw[hd]at hJ;simp only[Wg]at hJ;have hk1:k+1<=r.length:=hlt;clear hlt h70;refine X0<|X3<|X0<|X1 ?_;refine(Xa (X7q (m,q) (e1,e2)) ?_);refine X1 ?_;exact Xj ((k+1,Wb (m,q) (e1,e2))) (⟨hk1,hJ⟩) (hm:=by simp only;omega)
  have hkl:k=r.length:=by omega
  rw[hkl,Nj]at hJ;simp only[Wg]at hJ;refine(Xd ?_);refine X4 ?_;exact(Qd (he:=by subst hJ;rfl))
 rw[N6 h65]at hres;subst hres;refine X4 ?_;exact(Qd (he:=by first|rfl|(simp[*,Q5];done)|(simp only[Xl,Q5];(repeat' split)<;>first|rfl|(exfalso;omega)|simp_all)))
theorem kids_eq (o:Int) (len:Nat):(!decide (WO o=-1)&&((!decide (0<=WO o)||decide ((len:Int)=WO o))&&(!decide (WO o=-2)||(!decide ((len:Int)<2)&& !decide (33<(len:Int))))))=(!decide ((XI o).1<0)&&(!decide ((len:Int)<(XI o).1)&& !decide ((XI o).2<(len:Int)))):=by
 unfold WO XI
 (repeat' split)<;>simp<;>(try omega)
 all_goals(rw[D9];simp only[N4,Ng,Nk,N7,Nd];omega)
theorem Xaj (vars:List Vr) (inp:Bool) (hv:vars.length<=1000000000) (t:Tm):t.nodes<=1000000000->∀d:Nat,
  Con prog 132 true [lV vars,aT t,lb inp] (.v (lb (Xt vars inp t))) none d:=by
 induction t using Tm.ind with
 |h o n ks ih=>
 intro hn d;simp only[Tm.nodes]at hn;have hlen:=Qy ks;obtain⟨res,hres⟩:∃r,Xt vars inp (.mk o n ks)=r:=⟨_,rfl⟩;rw[hres];simp only[Xt]at hres;have ih':∀t∈ks,∀d,Con prog 132 true [lV vars,aT t,lb inp] (.v (lb (Xt vars inp t))) none d:=fun t ht d=>ih t ht (by have:=W3 ht;omega) d;clear ih;have hke:=kids_eq o ks.length;refine X2 Tryz.func132 ?_;simp only[Tryz.f132];simp only[aT,Tm.enc];refine X4 ?_;refine X0<|(Xa (Xb0 o) ?_);refine X0<|(X8 (fun h3=>?_) fun h3=>?_)
 .have hz:XK vars inp o n ks.length=false:=by
   unfold XK;rw[<-hke,Nn];refine .inl ?_;simp only[Nn,NH,Bool.not_eq_false',N7,Nd];omega
  rw[hz,NY]at hres;refine X4 ?_;exact(Qd (he:=by first|rfl|simp[*]))
 have hz:(!decide ((XI o).1<0)&&(!decide ((ks.length:Int)<(XI o).1)&& !decide ((XI o).2<(ks.length:Int))))=true:=by
  rw[<-hke];simp only[N4,Ng,Nk,Nd,N7];omega
 clear hke;refine(XY [0,2,4] (fun(z:Unit)=>[]) (fun(z:Unit)=>[(4,.box [.c (iC o),.c (iC n),.c (.sl 3 (Xg ks))])]) (fun(z:Unit)=>XK vars inp o n ks.length=true) ?_ ?_)
 .refine (Xc (fun h8=>?_) fun h8=>?_)
  .by_cases hn0:0<=n
   .by_cases hn3:n<vars.length
    .obtain⟨v,hv1⟩:=X2t ⟨hn0,hn3⟩;have hn1:¬(vars.length:Int)<=n:=by omega
     have hn2:¬n<0:=by omega
     clear hn3;refine(X8 (fun h10=>?_) fun h10=>?_)
     .have hz3:XK vars inp o n ks.length=false:=by
       unfold XK Zj;rw[hz,NF,N6 (by omega),N9 h8,hv1];simp[h10]
      rw[hz3,NY]at hres;refine X4 ?_;exact(Qd (he:=by first|rfl|simp[*]))
     exact Xv (()) (by
      unfold XK Zj;rw[hz,NF,N6 (by omega),N9 h8,hv1];simp only[N4,Nk,Nn,N7,Nd]
      exact⟨hn0,h10⟩)
    cases inp
    .have hv1:=X0k hn0 hn3;have hn1:(vars.length:Int)<=n:=by omega
     have hn2:¬n<0:=by omega
     have hz2:∀i,Zj vars i n=false:=by intro i;simp[Zj,hv1]
     clear hn3;refine(X8 (fun h10=>?_) fun h10=>?_)
     .have hz3:∀i,XK vars i o n ks.length=false:=by
       intro i;unfold XK;rw[hz,NF,N6 (by omega),N9 h8,hz2]
      rw[hz3,NY]at hres;refine X4 ?_;exact(Qd (he:=by first|rfl|simp[*]))
     exact absurd h10 (by simp)
    have hv1:=X0k hn0 hn3;have hn1:(vars.length:Int)<=n:=by omega
    have hn2:¬n<0:=by omega
    have hz2:∀i,Zj vars i n=false:=by intro i;simp[Zj,hv1]
    clear hn3;refine(X8 (fun h10=>?_) fun h10=>?_)
    .have hz3:∀i,XK vars i o n ks.length=false:=by
      intro i;unfold XK;rw[hz,NF,N6 (by omega),N9 h8,hz2]
     rw[hz3,NY]at hres;refine X4 ?_;exact(Qd (he:=by first|rfl|simp[*]))
    exact absurd h10 (by simp)
   cases inp
   .have hn2:n<0:=by omega
    have hz2:∀i,Zj vars i n=false:=by intro i;simp[Zj,hn0]
    refine(X8 (fun h10=>?_) fun h10=>?_)
    .have hz3:∀i,XK vars i o n ks.length=false:=by
      intro i;unfold XK;rw[hz,NF,N6 (by omega),N9 h8,hz2]
     rw[hz3,NY]at hres;refine X4 ?_;exact(Qd (he:=by first|rfl|simp[*]))
    exact absurd h10 (by simp)
   have hn2:n<0:=by omega
   have hz2:∀i,Zj vars i n=false:=by intro i;simp[Zj,hn0]
   refine(X8 (fun h10=>?_) fun h10=>?_)
   .have hz3:∀i,XK vars i o n ks.length=false:=by
     intro i;unfold XK;rw[hz,NF,N6 (by omega),N9 h8,hz2]
    rw[hz3,NY]at hres;refine X4 ?_;exact(Qd (he:=by first|rfl|simp[*]))
   exact absurd h10 (by simp)
  refine(X8 (fun h15=>?_) fun h15=>?_)
  .have hz3:XK vars inp o n ks.length=false:=by
    unfold XK;rw[hz,NF,N6 (by omega),N6 h8];simp only[Nd];omega
   rw[hz3,NY]at hres;refine X4 ?_;exact(Qd (he:=by first|rfl|simp[*]))
  exact Xv (()) (by
   unfold XK;rw[hz,NF];split
   .rfl
   simp only[N7]
   omega)
 rintro z hz;simp only[LN,Nat.reduceBEq,Nat.reduceLT];rw[hz,NF]at hres;refine X0<|X0<|X1 ?_;refine X3<|(Xb [0,2,4] (fun(x:Nat)=>[(8,.v (li x))]) (fun(x:Nat)=>[(4,.box [.c (iC o),.c (iC n),.c (.sl 3 (Xg ks))])]) (fun(x:Nat)=>x<=ks.length/\Q0 vars inp (ks.drop x)=res) (fun(x:Nat)=>ks.length - x) (0:Nat) ⟨Nc _,hres⟩ ?_);rintro k ⟨hk,hJ⟩;simp only[LN,Nat.reduceBEq,Nat.reduceLT];refine X0<|(Xc (fun h22=>X6 ?_) fun h22=>?_)
 .have hlt:k<ks.length:=by omega
  obtain⟨⟨eo,en,ek⟩,he,hd⟩:=Xw hlt;have he':=Qc he;simp only[Tm.enc]at he';have hw1:=Xz hlt (by omega);rw[hd]at hJ;simp only[Q0]at hJ;have hk1:k+1<=ks.length:=hlt;have hmem:Tm.mk eo en ek∈ks:=N3 he;clear hlt h22;refine X0<|X3<|X0<|(Xa (ih' _ hmem) ?_);refine(XM (fun h24=>?_) fun h24=>?_)
  .rw[h24,NY]at hJ;subst hJ;refine X4 ?_;exact(Qd (he:=by first|rfl|simp[*]))
  rw[h24,NF]at hJ;refine X1 ?_;exact Xj (k+1) (⟨hk1,hJ⟩)
 have hkl:k=ks.length:=by omega
 subst hkl;rw[Nj]at hJ;simp only[Q0]at hJ;subst hJ;refine(Xd ?_);refine X4 ?_;exact(Qd (he:=by first|rfl|simp[*]))
structure B3 where
 s:Int
 o:Int
 t:Int
def bd1 (d c n:Int) (x y:B3):B3:=
 if d=4 then⟨1+n*(1+x.s),n*x.o,n*(c+x.t)⟩
 else if d=3 then⟨1+mx x.s y.s,mx x.o y.o,c+mx x.t y.t⟩
 else if d=1 then⟨1,1,c⟩ else⟨1,0,c⟩
def Qe (C:B3) (x y:B3):B3:=⟨mn (x.s+y.s) C.s,mn (x.o+y.o) C.o,mn (x.t+y.t) C.t⟩
mutual
def bdS (C:B3):St->B3
 | .mk d c _ n _ a b _=>bd1 d c n (bdL C a ⟨0,0,0⟩) (bdL C b ⟨0,0,0⟩)
def bdL (C:B3):List St->B3->B3
 |[],p=>p
 |s::l,p=>bdL C l (Qe C p (bdS C s))
end
mutual
def okS:St->Bool
 | .mk d c _ n _ a b _=>(decide (0<=c)&&(decide (c<=67108864)&&(decide (d≠4)||(decide (0<=n)&&decide (n<=4096)))))&&((decide (d=3)||(decide (d=4)||(a.isEmpty&&b.isEmpty)))&&(okL a&&okL b))
def okL:List St->Bool
 |[]=>true
 |s::l=>okS s&&okL l
end
def CP:B3:=⟨1099511627776,1099511627776,1099511627776⟩
def CR:B3:=⟨4097,9,67108865⟩
def in3 (C p:B3):Prop:=0<=p.s/\p.s<=C.s/\0<=p.o/\p.o<=C.o/\0<=p.t/\p.t<=C.t
def nn3 (p:B3):Prop:=0<=p.s/\0<=p.o/\0<=p.t
theorem mulN {n z:Int} (hn:0<=n/\n<=4096) (hz:0<=z/\z<=1099578736641):0<=n*z/\n*z<=4503874505281536:=by
 have h1:n.natAbs*z.natAbs<=4096*1099578736641:=Nat.mul_le_mul (by omega) (by omega);rw[<-Int.natAbs_mul]at h1;have h2:=Dr hn.1 hz.1;omega
theorem bd1_nn {d c n:Int} {x y:B3} (hc:0<=c) (hn:d=4->0<=n) (hx:nn3 x) (hy:nn3 y):nn3 (bd1 d c n x y):=by
 unfold nn3 at*;unfold bd1;split
 .rename_i h4;have h0:=hn h4;refine⟨?_,Dr h0 hx.2.1,Dr h0 (by omega)⟩;have:=Dr h0 (show(0:Int)<=1+x.s by omega);simp only;omega
 split
 .simp only[mx];refine⟨?_,?_,?_⟩<;>split<;>omega
 split<;>simp only<;>omega
theorem X2l {C p q:B3} (hC:nn3 C) (hp:nn3 p) (hq:nn3 q):in3 C (Qe C p q):=by
 unfold in3 Qe nn3 at*;simp only[mn];refine⟨?_,?_,?_,?_,?_,?_⟩<;>split<;>omega
theorem Z1 {C p:B3} (h:in3 C p):nn3 p:=⟨h.1,h.2.2.1,h.2.2.2.2.1⟩
theorem WB {C:B3} (hC:nn3 C):in3 C ⟨0,0,0⟩:=⟨NX _,hC.1,NX _,hC.2.1,NX _,hC.2.2⟩
mutual
theorem X1O {C:B3} (hC:nn3 C):∀s:St,okS s=true->nn3 (bdS C s)
 | .mk d c v n t a b bs,h=>by
   simp only[okS,N4,Ng,N7]at h;simp only[bdS];exact bd1_nn h.1.1 (fun h4=>by omega) (Z1 (Z3 hC a _ h.2.2.1 (WB hC))) (Z1 (Z3 hC b _ h.2.2.2 (WB hC)))
theorem Z3 {C:B3} (hC:nn3 C):∀(l:List St) (p:B3),okL l=true->in3 C p->in3 C (bdL C l p)
 |[],p,_,h=>h
 | s::l,p,h,hp=>by
   simp only[okL,N4]at h;simp only[bdL];exact Z3 hC l _ h.2 (X2l hC (Z1 hp) (X1O hC s h.1))
end
def ZT (C p:B3):B3:=⟨mn p.s C.s,mn p.o C.o,mn p.t C.t⟩
theorem X3Y {n a b k k' C:Int} (hn:0<=n) (ha:0<=a) (hb:0<=b) (hk:0<=k) (hk':0<=k') (h:mn a C=mn b C):mn (k'+n*(k+a)) C=mn (k'+n*(k+b)) C:=by
 by_cases hac:a<C
 .have:a=b:=by
   unfold mn at h
   (repeat' split at h)<;>omega
  rw[this]
 have hbc:C<=b:=by
  unfold mn at h
  (repeat' split at h)<;>omega
 rcases Int.lt_or_le 0 n with h0|h0
 .have h1:=Int.mul_le_mul_of_nonneg_right (show(1:Int)<=n by omega) (show 0<=k+a by omega);have h2:=Int.mul_le_mul_of_nonneg_right (show(1:Int)<=n by omega) (show 0<=k+b by omega);unfold mn
  (repeat' split)<;>omega
 have:n=0:=by omega
 subst this;simp
theorem bd1_cut {C x x' y y':B3} {d c n:Int} (hc:0<=c) (hn:d=4->0<=n) (hx:nn3 x) (hx':nn3 x') (hy:nn3 y) (hy':nn3 y') (h1:ZT C x=ZT C x') (h2:ZT C y=ZT C y'):ZT C (bd1 d c n x y)=ZT C (bd1 d c n x' y'):=by
 unfold ZT at*;unfold nn3 at*;simp only[B3.mk.injEq]at h1 h2⊢;unfold bd1;split
 .rename_i h4;have h0:=hn h4;have e1:=X3Y h0 hx.1 hx'.1 (show(0:Int)<=1 by decide) (show(0:Int)<=1 by decide) h1.1;have e2:=X3Y h0 hx.2.1 hx'.2.1 (NX 0) (NX 0) h1.2.1;have e3:=X3Y h0 hx.2.2 hx'.2.2 hc (NX 0) h1.2.2;simp only[Int.zero_add]at e2 e3;exact⟨e1,e2,e3⟩
 obtain⟨a1,a2,a3⟩:=h1;obtain⟨b1,b2,b3⟩:=h2;split
 .simp only[mx];refine⟨?_,?_,?_⟩
  .clear a2 a3 b2 b3;unfold mn at*;(repeat' split at a1)<;>(repeat' split at b1)<;>(repeat' split)<;>omega
  .clear a1 a3 b1 b3;unfold mn at*;(repeat' split at a2)<;>(repeat' split at b2)<;>(repeat' split)<;>omega
  clear a1 a2 b1 b2;unfold mn at*;(repeat' split at a3)<;>(repeat' split at b3)<;>(repeat' split)<;>omega
 split<;>exact⟨rfl,rfl,rfl⟩
theorem add3_cut {C D p p' x x':B3} (hC:nn3 C) (hD:C.s<=D.s/\C.o<=D.o/\C.t<=D.t) (hp:nn3 p) (hp':nn3 p') (hx:nn3 x) (hx':nn3 x') (h1:ZT C p=ZT C p') (h2:ZT C x=ZT C x'):ZT C (Qe D p x)=ZT C (Qe C p' x'):=by
 unfold ZT at*;unfold nn3 at*;simp only[B3.mk.injEq,Qe]at h1 h2⊢;obtain⟨a1,a2,a3⟩:=h1;obtain⟨b1,b2,b3⟩:=h2;obtain⟨d1,d2,d3⟩:=hD;obtain⟨p1,p2,p3⟩:=hp;obtain⟨q1,q2,q3⟩:=hp';obtain⟨r1,r2,r3⟩:=hx;obtain⟨s1,s2,s3⟩:=hx';obtain⟨c1,c2,c3⟩:=hC;refine⟨?_,?_,?_⟩
 .clear a2 a3 b2 b3;unfold mn at*;(repeat' split at a1)<;>(repeat' split at b1)<;>(repeat' split)<;>omega
 .clear a1 a3 b1 b3;unfold mn at*;(repeat' split at a2)<;>(repeat' split at b2)<;>(repeat' split)<;>omega
 clear a1 a2 b1 b2;unfold mn at*;(repeat' split at a3)<;>(repeat' split at b3)<;>(repeat' split)<;>omega
mutual
theorem bdS_cut {C D:B3} (hC:nn3 C) (hDn:nn3 D) (hD:C.s<=D.s/\C.o<=D.o/\C.t<=D.t):∀s:St,okS s=true->ZT C (bdS D s)=ZT C (bdS C s)
 | .mk d c v n t a b bs,h=>by
   simp only[okS,N4,Ng,N7]at h;simp only[bdS];have ha:=Z1 (Z3 hDn a _ h.2.2.1 (WB hDn));have hb:=Z1 (Z3 hDn b _ h.2.2.2 (WB hDn));have ha':=Z1 (Z3 hC a _ h.2.2.1 (WB hC));have hb':=Z1 (Z3 hC b _ h.2.2.2 (WB hC));have h0:nn3 ⟨0,0,0⟩:=⟨NX _,NX _,NX _⟩;exact bd1_cut h.1.1 (fun h4=>by omega) ha ha' hb hb' (X3U hC hDn hD a _ _ h.2.2.1 (WB hDn) (WB hC) rfl) (X3U hC hDn hD b _ _ h.2.2.2 (WB hDn) (WB hC) rfl)
theorem X3U {C D:B3} (hC:nn3 C) (hDn:nn3 D) (hD:C.s<=D.s/\C.o<=D.o/\C.t<=D.t):∀(l:List St) (p q:B3),okL l=true->in3 D p->in3 C q->ZT C p=ZT C q->ZT C (bdL D l p)=ZT C (bdL C l q)
 |[],p,q,_,_,_,h=>h
 | s::l,p,q,h,hp,hq,hpq=>by
   simp only[okL,N4]at h;simp only[bdL]
   exact X3U hC hDn hD l _ _ h.2 (X2l hDn (Z1 hp) (X1O hDn s h.1)) (X2l hC (Z1 hq) (X1O hC s h.1))
    (add3_cut hC hD (Z1 hp) (Z1 hq) (X1O hDn s h.1) (X1O hC s h.1) hpq (bdS_cut hC hDn hD s h.1))
end
theorem nnCP:nn3 CP:=by unfold nn3 CP;decide
theorem X36:nn3 CR:=by unfold nn3 CR;decide
theorem bd_cmp {l:List St} (h:okL l=true):(4096<(bdL CP l ⟨0,0,0⟩).s↔4096<(bdL CR l ⟨0,0,0⟩).s)/\(8<(bdL CP l ⟨0,0,0⟩).o↔8<(bdL CR l ⟨0,0,0⟩).o)/\(67108864<(bdL CP l ⟨0,0,0⟩).t↔67108864<(bdL CR l ⟨0,0,0⟩).t):=by
 have:=X3U X36 nnCP (by decide) l _ _ h (WB nnCP) (WB X36) rfl;unfold ZT at this;simp only[B3.mk.injEq]at this;obtain⟨h1,h2,h3⟩:=this;generalize bdL CP l ⟨0,0,0⟩=p at*;generalize bdL CR l ⟨0,0,0⟩=q at*;unfold CR at h1 h2 h3;refine⟨?_,?_,?_⟩
 .clear h2 h3;unfold mn at*;simp only at h1;(repeat' split at h1)<;>omega
 .clear h1 h3;unfold mn at*;simp only at h2;(repeat' split at h2)<;>omega
 clear h1 h2;unfold mn at*;simp only at h3;(repeat' split at h3)<;>omega
end Go.Proofs.YtdccocolnaklkaaGreatDoor
