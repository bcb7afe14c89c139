/- Contracts of functions and plain facts about what they compute. Conditions: as each theorem states. -/
import Derived.Test.YtdajceakaakdoaaGreatB4
set_option linter.unusedSimpArgs false
set_option linter.unusedVariables false
set_option linter.unnecessarySimpa false
set_option maxRecDepth 100000
set_option maxHeartbeats 2000000
namespace Go.Proofs.YtdajceakaakdoaaGreat
open Go Go.Hl
open Tryz(prog)
theorem Xbx {l:List St} (h:okL l=true) {s:St} (hs:s∈l):okS s=true:=by
 induction l with
 |nil=>cases hs
 | cons x l ih=>
   simp only[okL,N4]at h;rcases Nh.1 hs with rfl|h1
   .exact h.1
   exact ih h.2 h1
abbrev aB (p:B3):TV:=.agg [.c (iC p.s),.c (iC p.o),.c (iC p.t)]
theorem X6N (l:List St):Xh l<=1000000000->okL l=true->∀d:Nat,Con prog 118 true [lS l] (.v (aB (bdL CP l ⟨0,0,0⟩))) none d:=by
 revert l
 apply St.lists;intro l ih hn hok d;have hlen:=Qm l;obtain⟨res,hres⟩:∃r,bdL CP l ⟨0,0,0⟩=r:=⟨_,rfl⟩;rw[hres];refine X6 Tryz.func118 ?_;simp only[Tryz.f118];refine X0<|(Xp (by simp[*,Qf,CP];rfl) ?_);refine X0<|(Xp (by simp[*,Qf,CP];rfl) ?_);refine X0<|X0<|(Xp (by simp[*,Qf,CP];rfl) ?_);refine X3<|(Xd [2,3,9,10] (fun(x:Nat×B3)=>[(11,.v (li x.1))]) (fun x=>[(2,.box [.c (iC 0),.c (iC 0),.c (iC 0)]),(3,.box [.c (iC x.2.s),.c (iC x.2.o),.c (iC x.2.t)])]) (fun x=>x.1<=l.length/\bdL CP (l.drop x.1) x.2=res/\in3 CP x.2) (fun x=>l.length - x.1) (0,⟨0,0,0⟩) ⟨Nq _,hres,WS X5T⟩ ?_ ?_)
 .exact Xl (fun n=>n) [] rfl (by simp[*,upS,X5,Qf,CP]) (by simp[*,upS]) (by simp[upS])
 rintro⟨k,⟨m1,m2,m3⟩⟩ ⟨hk,hJ,hin⟩;simp only[upS,X5,Xy]
 try simp only[X5,KN,Nat.reduceBEq,Nf,Nc,ins,Nat.reduceLT]
 simp only at hk hJ;unfold in3 CP at hin;simp only at hin;clear hres;refine X0<|(Xp (by simp[*,Qf,CP];rfl) ?_);refine X0<|(X8 rfl (fun h5=>Xb ?_) (fun h5=>?_))
 ·(try simp only[BN]at h5);have hlt:k<l.length:=by omega
  obtain⟨s,he,hd⟩:=Xu hlt;have hmem:s∈l:=N3 he;have hnm:=Qz hmem;have hos:=Xbx hok hmem;have iha:=fun h=>(ih s hmem).1 h;have ihb:=fun h=>(ih s hmem).2 h;have hw1:=XE hlt (by omega);have hk1:k+1<=l.length:=hlt;rw[hd]at hJ;simp only[bdL]at hJ;have hsin:=X2K X5T s hos;obtain⟨pq,hpq⟩:∃pq,bdS CP s=pq:=⟨_,rfl⟩;rw[hpq]at hJ hsin;obtain⟨sd,sc,sv,sn,⟨so,stn,sks⟩,sa,sb,sbs⟩:=s;simp only[St.then_,St.else_,St.term]at iha ihb hnm;simp only[okS,N4,Nl,N6]at hos;have ca:=iha (by omega) hos.2.2.1;have cb:=ihb (by omega) hos.2.2.2;have he':=Q2 he;simp only[St.enc,Tm.enc,List.cons_append,List.nil_append]at he';simp only[bdS]at hpq;have hxa:=ZB X5T sa ⟨0,0,0⟩ hos.2.2.1 (WS X5T);have hxb:=ZB X5T sb ⟨0,0,0⟩ hos.2.2.2 (WS X5T);obtain⟨xa,hxa'⟩:∃x,bdL CP sa ⟨0,0,0⟩=x:=⟨_,rfl⟩;obtain⟨xb,hxb'⟩:∃x,bdL CP sb ⟨0,0,0⟩=x:=⟨_,rfl⟩;rw[hxa']at ca hxa hpq;rw[hxb']at cb hxb hpq;unfold in3 CP at hxa hxb;unfold nn3 at hsin;simp only at hxa hxb;obtain⟨a1,a2,a3⟩:=xa;obtain⟨b1,b2,b3⟩:=xb;obtain⟨q1,q2,q3⟩:=pq;simp only at hxa hxb hsin;have hcost:=hos.1;unfold bd1 at hpq;simp only[mx]at hpq;clear hlt h5 iha ihb ih hxa' hxb' hmem hnm hd he hos;refine X0<|X3<|X0<|(Xp (by simp[*,Qf,CP];rfl) ?_);refine X0<|(Xp (by simp[*,Qf,CP];rfl) ?_);refine X0<|(QC [⟨true,.v (aB ⟨a1,a2,a3⟩),none⟩,⟨true,.v (aB ⟨b1,b2,b3⟩),none⟩] (by kernel_rfl) (by kernel_rfl) (by rfl) (by simp[*,Qf,CP];first|exact⟨rfl,Iff.rfl⟩|exact⟨rfl,trivial⟩|rfl) ?_ ?_)
  .first|exact⟨ca _,cb _⟩|exact trivial|(repeat' first|exact trivial|exact ca _|exact cb _|apply And.intro)
  refine(XM [2,3,6,9,10,11] (fun(z:Unit)=>[]) (fun(z:Unit)=>[(2,.box [.c (iC 0),.c (iC 0),.c (iC 0)]),(3,.box [.c (iC m1),.c (iC m2),.c (iC m3)]),(6,.box [.c (iC q1),.c (iC q2),.c (iC q3)])]) (fun(z:Unit)=>q1<=4503874505281537/\q2<=4503874505281537/\q3<=4503874505281537) ?_ ?_)
  ·
   refine X0<|(Xp (by simp[*,Qf,CP];rfl) ?_);refine X3<|X0<|(Xp (by simp[*,Qf,CP];rfl) ?_);refine(X8 rfl (fun h12=>?_) (fun h12=>?_))
   ·(try simp only[BN]at h12);rw[N7 (by omega),N7 (by omega),Na h12]at hpq;simp only[B3.mk.injEq]at hpq;obtain⟨p1,p2,p3⟩:=hpq;subst p1 p2 p3;refine(Xp (by simp[*,Qf,CP];rfl) ?_);exact⟨(),⟨by omega,by omega,by omega⟩,X4 (fun n=>n) []⟩
   (try simp only[BN]at h12);refine X0<|(Xp (by simp[*,Qf,CP];rfl) ?_);refine(X8 rfl (fun h16=>?_) (fun h16=>?_))
   ·(try simp only[BN]at h16);rw[N7 (by omega),Na h16]at hpq;simp only[B3.mk.injEq]at hpq;obtain⟨p1,p2,p3⟩:=hpq;have hw2:IntKind.i64.wrap (1+(if a1<b1 then b1 else a1))=q1:=by rw[<-p1];exact X9 (by split<;>omega) (by split<;>omega)
    have hw3:IntKind.i64.wrap (sc+(if a3<b3 then b3 else a3))=q3:=by rw[<-p3];exact X9 (by split<;>omega) (by split<;>omega)
    have hq:q1<=4503874505281537/\q2<=4503874505281537/\q3<=4503874505281537:=by
     rw[<-p1,<-p2,<-p3];refine⟨?_,?_,?_⟩<;>split<;>omega
    clear p1 p3;refine X0<|(Xp (by simp[*,Qf,CP];rfl) ?_);refine X0<|(Xp (by simp[*,Qf,CP];rfl) ?_);refine(Xp (by simp[*,Qf,CP];rfl) ?_);exact⟨(),hq,X4 (fun n=>n) []⟩
   (try simp only[BN]at h16);refine X0<|(Xp (by simp[*,Qf,CP];rfl) ?_);refine(Xc rfl (fun h22=>?_) fun h22=>?_)
   ·(try simp only[BN]at h22);rw[Na h22]at hpq;simp only[B3.mk.injEq]at hpq;obtain⟨p1,p2,p3⟩:=hpq;have hnn:0<=sn/\sn<=4096:=by omega
    have m4:=mulN hnn (z:=1+a1) (by omega);have m5:=mulN hnn (z:=a2) (by omega);have m6:=mulN hnn (z:=sc+a3) (by omega);have hw2:IntKind.i64.wrap (1+a1)=1+a1:=X9;have hw3:IntKind.i64.wrap (sn*(1+a1))=sn*(1+a1):=X9;have hw4:IntKind.i64.wrap (1+sn*(1+a1))=q1:=by rw[<-p1];exact X9
    have hw5:IntKind.i64.wrap (sn*a2)=q2:=by rw[<-p2];exact X9
    have hw6:IntKind.i64.wrap (sc+a3)=sc+a3:=X9;have hw7:IntKind.i64.wrap (sn*(sc+a3))=q3:=by rw[<-p3];exact X9
    have hq:q1<=4503874505281537/\q2<=4503874505281537/\q3<=4503874505281537:=by omega
    clear p1 p2 p3 m4 m5 m6;refine X0<|(Xp (by simp[*,Qf,CP];rfl) ?_);refine X0<|(Xp (by simp[*,Qf,CP];rfl) ?_);refine(Xp (by simp[*,Qf,CP];rfl) ?_);exact⟨(),hq,X4 (fun n=>n) []⟩
   (try simp only[BN]at h22);rw[N7 h22,N7 h16,N7 h12]at hpq;simp only[B3.mk.injEq]at hpq;obtain⟨p1,p2,p3⟩:=hpq;subst p1 p2 p3;exact⟨(),⟨by omega,by omega,by omega⟩,X4 (fun n=>n) []⟩
  rintro _ ⟨hq1,hq2,hq3⟩;simp only[upS,X5,Xy]
  try simp only[X5,KN,Nat.reduceBEq,Nf,Nc,ins,Nat.reduceLT]
  clear hpq ca cb hxa hxb;have hw2:IntKind.i64.wrap (m1+q1)=m1+q1:=X9;have hw3:IntKind.i64.wrap (m2+q2)=m2+q2:=X9;have hw4:IntKind.i64.wrap (m3+q3)=m3+q3:=X9;have hmn1:(if 1099511627776<m1+q1 then 1099511627776 else m1+q1)=mn (m1+q1) 1099511627776:=rfl;have hmn2:(if 1099511627776<m2+q2 then 1099511627776 else m2+q2)=mn (m2+q2) 1099511627776:=rfl;have hmn3:(if 1099511627776<m3+q3 then 1099511627776 else m3+q3)=mn (m3+q3) 1099511627776:=rfl;have hin2:in3 CP (Qf CP ⟨m1,m2,m3⟩ ⟨q1,q2,q3⟩):=X30 X5T ⟨hin.1,hin.2.2.1,hin.2.2.2.2.1⟩ ⟨hsin.1,hsin.2.1,hsin.2.2⟩;refine X0<|(Xp (by simp[*,Qf,CP];rfl) ?_);refine X0<|(Xp (by simp[*,Qf,CP];rfl) ?_);refine(Xp (by simp[*,Qf,CP];rfl) ?_);refine(Xp (by simp[*,Qf,CP];rfl) ?_);exact⟨(k+1,Qf CP ⟨m1,m2,m3⟩ ⟨q1,q2,q3⟩),⟨hk1,hJ,hin2⟩,by simp only;omega,Xl (fun n=>n) [] rfl (by simp[upS,X5, *,Qf,CP]) (by simp[*,upS,Qf,CP]) (by simp[upS])⟩
 (try simp only[BN]at h5);have hkl:k=l.length:=by omega
 rw[hkl,Nt]at hJ;simp only[bdL]at hJ;subst hJ;refine(Xg ?_);refine X0<|(Xp (by simp[*,Qf,CP];rfl) ?_);exact(Xj (fun h=>⟨.inr rfl,h⟩) _ (by simp[*,Qf,CP];rfl) (by first|rfl|(simp[*];done)|(simp only[XL];(repeat' split)<;>first|rfl|(exfalso;omega)|simp_all)) (by simp))
theorem X4V (l:List St):Xh l<=1000000000->okL l=true->∀d:Nat,Con prog 54 true [lS l] (.tup [li (bdL CR l ⟨0,0,0⟩).s,li (bdL CR l ⟨0,0,0⟩).o,li (bdL CR l ⟨0,0,0⟩).t]) none d:=by
 revert l
 apply St.lists;intro l ih hn hok d;have hlen:=Qm l;obtain⟨res,hres⟩:∃r,bdL CR l ⟨0,0,0⟩=r:=⟨_,rfl⟩;rw[hres];refine X6 Tryz.func54 ?_;simp only[Tryz.f54];refine X0<|(Xp (by simp[*,Qf,CR];rfl) ?_);refine X0<|(Xp (by simp[*,Qf,CR];rfl) ?_);refine X0<|X0<|(Xp (by simp[*,Qf,CR];rfl) ?_);refine X3<|(Xd [0] (fun(x:Nat×B3)=>[(5,.v (li x.2.s)),(6,.v (li x.2.o)),(7,.v (li x.2.t)),(8,.v (li x.1))]) (fun x=>[]) (fun x=>x.1<=l.length/\bdL CR (l.drop x.1) x.2=res/\in3 CR x.2) (fun x=>l.length - x.1) (0,⟨0,0,0⟩) ⟨Nq _,hres,WS X2Q⟩ ?_ ?_)
 .exact Xl (fun n=>n) [] rfl (by simp[*,upS,X5,Qf,CR]) (by simp[*,upS]) (by simp[upS])
 rintro⟨k,⟨m1,m2,m3⟩⟩ ⟨hk,hJ,hin⟩;simp only[upS,X5,Xy]
 try simp only[X5,KN,Nat.reduceBEq,Nf,Nc,ins,Nat.reduceLT]
 simp only at hk hJ;unfold in3 CR at hin;simp only at hin;clear hres;refine X0<|X0<|(Xp (by simp[*,Qf,CR];rfl) ?_);refine(X8 rfl (fun h5=>Xb ?_) (fun h5=>?_))
 ·(try simp only[BN]at h5);have hlt:k<l.length:=by omega
  obtain⟨s,he,hd⟩:=Xu hlt;have hmem:s∈l:=N3 he;have hnm:=Qz hmem;have hos:=Xbx hok hmem;have iha:=fun h=>(ih s hmem).1 h;have ihb:=fun h=>(ih s hmem).2 h;have hw1:=XE hlt (by omega);have hk1:k+1<=l.length:=hlt;rw[hd]at hJ;simp only[bdL]at hJ;have hsin:=X2K X2Q s hos;obtain⟨pq,hpq⟩:∃pq,bdS CR s=pq:=⟨_,rfl⟩;rw[hpq]at hJ hsin;obtain⟨sd,sc,sv,sn,⟨so,stn,sks⟩,sa,sb,sbs⟩:=s;simp only[St.then_,St.else_,St.term]at iha ihb hnm;simp only[okS,N4,Nl,N6,Dj]at hos;have ca:=iha (by omega) hos.2.2.1;have cb:=ihb (by omega) hos.2.2.2;have he':=Q2 he;simp only[St.enc,Tm.enc,List.cons_append,List.nil_append]at he';simp only[bdS]at hpq;have hxa:=ZB X2Q sa ⟨0,0,0⟩ hos.2.2.1 (WS X2Q);have hxb:=ZB X2Q sb ⟨0,0,0⟩ hos.2.2.2 (WS X2Q);obtain⟨xa,hxa'⟩:∃x,bdL CR sa ⟨0,0,0⟩=x:=⟨_,rfl⟩;obtain⟨xb,hxb'⟩:∃x,bdL CR sb ⟨0,0,0⟩=x:=⟨_,rfl⟩
  have hz:sd≠3->sd≠4->xa=⟨0,0,0⟩/\xb=⟨0,0,0⟩:=by
   intro h3 h4;rcases hos.2.1 with h|h|h
   .exact absurd h h3
   .exact absurd h h4
   rw[<-hxa',<-hxb',h.1,h.2];exact⟨rfl,rfl⟩
  rw[hxa']at ca hxa hpq;rw[hxb']at cb hxb hpq;unfold in3 CR at hxa hxb;unfold nn3 at hsin;simp only at hxa hxb;obtain⟨a1,a2,a3⟩:=xa;obtain⟨b1,b2,b3⟩:=xb;obtain⟨q1,q2,q3⟩:=pq;simp only[B3.mk.injEq]at hz;simp only at hxa hxb hsin;have hcost:=hos.1;unfold bd1 at hpq;simp only at hpq;have hmx1:0<=mx a1 b1/\mx a1 b1<=4097:=by unfold mx;split<;>omega
  have hmx2:0<=mx a2 b2/\mx a2 b2<=9:=by unfold mx;split<;>omega
  have hmx3:0<=mx a3 b3/\mx a3 b3<=67108865:=by unfold mx;split<;>omega
  have hw2:IntKind.i64.wrap (1+mx a1 b1)=1+mx a1 b1:=X9;have hw3:IntKind.i64.wrap (sc+mx a3 b3)=sc+mx a3 b3:=X9;clear hlt h5 iha ihb ih hxa' hxb' hmem hnm hd he hos;refine X0<|X3<|X0<|(Xp (by simp[*,Qf,CR];rfl) ?_);refine X0<|(Wj [⟨true,.tup [li a1,li a2,li a3],none⟩] (by simp[*,Qf,CR];first|exact⟨rfl,Iff.rfl⟩|exact⟨rfl,trivial⟩|rfl) ?_ ?_)
  .first|exact ca _|exact trivial|simpa[*,Qf,CR]using ca _
  refine X0<|(Wj [⟨true,.tup [li b1,li b2,li b3],none⟩] (by simp[*,Qf,CR];first|exact⟨rfl,Iff.rfl⟩|exact⟨rfl,trivial⟩|rfl) ?_ ?_)
  .first|exact cb _|exact trivial|simpa[*,Qf,CR]using cb _
  refine X0<|(QC [⟨true,.v (li (mx a1 b1)),none⟩,⟨true,.v (li (mx a2 b2)),none⟩,⟨true,.v (li (mx a3 b3)),none⟩] (by kernel_rfl) (by kernel_rfl) (by rfl) (by simp[*,Qf,CR];first|exact⟨rfl,Iff.rfl⟩|exact⟨rfl,trivial⟩|rfl) ?_ ?_)
  .first|exact⟨Qw _ _ _,Qw _ _ _,Qw _ _ _⟩|exact trivial|(repeat' first|exact trivial|exact Qw _ _ _|exact Qw _ _ _|exact Qw _ _ _|apply And.intro)
  refine(XM [0,5,6,7,8,9] (fun(z:Int)=>[(16,.v (li q1)),(17,.v (li z)),(18,.v (li q3))]) (fun(z:Int)=>[(9,.box [.c (iC sd),.c (iC sc),.c (iC sv),.c (iC sn),.c (iC so),.c (iC stn),.c (.sl 3 (XA sks)),.c (.sl 10 (X7 sa)),.c (.sl 10 (X7 sb)),.c (.sl 1 (Xi sbs))])]) (fun(z:Int)=>(sd≠1->z=q2)/\(sd=1->q2=1)/\q1<=4503874505281537/\q2<=4503874505281537/\q3<=4503874505281537) ?_ ?_)
  ·
   refine X0<|(Xp (by simp[*,Qf,CR];rfl) ?_);refine(Xc rfl (fun h12=>?_) fun h12=>?_)
   ·(try simp only[BN]at h12);rw[Na h12]at hpq;simp only[B3.mk.injEq]at hpq;obtain⟨p1,p2,p3⟩:=hpq;have hnn:0<=sn/\sn<=4096:=by omega
    have m4:=mulN hnn (z:=1+a1) (by omega);have m5:=mulN hnn (z:=a2) (by omega);have m6:=mulN hnn (z:=sc+a3) (by omega);have hw2:IntKind.i64.wrap (1+a1)=1+a1:=X9;have hw3:IntKind.i64.wrap (sn*(1+a1))=sn*(1+a1):=X9;have hw4:IntKind.i64.wrap (1+sn*(1+a1))=q1:=by rw[<-p1];exact X9
    have hw5:IntKind.i64.wrap (sn*a2)=q2:=by rw[<-p2];exact X9
    have hw6:IntKind.i64.wrap (sc+a3)=sc+a3:=X9;have hw7:IntKind.i64.wrap (sn*(sc+a3))=q3:=by rw[<-p3];exact X9
    have hq:q1<=4503874505281537/\q2<=4503874505281537/\q3<=4503874505281537:=by omega
    clear p1 p2 p3 m4 m5 m6 hz;refine(Q7 (by kernel_rfl) (by kernel_rfl) (by rfl) (by simp[*,Qf,CR];rfl) ?_);exact⟨q2,⟨fun _=>rfl,fun h=>absurd h (by omega),hq⟩,X4 (fun n=>n) []⟩
   try simp only[BN]at h12
   have hfin:q1=1+mx a1 b1/\q3=sc+mx a3 b3/\(sd≠1->mx a2 b2=q2)/\(sd=1->q2=1):=by
    rw[N7 h12]at hpq;by_cases h3:sd=3
    .rw[Na h3]at hpq;simp only[B3.mk.injEq]at hpq;exact⟨hpq.1.symm,hpq.2.2.symm,fun _=>hpq.2.1,fun h=>absurd h (by omega)⟩
    rw[N7 h3]at hpq;obtain⟨⟨e1,e2,e3⟩,e4,e5,e6⟩:=hz h3 h12;subst e1 e2 e3 e4 e5 e6;by_cases h1:sd=1
    .rw[Na h1]at hpq;simp only[B3.mk.injEq]at hpq;exact⟨by rw[<-hpq.1];rfl,by rw[<-hpq.2.2];simp[mx],fun h=>absurd h1 h,fun _=>hpq.2.1.symm⟩
    rw[N7 h1]at hpq;simp only[B3.mk.injEq]at hpq;exact⟨by rw[<-hpq.1];rfl,by rw[<-hpq.2.2];simp[mx],fun _=>by rw[<-hpq.2.1];rfl,fun h=>absurd h h1⟩
   obtain⟨f1,f2,f3,f4⟩:=hfin;have hq1:q1<=4503874505281537:=by omega
   have hq3:q3<=4503874505281537:=by omega
   have hq2:q2<=4503874505281537:=by
    by_cases h:sd=1
    .have:=f4 h;omega
    have:=f3 h;omega
   clear hpq hz;exact⟨mx a2 b2,⟨f3,f4,hq1,hq2,hq3⟩,X4 (fun n=>n) []⟩
  rintro z2 ⟨hz2,hz3,hq⟩;simp only[upS,X5,Xy]
  try simp only[X5,KN,Nat.reduceBEq,Nf,Nc,ins,Nat.reduceLT]
  clear hpq hz hw2 hw3 ca cb;refine(XM [0,5,6,7,8,16,18] (fun(z:Unit)=>[(17,.v (li q2))]) (fun(z:Unit)=>[]) (fun(z:Unit)=>True) ?_ ?_)
  ·
   refine X0<|(Xp (by simp[*,Qf,CR];rfl) ?_);refine(Xc rfl (fun h18=>?_) fun h18=>?_)
   ·(try simp only[BN]at h18);have hq21:=hz3 h18;refine(Xp (by simp[*,Qf,CR];rfl) ?_);exact⟨(),trivial,X4 (fun n=>n) []⟩
   (try simp only[BN]at h18);have hq21:=hz2 h18;exact⟨(),trivial,X4 (fun n=>n) []⟩
  rintro _ _;simp only[upS,X5,Xy]
  try simp only[X5,KN,Nat.reduceBEq,Nf,Nc,ins,Nat.reduceLT]
  clear hz2 hz3;obtain⟨hq1,hq2,hq3⟩:=hq;have hw2:IntKind.i64.wrap (m1+q1)=m1+q1:=X9;have hw3:IntKind.i64.wrap (m2+q2)=m2+q2:=X9;have hw4:IntKind.i64.wrap (m3+q3)=m3+q3:=X9;have hin2:in3 CR (Qf CR ⟨m1,m2,m3⟩ ⟨q1,q2,q3⟩):=X30 X2Q ⟨hin.1,hin.2.2.1,hin.2.2.2.2.1⟩ ⟨hsin.1,hsin.2.1,hsin.2.2⟩;refine X0<|(Wj [⟨true,.v (li (mn (m1+q1) 4097)),none⟩] (by simp[*,Qf,CR];first|exact⟨rfl,Iff.rfl⟩|exact⟨rfl,trivial⟩|rfl) ?_ ?_)
  .first|exact Q1 _ _ _|exact trivial|simpa[*,Qf,CR]using Q1 _ _ _
  refine X0<|(Wj [⟨true,.v (li (mn (m2+q2) 9)),none⟩] (by simp[*,Qf,CR];first|exact⟨rfl,Iff.rfl⟩|exact⟨rfl,trivial⟩|rfl) ?_ ?_)
  .first|exact Q1 _ _ _|exact trivial|simpa[*,Qf,CR]using Q1 _ _ _
  refine(Wj [⟨true,.v (li (mn (m3+q3) 67108865)),none⟩] (by simp[*,Qf,CR];first|exact⟨rfl,Iff.rfl⟩|exact⟨rfl,trivial⟩|rfl) ?_ ?_)
  .first|exact Q1 _ _ _|exact trivial|simpa[*,Qf,CR]using Q1 _ _ _
  refine(Xp (by simp[*,Qf,CR];rfl) ?_);exact⟨(k+1,Qf CR ⟨m1,m2,m3⟩ ⟨q1,q2,q3⟩),⟨hk1,hJ,hin2⟩,by simp only;omega,Xl (fun n=>n) [] rfl (by simp[upS,X5, *,Qf,CR]) (by simp[*,upS,Qf,CR]) (by simp[upS])⟩
 (try simp only[BN]at h5);have hkl:k=l.length:=by omega
 rw[hkl,Nt]at hJ;simp only[bdL]at hJ;subst hJ;refine(Xg ?_);refine X0<|(Xp (by simp[*,Qf,CR];rfl) ?_);exact(Xj (fun h=>⟨.inr rfl,h⟩) _ (by simp[*,Qf,CR];rfl) (by first|rfl|(simp[*];done)|(simp only[XL];(repeat' split)<;>first|rfl|(exfalso;omega)|simp_all)) (by simp))
end Go.Proofs.YtdajceakaakdoaaGreat
