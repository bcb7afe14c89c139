/- Contracts of functions and plain facts about what they compute. Conditions: as each theorem states. -/
import Derived.Test.YtdajceakaakdoaaGreatJ1
set_option linter.unusedSimpArgs false
set_option linter.unusedVariables false
set_option linter.unnecessarySimpa false
set_option maxRecDepth 100000
set_option maxHeartbeats 2000000
namespace Go.Proofs.YtdajceakaakdoaaGreat
open Go Go.Hl
open Tryz(prog)
theorem kids_eq (o:Int) (len:Nat):(!decide (Zx o=-1)&&((!decide (0<=Zx o)||decide ((len:Int)=Zx o))&&(!decide (Zx o=-2)||(!decide ((len:Int)<2)&& !decide (33<(len:Int))))))=(!decide ((Q5 o).1<0)&&(!decide ((len:Int)<(Q5 o).1)&& !decide ((Q5 o).2<(len:Int)))):=by
 unfold Zx Q5
 (repeat' split)<;>simp<;>(try omega)
 all_goals(rw[Dl];simp only[N3,Nu,N5,Nh];omega)
theorem Xdl (vars:List Vr) (inp:Bool) (hv:vars.length<=1000000000) (t:Tm):t.nodes<=1000000000->∀d:Nat,
  Con prog 96 true [lV vars,aT t,lb inp] (.v (lb (Qu vars inp t))) none d:=by
 induction t using Tm.ind with
 |h o n ks ih=>
 intro hn d;simp only[Tm.nodes]at hn;have hlen:=WN ks;obtain⟨res,hres⟩:∃r,Qu vars inp (.mk o n ks)=r:=⟨_,rfl⟩;rw[hres];simp only[Qu]at hres;have ih':∀t∈ks,∀d,Con prog 96 true [lV vars,aT t,lb inp] (.v (lb (Qu vars inp t))) none d:=fun t ht d=>ih t ht (by have:=X1i ht;omega) d;clear ih;have hke:=kids_eq o ks.length;refine X5 Tryz.func96 ?_;simp only[Tryz.f96];simp only[aT,Tm.enc];refine X2 ?_;refine Xh [⟨true,.v (li (Zx o)),none⟩] ?_ ?_
 .first|exact X7F o _|exact trivial|simpa[*]using X7F o _
 refine X0<|X0<|X1 ?_;refine(Xb rfl (fun h3=>?_) fun h3=>?_)
 .simp only[BN]at h3
  have hz:Q3 vars inp o n ks.length=false:=by
   unfold Q3;rw[<-hke,NA];refine .inl ?_;simp only[NA,NR,Bool.not_eq_false',N5,Nh];omega
  rw[hz,Dc]at hres;refine X2 ?_;exact(Xc (he:=by first|rfl|simp[*]))
 simp only[BN]at h3
 have hz:(!decide ((Q5 o).1<0)&&(!decide ((ks.length:Int)<(Q5 o).1)&& !decide ((Q5 o).2<(ks.length:Int))))=true:=by
  rw[<-hke];simp only[N3,Nf,Nu,Nh,N5];omega
 clear hke;refine(XT [0,2,4] (fun(z:Unit)=>[]) (fun(z:Unit)=>[(4,.box [.c (iC o),.c (iC n),.c (.sl 3 (Xx ks))])]) (fun(z:Unit)=>Q3 vars inp o n ks.length=true) ?_ ?_)
 ·
  refine X2 ?_;refine(X6 rfl (fun h8=>?_) (fun h8=>?_))
  ·simp only[BN]at h8;by_cases hn0:0<=n
   .by_cases hn3:n<vars.length
    .obtain⟨v,hv1⟩:=X3H ⟨hn0,hn3⟩;have hn1:¬(vars.length:Int)<=n:=by omega
     have hn2:¬n<0:=by omega
     clear hn3;refine X2 ?_;refine(Xb rfl (fun h10=>?_) fun h10=>?_)
     .simp only[BN]at h10
      have hz3:Q3 vars inp o n ks.length=false:=by
       unfold Q3 X0a;rw[hz,NQ,N7 (by omega),N8 h8,hv1];simp[h10]
      rw[hz3,Dc]at hres;refine X2 ?_;exact(Xc (he:=by first|rfl|simp[*]))
     simp only[BN]at h10
     exact⟨(),by
      unfold Q3 X0a;rw[hz,NQ,N7 (by omega),N8 h8,hv1];simp only[N3,Nu,NA,N5,Nh]
      exact⟨hn0,h10⟩,X4 (fun n=>n) []⟩
    cases inp
    .have hv1:=X1l hn0 hn3;have hn1:(vars.length:Int)<=n:=by omega
     have hn2:¬n<0:=by omega
     have hz2:∀i,X0a vars i n=false:=by intro i;simp[X0a,hv1]
     clear hn3;refine X2 ?_;refine(Xb rfl (fun h10=>?_) fun h10=>?_)
     .simp only at h10
      have hz3:∀i,Q3 vars i o n ks.length=false:=by
       intro i;unfold Q3;rw[hz,NQ,N7 (by omega),N8 h8,hz2]
      rw[hz3,Dc]at hres;refine X2 ?_;exact(Xc (he:=by first|rfl|simp[*]))
     exact absurd h10 (by simp)
    have hv1:=X1l hn0 hn3;have hn1:(vars.length:Int)<=n:=by omega
    have hn2:¬n<0:=by omega
    have hz2:∀i,X0a vars i n=false:=by intro i;simp[X0a,hv1]
    clear hn3;refine X2 ?_;refine(Xb rfl (fun h10=>?_) fun h10=>?_)
    .simp only at h10
     have hz3:∀i,Q3 vars i o n ks.length=false:=by
      intro i;unfold Q3;rw[hz,NQ,N7 (by omega),N8 h8,hz2]
     rw[hz3,Dc]at hres;refine X2 ?_;exact(Xc (he:=by first|rfl|simp[*]))
    exact absurd h10 (by simp)
   cases inp
   .have hn2:n<0:=by omega
    have hz2:∀i,X0a vars i n=false:=by intro i;simp[X0a,hn0]
    refine X2 ?_;refine(Xb rfl (fun h10=>?_) fun h10=>?_)
    .simp only at h10
     have hz3:∀i,Q3 vars i o n ks.length=false:=by
      intro i;unfold Q3;rw[hz,NQ,N7 (by omega),N8 h8,hz2]
     rw[hz3,Dc]at hres;refine X2 ?_;exact(Xc (he:=by first|rfl|simp[*]))
    exact absurd h10 (by simp)
   have hn2:n<0:=by omega
   have hz2:∀i,X0a vars i n=false:=by intro i;simp[X0a,hn0]
   refine X2 ?_;refine(Xb rfl (fun h10=>?_) fun h10=>?_)
   .simp only at h10
    have hz3:∀i,Q3 vars i o n ks.length=false:=by
     intro i;unfold Q3;rw[hz,NQ,N7 (by omega),N8 h8,hz2]
    rw[hz3,Dc]at hres;refine X2 ?_;exact(Xc (he:=by first|rfl|simp[*]))
   exact absurd h10 (by simp)
  simp only[BN]at h8;refine X2 ?_;refine(Xb rfl (fun h15=>?_) fun h15=>?_)
  .simp only[BN]at h15
   have hz3:Q3 vars inp o n ks.length=false:=by
    unfold Q3;rw[hz,NQ,N7 (by omega),N7 h8];simp only[Nh];omega
   rw[hz3,Dc]at hres;refine X2 ?_;exact(Xc (he:=by first|rfl|simp[*]))
  simp only[BN]at h15
  exact⟨(),by
   unfold Q3;rw[hz,NQ];split
   .rfl
   simp only[N5]
   omega,X4 (fun n=>n) []⟩
 rintro z hz;simp only[upS,X8,Xz]
 simp only[KN,Nat.reduceBEq,Nj,Nc]
 rw[hz,NQ]at hres;refine X0<|X0<|X1 ?_;refine X3<|(Xg [0,2,4] (fun(x:Nat)=>[(8,.v (li x))]) (fun x=>[(4,.box [.c (iC o),.c (iC n),.c (.sl 3 (Xx ks))])]) (fun x=>x<=ks.length/\WD vars inp (ks.drop x)=res) (fun x=>ks.length - x) (0:Nat) ⟨Nq _,hres⟩ ?_ ?_)
 .exact X4 (fun n=>n) []
 rintro k ⟨hk,hJ⟩;simp only[upS,X8,Xz]
 simp only[KN,Nat.reduceBEq,Nj,Nc,ins,Nat.reduceLT]
 refine X0<|X0<|X1 ?_;refine(X6 rfl (fun h22=>Xe ?_) (fun h22=>?_))
 ·simp only[BN]at h22;have hlt:k<ks.length:=by omega
  obtain⟨⟨eo,en,ek⟩,he,hd⟩:=Xt hlt;have he':=Wu he;simp only[Tm.enc]at he';have hw1:=XD hlt (by omega);rw[hd]at hJ;simp only[WD]at hJ;have hk1:k+1<=ks.length:=hlt;have hmem:Tm.mk eo en ek∈ks:=N4 he;clear hlt h22;refine X0<|X3<|X0<|(Xo [⟨true,.v (lb (Qu vars inp (.mk eo en ek))),none⟩] ?_ ?_)
  .first|exact ih' _ hmem _|exact trivial|simpa[*]using ih' _ hmem _
  refine(Xb rfl (fun h24=>?_) fun h24=>?_)
  ·simp only[BN]at h24;rw[h24,Dc]at hJ;subst hJ;refine X2 ?_;exact(Xc (he:=by first|rfl|simp[*]))
  simp only[BN]at h24;rw[h24,NQ]at hJ;refine X1 ?_;exact⟨k+1,⟨hk1,hJ⟩,by omega,X4 (fun n=>n) []⟩
 simp only[BN]at h22;have hkl:k=ks.length:=by omega
 subst hkl;rw[Nw]at hJ;simp only[WD]at hJ;subst hJ;refine(Xi ?_);refine X2 ?_;exact(Xc (he:=by first|rfl|simp[*]))
theorem St.lists {P:List St->Prop} (h:∀l,(∀s∈l,P s.then_/\P s.else_)->P l):∀l,P l:=by
 have key:∀s:St,P s.then_/\P s.else_:=by
  intro s
  induction s using St.ind with
  |h d c v n t a b bs iha ihb=>exact⟨h a iha,h b ihb⟩
 exact fun l=>h l fun s _=>key s
theorem QJ {l:List St} {s:St} (hs:s∈l):1+s.term.nodes+Xl s.then_+Xl s.else_<=Xl l:=by
 induction l with
 |nil=>cases hs
 | cons x l ih=>
   simp only[Xl];rcases Ng.1 hs with rfl|h
   .obtain⟨d,c,v,n,t,a,b,bs⟩:=s;simp only[St.nodes,St.term,St.then_,St.else_];omega
   have:=ih h;omega
def Qg (n lo hi:Int):Int:=if n<lo then lo else if hi<n then hi else n
theorem X7c (n lo hi:Int) (h:lo<=hi) (d:Nat):Con prog 229 true [li n,li lo,li hi] (.v (li (Qg n lo hi))) none d:=by
 have hz:Qg n lo hi=if hi<(if n<lo then lo else n)then hi else(if n<lo then lo else n):=by
  unfold Qg
  (repeat' split)<;>omega
 refine X5 Tryz.func229 ?_;simp only[Tryz.f229];refine X2 ?_;refine X2 ?_;exact Xc
theorem X9D (n lo hi:Int) (d:Nat):Con prog 132 true [li n,li lo,li hi] (.v (li (Qg n lo hi))) none d:=by
 refine X5 Tryz.func132 ?_;simp only[Tryz.f132];refine X2 ?_;refine X0<|X0<|X1 ?_;refine(Xb rfl (fun h2=>?_) fun h2=>?_)
 ·simp only[BN]at h2;refine X2 ?_;exact(Xc (he:=by first|rfl|(simp[*,Qg];done)|(simp only[XG,Qg];(repeat' split)<;>first|rfl|(exfalso;omega)|simp_all)))
 simp only[BN]at h2;refine X0<|X0<|X1 ?_;refine(Xb rfl (fun h6=>?_) fun h6=>?_)
 ·simp only[BN]at h6;refine X2 ?_;exact(Xc (he:=by first|rfl|(simp[*,Qg];done)|(simp only[XG,Qg];(repeat' split)<;>first|rfl|(exfalso;omega)|simp_all)))
 simp only[BN]at h6;refine X2 ?_;exact(Xc (he:=by first|rfl|(simp[*,Qg];done)|(simp only[XG,Qg];(repeat' split)<;>first|rfl|(exfalso;omega)|simp_all)))
theorem X4p {n lo hi:Int} (h:lo<=hi):lo<=Qg n lo hi/\Qg n lo hi<=hi:=by
 unfold Qg
 (repeat' split)<;>omega
def WE (m c:Int):Int:=if 0<m then c else 0
mutual
def spS:St->Int×Int
 | .mk d c _ n (.mk o tn _) a b _=>
   if d=3 then(Qg c 0 67108865+mn (spL a (0,0)).1 (spL b (0,0)).1,Qg c 0 67108865+mx (spL a (0,0)).2 (spL b (0,0)).2)
   else if d=4 then
    (if o≠0 then(WE (Qg n 0 4096) (Qg c 0 67108865),Qg n 0 4096*(Qg c 0 67108865+(spL a (0,0)).2))
     else if tn≠0 then(Qg n 0 4096*(Qg c 0 67108865+(spL a (0,0)).1),Qg n 0 4096*(Qg c 0 67108865+(spL a (0,0)).2))
     else(WE (Qg n 0 4096) (Qg c 0 67108865),WE (Qg n 0 4096) (Qg c 0 67108865)))
   else(Qg c 0 67108865,Qg c 0 67108865)
def spL:List St->Int×Int->Int×Int
 |[],p=>p
 |s::l,p=>spL l (mn (p.1+(spS s).1) 67108865,mn (p.2+(spS s).2) 67108865)
end
theorem mulT {m z:Int} (hm:0<=m/\m<=4096) (hz:0<=z/\z<=134217730):0<=m*z/\m*z<=549755822080:=by
 have h1:m.natAbs*z.natAbs<=4096*134217730:=Nat.mul_le_mul (by omega) (by omega);rw[<-Int.natAbs_mul]at h1;have h2:=D6 hm.1 hz.1;omega
def inT (p:Int×Int):Prop:=0<=p.1/\p.1<=67108865/\0<=p.2/\p.2<=67108865
def inU (p:Int×Int):Prop:=0<=p.1/\p.1<=549755822080/\0<=p.2/\p.2<=549755822080
theorem inT0:inT (0,0):=⟨by decide,by decide,by decide,by decide⟩
theorem XcP {m c:Int} (hc:0<=c/\c<=67108865):0<=WE m c/\WE m c<=67108865:=by
 unfold WE;split<;>omega
theorem mn_in {a:Int} (h:0<=a):0<=mn a 67108865/\mn a 67108865<=67108865:=by
 unfold mn;split<;>omega
mutual
theorem spS_in:∀s:St,inU (spS s)
 | .mk d c v n (.mk o tn ks) a b bs=>by
   have ha:=X6P a (0,0) inT0;have hb:=X6P b (0,0) inT0;have hc:=X4p (n:=c) (lo:=0) (hi:=67108865) (by decide);have hn:=X4p (n:=n) (lo:=0) (hi:=4096) (by decide);have ho:=XcP (m:=Qg n 0 4096) hc;unfold inT at ha hb;have h1:=mulT hn (z:=Qg c 0 67108865+(spL a (0,0)).1) (by omega);have h2:=mulT hn (z:=Qg c 0 67108865+(spL a (0,0)).2) (by omega);unfold inU;simp only[spS];split
   .simp only[mn,mx]
    (repeat' split)<;>omega
   split
   .split
    .simp only;omega
    split
    .simp only;omega
    simp only;omega
   simp only;omega
theorem X6P:∀(l:List St) (p:Int×Int),inT p->inT (spL l p)
 |[],p,h=>h
 | s::l,p,h=>by
   have hs:=spS_in s;simp only[spL];refine X6P l _ ?_;unfold inT inU at*;have h1:=mn_in (a:=p.1+(spS s).1) (by omega);have h2:=mn_in (a:=p.2+(spS s).2) (by omega);simp only;omega
end
theorem Xeg (l:List St):Xl l<=1000000000->∀d:Nat,Con prog 192 true [lS l] (.tup [li (spL l (0,0)).1,li (spL l (0,0)).2]) none d:=by
 revert l
 apply St.lists;intro l ih hn d;have hlen:=Qs l;obtain⟨res,hres⟩:∃r,spL l (0,0)=r:=⟨_,rfl⟩;rw[hres];refine X5 Tryz.func192 ?_;simp only[Tryz.f192];refine X2 ?_;refine X0<|X0<|X1 ?_;refine X3<|(Xg [17,18] (fun(x:Nat×Int×Int)=>[(2,.v (li x.2.1)),(3,.v (li x.2.2)),(19,.v (li x.1))]) (fun x=>[]) (fun x=>x.1<=l.length/\spL (l.drop x.1) x.2=res/\inT x.2) (fun x=>l.length - x.1) (0,0,0) ⟨Nq _,hres,inT0⟩ ?_ ?_)
 .exact X4 (fun n=>n) []
 rintro⟨k,m,q⟩ ⟨hk,hJ,hin⟩;simp only[upS,X8,Xz]
 simp only[KN,Nat.reduceBEq,Nj,Nc,ins,Nat.reduceLT]
 simp only at hk hJ;unfold inT at hin;simp only at hin;clear hres;refine X2 ?_;refine X0<|(X6 rfl (fun h4=>Xe ?_) (fun h4=>?_))
 ·simp only[BN]at h4;have hlt:k<l.length:=by omega
  obtain⟨s,he,hd⟩:=Xt hlt;have hmem:s∈l:=N4 he;have hnm:=QJ hmem;have iha:=fun h=>(ih s hmem).1 h;have ihb:=fun h=>(ih s hmem).2 h;have hw1:=XD hlt (by omega);have hk1:k+1<=l.length:=hlt;rw[hd]at hJ;simp only[spL]at hJ;have hsin:=spS_in s;obtain⟨pq,hpq⟩:∃pq,spS s=pq:=⟨_,rfl⟩;rw[hpq]at hJ hsin;obtain⟨sd,sc,sv,sn,⟨so,stn,sks⟩,sa,sb,sbs⟩:=s;simp only[St.then_,St.else_,St.term]at iha ihb hnm;have ca:=iha (by omega);have cb:=ihb (by omega);have he':=Q4 he;simp only[St.enc,Tm.enc,List.cons_append,List.nil_append]at he';simp only[spS]at hpq;have hxa:=X6P sa (0,0) inT0;have hxb:=X6P sb (0,0) inT0;obtain⟨xa,hxa'⟩:∃x,spL sa (0,0)=x:=⟨_,rfl⟩;obtain⟨xb,hxb'⟩:∃x,spL sb (0,0)=x:=⟨_,rfl⟩;have hci:=X4p (n:=sc) (lo:=0) (hi:=67108865) (by decide);have hni:=X4p (n:=sn) (lo:=0) (hi:=4096) (by decide);obtain⟨cc,hcc⟩:∃x,Qg sc 0 67108865=x:=⟨_,rfl⟩;obtain⟨nn,hnn⟩:∃x,Qg sn 0 4096=x:=⟨_,rfl⟩;have c1:=X7c sc 0 67108865 (by decide);have c2:=X7c sn 0 4096 (by decide);rw[hxa']at ca hxa hpq;rw[hxb']at cb hxb hpq;rw[hcc]at c1 hci hpq;rw[hnn]at c2 hni hpq;unfold inT at hxa hxb;unfold inU at hsin;clear hlt h4 iha ihb ih hxa' hxb' hcc hnn hmem hnm hd he;refine X0<|X3<|X0<|X1 ?_;refine X0<|(XU [⟨true,.v (li cc),none⟩,⟨true,.v (li nn),none⟩] (by kernel_rfl) (by kernel_rfl) (by rfl) (by simp[*];first|exact⟨rfl,Iff.rfl⟩|exact⟨rfl,trivial⟩|rfl) ?_ ?_)
  .first|exact⟨c1 _,c2 _⟩|exact trivial|(repeat' first|exact trivial|exact c1 _|exact c2 _|apply And.intro)
  refine X2 ?_;refine(XT [2,3,17,18,19] (fun(z:Unit)=>[(8,.v (li pq.1)),(9,.v (li pq.2))]) (fun(z:Unit)=>[]) (fun(z:Unit)=>True) ?_ ?_)
  ·
   refine X2 ?_;refine X3<|X0<|X1 ?_;refine(X6 rfl (fun h11=>?_) (fun h11=>?_))
   ·simp only[BN]at h11;rw[N8 h11]at hpq;subst hpq;have hmn:(if xb.1<xa.1 then xb.1 else xa.1)=mn xa.1 xb.1:=rfl;have hmx:(if xa.2<xb.2 then xb.2 else xa.2)=mx xa.2 xb.2:=rfl;have hw2:IntKind.i64.wrap (cc+mn xa.1 xb.1)=cc+mn xa.1 xb.1:=Xa (by simp only at hsin;omega) (by simp only at hsin;omega);have hw3:IntKind.i64.wrap (cc+mx xa.2 xb.2)=cc+mx xa.2 xb.2:=Xa (by simp only at hsin;omega) (by simp only at hsin;omega);clear hsin;refine Xh [⟨true,.tup [li xa.1,li xa.2],none⟩] ?_ ?_
    .first|exact ca _|exact trivial|simpa[*]using ca _
    refine Xh [⟨true,.tup [li xb.1,li xb.2],none⟩] ?_ ?_
    .first|exact cb _|exact trivial|simpa[*]using cb _
    refine X1 ?_;exact⟨(),trivial,X4 (fun n=>n) []⟩
   simp only[BN]at h11;rw[N7 h11]at hpq;refine X2 ?_;refine(Xb rfl (fun h17=>?_) fun h17=>?_)
   ·simp only[BN]at h17;rw[N8 h17]at hpq
    have hon:IntKind.i64.wrap ((if 1<nn then 1 else nn)*cc)=WE nn cc:=by
     have:(if 1<nn then 1 else nn)*cc=WE nn cc:=by
      unfold WE;by_cases h:0<nn
      .rw[N8 h];have:(if 1<nn then 1 else nn)=1:=by split<;>omega
       rw[this,Int.one_mul]
      rw[N7 h];have:(if 1<nn then 1 else nn)=0:=by split<;>omega
      rw[this,Int.zero_mul]
     rw[this];have:=XcP (m:=nn) hci;exact Xa
    have hm1:=mulT hni (z:=cc+xa.1) (by omega);have hm2:=mulT hni (z:=cc+xa.2) (by omega);have hw2:IntKind.i64.wrap (cc+xa.1)=cc+xa.1:=Xa;have hw3:IntKind.i64.wrap (cc+xa.2)=cc+xa.2:=Xa;have hw4:IntKind.i64.wrap (nn*(cc+xa.1))=nn*(cc+xa.1):=Xa;have hw5:IntKind.i64.wrap (nn*(cc+xa.2))=nn*(cc+xa.2):=Xa;clear hm1 hm2;refine Xh [⟨true,.tup [li xa.1,li xa.2],none⟩] ?_ ?_
    .first|exact ca _|exact trivial|simpa[*]using ca _
    refine X2 ?_;refine X3<|X0<|X1 ?_;refine(X6 rfl (fun h21=>?_) (fun h21=>?_))
    ·simp only[BN]at h21;rw[N8 h21]at hpq;subst hpq;refine X1 ?_;exact⟨(),trivial,X4 (fun n=>n) []⟩
    simp only[BN]at h21;rw[N7 (fun h=>h h21)]at hpq;refine X2 ?_;refine(X6 rfl (fun h25=>?_) (fun h25=>?_))
    ·simp only[BN]at h25;rw[N8 h25]at hpq;subst hpq;refine X1 ?_;exact⟨(),trivial,X4 (fun n=>n) []⟩
    simp only[BN]at h25;rw[N7 (fun h=>h h25)]at hpq;subst hpq;refine X1 ?_;exact⟨(),trivial,X4 (fun n=>n) []⟩
   simp only[BN]at h17;rw[N7 h17]at hpq;subst hpq;exact⟨(),trivial,X4 (fun n=>n) []⟩
  rintro z hz;simp only[upS,X8,Xz]
  simp only[KN,Nat.reduceBEq,Nj,Nc,ins,Nat.reduceLT]
  clear hpq ca cb c1 c2 hci hni hxa hxb;have hw2:IntKind.i64.wrap (m+pq.1)=m+pq.1:=Xa;have hw3:IntKind.i64.wrap (q+pq.2)=q+pq.2:=Xa;have hm1:=mn_in (a:=m+pq.1) (by omega);have hm2:=mn_in (a:=q+pq.2) (by omega);have hmn1:(if 67108865<m+pq.1 then 67108865 else m+pq.1)=mn (m+pq.1) 67108865:=rfl;have hmn2:(if 67108865<q+pq.2 then 67108865 else q+pq.2)=mn (q+pq.2) 67108865:=rfl;refine X1 ?_;refine X1 ?_;exact⟨(k+1,mn (m+pq.1) 67108865,mn (q+pq.2) 67108865),⟨hk1,hJ,hm1.1,hm1.2,hm2.1,hm2.2⟩,by simp only;omega,X4 (fun n=>n) []⟩
 simp only[BN]at h4;have hkl:k=l.length:=by omega
 rw[hkl,Nw]at hJ;simp only[spL]at hJ;subst hJ;refine(Xi ?_);refine X2 ?_;exact Xc
theorem XaV {ks:List Tm} {t:Tm} (ht:t∈ks):t.nodes<=Qm ks:=X1i ht
theorem X6s (t:Tm):t.nodes<=1000000000->∀d:Nat,Con prog 91 true [aT t] (.v (li t.nodes)) none d:=by
 induction t using Tm.ind with
 |h o n ks ih=>
 intro hn d;simp only[Tm.nodes]at hn⊢;have hlen:=WN ks;obtain⟨res,hres⟩:∃r,Qm ks=r:=⟨_,rfl⟩;rw[hres]at hn⊢;refine X5 Tryz.func91 ?_;simp only[Tryz.f91];simp only[aT,Tm.enc];refine X2 ?_;refine X2 ?_;refine X0<|X0<|X1 ?_;refine X3<|(Xg [1] (fun(x:Nat×Nat)=>[(3,.v (li ((x.2:Nat):Int))),(4,.v (li x.1))]) (fun x=>[(1,.box [.c (iC o),.c (iC n),.c (.sl 3 (Xx ks))])]) (fun x=>x.1<=ks.length/\x.2+Qm (ks.drop x.1)=1+res) (fun x=>ks.length - x.1) (0,1) ⟨Nq _,by simp[hres]⟩ ?_ ?_)
 .exact X4 (fun n=>n) []
 rintro⟨k,m⟩ ⟨hk,hJ⟩;simp only[upS,X8,Xz]
 simp only[KN,Nat.reduceBEq,Nj,Nc,ins,Nat.reduceLT]
 simp only at hk hJ;refine X0<|X0<|X1 ?_;refine(X6 rfl (fun h5=>Xe ?_) (fun h5=>?_))
 ·simp only[BN]at h5;have hlt:k<ks.length:=by omega
  obtain⟨⟨eo,en,ek⟩,he,hd⟩:=Xt hlt;have he':=Wu he;simp only[Tm.enc]at he';have hmem:Tm.mk eo en ek∈ks:=N4 he;have hnm:=X1i hmem;have c:=ih _ hmem (by omega);have hw1:=XD hlt (by omega);have hk1:k+1<=ks.length:=hlt;rw[hd]at hJ;simp only[Qm]at hJ;generalize Tm.nodes (.mk eo en ek)=q at*;have hw2:IntKind.i64.wrap ((m:Int)+(q:Int))=(m:Int)+(q:Int):=Xa;clear hlt h5 ih hmem;refine X0<|X3<|(Xo [⟨true,.v (li (q:Int)),none⟩] ?_ ?_)
  .first|exact c _|exact trivial|simpa[*]using c _
  refine X1 ?_;exact⟨(k+1,m+q),⟨hk1,by simp only;omega⟩,by simp only;omega,X4 (fun n=>n) []⟩
 simp only[BN]at h5;have hkl:k=ks.length:=by omega
 rw[hkl,Nw]at hJ;simp only[Qm]at hJ;have hm:(m:Int)=1+(res:Int):=by omega
 refine(Xi ?_);refine X2 ?_;exact Xc
theorem Xd8 (l:List St):Xl l<=1000000000->∀d:Nat,Con prog 90 true [lS l] (.v (li (Xl l))) none d:=by
 revert l
 apply St.lists;intro l ih hn d;have hlen:=Qs l;obtain⟨res,hres⟩:∃r,Xl l=r:=⟨_,rfl⟩;rw[hres];refine X5 Tryz.func90 ?_;simp only[Tryz.f90];refine X2 ?_;refine X2 ?_;refine X0<|X0<|X1 ?_;refine X3<|(Xg [0] (fun(x:Nat×Nat)=>[(3,.v (li ((x.2:Nat):Int))),(4,.v (li x.1))]) (fun x=>[]) (fun x=>x.1<=l.length/\x.2+Xl (l.drop x.1)=res) (fun x=>l.length - x.1) (0,0) ⟨Nq _,by simp[hres]⟩ ?_ ?_)
 .exact X4 (fun n=>n) []
 rintro⟨k,m⟩ ⟨hk,hJ⟩;simp only[upS,X8,Xz]
 simp only[KN,Nat.reduceBEq,Nj,Nc,ins,Nat.reduceLT]
 simp only at hk hJ;refine X0<|X0<|X1 ?_;refine(X6 rfl (fun h5=>Xe ?_) (fun h5=>?_))
 ·simp only[BN]at h5;have hlt:k<l.length:=by omega
  obtain⟨s,he,hd⟩:=Xt hlt;have hmem:s∈l:=N4 he;have hnm:=QJ hmem;have iha:=fun h=>(ih s hmem).1 h;have ihb:=fun h=>(ih s hmem).2 h;have hw1:=XD hlt (by omega);have hk1:k+1<=l.length:=hlt;have ct:=X6s s.term;rw[hd]at hJ;obtain⟨sd,sc,sv,sn,⟨so,stn,sks⟩,sa,sb,sbs⟩:=s;simp only[St.then_,St.else_,St.term]at iha ihb hnm ct;simp only[Xl,St.nodes]at hJ;have ca:=iha (by omega);have cb:=ihb (by omega);have ct:=ct (by omega);have he':=Q4 he;simp only[St.enc,Tm.enc,List.cons_append,List.nil_append]at he';generalize Tm.nodes (.mk so stn sks)=q at*;generalize Xl sa=na at*;generalize Xl sb=nb at*;have hw2:IntKind.i64.wrap ((m:Int)+1)=(m:Int)+1:=Xa;have hw3:IntKind.i64.wrap ((m:Int)+1+(q:Int))=(m:Int)+1+(q:Int):=Xa;have hw4:IntKind.i64.wrap ((m:Int)+1+(q:Int)+(na:Int))=(m:Int)+1+(q:Int)+(na:Int):=Xa;have hw5:IntKind.i64.wrap ((m:Int)+1+(q:Int)+(na:Int)+(nb:Int))=(m:Int)+1+(q:Int)+(na:Int)+(nb:Int):=Xa;clear hlt h5 ih hmem iha ihb;refine X0<|X3<|(XU [⟨true,.v (li (q:Int)),none⟩,⟨true,.v (li (na:Int)),none⟩,⟨true,.v (li (nb:Int)),none⟩] (by kernel_rfl) (by kernel_rfl) (by rfl) (by simp[*];first|exact⟨rfl,Iff.rfl⟩|exact⟨rfl,trivial⟩|rfl) ?_ ?_)
  .first|exact⟨ct _,ca _,cb _⟩|exact trivial|(repeat' first|exact trivial|exact ct _|exact ca _|exact cb _|apply And.intro)
  refine X1 ?_;exact⟨(k+1,m+1+q+na+nb),⟨hk1,by simp only;omega⟩,by simp only;omega,X4 (fun n=>n) []⟩
 simp only[BN]at h5;have hkl:k=l.length:=by omega
 rw[hkl,Nw]at hJ;simp only[Xl]at hJ;have hm:m=res:=by omega
 refine(Xi ?_);refine X2 ?_;exact Xc
mutual
def tdT:Tm->Nat
 | .mk _ _ ks=>X50 ks+1
def X50:List Tm->Nat
 |[]=>0
 |t::l=>max (tdT t) (X50 l)
end
mutual
theorem td_le:∀t:Tm,tdT t<=t.nodes
 | .mk o n ks=>by have:=Xby ks;simp only[tdT,Tm.nodes];omega
theorem Xby:∀l:List Tm,X50 l<=Qm l
 |[]=>by simp[X50]
 |t::l=>by have:=td_le t;have:=Xby l;simp only[X50,Qm];omega
end
theorem X6h (t:Tm):t.nodes<=1000000000->∀d:Nat,Con prog 92 true [aT t] (.v (li (tdT t))) none d:=by
 induction t using Tm.ind with
 |h o n ks ih=>
 intro hn d;simp only[Tm.nodes]at hn;simp only[tdT];have hlen:=WN ks;have htl:=Xby ks;obtain⟨res,hres⟩:∃r,X50 ks=r:=⟨_,rfl⟩;rw[hres]at htl⊢;refine X5 Tryz.func92 ?_;simp only[Tryz.f92];simp only[aT,Tm.enc];refine X2 ?_;refine X2 ?_;refine X0<|X0<|X1 ?_;refine X3<|(Xg [1] (fun(x:Nat×Nat)=>[(3,.v (li ((x.2:Nat):Int))),(4,.v (li x.1))]) (fun x=>[(1,.box [.c (iC o),.c (iC n),.c (.sl 3 (Xx ks))])]) (fun x=>x.1<=ks.length/\max x.2 (X50 (ks.drop x.1))=res) (fun x=>ks.length - x.1) (0,0) ⟨Nq _,by simp[hres]⟩ ?_ ?_)
 .exact X4 (fun n=>n) []
 rintro⟨k,m⟩ ⟨hk,hJ⟩;simp only[upS,X8,Xz]
 simp only[KN,Nat.reduceBEq,Nj,Nc,ins,Nat.reduceLT]
 simp only at hk hJ;refine X0<|X0<|X1 ?_;refine(X6 rfl (fun h5=>Xe ?_) (fun h5=>?_))
 ·simp only[BN]at h5;have hlt:k<ks.length:=by omega
  obtain⟨⟨eo,en,ek⟩,he,hd⟩:=Xt hlt;have he':=Wu he;simp only[Tm.enc]at he';have hmem:Tm.mk eo en ek∈ks:=N4 he;have hnm:=X1i hmem;have c:=ih _ hmem (by omega);have hw1:=XD hlt (by omega);have hk1:k+1<=ks.length:=hlt;rw[hd]at hJ;simp only[X50]at hJ;generalize tdT (.mk eo en ek)=q at*;clear hlt h5 ih hmem;refine X0<|X3<|X0<|(Xo [⟨true,.v (li (q:Int)),none⟩] ?_ ?_)
  .first|exact c _|exact trivial|simpa[*]using c _
  refine X2 ?_;refine(Xb rfl (fun h8=>?_) fun h8=>?_)
  ·simp only[BN]at h8;refine X1 ?_;refine X1 ?_;exact⟨(k+1,q),⟨hk1,by simp only;omega⟩,by simp only;omega,X4 (fun n=>n) []⟩
  simp only[BN]at h8;refine X1 ?_;exact⟨(k+1,m),⟨hk1,by simp only;omega⟩,by simp only;omega,X4 (fun n=>n) []⟩
 simp only[BN]at h5;have hkl:k=ks.length:=by omega
 rw[hkl,Nw]at hJ;simp only[X50]at hJ;have hm:m=res:=by omega
 subst hm;have hw:IntKind.i64.wrap ((m:Int)+1)=(m:Int)+1:=Xa;refine(Xi ?_);refine X2 ?_;exact Xc
def sdL:List St->Nat
 |[]=>0
 | .mk _ _ _ _ _ a b _::l=>max (max (sdL a+1) (sdL b+1)) (sdL l)
theorem X9c:∀l:List St,sdL l<=Xl l
 |[]=>by simp[sdL]
 | .mk _ _ _ _ t a b _::l=>by have:=X9c a;have:=X9c b;have:=X9c l;have:=X7s t;simp only[sdL,Xl,St.nodes];omega
theorem Xb6 (l:List St):Xl l<=1000000000->∀d:Nat,Con prog 93 true [lS l] (.v (li (sdL l))) none d:=by
 revert l
 apply St.lists;intro l ih hn d;have hlen:=Qs l;obtain⟨res,hres⟩:∃r,sdL l=r:=⟨_,rfl⟩;rw[hres];refine X5 Tryz.func93 ?_;simp only[Tryz.f93];refine X2 ?_;refine X2 ?_;refine X0<|X0<|X1 ?_;refine X3<|(Xg [0] (fun(x:Nat×Nat)=>[(3,.v (li ((x.2:Nat):Int))),(4,.v (li x.1))]) (fun x=>[]) (fun x=>x.1<=l.length/\max x.2 (sdL (l.drop x.1))=res) (fun x=>l.length - x.1) (0,0) ⟨Nq _,by simp[hres]⟩ ?_ ?_)
 .exact X4 (fun n=>n) []
 rintro⟨k,m⟩ ⟨hk,hJ⟩;simp only[upS,X8,Xz]
 simp only[KN,Nat.reduceBEq,Nj,Nc,ins,Nat.reduceLT]
 simp only at hk hJ;refine X0<|X0<|X1 ?_;refine(X6 rfl (fun h5=>Xe ?_) (fun h5=>?_))
 ·simp only[BN]at h5;have hlt:k<l.length:=by omega
  obtain⟨s,he,hd⟩:=Xt hlt;have hmem:s∈l:=N4 he;have hnm:=QJ hmem;have iha:=fun h=>(ih s hmem).1 h;have ihb:=fun h=>(ih s hmem).2 h;have hw1:=XD hlt (by omega);have hk1:k+1<=l.length:=hlt;rw[hd]at hJ;obtain⟨sd,sc,sv,sn,⟨so,stn,sks⟩,sa,sb,sbs⟩:=s;simp only[St.then_,St.else_,St.term]at iha ihb hnm;simp only[sdL]at hJ;have ca:=iha (by omega);have cb:=ihb (by omega);have ha:=X9c sa;have hb:=X9c sb;have he':=Q4 he;simp only[St.enc,Tm.enc,List.cons_append,List.nil_append]at he';generalize sdL sa=na at*;generalize sdL sb=nb at*;have hw2:IntKind.i64.wrap ((na:Int)+1)=(na:Int)+1:=Xa;have hw3:IntKind.i64.wrap ((nb:Int)+1)=(nb:Int)+1:=Xa;clear hlt h5 ih hmem iha ihb;refine X0<|X3<|X0<|(Xo [⟨true,.v (li (na:Int)),none⟩] ?_ ?_)
  .first|exact ca _|exact trivial|simpa[*]using ca _
  refine Xh [⟨true,.v (li (nb:Int)),none⟩] ?_ ?_
  .first|exact cb _|exact trivial|simpa[*]using cb _
  refine(XT [0,4,6] (fun(z:Nat)=>[(3,.v (li (z:Int)))]) (fun(z:Nat)=>[]) (fun(z:Nat)=>z=max m (na+1)) ?_ ?_)
  ·
   refine X2 ?_;refine(Xb rfl (fun h10=>?_) fun h10=>?_)
   ·simp only[BN]at h10;have hz:max m (na+1)=na+1:=by omega
    refine X1 ?_;exact⟨na+1,hz.symm,X4 (fun n=>n) []⟩
   simp only[BN]at h10;have hz:max m (na+1)=m:=by omega
   exact⟨m,hz.symm,X4 (fun n=>n) []⟩
  rintro z hz;simp only[upS,X8,Xz]
  simp only[KN,Nat.reduceBEq,Nj,Nc,ins,Nat.reduceLT]
  refine X2 ?_;refine(Xb rfl (fun h15=>?_) fun h15=>?_)
  ·simp only[BN]at h15;refine X1 ?_;refine X1 ?_;exact⟨(k+1,nb+1),⟨hk1,by simp only;omega⟩,by simp only;omega,X4 (fun n=>n) []⟩
  simp only[BN]at h15;refine X1 ?_;exact⟨(k+1,z),⟨hk1,by simp only;omega⟩,by simp only;omega,X4 (fun n=>n) []⟩
 simp only[BN]at h5;have hkl:k=l.length:=by omega
 rw[hkl,Nw]at hJ;simp only[sdL]at hJ;have hm:m=res:=by omega
 refine(Xi ?_);refine X2 ?_;exact Xc
def WO:List St->Bool
 |[]=>false
 | .mk _ _ _ _ t a b _::l=>((decide (12<tdT t)||WO a)||WO b)||WO l
theorem XdH (l:List St):Xl l<=1000000000->∀d:Nat,Con prog 94 true [lS l] (.v (lb (WO l))) none d:=by
 revert l
 apply St.lists;intro l ih hn d;have hlen:=Qs l;obtain⟨res,hres⟩:∃r,WO l=r:=⟨_,rfl⟩;rw[hres];refine X5 Tryz.func94 ?_;simp only[Tryz.f94];refine X2 ?_;refine X0<|X0<|X1 ?_;refine X3<|(Xg [0] (fun(x:Nat)=>[(3,.v (li x))]) (fun x=>[]) (fun x=>x<=l.length/\WO (l.drop x)=res) (fun x=>l.length - x) (0:Nat) ⟨Nq _,hres⟩ ?_ ?_)
 .exact X4 (fun n=>n) []
 rintro k ⟨hk,hJ⟩;simp only[upS,X8,Xz]
 simp only[KN,Nat.reduceBEq,Nj,Nc,ins,Nat.reduceLT]
 refine X0<|X0<|X1 ?_;refine(X6 rfl (fun h4=>Xe ?_) (fun h4=>?_))
 ·simp only[BN]at h4;have hlt:k<l.length:=by omega
  obtain⟨s,he,hd⟩:=Xt hlt;have hmem:s∈l:=N4 he;have hnm:=QJ hmem;have iha:=fun h=>(ih s hmem).1 h;have ihb:=fun h=>(ih s hmem).2 h;have hw1:=XD hlt (by omega);have hk1:k+1<=l.length:=hlt;have ct:=X6h s.term;rw[hd]at hJ;obtain⟨sd,sc,sv,sn,⟨so,stn,sks⟩,sa,sb,sbs⟩:=s;simp only[St.then_,St.else_,St.term]at iha ihb hnm ct;simp only[WO]at hJ;have ca:=iha (by omega);have cb:=ihb (by omega);have ct:=ct (by omega);have he':=Q4 he;simp only[St.enc,Tm.enc,List.cons_append,List.nil_append]at he';generalize tdT (.mk so stn sks)=q at*;generalize WO sa=na at*;generalize WO sb=nb at*;clear hlt h4 ih hmem iha ihb;refine X0<|X3<|X0<|(Xo [⟨true,.v (li (q:Int)),none⟩,⟨true,.v (lb na),none⟩,⟨true,.v (lb nb),none⟩] ?_ ?_)
  .first|exact⟨ct _,ca _,cb _⟩|exact trivial|(repeat' first|exact trivial|exact ct _|exact ca _|exact cb _|apply And.intro)
  refine(Xb rfl (fun h6=>?_) fun h6=>?_)
  .simp only[BN]at h6
   have hz:res=true:=by
    rw[<-hJ];simp only[Nf,N5];rcases h6 with(h|h)|h
    .exact .inl (.inl (.inl (by omega)))
    .exact .inl (.inl (.inr h))
    exact .inl (.inr h)
   refine X2 ?_;exact Xc
  simp only[BN]at h6
  have hz:WO (l.drop (k+1))=res:=by
   rw[<-hJ];have h12:decide (12<q)=false:=decide_eq_false (by omega);rw[h12,h6.1.2,h6.2];rfl
  clear hJ;refine X1 ?_;exact⟨k+1,⟨hk1,hz⟩,by omega,X4 (fun n=>n) []⟩
 simp only[BN]at h4;have hkl:k=l.length:=by omega
 rw[hkl,Nw]at hJ;simp only[WO]at hJ;subst hJ;refine(Xi ?_);refine X2 ?_;exact Xc
def mSs:List St->Int->Int×Bool->Int×Bool
 |[],_,s=>s
 | .mk _ _ _ _ t a b _::l,dep,s=>
   if((s.2||decide (12<dep))||decide (1024<s.1+1))=true then(s.1+1,s.2||decide (12<dep))
   else mSs l dep (mSs b (dep+1) (mSs a (dep+1) (mTm t 1 (s.1+1,s.2||decide (12<dep)))))
theorem X0w:∀(l:List St) (dep:Int) (s:Int×Bool),s.1<=(mSs l dep s).1/\(mSs l dep s).1<=s.1+Xl l
 |[],dep,s=>by simp[mSs,Xl]
 | .mk d c v n t a b bs::l,dep,s=>by
   simp only[mSs,Xl,St.nodes];have h1:=X1F t 1 (s.1+1,s.2||decide (12<dep));have h2:=X0w a (dep+1) (mTm t 1 (s.1+1,s.2||decide (12<dep)));have h3:=X0w b (dep+1) (mSs a (dep+1) (mTm t 1 (s.1+1,s.2||decide (12<dep))));have h4:=X0w l dep (mSs b (dep+1) (mSs a (dep+1) (mTm t 1 (s.1+1,s.2||decide (12<dep)))));split
   .simp only;omega
   simp only at h1;omega
theorem XbF (l:List St):∀(dep c:Int) (b:Bool),0<=dep->0<=c->c+Xl l<=1000000000->
  X9y prog 112 [iC c,bC b] [lS l,li dep] (.tup []) [iC (mSs l dep (c,b)).1,bC (mSs l dep (c,b)).2]:=by
 revert l
 apply St.lists;intro l ih dep c b hdep hc hn;have hlen:=Qs l;obtain⟨res,hres⟩:∃r,mSs l dep (c,b)=r:=⟨_,rfl⟩;rw[hres];refine X4a Tryz.func112 rfl (by kernel_rfl) (NL rfl) ?_;simp only[Tryz.f112];refine X2 ?_;refine X3<|(Xg [0,2,8,9] (fun(x:Nat×Int×Bool)=>[(10,.v (li x.1))]) (fun x=>[(1000000,.box [.c (iC x.2.1),.c (bC x.2.2)])]) (fun x=>x.1<=l.length/\mSs (l.drop x.1) dep x.2=res/\0<=x.2.1/\x.2.1+Xl (l.drop x.1)<=1000000000) (fun x=>l.length - x.1) (0,c,b) ⟨Nq _,hres,hc,by simpa using hn⟩ ?_ ?_)
 .exact X4 (fun n=>n) []
 rintro⟨k,m,q⟩ ⟨hk,hJ,hm,hb⟩;simp only[upS,X8,Xz]
 simp only[KN,Nat.reduceBEq,Nj,Nc,ins,Nat.reduceLT]
 simp only at hk hJ hm hb;clear hres;refine X2 ?_;refine X0<|(X6 rfl (fun h3=>Xe ?_) (fun h3=>?_))
 ·simp only[BN]at h3;have hlt:k<l.length:=by omega
  obtain⟨s,he,hd⟩:=Xt hlt;have hmem:s∈l:=N4 he;have iha:=(ih s hmem).1;have ihb:=(ih s hmem).2;have hw1:=XD hlt (by omega);have hk1:k+1<=l.length:=hlt;rw[hd]at hJ hb;obtain⟨sd,sc,sv,sn,⟨so,stn,sks⟩,sa,sb,sbs⟩:=s;simp only[St.then_,St.else_]at iha ihb;simp only[mSs]at hJ;simp only[Xl,St.nodes]at hb;have he':=Q4 he;simp only[St.enc,Tm.enc,List.cons_append,List.nil_append]at he';have hw2:IntKind.i64.wrap (m+1)=m+1:=Xa;clear hlt h3 ih hmem hd he;refine X0<|X3<|X0<|X1 ?_;refine X2 ?_;refine X2 ?_;refine X0<|X0<|(Xo [⟨true,.v (lb ((q||decide (12<dep))||decide (1024<m+1))),none⟩] ?_ ?_)
  .first|exact Zj _ _ _|exact trivial|simpa[*]using Zj _ _ _
  refine(Xb rfl (fun h8=>?_) fun h8=>?_)
  ·simp only[BN]at h8;rw[N8 (by simpa using h8)]at hJ;subst hJ;exact XZ (⟨.inr rfl,_,le_refl _,⟨_,by simp[*];rfl,by simp[XG]⟩,by simp[*]⟩)
  simp only[BN]at h8;rw[N7 (by simpa using h8)]at hJ;have hq0:q=false:=h8.1.1;have hdep2:dep<=12:=by omega
  have hwd:IntKind.i64.wrap (dep+1)=dep+1:=Xa;have hqd:(q||decide (12<dep))=false:=by rw[hq0];simp;omega
  rw[hqd]at hJ;have e1:=X1F (.mk so stn sks) 1 (m+1,false);obtain⟨p1,hp1⟩:∃p,mTm (.mk so stn sks) 1 (m+1,false)=p:=⟨_,rfl⟩;have cio1:=X7g (.mk so stn sks) 1 (m+1) false (by omega) (by omega) (by omega);rw[hp1]at cio1 e1 hJ;obtain⟨c1,b1⟩:=p1;simp only at cio1 e1;have e2:=X0w sa (dep+1) (c1,b1);have cio2:=iha (dep+1) c1 b1 (by omega) (by omega) (by omega);obtain⟨p2,hp2⟩:∃p,mSs sa (dep+1) (c1,b1)=p:=⟨_,rfl⟩;rw[hp2]at cio2 e2 hJ;obtain⟨c2,b2⟩:=p2;simp only at cio2 e2;have e3:=X0w sb (dep+1) (c2,b2);have cio3:=ihb (dep+1) c2 b2 (by omega) (by omega) (by omega);obtain⟨p3,hp3⟩:∃p,mSs sb (dep+1) (c2,b2)=p:=⟨_,rfl⟩;rw[hp3]at cio3 e3 hJ;obtain⟨c3,b3⟩:=p3;simp only at cio3 e3;clear iha ihb hp1 hp2 hp3 h8 hqd;refine X0<|(X0X 3 (.tup []) ([iC c1,bC b1]) rfl (by simp[*];rfl) (by simp[ioOf, *];first|exact⟨rfl,rfl,rfl,rfl,rfl⟩|exact⟨rfl,rfl,rfl,rfl⟩|exact⟨rfl,rfl,rfl⟩|exact⟨rfl,rfl⟩|rfl) (cio1) (by simp) (by simp[*];rfl) ?_);refine X0<|(X0X 5 (.tup []) ([iC c2,bC b2]) rfl (by simp[*];rfl) (by simp[ioOf, *];first|exact⟨rfl,rfl,rfl,rfl,rfl⟩|exact⟨rfl,rfl,rfl,rfl⟩|exact⟨rfl,rfl,rfl⟩|exact⟨rfl,rfl⟩|rfl) (cio2) (by simp) (by simp[*];rfl) ?_);refine(X0X 5 (.tup []) ([iC c3,bC b3]) rfl (by simp[*];rfl) (by simp[ioOf, *];first|exact⟨rfl,rfl,rfl,rfl,rfl⟩|exact⟨rfl,rfl,rfl,rfl⟩|exact⟨rfl,rfl,rfl⟩|exact⟨rfl,rfl⟩|rfl) (cio3) (by simp) (by simp[*];rfl) ?_);refine X1 ?_;exact⟨(k+1,c3,b3),⟨hk1,hJ,by simp only;omega,by simp only;omega⟩,by simp only;omega,X4 (fun n=>n) []⟩
 simp only[BN]at h3;have hkl:k=l.length:=by omega
 subst hkl;rw[Nw]at hJ;simp only[mSs]at hJ;subst hJ;refine(Xi ?_);exact(⟨.inl rfl,_,le_refl _,⟨_,by simp[*];rfl,by simp[XG]⟩,by simp[*]⟩)
def Wh (s:Int×Bool):Bool:=s.2||decide (1024<s.1)
theorem X4D {s:Int×Bool} (h:Wh s=false):s.2=false/\s.1<=1024:=by
 simp only[Wh,NR,Nh]at h;exact⟨h.1,by omega⟩
mutual
theorem mTm_over:∀(t:Tm) (dep:Int) (s:Int×Bool),0<=s.1->Wh s=true->Wh (mTm t dep s)=true
 | .mk o n ks,dep,s,h0,h=>by
   have h1:Wh (s.1+1,s.2||decide (12<dep))=true:=by
    simp only[Wh,Nf,N5]at h⊢;rcases h with h|h
    .exact .inl (.inl h)
    exact .inr (by omega)
   simp only[mTm];split
   .exact h1
   exact X54 ks (dep+1) _ (by simp only;omega) h1
theorem X54:∀(l:List Tm) (dep:Int) (s:Int×Bool),0<=s.1->Wh s=true->Wh (X3w l dep s)=true
 |[],dep,s,_,h=>h
 |t::l,dep,s,h0,h=>X54 l dep _ (Int.le_trans h0 (X1F t dep s).1) (mTm_over t dep s h0 h)
end
mutual
theorem X8A:∀(t:Tm) (dep:Int) (s:Int×Bool),0<=s.1->dep<=13->Wh s=false->
  (s.1+t.nodes<=1024/\dep+tdT t<=13->mTm t dep s=(s.1+t.nodes,false))/\(¬(s.1+t.nodes<=1024/\dep+tdT t<=13)->Wh (mTm t dep s)=true)
 | .mk o n ks,dep,s,h0,hd,h=>by
   obtain⟨h1,h2⟩:=X4D h;simp only[mTm,Tm.nodes,tdT,h1,Bool.false_or];by_cases hc:(decide (12<dep)||decide (1024<s.1+1))=true
   .rw[N8 hc];simp only[Nf,N5]at hc;refine⟨fun hf=>by omega,fun _=>?_⟩;simp only[Wh,Nf,N5];omega
   rw[N7 hc];simp only[Nf,N5,not_or]at hc;have hdd:decide (12<dep)=false:=decide_eq_false hc.1;rw[hdd];have hov:Wh (s.1+1,false)=false:=by simp only[Wh,Bool.false_or,Nh];omega
   have:=Xb0 ks (dep+1) (s.1+1,false) (by simp only;omega) (by omega) hov;simp only at this;refine⟨fun hf=>?_,fun hf=>this.2 (by omega)⟩;rw[this.1 (by omega)];simp only[Prod.mk.injEq,and_true];omega
theorem Xb0:∀(l:List Tm) (dep:Int) (s:Int×Bool),0<=s.1->dep<=13->Wh s=false->
  (s.1+Qm l<=1024/\dep+X50 l<=13->X3w l dep s=(s.1+Qm l,false))/\(¬(s.1+Qm l<=1024/\dep+X50 l<=13)->Wh (X3w l dep s)=true)
 | [],dep,s,h0,hd,h=>by
   obtain⟨h1,h2⟩:=X4D h;obtain⟨c,b⟩:=s;simp only at h1 h2;subst h1;simp only[X3w,Qm,X50];refine⟨fun _=>by simp,fun hf=>by omega⟩
 | t ::l,dep,s,h0,hd,h=>by
   simp only[X3w,Qm,X50];have ht:=X8A t dep s h0 hd h;by_cases hf:s.1+t.nodes<=1024/\dep+tdT t<=13
   .rw[ht.1 hf];have hov:Wh (s.1+t.nodes,false)=false:=by simp only[Wh,Bool.false_or,Nh];omega
    have hl:=Xb0 l dep (s.1+t.nodes,false) (by simp only;omega) hd hov;simp only at hl;refine⟨fun h2=>?_,fun h2=>hl.2 (by omega)⟩;rw[hl.1 (by omega)];simp only[Prod.mk.injEq,and_true];omega
   refine⟨fun h2=>by omega,fun _=>X54 l dep _ (Int.le_trans h0 (X1F t dep s).1) (ht.2 hf)⟩
end
theorem X14:∀(l:List St) (dep:Int) (s:Int×Bool),0<=s.1->Wh s=true->Wh (mSs l dep s)=true
 |[],dep,s,_,h=>by simp only[mSs];exact h
 | .mk d c v n t a b bs::l,dep,s,h0,h=>by
   have h1:Wh (s.1+1,s.2||decide (12<dep))=true:=by
    simp only[Wh,Nf,N5]at h⊢;rcases h with h|h
    .exact .inl (.inl h)
    exact .inr (by omega)
   simp only[mSs];split
   .exact h1
   rename_i hc;exact absurd h1 hc
theorem X5R:∀(l:List St) (dep:Int) (s:Int×Bool),0<=s.1->dep<=13->Wh s=false->
  (s.1+Xl l<=1024/\dep+sdL l<=13/\WO l=false->mSs l dep s=(s.1+Xl l,false))/\(¬(s.1+Xl l<=1024/\dep+sdL l<=13/\WO l=false)->Wh (mSs l dep s)=true)
 | [],dep,s,h0,hd,h=>by
   obtain⟨h1,h2⟩:=X4D h;obtain⟨c,b⟩:=s;simp only at h1 h2;subst h1;simp only[mSs,Xl,sdL,WO];refine⟨fun _=>by simp,fun hf=>absurd ⟨by omega,by omega,trivial⟩ hf⟩
 | .mk d c v n t a b bs::l,dep,s,h0,hd,h=>by
   obtain⟨h1,h2⟩:=X4D h;simp only[mSs,Xl,St.nodes,sdL,WO,h1,Bool.false_or,NR,Nh];by_cases hc:(decide (12<dep)||decide (1024<s.1+1))=true
   .rw[N8 hc];simp only[Nf,N5]at hc;refine⟨fun hf=>by omega,fun _=>?_⟩;simp only[Wh,Nf,N5];omega
   rw[N7 hc];simp only[Nf,N5,not_or]at hc;have hdd:decide (12<dep)=false:=decide_eq_false hc.1;rw[hdd]
   have ov:∀x:Int,x<=1024->Wh (x,false)=false:=by
    intro x hx;simp only[Wh,Bool.false_or,Nh];omega
   have ht:=X8A t 1 (s.1+1,false) (by simp only;omega) (by omega) (ov _ (by omega));have g1:=(X1F t 1 (s.1+1,false)).1;have g2:=(X0w a (dep+1) (mTm t 1 (s.1+1,false))).1;have g3:=(X0w b (dep+1) (mSs a (dep+1) (mTm t 1 (s.1+1,false)))).1;simp only at ht g1;by_cases f1:s.1+1+t.nodes<=1024/\1+(tdT t:Int)<=13
   .rw[ht.1 f1];have ha:=X5R a (dep+1) (s.1+1+t.nodes,false) (by simp only;omega) (by omega) (ov _ (by omega));simp only at ha;by_cases f2:s.1+1+t.nodes+Xl a<=1024/\dep+1+sdL a<=13/\WO a=false
    .rw[ha.1 f2];have hb:=X5R b (dep+1) (s.1+1+t.nodes+Xl a,false) (by simp only;omega) (by omega) (ov _ (by omega));simp only at hb;by_cases f3:s.1+1+t.nodes+Xl a+Xl b<=1024/\dep+1+sdL b<=13/\WO b=false
     .rw[hb.1 f3];have hl:=X5R l dep (s.1+1+t.nodes+Xl a+Xl b,false) (by simp only;omega) hd (ov _ (by omega));simp only at hl;refine⟨fun hf=>?_,fun hf=>hl.2 fun h4=>hf ⟨by omega,by omega,⟨⟨by omega,f2.2.2⟩,f3.2.2⟩,h4.2.2⟩⟩;rw[hl.1 ⟨by omega,by omega,hf.2.2.2⟩];simp only[Prod.mk.injEq,and_true];omega
     refine⟨fun hf=>absurd ⟨by omega,by omega,hf.2.2.1.2⟩ f3,fun _=>X14 l dep _ ?_ (hb.2 f3)⟩;have:=(X0w b (dep+1) (s.1+1+t.nodes+Xl a,false)).1;simp only at this;omega
    refine⟨fun hf=>absurd ⟨by omega,by omega,hf.2.2.1.1.2⟩ f2,fun _=>?_⟩;have q1:=(X0w a (dep+1) (s.1+1+t.nodes,false)).1;have q2:=(X0w b (dep+1) (mSs a (dep+1) (s.1+1+t.nodes,false))).1;simp only at q1;exact X14 l dep _ (by omega) (X14 b (dep+1) _ (by omega) (ha.2 f2))
   refine⟨fun hf=>absurd ⟨by omega,by omega⟩ f1,fun _=>?_⟩;exact X14 l dep _ (by omega) (X14 b (dep+1) _ (by omega) (X14 a (dep+1) _ (by omega) (ht.2 f1)))
abbrev wr (x:Int):Int:=IntKind.i64.wrap x
def WK (b:Bool):Int:=if b=true then 1 else 0
def divI (a b:Int):Int:=
 if b=0 then 0 else if(!decide (a.tmod b=0)&&(decide (a<0)!=decide (b<0)))=true then wr (wr (a.tdiv b) - 1)else wr (a.tdiv b)
def modI (a b:Int):Int:=if b=0 then 0 else wr (a - wr (b*divI a b))
def binI (o a b:Int):Int:=
 if o=8 then wr (a+b)else if o=9 then wr (a - b)else if o=10 then wr (a*b)else if o=11 then divI a b else if o=12 then modI a b
 else if o=13 then WK (decide (a=b))else if o=14 then WK (!decide (a=b))else if o=15 then WK (decide (a<b))else if o=16 then WK (decide (a<=b))
 else if o=17 then WK (decide (b<a))else if o=18 then WK (decide (b<=a))else if o=19 then WK (!decide (a=0)&& !decide (b=0))
 else if o=20 then WK (!decide (a=0)|| !decide (b=0))else if o=21 then mn a b else mx a b
theorem QF (b:Bool) (d:Nat):Con prog 193 true [lb b] (.v (li (WK b))) none d:=by
 refine X5 Tryz.func193 ?_;simp only[Tryz.f193];refine X2 ?_;refine X0<|X0<|X1 ?_;refine(Xb rfl (fun h2=>?_) fun h2=>?_)
 ·refine X2 ?_;exact(Xc (he:=by first|rfl|(simp[*,WK];done)|(simp only[XG,WK];(repeat' split)<;>first|rfl|(exfalso;omega)|simp_all)))
 refine X2 ?_;exact(Xc (he:=by first|rfl|(simp[*,WK];done)|(simp only[XG,WK];(repeat' split)<;>first|rfl|(exfalso;omega)|simp_all)))
theorem X5L (a b:Int) (d:Nat):Con prog 230 true [li a,li b] (.v (li (divI a b))) none d:=by
 obtain⟨res,hres⟩:∃r,divI a b=r:=⟨_,rfl⟩;rw[hres];unfold divI at hres;refine X5 Tryz.func230 ?_;simp only[Tryz.f230];refine X2 ?_;refine X0<|X0<|X1 ?_;refine(Xb rfl (fun h2=>?_) fun h2=>?_)
 ·simp only[BN]at h2;rw[N8 h2]at hres;subst hres;refine X2 ?_;exact Xc
 simp only[BN]at h2;rw[N7 h2]at hres;refine X2 ?_;refine X0<|X0<|X1 ?_;refine(Xb rfl (fun h7=>?_) fun h7=>?_)
 ·simp only[BN]at h7;rw[N8 (by simpa using h7)]at hres;subst hres;refine X1 ?_;refine X2 ?_;exact Xc
 simp only[BN]at h7
 rw [N7 (by
     simp only[N3,Nu,Nh,bne_iff_ne,ne_eq,decide_eq_decide,not_and,Decidable.not_not];intro h;rcases h7 with h7|h7
     .exact absurd h7 h
     simpa using h7)]at hres
 subst hres;refine X2 ?_;exact Xc
theorem Xco (a b:Int) (d:Nat):Con prog 231 true [li a,li b] (.v (li (modI a b))) none d:=by
 obtain⟨res,hres⟩:∃r,modI a b=r:=⟨_,rfl⟩;rw[hres];unfold modI at hres;refine X5 Tryz.func231 ?_;simp only[Tryz.f231];refine X2 ?_;refine X0<|X0<|X1 ?_;refine(Xb rfl (fun h2=>?_) fun h2=>?_)
 ·simp only[BN]at h2;rw[N8 h2]at hres;subst hres;refine X2 ?_;exact Xc
 simp only[BN]at h2;rw[N7 h2]at hres;subst hres;refine Xh [⟨true,.v (li (divI a b)),none⟩] ?_ ?_
 .first|exact X5L _ _ _|exact trivial|simpa[*]using X5L _ _ _
 exact Xc
theorem Xc8 (o a b:Int) (d:Nat):Con prog 194 true [li o,li a,li b] (.v (li (binI o a b))) none d:=by
 obtain⟨res,hres⟩:∃r,binI o a b=r:=⟨_,rfl⟩;rw[hres];unfold binI at hres;refine X5 Tryz.func194 ?_;simp only[Tryz.f194];refine X2 ?_;refine X0<|X0<|X1 ?_;refine X3<|X0<|X1 ?_;refine(X6 rfl (fun h3=>?_) (fun h3=>?_))
 ·simp only[BN]at h3;rw[N8 h3]at hres;subst hres;refine X2 ?_;exact Xc
 simp only[BN]at h3;rw[N7 h3]at hres;refine X2 ?_;refine(X6 rfl (fun h7=>?_) (fun h7=>?_))
 ·simp only[BN]at h7;rw[N8 h7]at hres;subst hres;refine X2 ?_;exact Xc
 simp only[BN]at h7;rw[N7 h7]at hres;refine X2 ?_;refine(X6 rfl (fun h11=>?_) (fun h11=>?_))
 ·simp only[BN]at h11;rw[N8 h11]at hres;subst hres;refine X2 ?_;exact Xc
 simp only[BN]at h11;rw[N7 h11]at hres;refine X2 ?_;refine(X6 rfl (fun h15=>?_) (fun h15=>?_))
 ·simp only[BN]at h15;rw[N8 h15]at hres;subst hres;refine Xh [⟨true,.v (li (divI a b)),none⟩] ?_ ?_
  .first|exact X5L _ _ _|exact trivial|simpa[*]using X5L _ _ _
  exact Xc
 simp only[BN]at h15;rw[N7 h15]at hres;refine X2 ?_;refine(X6 rfl (fun h19=>?_) (fun h19=>?_))
 ·simp only[BN]at h19;rw[N8 h19]at hres;subst hres;refine Xh [⟨true,.v (li (modI a b)),none⟩] ?_ ?_
  .first|exact Xco _ _ _|exact trivial|simpa[*]using Xco _ _ _
  exact Xc
 simp only[BN]at h19;rw[N7 h19]at hres;refine X2 ?_;refine(X6 rfl (fun h23=>?_) (fun h23=>?_))
 ·simp only[BN]at h23;rw[N8 h23]at hres;subst hres;refine Xh [⟨true,.v (li (WK (decide (a=b)))),none⟩] ?_ ?_
  .first|exact QF _ _|exact trivial|simpa[*]using QF _ _
  exact Xc
 simp only[BN]at h23;rw[N7 h23]at hres;refine X2 ?_;refine(X6 rfl (fun h27=>?_) (fun h27=>?_))
 ·simp only[BN]at h27;rw[N8 h27]at hres;subst hres;refine Xh [⟨true,.v (li (WK (!decide (a=b)))),none⟩] ?_ ?_
  .first|exact QF _ _|exact trivial|simpa[*]using QF _ _
  exact Xc
 simp only[BN]at h27;rw[N7 h27]at hres;refine X2 ?_;refine(X6 rfl (fun h31=>?_) (fun h31=>?_))
 ·simp only[BN]at h31;rw[N8 h31]at hres;subst hres;refine Xh [⟨true,.v (li (WK (decide (a<b)))),none⟩] ?_ ?_
  .first|exact QF _ _|exact trivial|simpa[*]using QF _ _
  exact Xc
 simp only[BN]at h31;rw[N7 h31]at hres;refine X2 ?_;refine(X6 rfl (fun h35=>?_) (fun h35=>?_))
 ·simp only[BN]at h35;rw[N8 h35]at hres;subst hres;refine Xh [⟨true,.v (li (WK (decide (a<=b)))),none⟩] ?_ ?_
  .first|exact QF _ _|exact trivial|simpa[*]using QF _ _
  exact Xc
 simp only[BN]at h35;rw[N7 h35]at hres;refine X2 ?_;refine(X6 rfl (fun h39=>?_) (fun h39=>?_))
 ·simp only[BN]at h39;rw[N8 h39]at hres;subst hres;refine Xh [⟨true,.v (li (WK (decide (b<a)))),none⟩] ?_ ?_
  .first|exact QF _ _|exact trivial|simpa[*]using QF _ _
  exact Xc
 simp only[BN]at h39;rw[N7 h39]at hres;refine X2 ?_;refine(X6 rfl (fun h43=>?_) (fun h43=>?_))
 ·simp only[BN]at h43;rw[N8 h43]at hres;subst hres;refine Xh [⟨true,.v (li (WK (decide (b<=a)))),none⟩] ?_ ?_
  .first|exact QF _ _|exact trivial|simpa[*]using QF _ _
  exact Xc
 simp only[BN]at h43;rw[N7 h43]at hres;refine X2 ?_;refine(X6 rfl (fun h47=>?_) (fun h47=>?_))
 ·simp only[BN]at h47;rw[N8 h47]at hres;subst hres;refine Xh [⟨true,.v (li (WK (!decide (a=0)&& !decide (b=0)))),none⟩] ?_ ?_
  .first|exact QF _ _|exact trivial|simpa[*]using QF _ _
  exact Xc
 simp only[BN]at h47;rw[N7 h47]at hres;refine X2 ?_;refine(X6 rfl (fun h51=>?_) (fun h51=>?_))
 ·simp only[BN]at h51;rw[N8 h51]at hres;subst hres;refine Xh [⟨true,.v (li (WK (!decide (a=0)|| !decide (b=0)))),none⟩] ?_ ?_
  .first|exact QF _ _|exact trivial|simpa[*]using QF _ _
  exact Xc
 simp only[BN]at h51;rw[N7 h51]at hres;refine X2 ?_;refine(Xb rfl (fun h55=>?_) fun h55=>?_)
 ·simp only[BN]at h55;rw[N8 h55]at hres;subst hres;refine Xh [⟨true,.v (li (mn a b)),none⟩] ?_ ?_
  .first|exact Ql _ _ _|exact trivial|simpa[*]using Ql _ _ _
  exact Xc
 simp only[BN]at h55;rw[N7 h55]at hres;subst hres;refine Xh [⟨true,.v (li (mx a b)),none⟩] ?_ ?_
 .first|exact Qx _ _ _|exact trivial|simpa[*]using Qx _ _ _
 exact Xc
theorem Xc2 (l:List Int) (hl:l.length<=1000000000) (d:Nat):Con prog 72 false [lI l] (.v (lI l)) none d:=by
 have hroom:W5 l.length 8:=⟨by unfold maxLen;omega,by omega⟩;cases l with
 | nil=>
   refine Xcx ?_ ?_
   .refine X5 Tryz.func72 ?_;simp only[Tryz.f72];refine X2 ?_;refine X0<|X0<|X1 ?_;refine(Xb rfl (fun h2=>?_) fun h2=>?_)
    ·simp only at h2;refine X2 ?_;exact XZ ⟨.inr rfl,_,X8a 2 1 rfl,⟨⟨_,by simp;rfl,by simp[XG]⟩,by simp,fun h=>by cases h⟩⟩
    exact absurd h2 (by simp)
   intro a cap;refine X5 Tryz.func72 ?_;simp only[Tryz.f72];refine X2 ?_;refine X0<|X0<|X1 ?_;refine(Xb rfl (fun h2=>?_) fun h2=>?_)
   .exact absurd h2 (by simp)
   simp only at h2;refine XC (le_emp 0 1 rfl) ?_;refine X2 ?_;exact XZ ⟨.inr rfl,_,Qy 7 rfl,⟨⟨_,by simp;rfl,by simp[XG]⟩,by simp,fun h=>by cases h⟩⟩
 | cons v r=>
   refine X5 Tryz.func72 ?_;simp only[Tryz.f72];rw[List.length_cons]at hroom;refine X2 ?_;refine X0<|X0<|X1 ?_;refine(Xb rfl (fun h2=>?_) fun h2=>?_)
   .exact absurd h2 (by simp)
   simp only at h2;refine X2 ?_;exact XZ ⟨.inr rfl,_,Qy 7 rfl,⟨⟨_,by simp;rfl,by simp[XG]⟩,by simp,fun h=>by cases h⟩⟩
end Go.Proofs.YtdajceakaakdoaaGreat
