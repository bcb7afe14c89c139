/- Contracts of functions and plain facts about what they compute. Conditions: as each theorem states. -/
import Derived.Test.YtdajceakaakdoaaGreatB2
import Derived.Test.YtdajceakaakdoaaGreatB4
import Derived.Test.YtdajceakaakdoaaGreatB3
set_option linter.unusedSimpArgs false
set_option linter.unusedVariables false
set_option linter.unnecessarySimpa false
set_option maxRecDepth 100000
set_option maxHeartbeats 2000000
namespace Go.Proofs.YtdajceakaakdoaaGreat
open Go Go.Hl
open Tryz(prog)
def badP (UV UN UT P LO:Bool) (d v n:Int) (la lc nb nh:Nat):Prop:=
 d<0\/6<d\/(UV=false/\v≠0)\/(UN=false/\n≠0)\/(UT=false/\P=false)\/((d≠3/\d≠4)/\0<la)\/(d≠3/\0<lc)\/(d≠6/\0<nb)\/(UV=true/\LO=false)\/(d=5/\(n<0\/nh<=n))
instance (UV UN UT P LO:Bool) (d v n:Int) (la lc nb nh:Nat):Decidable (badP UV UN UT P LO d v n la lc nb nh):=by unfold badP;exact inferInstance
theorem sh_bad {vars:List Vr} {nh:Nat} {d v n:Int} {t:Tm} {la lc:Nat} {bs:List Int} {last:Bool} (h:badP (uVB d) (uNB d) (uTB d) (WE t) (W5 vars v) d v n la lc bs.length nh):shB vars nh d v n t la lc bs last=false:=by
 unfold shB;generalize WE t=P at*;generalize W5 vars v=LO at*
 have hr:ZM bs=true->1<=bs.length:=by
  intro h;unfold ZM at h;simp only[N4,N6]at h;omega
 generalize ZM bs=R at*;generalize bs.length=nb at*;unfold badP uVB uNB uTB at h
 (repeat' split)<;>(simp only[NB,NV,Nl,N6,Nj]at h⊢)<;>cases P<;>cases LO<;>cases last<;>cases R<;>simp at h hr⊢ <;>omega
theorem sh_good {vars:List Vr} {nh:Nat} {d v n:Int} {t:Tm} {la lc:Nat} {bs:List Int} {last:Bool} (h:¬badP (uVB d) (uNB d) (uTB d) (WE t) (W5 vars v) d v n la lc bs.length nh):shB vars nh d v n t la lc bs last=(decide (d≠6)||(last&&ZM bs)):=by
 unfold shB;generalize WE t=P at*;generalize W5 vars v=LO at*;generalize ZM bs=R at*;generalize bs.length=nb at*;unfold badP uVB uNB uTB at h;rw[Dk]
 (repeat' split)<;>(simp only[not_or,not_and,NV,Nl,N4,N6,Nj]at h⊢)<;>cases P<;>cases LO<;>cases last<;>cases R<;>simp at h⊢ <;>omega
def X3y (d:Int):Int:=if d=2 then 67108864 else 10000
def X4o (bs:List Int):Bool:=
 match bs[bs.length - 1]? with
 |some x=>decide (x<=67108864)
 |none=>true
def X2P (d c n:Int) (bs:List Int):Bool:=
 (!(decide (c<0)||decide (X3y d<c)||(decide (d=4)&&(decide (n<0)||decide (4096<n)))))&&(decide (d≠6)||X4o bs)
theorem numP_con (s:St) (hb:s.bounds.length<=1000000000) (h6:s.do_=6->s.bounds≠[]) (h5:s.do_≠6->s.bounds=[]) (e:Nat):
  Con prog 187 true [aS s] (.v (lb (X2P s.do_ s.cost s.n s.bounds))) none e:=by
 obtain⟨d,c,v,n,⟨o,tn,ks⟩,a,b,bs⟩:=s;simp only[St.do_,St.cost,St.n,St.bounds]at hb h6 h5⊢;refine X6 Tryz.func187 ?_;simp only[Tryz.f187];simp only[aS,St.enc,Tm.enc,Ni,Nr,List.cons_append,List.nil_append];refine X1 ?_;refine X1 ?_;refine(XM [1] (fun(z:Int)=>[(3,.v (li z))]) (fun(z:Int)=>[(1,.box [.c (iC d),.c (iC c),.c (iC v),.c (iC n),.c (iC o),.c (iC tn),.c (.sl 3 (XA ks)),.c (.sl 10 (X7 a)),.c (.sl 10 (X7 b)),.c (.sl 1 (Xi bs))])]) (fun(z:Int)=>z=X3y d) ?_ ?_)
 ·
  refine X1 ?_;refine(Xc rfl (fun h4=>?_) fun h4=>?_)
  ·(try simp only[BN]at h4);refine X2 ?_;exact⟨67108864,by simp[X3y,h4],X4 (fun n=>n) []⟩
  (try simp only[BN]at h4);exact⟨10000,by simp[X3y,h4],X4 (fun n=>n) []⟩
 rintro M hM;simp only[upS,X5,Xy]
 try simp only[X5,KN,Nat.reduceBEq,Nf,Nc,ins,Nat.reduceLT]
 refine X0<|X0<|X2 ?_;refine(Xc rfl (fun h9=>?_) fun h9=>?_)
 .try simp only[BN]at h9
  have hz:X2P d c n bs=false:=by
   unfold X2P;rw[<-hM];simp only[NB,Nl,N4,Bool.not_eq_false',N6];omega
  refine X1 ?_;exact Xf
 try simp only[BN]at h9
 have hz:X2P d c n bs=(decide (d≠6)||X4o bs):=by
  unfold X2P;rw[<-hM]
  rw[show(!(decide (c<0)||decide (M<c)||(decide (d=4)&&(decide (n<0)||decide (4096<n)))))=true by
   simp only[NV,NB,Nw,Nj]
   omega]
  rfl
 clear h9;by_cases hd6:d=6
 .have hne:=h6 hd6
  have hpos:1<=bs.length:=by
   cases bs with
   |nil=>exact absurd rfl hne
   |cons x l=>simp
  obtain⟨x,hx⟩:=X6Z (show bs.length - 1<bs.length by omega);have hw1:IntKind.i64.wrap ((bs.length:Int) - 1)=(bs.length:Int) - 1:=X9;have hw2:0<=(bs.length:Int) - 1:=by omega
  have hw3:((bs.length:Int) - 1).toNat=bs.length - 1:=by omega
  have hw4:1<=(bs.length:Int):=by omega
  have hlo:X4o bs=decide (x<=67108864):=by unfold X4o;rw[hx]
  clear h6 h5 hne hpos;refine X1 ?_;exact Xf
 have hbs:=h5 hd6;subst hbs;have hw1:IntKind.i64.wrap (-1)=-1:=by decide
 clear h6 h5;refine X1 ?_;exact Xf
theorem X8C (f:Fl) (s:St) (last:Bool) (hv:f.vars.length<=1000000000) (hb:s.bounds.length<=1000000000) (e:Nat):
  Con prog 186 true [aF f,aS s,lb last] (.v (lb (shB f.vars f.hats.length s.do_ s.var s.n s.term s.then_.length s.else_.length s.bounds last))) none e:=by
 obtain⟨vars,hats,body⟩:=f;obtain⟨d,c,v,n,t,a,b,bs⟩:=s;simp only[St.do_,St.var,St.n,St.term,St.then_,St.else_,St.bounds]at hb⊢;simp only at hv;have c1:=Xa9 t;have c2:=X8u bs hb;have c3:=uV_con d;have c4:=uN_con d;have c5:=uT_con d;have hgood:=@sh_good vars hats.length d v n t a.length b.length bs last;have hbad:=@sh_bad vars hats.length d v n t a.length b.length bs last;have hrise:ZM bs=((decide (1<=bs.length)&&(decide (bs.length<=32)&&X53 bs))&&X4D bs):=rfl;rw[hrise]at hgood;clear hrise;generalize shB vars hats.length d v n t a.length b.length bs last=SH at*;generalize uVB d=UV at*;generalize uNB d=UN at*;generalize uTB d=UT at*;generalize WE t=P at*;generalize X4D bs=R at*;obtain⟨LO,hLO⟩:∃p,W5 vars v=p:=⟨_,rfl⟩;rw[hLO]at hgood hbad;obtain⟨o,tn,ks⟩:=t;obtain⟨la,hla⟩:∃k,a.length=k:=⟨_,rfl⟩;obtain⟨lc,hlc⟩:∃k,b.length=k:=⟨_,rfl⟩;obtain⟨nb,hnb⟩:∃k,bs.length=k:=⟨_,rfl⟩;obtain⟨nv,hnv⟩:∃k,vars.length=k:=⟨_,rfl⟩;obtain⟨nh,hnh⟩:∃k,hats.length=k:=⟨_,rfl⟩;rw[hla,hlc,hnb,hnh]at hgood hbad;simp only[aT,Tm.enc,Ni,Nr]at c1;refine X6 Tryz.func186 ?_;simp only[Tryz.f186];simp only[aF,aS,Fl.enc,St.enc,Tm.enc,Ni,Nr,List.cons_append,List.nil_append];refine X1 ?_;refine X1 ?_;refine(XM [2,4,7] (fun(z:Unit)=>[]) (fun(z:Unit)=>[(4,.box [.c (iC d),.c (iC c),.c (iC v),.c (iC n),.c (iC o),.c (iC tn),.c (.sl 3 (XA ks)),.c (.sl 10 (X7 a)),.c (.sl 10 (X7 b)),.c (.sl 1 (Xi bs))])]) (fun(z:Unit)=>SH=(decide (d≠6)||(last&&((decide (0<nb)&&(decide (nb<=32)&&X53 bs))&&R)))) ?_ ?_)
 ·
  refine X3<|(XM [2,4,7] (fun(z:Bool)=>[(10,.v (lb z))]) (fun(z:Bool)=>[(4,.box [.c (iC d),.c (iC c),.c (iC v),.c (iC n),.c (iC o),.c (iC tn),.c (.sl 3 (XA ks)),.c (.sl 10 (X7 a)),.c (.sl 10 (X7 b)),.c (.sl 1 (Xi bs))])]) (fun(z:Bool)=>z=decide (badP UV UN UT P LO d v n la lc nb nh)) ?_ ?_)
  ·
   refine X1 ?_;refine(X8 rfl (fun h5=>Xb ?_) (fun h5=>?_))
   ·(try simp only[BN]at h5);exact⟨true,(Db (h5.elim .inl (fun h=>.inr (.inl h)))).symm,X4 (fun n=>n) []⟩
   (try simp only[BN]at h5);refine Xk [⟨true,.v (lb UV),none⟩] ?_ ?_
   .first|exact c3 _|exact trivial|simpa[*]using c3 _
   refine(X8 rfl (fun h8=>Xb ?_) (fun h8=>?_))
   ·(try simp only[BN]at h8);exact⟨true,(Db (.inr (.inr (.inl h8)))).symm,X4 (fun n=>n) []⟩
   (try simp only[BN]at h8);refine Xk [⟨true,.v (lb UN),none⟩] ?_ ?_
   .first|exact c4 _|exact trivial|simpa[*]using c4 _
   refine(X8 rfl (fun h11=>Xb ?_) (fun h11=>?_))
   ·(try simp only[BN]at h11);exact⟨true,(Db (.inr (.inr (.inr (.inl h11))))).symm,X4 (fun n=>n) []⟩
   (try simp only[BN]at h11);refine XM [2,3,4,7] (fun(z:Bool)=>[(10,.v (lb z))]) (fun(z:Bool)=>[(3,.box [.c (.sl 5 (Xm vars)),.c (.sl 6 (Xn hats)),.c (.sl 10 (X7 body))]),(4,.box [.c (iC d),.c (iC c),.c (iC v),.c (iC n),.c (iC o),.c (iC tn),.c (.sl 3 (XA ks)),.c (.sl 10 (X7 a)),.c (.sl 10 (X7 b)),.c (.sl 1 (Xi bs))])]) (fun(z:Bool)=>z=(!UT&& !P)) ?_ ?_
   .rcases(show UT=false\/UT=true by cases UT<;>simp)with hUT|hUT
    .refine Wj [⟨true,.v (lb false),none⟩,⟨true,.v (lb P),none⟩] (by simp[*];first|exact⟨rfl,Iff.rfl⟩|exact⟨rfl,trivial⟩|rfl) ?_ ?_
     ·(repeat' first|exact trivial|(simpa[hUT]using c5 _)|exact c1 _|apply And.intro)
     exact⟨!P,by simp[hUT],X4 (fun n=>n) []⟩
    refine X37 [some ⟨true,.v (lb true),none⟩,none] (by simp[*];first|exact⟨rfl,Iff.rfl⟩|exact⟨rfl,trivial⟩|rfl) ?_ ?_
    .first|exact trivial|(simpa[hUT]using c5 _)
    exact⟨false,by simp[hUT],X4 (fun n=>n) []⟩
   rintro LUT hLUT;simp only[upS,X5,Xy]
   try simp only[X5,KN,Nat.reduceBEq,Nf,Nc,ins,Nat.reduceLT]
   refine(X8 rfl (fun h14=>Xb ?_) (fun h14=>?_))
   ·(try simp only[BN]at h14);rw[hLUT,N4,Nw,Nw]at h14;exact⟨true,(Db (.inr (.inr (.inr (.inr (.inl h14)))))).symm,X4 (fun n=>n) []⟩
   (try simp only[BN]at h14);refine X1 ?_;refine(X8 rfl (fun h17=>Xb ?_) (fun h17=>?_))
   ·(try simp only[BN]at h17);exact⟨true,(Db (.inr (.inr (.inr (.inr (.inr (.inl ⟨h17.1,by omega⟩))))))).symm,X4 (fun n=>n) []⟩
   (try simp only[BN]at h17);refine X1 ?_;refine(X8 rfl (fun h20=>Xb ?_) (fun h20=>?_))
   ·(try simp only[BN]at h20);exact⟨true,(Db (.inr (.inr (.inr (.inr (.inr (.inr (.inl ⟨h20.1,by omega⟩)))))))).symm,X4 (fun n=>n) []⟩
   (try simp only[BN]at h20);refine X1 ?_;refine(X8 rfl (fun h23=>Xb ?_) (fun h23=>?_))
   ·(try simp only[BN]at h23);exact⟨true,(Db (.inr (.inr (.inr (.inr (.inr (.inr (.inr (.inl ⟨h23.1,by omega⟩))))))))).symm,X4 (fun n=>n) []⟩
   (try simp only[BN]at h23);refine XM [2,3,4,7] (fun(z:Bool)=>[(10,.v (lb z))]) (fun(z:Bool)=>[(3,.box [.c (.sl 5 (Xm vars)),.c (.sl 6 (Xn hats)),.c (.sl 10 (X7 body))]),(4,.box [.c (iC d),.c (iC c),.c (iC v),.c (iC n),.c (iC o),.c (iC tn),.c (.sl 3 (XA ks)),.c (.sl 10 (X7 a)),.c (.sl 10 (X7 b)),.c (.sl 1 (Xi bs))])]) (fun(z:Bool)=>z=(UV&& !LO)) ?_ ?_
   .by_cases h0:0<=v
    .have h3:¬v<0:=by omega
     by_cases h1:v<vars.length
     .obtain⟨w,hw⟩:=X3X ⟨h0,h1⟩;have h2:¬(nv:Int)<=v:=by omega
      have hz:LO=decide (w.kind=0):=by rw[<-hLO];unfold W5;rw[hw];simp[h0]
      subst hz;clear h1;refine Wj [⟨true,.v (lb UV),none⟩] (by simp[*];first|exact⟨rfl,Iff.rfl⟩|exact⟨rfl,trivial⟩|rfl) ?_ ?_
      .first|exact c3 _|exact trivial
      exact⟨UV&& !decide (w.kind=0),rfl,X4 (fun n=>n) []⟩
     have hw:=X0H h0 h1;have h2:(nv:Int)<=v:=by omega
     have hz:LO=false:=by rw[<-hLO];unfold W5;rw[hw];simp
     subst hz;clear h1;refine Wj [⟨true,.v (lb UV),none⟩] (by simp[*];first|exact⟨rfl,Iff.rfl⟩|exact⟨rfl,trivial⟩|rfl) ?_ ?_
     .first|exact c3 _|exact trivial
     exact⟨UV&& !false,rfl,X4 (fun n=>n) []⟩
    have h3:v<0:=by omega
    have hz:LO=false:=by rw[<-hLO];unfold W5;simp[h0]
    subst hz;refine Wj [⟨true,.v (lb UV),none⟩] (by simp[*];first|exact⟨rfl,Iff.rfl⟩|exact⟨rfl,trivial⟩|rfl) ?_ ?_
    .first|exact c3 _|exact trivial
    exact⟨UV&& !false,rfl,X4 (fun n=>n) []⟩
   rintro LOU hLOU;simp only[upS,X5,Xy]
   try simp only[X5,KN,Nat.reduceBEq,Nf,Nc,ins,Nat.reduceLT]
   refine(X8 rfl (fun h26=>Xb ?_) (fun h26=>?_))
   ·(try simp only[BN]at h26);rw[hLOU,N4,Nw]at h26;exact⟨true,(Db (.inr (.inr (.inr (.inr (.inr (.inr (.inr (.inr (.inl h26)))))))))).symm,X4 (fun n=>n) []⟩
   try simp only[BN]at h26
   have hz:decide (badP UV UN UT P LO d v n la lc nb nh)=(decide (d=5)&&(decide (n<0)||decide ((nh:Int)<=n))):=by
    rw[hLOU]at h26;rw[Dk,N6];unfold badP;simp only[N4,Nl,N6];constructor
    .rintro(h|h|h|h|h|h|h|h|h|h)
     .omega
     .omega
     .exact absurd h8 (by simp[h.1,h.2])
     .exact absurd h11 (by simp[h.1,h.2])
     .rw[hLUT,h.1,h.2]at h14;cases h14
     .omega
     .omega
     .omega
     .exact absurd h26 (by simp[h.1,h.2])
     exact h
    exact fun h=>.inr (.inr (.inr (.inr (.inr (.inr (.inr (.inr (.inr h))))))))
   refine X2 ?_;exact⟨(decide (d=5)&&(decide (n<0)||decide ((nh:Int)<=n))),hz.symm,X4 (fun n=>n) []⟩
  rintro _ rfl;simp only[upS,X5,Xy]
  try simp only[X5,KN,Nat.reduceBEq,Nf,Nc,ins,Nat.reduceLT]
  refine(Xc rfl (fun h30=>?_) fun h30=>?_)
  ·(try simp only[BN]at h30);have hz:=hbad h30;clear hgood hbad;refine X1 ?_;exact Xf
  (try simp only[BN]at h30);have hz:=hgood h30;clear hgood hbad;exact⟨(),hz,X4 (fun n=>n) []⟩
 rintro _ hz;simp only[upS,X5,Xy]
 try simp only[X5,KN,Nat.reduceBEq,Nf,Nc,ins,Nat.reduceLT]
 clear hgood hbad;rcases Xag bs with h0|⟨b0,hb0⟩
 .subst h0;have hh:X53 []=false:=rfl;replace hnb:nb=0:=hnb.symm;subst hnb;rw[hh]at hz;refine Xk [⟨true,.v (lb R),none⟩] ?_ ?_
  .first|exact c2 _|exact trivial|simpa[*]using c2 _
  exact(Xf (he:=by first|(simp[*,XL,Dc];done)|rfl))
 have hh:X53 bs=decide (0<=b0):=by unfold X53;rw[hb0]
 rw[hh]at hz;have e32:decide ((nb:Int)<=32)=decide (nb<=32):=by rw[decide_eq_decide];omega
 refine Xk [⟨true,.v (lb R),none⟩] ?_ ?_
 .first|exact c2 _|exact trivial|simpa[*]using c2 _
 exact(Xf (he:=by rw[hz];simp[XL,e32,Dc]))
def selI (k0:Int) (len:Nat):Int:=wr (1+QB k0 0 (wr ((len:Int) - 2)))
def valN (vs:List Int) (o n:Int) (k:List Int):Int:=
 if o=0 then n else if o=24 then(vs[n.toNat]?).getD 0 else if o=6 then wr (-((k[0]?).getD 0))else if o=7 then X3Z (decide ((k[0]?).getD 0=0))
 else if o=23 then(if(k[0]?).getD 0=0 then(k[2]?).getD 0 else(k[1]?).getD 0)
 else if o=25 then(k[(selI ((k[0]?).getD 0) k.length).toNat]?).getD 0
 else binI o ((k[0]?).getD 0) ((k[1]?).getD 0)
mutual
def vT (vs:List Int):Tm->Int
 | .mk o n ks=>valN vs o n (vTs vs ks)
def vTs (vs:List Int):List Tm->List Int
 |[]=>[]
 |t::l=>vT vs t::vTs vs l
end
def stlL:List Int->Int->Int->Bool->Int
 |[],_,best,_=>best
 |b::l,t,best,found=>if t<=b/\(found=false\/b<best)then stlL l t b true else stlL l t best found
def X9i (vs:List Int) (l:List Ht):List Int:=l.map fun h=>QB (vT vs h.term) h.low h.high
@[simp] theorem encI_app (a b:List Int):Xi (a++b)=Xi a++Xi b:=by simp[Xi]
@[simp] theorem encI_one (x:Int):Xi [x]=[[iC x]]:=rfl
structure Inp where
 s:List Int
 p:List Int
 r:List Int
structure Pk where
 n:Int
 is_:Bool
 a:Nat
 b:Nat
 c:Nat
end Go.Proofs.YtdajceakaakdoaaGreat
