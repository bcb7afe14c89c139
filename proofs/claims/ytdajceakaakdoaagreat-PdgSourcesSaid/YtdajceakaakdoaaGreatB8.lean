/- Contracts of functions and plain facts about what they compute. Conditions: as each theorem states. -/
import Derived.Test.YtdajceakaakdoaaGreatB1
set_option linter.unusedSimpArgs false
set_option linter.unusedVariables false
set_option linter.unnecessarySimpa false
set_option maxRecDepth 100000
set_option maxHeartbeats 2000000
namespace Go.Proofs.YtdajceakaakdoaaGreat
open Go Go.Hl
open Tryz(prog)
theorem X8D {ks:List Tm} {t:Tm} (ht:t∈ks):t.nodes<=Qn ks:=ZD ht
theorem X6h (t:Tm):t.nodes<=1000000000->∀d:Nat,Con prog 91 true [aT t] (.v (li t.nodes)) none d:=by
 induction t using Tm.ind with
 |h o n ks ih=>
 intro hn d;simp only[Tm.nodes]at hn⊢;have hlen:=Wh ks;obtain⟨res,hres⟩:∃r,Qn ks=r:=⟨_,rfl⟩;rw[hres]at hn⊢;refine X6 Tryz.func91 ?_;simp only[Tryz.f91];simp only[aT,Tm.enc];refine X1 ?_;refine X1 ?_;refine X0<|X0<|X2 ?_;refine X3<|(Xd [1] (fun(x:Nat×Nat)=>[(3,.v (li ((x.2:Nat):Int))),(4,.v (li x.1))]) (fun x=>[(1,.box [.c (iC o),.c (iC n),.c (.sl 3 (XA ks))])]) (fun x=>x.1<=ks.length/\x.2+Qn (ks.drop x.1)=1+res) (fun x=>ks.length - x.1) (0,1) ⟨Nq _,by simp[hres]⟩ ?_ ?_)
 .exact X4 (fun n=>n) []
 rintro⟨k,m⟩ ⟨hk,hJ⟩;simp only[upS,X5,Xy]
 try simp only[X5,KN,Nat.reduceBEq,Nf,Nc,ins,Nat.reduceLT]
 simp only at hk hJ;refine X0<|X0<|X2 ?_;refine(X8 rfl (fun h5=>Xb ?_) (fun h5=>?_))
 ·(try simp only[BN]at h5);have hlt:k<ks.length:=by omega
  obtain⟨⟨eo,en,ek⟩,he,hd⟩:=Xu hlt;have he':=Wx he;simp only[Tm.enc]at he';have hmem:Tm.mk eo en ek∈ks:=N3 he;have hnm:=ZD hmem;have c:=ih _ hmem (by omega);have hw1:=XE hlt (by omega);have hk1:k+1<=ks.length:=hlt;rw[hd]at hJ;simp only[Qn]at hJ;generalize Tm.nodes (.mk eo en ek)=q at*;have hw2:IntKind.i64.wrap ((m:Int)+(q:Int))=(m:Int)+(q:Int):=X9;clear hlt h5 ih hmem;refine X0<|X3<|(Xo [⟨true,.v (li (q:Int)),none⟩] ?_ ?_)
  .first|exact c _|exact trivial|simpa[*]using c _
  refine X2 ?_;exact⟨(k+1,m+q),⟨hk1,by simp only;omega⟩,by simp only;omega,X4 (fun n=>n) []⟩
 (try simp only[BN]at h5);have hkl:k=ks.length:=by omega
 rw[hkl,Nt]at hJ;simp only[Qn]at hJ;have hm:(m:Int)=1+(res:Int):=by omega
 refine(Xg ?_);refine X1 ?_;exact Xf
theorem Xcq (l:List St):Xh l<=1000000000->∀d:Nat,Con prog 90 true [lS l] (.v (li (Xh l))) none d:=by
 revert l
 apply St.lists;intro l ih hn d;have hlen:=Qm l;obtain⟨res,hres⟩:∃r,Xh l=r:=⟨_,rfl⟩;rw[hres];refine X6 Tryz.func90 ?_;simp only[Tryz.f90];refine X1 ?_;refine X1 ?_;refine X0<|X0<|X2 ?_;refine X3<|(Xd [0] (fun(x:Nat×Nat)=>[(3,.v (li ((x.2:Nat):Int))),(4,.v (li x.1))]) (fun x=>[]) (fun x=>x.1<=l.length/\x.2+Xh (l.drop x.1)=res) (fun x=>l.length - x.1) (0,0) ⟨Nq _,by simp[hres]⟩ ?_ ?_)
 .exact X4 (fun n=>n) []
 rintro⟨k,m⟩ ⟨hk,hJ⟩;simp only[upS,X5,Xy]
 try simp only[X5,KN,Nat.reduceBEq,Nf,Nc,ins,Nat.reduceLT]
 simp only at hk hJ;refine X0<|X0<|X2 ?_;refine(X8 rfl (fun h5=>Xb ?_) (fun h5=>?_))
 ·(try simp only[BN]at h5);have hlt:k<l.length:=by omega
  obtain⟨s,he,hd⟩:=Xu hlt;have hmem:s∈l:=N3 he;have hnm:=Qz hmem;have iha:=fun h=>(ih s hmem).1 h;have ihb:=fun h=>(ih s hmem).2 h;have hw1:=XE hlt (by omega);have hk1:k+1<=l.length:=hlt;have ct:=X6h s.term;rw[hd]at hJ;obtain⟨sd,sc,sv,sn,⟨so,stn,sks⟩,sa,sb,sbs⟩:=s;simp only[St.then_,St.else_,St.term]at iha ihb hnm ct;simp only[Xh,St.nodes]at hJ;have ca:=iha (by omega);have cb:=ihb (by omega);have ct:=ct (by omega);have he':=Q2 he;simp only[St.enc,Tm.enc,List.cons_append,List.nil_append]at he';generalize Tm.nodes (.mk so stn sks)=q at*;generalize Xh sa=na at*;generalize Xh sb=nb at*;have hw2:IntKind.i64.wrap ((m:Int)+1)=(m:Int)+1:=X9;have hw3:IntKind.i64.wrap ((m:Int)+1+(q:Int))=(m:Int)+1+(q:Int):=X9;have hw4:IntKind.i64.wrap ((m:Int)+1+(q:Int)+(na:Int))=(m:Int)+1+(q:Int)+(na:Int):=X9;have hw5:IntKind.i64.wrap ((m:Int)+1+(q:Int)+(na:Int)+(nb:Int))=(m:Int)+1+(q:Int)+(na:Int)+(nb:Int):=X9;clear hlt h5 ih hmem iha ihb;refine X0<|X3<|(QC [⟨true,.v (li (q:Int)),none⟩,⟨true,.v (li (na:Int)),none⟩,⟨true,.v (li (nb:Int)),none⟩] (by kernel_rfl) (by kernel_rfl) (by rfl) (by simp[*];first|exact⟨rfl,Iff.rfl⟩|exact⟨rfl,trivial⟩|rfl) ?_ ?_)
  .first|exact⟨ct _,ca _,cb _⟩|exact trivial|(repeat' first|exact trivial|exact ct _|exact ca _|exact cb _|apply And.intro)
  refine X2 ?_;exact⟨(k+1,m+1+q+na+nb),⟨hk1,by simp only;omega⟩,by simp only;omega,X4 (fun n=>n) []⟩
 (try simp only[BN]at h5);have hkl:k=l.length:=by omega
 rw[hkl,Nt]at hJ;simp only[Xh]at hJ;have hm:m=res:=by omega
 refine(Xg ?_);refine X1 ?_;exact Xf
mutual
def tdT:Tm->Nat
 | .mk _ _ ks=>X4f ks+1
def X4f:List Tm->Nat
 |[]=>0
 |t::l=>max (tdT t) (X4f l)
end
mutual
theorem td_le:∀t:Tm,tdT t<=t.nodes
 | .mk o n ks=>by have:=XaK ks;simp only[tdT,Tm.nodes];omega
theorem XaK:∀l:List Tm,X4f l<=Qn l
 |[]=>by simp[X4f]
 |t::l=>by have:=td_le t;have:=XaK l;simp only[X4f,Qn];omega
end
theorem X5z (t:Tm):t.nodes<=1000000000->∀d:Nat,Con prog 92 true [aT t] (.v (li (tdT t))) none d:=by
 induction t using Tm.ind with
 |h o n ks ih=>
 intro hn d;simp only[Tm.nodes]at hn;simp only[tdT];have hlen:=Wh ks;have htl:=XaK ks;obtain⟨res,hres⟩:∃r,X4f ks=r:=⟨_,rfl⟩;rw[hres]at htl⊢;refine X6 Tryz.func92 ?_;simp only[Tryz.f92];simp only[aT,Tm.enc];refine X1 ?_;refine X1 ?_;refine X0<|X0<|X2 ?_;refine X3<|(Xd [1] (fun(x:Nat×Nat)=>[(3,.v (li ((x.2:Nat):Int))),(4,.v (li x.1))]) (fun x=>[(1,.box [.c (iC o),.c (iC n),.c (.sl 3 (XA ks))])]) (fun x=>x.1<=ks.length/\max x.2 (X4f (ks.drop x.1))=res) (fun x=>ks.length - x.1) (0,0) ⟨Nq _,by simp[hres]⟩ ?_ ?_)
 .exact X4 (fun n=>n) []
 rintro⟨k,m⟩ ⟨hk,hJ⟩;simp only[upS,X5,Xy]
 try simp only[X5,KN,Nat.reduceBEq,Nf,Nc,ins,Nat.reduceLT]
 simp only at hk hJ;refine X0<|X0<|X2 ?_;refine(X8 rfl (fun h5=>Xb ?_) (fun h5=>?_))
 ·(try simp only[BN]at h5);have hlt:k<ks.length:=by omega
  obtain⟨⟨eo,en,ek⟩,he,hd⟩:=Xu hlt;have he':=Wx he;simp only[Tm.enc]at he';have hmem:Tm.mk eo en ek∈ks:=N3 he;have hnm:=ZD hmem;have c:=ih _ hmem (by omega);have hw1:=XE hlt (by omega);have hk1:k+1<=ks.length:=hlt;rw[hd]at hJ;simp only[X4f]at hJ;generalize tdT (.mk eo en ek)=q at*;clear hlt h5 ih hmem;refine X0<|X3<|X0<|(Xo [⟨true,.v (li (q:Int)),none⟩] ?_ ?_)
  .first|exact c _|exact trivial|simpa[*]using c _
  refine X1 ?_;refine(Xc rfl (fun h8=>?_) fun h8=>?_)
  ·(try simp only[BN]at h8);refine X2 ?_;refine X2 ?_;exact⟨(k+1,q),⟨hk1,by simp only;omega⟩,by simp only;omega,X4 (fun n=>n) []⟩
  (try simp only[BN]at h8);refine X2 ?_;exact⟨(k+1,m),⟨hk1,by simp only;omega⟩,by simp only;omega,X4 (fun n=>n) []⟩
 (try simp only[BN]at h5);have hkl:k=ks.length:=by omega
 rw[hkl,Nt]at hJ;simp only[X4f]at hJ;have hm:m=res:=by omega
 subst hm;have hw:IntKind.i64.wrap ((m:Int)+1)=(m:Int)+1:=X9;refine(Xg ?_);refine X1 ?_;exact Xf
def sdL:List St->Nat
 |[]=>0
 | .mk _ _ _ _ _ a b _::l=>max (max (sdL a+1) (sdL b+1)) (sdL l)
theorem X9F:∀l:List St,sdL l<=Xh l
 |[]=>by simp[sdL]
 | .mk _ _ _ _ t a b _::l=>by have:=X9F a;have:=X9F b;have:=X9F l;have:=X6y t;simp only[sdL,Xh,St.nodes];omega
theorem Xa0 (l:List St):Xh l<=1000000000->∀d:Nat,Con prog 93 true [lS l] (.v (li (sdL l))) none d:=by
 revert l
 apply St.lists;intro l ih hn d;have hlen:=Qm l;obtain⟨res,hres⟩:∃r,sdL l=r:=⟨_,rfl⟩;rw[hres];refine X6 Tryz.func93 ?_;simp only[Tryz.f93];refine X1 ?_;refine X1 ?_;refine X0<|X0<|X2 ?_;refine X3<|(Xd [0] (fun(x:Nat×Nat)=>[(3,.v (li ((x.2:Nat):Int))),(4,.v (li x.1))]) (fun x=>[]) (fun x=>x.1<=l.length/\max x.2 (sdL (l.drop x.1))=res) (fun x=>l.length - x.1) (0,0) ⟨Nq _,by simp[hres]⟩ ?_ ?_)
 .exact X4 (fun n=>n) []
 rintro⟨k,m⟩ ⟨hk,hJ⟩;simp only[upS,X5,Xy]
 try simp only[X5,KN,Nat.reduceBEq,Nf,Nc,ins,Nat.reduceLT]
 simp only at hk hJ;refine X0<|X0<|X2 ?_;refine(X8 rfl (fun h5=>Xb ?_) (fun h5=>?_))
 ·(try simp only[BN]at h5);have hlt:k<l.length:=by omega
  obtain⟨s,he,hd⟩:=Xu hlt;have hmem:s∈l:=N3 he;have hnm:=Qz hmem;have iha:=fun h=>(ih s hmem).1 h;have ihb:=fun h=>(ih s hmem).2 h;have hw1:=XE hlt (by omega);have hk1:k+1<=l.length:=hlt;rw[hd]at hJ;obtain⟨sd,sc,sv,sn,⟨so,stn,sks⟩,sa,sb,sbs⟩:=s;simp only[St.then_,St.else_,St.term]at iha ihb hnm;simp only[sdL]at hJ;have ca:=iha (by omega);have cb:=ihb (by omega);have ha:=X9F sa;have hb:=X9F sb;have he':=Q2 he;simp only[St.enc,Tm.enc,List.cons_append,List.nil_append]at he';generalize sdL sa=na at*;generalize sdL sb=nb at*;have hw2:IntKind.i64.wrap ((na:Int)+1)=(na:Int)+1:=X9;have hw3:IntKind.i64.wrap ((nb:Int)+1)=(nb:Int)+1:=X9;clear hlt h5 ih hmem iha ihb;refine X0<|X3<|X0<|(Xo [⟨true,.v (li (na:Int)),none⟩] ?_ ?_)
  .first|exact ca _|exact trivial|simpa[*]using ca _
  refine Xk [⟨true,.v (li (nb:Int)),none⟩] ?_ ?_
  .first|exact cb _|exact trivial|simpa[*]using cb _
  refine(XM [0,4,6] (fun(z:Nat)=>[(3,.v (li (z:Int)))]) (fun(z:Nat)=>[]) (fun(z:Nat)=>z=max m (na+1)) ?_ ?_)
  ·
   refine X1 ?_;refine(Xc rfl (fun h10=>?_) fun h10=>?_)
   ·(try simp only[BN]at h10);have hz:max m (na+1)=na+1:=by omega
    refine X2 ?_;exact⟨na+1,hz.symm,X4 (fun n=>n) []⟩
   (try simp only[BN]at h10);have hz:max m (na+1)=m:=by omega
   exact⟨m,hz.symm,X4 (fun n=>n) []⟩
  rintro z hz;simp only[upS,X5,Xy]
  try simp only[X5,KN,Nat.reduceBEq,Nf,Nc,ins,Nat.reduceLT]
  refine X1 ?_;refine(Xc rfl (fun h15=>?_) fun h15=>?_)
  ·(try simp only[BN]at h15);refine X2 ?_;refine X2 ?_;exact⟨(k+1,nb+1),⟨hk1,by simp only;omega⟩,by simp only;omega,X4 (fun n=>n) []⟩
  (try simp only[BN]at h15);refine X2 ?_;exact⟨(k+1,z),⟨hk1,by simp only;omega⟩,by simp only;omega,X4 (fun n=>n) []⟩
 (try simp only[BN]at h5);have hkl:k=l.length:=by omega
 rw[hkl,Nt]at hJ;simp only[sdL]at hJ;have hm:m=res:=by omega
 refine(Xg ?_);refine X1 ?_;exact Xf
def WJ:List St->Bool
 |[]=>false
 | .mk _ _ _ _ t a b _::l=>((decide (12<tdT t)||WJ a)||WJ b)||WJ l
theorem Xcx (l:List St):Xh l<=1000000000->∀d:Nat,Con prog 94 true [lS l] (.v (lb (WJ l))) none d:=by
 revert l
 apply St.lists;intro l ih hn d;have hlen:=Qm l;obtain⟨res,hres⟩:∃r,WJ l=r:=⟨_,rfl⟩;rw[hres];refine X6 Tryz.func94 ?_;simp only[Tryz.f94];refine X1 ?_;refine X0<|X0<|X2 ?_;refine X3<|(Xd [0] (fun(x:Nat)=>[(3,.v (li x))]) (fun x=>[]) (fun x=>x<=l.length/\WJ (l.drop x)=res) (fun x=>l.length - x) (0:Nat) ⟨Nq _,hres⟩ ?_ ?_)
 .exact X4 (fun n=>n) []
 rintro k ⟨hk,hJ⟩;simp only[upS,X5,Xy]
 try simp only[X5,KN,Nat.reduceBEq,Nf,Nc,ins,Nat.reduceLT]
 refine X0<|X0<|X2 ?_;refine(X8 rfl (fun h4=>Xb ?_) (fun h4=>?_))
 ·(try simp only[BN]at h4);have hlt:k<l.length:=by omega
  obtain⟨s,he,hd⟩:=Xu hlt;have hmem:s∈l:=N3 he;have hnm:=Qz hmem;have iha:=fun h=>(ih s hmem).1 h;have ihb:=fun h=>(ih s hmem).2 h;have hw1:=XE hlt (by omega);have hk1:k+1<=l.length:=hlt;have ct:=X5z s.term;rw[hd]at hJ;obtain⟨sd,sc,sv,sn,⟨so,stn,sks⟩,sa,sb,sbs⟩:=s;simp only[St.then_,St.else_,St.term]at iha ihb hnm ct;simp only[WJ]at hJ;have ca:=iha (by omega);have cb:=ihb (by omega);have ct:=ct (by omega);have he':=Q2 he;simp only[St.enc,Tm.enc,List.cons_append,List.nil_append]at he';generalize tdT (.mk so stn sks)=q at*;generalize WJ sa=na at*;generalize WJ sb=nb at*;clear hlt h4 ih hmem iha ihb;refine X0<|X3<|X0<|(Xo [⟨true,.v (li (q:Int)),none⟩,⟨true,.v (lb na),none⟩,⟨true,.v (lb nb),none⟩] ?_ ?_)
  .first|exact⟨ct _,ca _,cb _⟩|exact trivial|(repeat' first|exact trivial|exact ct _|exact ca _|exact cb _|apply And.intro)
  refine(Xc rfl (fun h6=>?_) fun h6=>?_)
  .try simp only[BN]at h6
   have hz:res=true:=by
    rw[<-hJ];simp only[Nl,N6];rcases h6 with(h|h)|h
    .exact .inl (.inl (.inl (by omega)))
    .exact .inl (.inl (.inr h))
    exact .inl (.inr h)
   refine X1 ?_;exact Xf
  try simp only[BN]at h6
  have hz:WJ (l.drop (k+1))=res:=by
   rw[<-hJ];have h12:decide (12<q)=false:=decide_eq_false (by omega);rw[h12,h6.1.2,h6.2];rfl
  clear hJ;refine X2 ?_;exact⟨k+1,⟨hk1,hz⟩,by omega,X4 (fun n=>n) []⟩
 (try simp only[BN]at h4);have hkl:k=l.length:=by omega
 rw[hkl,Nt]at hJ;simp only[WJ]at hJ;subst hJ;refine(Xg ?_);refine X1 ?_;exact Xf
def mSs:List St->Int->Int×Bool->Int×Bool
 |[],_,s=>s
 | .mk _ _ _ _ t a b _::l,dep,s=>
   if((s.2||decide (12<dep))||decide (1024<s.1+1))=true then(s.1+1,s.2||decide (12<dep))
   else mSs l dep (mSs b (dep+1) (mSs a (dep+1) (mTm t 1 (s.1+1,s.2||decide (12<dep)))))
theorem X0f:∀(l:List St) (dep:Int) (s:Int×Bool),s.1<=(mSs l dep s).1/\(mSs l dep s).1<=s.1+Xh l
 |[],dep,s=>by simp[mSs,Xh]
 | .mk d c v n t a b bs::l,dep,s=>by
   simp only[mSs,Xh,St.nodes];have h1:=X1k t 1 (s.1+1,s.2||decide (12<dep));have h2:=X0f a (dep+1) (mTm t 1 (s.1+1,s.2||decide (12<dep)));have h3:=X0f b (dep+1) (mSs a (dep+1) (mTm t 1 (s.1+1,s.2||decide (12<dep))));have h4:=X0f l dep (mSs b (dep+1) (mSs a (dep+1) (mTm t 1 (s.1+1,s.2||decide (12<dep)))));split
   .simp only;omega
   simp only at h1;omega
theorem Xah (l:List St):∀(dep c:Int) (b:Bool),0<=dep->0<=c->c+Xh l<=1000000000->
  X8w prog 112 [iC c,bC b] [lS l,li dep] (.tup []) [iC (mSs l dep (c,b)).1,bC (mSs l dep (c,b)).2]:=by
 revert l
 apply St.lists;intro l ih dep c b hdep hc hn;have hlen:=Qm l;obtain⟨res,hres⟩:∃r,mSs l dep (c,b)=r:=⟨_,rfl⟩;rw[hres];refine X3n Tryz.func112 rfl (by kernel_rfl) (NH rfl) ?_;simp only[Tryz.f112];refine X1 ?_;refine X3<|(Xd [0,2,8,9] (fun(x:Nat×Int×Bool)=>[(10,.v (li x.1))]) (fun x=>[(1000000,.box [.c (iC x.2.1),.c (bC x.2.2)])]) (fun x=>x.1<=l.length/\mSs (l.drop x.1) dep x.2=res/\0<=x.2.1/\x.2.1+Xh (l.drop x.1)<=1000000000) (fun x=>l.length - x.1) (0,c,b) ⟨Nq _,hres,hc,by simpa using hn⟩ ?_ ?_)
 .exact X4 (fun n=>n) []
 rintro⟨k,m,q⟩ ⟨hk,hJ,hm,hb⟩;simp only[upS,X5,Xy]
 try simp only[X5,KN,Nat.reduceBEq,Nf,Nc,ins,Nat.reduceLT]
 simp only at hk hJ hm hb;clear hres;refine X1 ?_;refine X0<|(X8 rfl (fun h3=>Xb ?_) (fun h3=>?_))
 ·(try simp only[BN]at h3);have hlt:k<l.length:=by omega
  obtain⟨s,he,hd⟩:=Xu hlt;have hmem:s∈l:=N3 he;have iha:=(ih s hmem).1;have ihb:=(ih s hmem).2;have hw1:=XE hlt (by omega);have hk1:k+1<=l.length:=hlt;rw[hd]at hJ hb;obtain⟨sd,sc,sv,sn,⟨so,stn,sks⟩,sa,sb,sbs⟩:=s;simp only[St.then_,St.else_]at iha ihb;simp only[mSs]at hJ;simp only[Xh,St.nodes]at hb;have he':=Q2 he;simp only[St.enc,Tm.enc,List.cons_append,List.nil_append]at he';have hw2:IntKind.i64.wrap (m+1)=m+1:=X9;clear hlt h3 ih hmem hd he;refine X0<|X3<|X0<|X2 ?_;refine X1 ?_;refine X1 ?_;refine X0<|X0<|(Xo [⟨true,.v (lb ((q||decide (12<dep))||decide (1024<m+1))),none⟩] ?_ ?_)
  .first|exact Zc _ _ _|exact trivial|simpa[*]using Zc _ _ _
  refine(Xc rfl (fun h8=>?_) fun h8=>?_)
  ·(try simp only[BN]at h8);rw[Na (by simpa using h8)]at hJ;subst hJ;exact Qe (⟨.inr rfl,_,le_refl _,⟨_,by simp[*];rfl,by simp[XL]⟩,by simp[*]⟩)
  (try simp only[BN]at h8);rw[N7 (by simpa using h8)]at hJ;have hq0:q=false:=h8.1.1;have hdep2:dep<=12:=by omega
  have hwd:IntKind.i64.wrap (dep+1)=dep+1:=X9;have hqd:(q||decide (12<dep))=false:=by rw[hq0];simp;omega
  rw[hqd]at hJ;have e1:=X1k (.mk so stn sks) 1 (m+1,false);obtain⟨p1,hp1⟩:∃p,mTm (.mk so stn sks) 1 (m+1,false)=p:=⟨_,rfl⟩;have cio1:=X6K (.mk so stn sks) 1 (m+1) false (by omega) (by omega) (by omega);rw[hp1]at cio1 e1 hJ;obtain⟨c1,b1⟩:=p1;simp only at cio1 e1;have e2:=X0f sa (dep+1) (c1,b1);have cio2:=iha (dep+1) c1 b1 (by omega) (by omega) (by omega);obtain⟨p2,hp2⟩:∃p,mSs sa (dep+1) (c1,b1)=p:=⟨_,rfl⟩;rw[hp2]at cio2 e2 hJ;obtain⟨c2,b2⟩:=p2;simp only at cio2 e2;have e3:=X0f sb (dep+1) (c2,b2);have cio3:=ihb (dep+1) c2 b2 (by omega) (by omega) (by omega);obtain⟨p3,hp3⟩:∃p,mSs sb (dep+1) (c2,b2)=p:=⟨_,rfl⟩;rw[hp3]at cio3 e3 hJ;obtain⟨c3,b3⟩:=p3;simp only at cio3 e3;clear iha ihb hp1 hp2 hp3 h8 hqd;refine X0<|(X0R 3 (.tup []) ([iC c1,bC b1]) rfl (by simp[*];rfl) (by simp[ioOf, *];first|exact⟨rfl,rfl,rfl,rfl,rfl⟩|exact⟨rfl,rfl,rfl,rfl⟩|exact⟨rfl,rfl,rfl⟩|exact⟨rfl,rfl⟩|rfl) (cio1) (by simp) (by simp[*];rfl) ?_);refine X0<|(X0R 5 (.tup []) ([iC c2,bC b2]) rfl (by simp[*];rfl) (by simp[ioOf, *];first|exact⟨rfl,rfl,rfl,rfl,rfl⟩|exact⟨rfl,rfl,rfl,rfl⟩|exact⟨rfl,rfl,rfl⟩|exact⟨rfl,rfl⟩|rfl) (cio2) (by simp) (by simp[*];rfl) ?_);refine(X0R 5 (.tup []) ([iC c3,bC b3]) rfl (by simp[*];rfl) (by simp[ioOf, *];first|exact⟨rfl,rfl,rfl,rfl,rfl⟩|exact⟨rfl,rfl,rfl,rfl⟩|exact⟨rfl,rfl,rfl⟩|exact⟨rfl,rfl⟩|rfl) (cio3) (by simp) (by simp[*];rfl) ?_);refine X2 ?_;exact⟨(k+1,c3,b3),⟨hk1,hJ,by simp only;omega,by simp only;omega⟩,by simp only;omega,X4 (fun n=>n) []⟩
 (try simp only[BN]at h3);have hkl:k=l.length:=by omega
 subst hkl;rw[Nt]at hJ;simp only[mSs]at hJ;subst hJ;refine(Xg ?_);exact(⟨.inl rfl,_,le_refl _,⟨_,by simp[*];rfl,by simp[XL]⟩,by simp[*]⟩)
def Wi (s:Int×Bool):Bool:=s.2||decide (1024<s.1)
theorem X45 {s:Int×Bool} (h:Wi s=false):s.2=false/\s.1<=1024:=by
 simp only[Wi,NV,Nj]at h;exact⟨h.1,by omega⟩
mutual
theorem mTm_over:∀(t:Tm) (dep:Int) (s:Int×Bool),0<=s.1->Wi s=true->Wi (mTm t dep s)=true
 | .mk o n ks,dep,s,h0,h=>by
   have h1:Wi (s.1+1,s.2||decide (12<dep))=true:=by
    simp only[Wi,Nl,N6]at h⊢;rcases h with h|h
    .exact .inl (.inl h)
    exact .inr (by omega)
   simp only[mTm];split
   .exact h1
   exact X4h ks (dep+1) _ (by simp only;omega) h1
theorem X4h:∀(l:List Tm) (dep:Int) (s:Int×Bool),0<=s.1->Wi s=true->Wi (X3s l dep s)=true
 |[],dep,s,_,h=>h
 |t::l,dep,s,h0,h=>X4h l dep _ (Int.le_trans h0 (X1k t dep s).1) (mTm_over t dep s h0 h)
end
mutual
theorem X7v:∀(t:Tm) (dep:Int) (s:Int×Bool),0<=s.1->dep<=13->Wi s=false->
  (s.1+t.nodes<=1024/\dep+tdT t<=13->mTm t dep s=(s.1+t.nodes,false))/\(¬(s.1+t.nodes<=1024/\dep+tdT t<=13)->Wi (mTm t dep s)=true)
 | .mk o n ks,dep,s,h0,hd,h=>by
   obtain⟨h1,h2⟩:=X45 h;simp only[mTm,Tm.nodes,tdT,h1,Bool.false_or];by_cases hc:(decide (12<dep)||decide (1024<s.1+1))=true
   .rw[Na hc];simp only[Nl,N6]at hc;refine⟨fun hf=>by omega,fun _=>?_⟩;simp only[Wi,Nl,N6];omega
   rw[N7 hc];simp only[Nl,N6,not_or]at hc;have hdd:decide (12<dep)=false:=decide_eq_false hc.1;rw[hdd];have hov:Wi (s.1+1,false)=false:=by simp only[Wi,Bool.false_or,Nj];omega
   have:=X8j ks (dep+1) (s.1+1,false) (by simp only;omega) (by omega) hov;simp only at this;refine⟨fun hf=>?_,fun hf=>this.2 (by omega)⟩;rw[this.1 (by omega)];simp only[Prod.mk.injEq,and_true];omega
theorem X8j:∀(l:List Tm) (dep:Int) (s:Int×Bool),0<=s.1->dep<=13->Wi s=false->
  (s.1+Qn l<=1024/\dep+X4f l<=13->X3s l dep s=(s.1+Qn l,false))/\(¬(s.1+Qn l<=1024/\dep+X4f l<=13)->Wi (X3s l dep s)=true)
 | [],dep,s,h0,hd,h=>by
   obtain⟨h1,h2⟩:=X45 h;obtain⟨c,b⟩:=s;simp only at h1 h2;subst h1;simp only[X3s,Qn,X4f];refine⟨fun _=>by simp,fun hf=>by omega⟩
 | t ::l,dep,s,h0,hd,h=>by
   simp only[X3s,Qn,X4f];have ht:=X7v t dep s h0 hd h;by_cases hf:s.1+t.nodes<=1024/\dep+tdT t<=13
   .rw[ht.1 hf];have hov:Wi (s.1+t.nodes,false)=false:=by simp only[Wi,Bool.false_or,Nj];omega
    have hl:=X8j l dep (s.1+t.nodes,false) (by simp only;omega) hd hov;simp only at hl;refine⟨fun h2=>?_,fun h2=>hl.2 (by omega)⟩;rw[hl.1 (by omega)];simp only[Prod.mk.injEq,and_true];omega
   refine⟨fun h2=>by omega,fun _=>X4h l dep _ (Int.le_trans h0 (X1k t dep s).1) (ht.2 hf)⟩
end
theorem X0J:∀(l:List St) (dep:Int) (s:Int×Bool),0<=s.1->Wi s=true->Wi (mSs l dep s)=true
 |[],dep,s,_,h=>by simp only[mSs];exact h
 | .mk d c v n t a b bs::l,dep,s,h0,h=>by
   have h1:Wi (s.1+1,s.2||decide (12<dep))=true:=by
    simp only[Wi,Nl,N6]at h⊢;rcases h with h|h
    .exact .inl (.inl h)
    exact .inr (by omega)
   simp only[mSs];split
   .exact h1
   rename_i hc;exact absurd h1 hc
theorem X5f:∀(l:List St) (dep:Int) (s:Int×Bool),0<=s.1->dep<=13->Wi s=false->
  (s.1+Xh l<=1024/\dep+sdL l<=13/\WJ l=false->mSs l dep s=(s.1+Xh l,false))/\(¬(s.1+Xh l<=1024/\dep+sdL l<=13/\WJ l=false)->Wi (mSs l dep s)=true)
 | [],dep,s,h0,hd,h=>by
   obtain⟨h1,h2⟩:=X45 h;obtain⟨c,b⟩:=s;simp only at h1 h2;subst h1;simp only[mSs,Xh,sdL,WJ];refine⟨fun _=>by simp,fun hf=>absurd ⟨by omega,by omega,trivial⟩ hf⟩
 | .mk d c v n t a b bs::l,dep,s,h0,hd,h=>by
   obtain⟨h1,h2⟩:=X45 h;simp only[mSs,Xh,St.nodes,sdL,WJ,h1,Bool.false_or,NV,Nj];by_cases hc:(decide (12<dep)||decide (1024<s.1+1))=true
   .rw[Na hc];simp only[Nl,N6]at hc;refine⟨fun hf=>by omega,fun _=>?_⟩;simp only[Wi,Nl,N6];omega
   rw[N7 hc];simp only[Nl,N6,not_or]at hc;have hdd:decide (12<dep)=false:=decide_eq_false hc.1;rw[hdd]
   have ov:∀x:Int,x<=1024->Wi (x,false)=false:=by
    intro x hx;simp only[Wi,Bool.false_or,Nj];omega
   have ht:=X7v t 1 (s.1+1,false) (by simp only;omega) (by omega) (ov _ (by omega));have g1:=(X1k t 1 (s.1+1,false)).1;have g2:=(X0f a (dep+1) (mTm t 1 (s.1+1,false))).1;have g3:=(X0f b (dep+1) (mSs a (dep+1) (mTm t 1 (s.1+1,false)))).1;simp only at ht g1;by_cases f1:s.1+1+t.nodes<=1024/\1+(tdT t:Int)<=13
   .rw[ht.1 f1];have ha:=X5f a (dep+1) (s.1+1+t.nodes,false) (by simp only;omega) (by omega) (ov _ (by omega));simp only at ha;by_cases f2:s.1+1+t.nodes+Xh a<=1024/\dep+1+sdL a<=13/\WJ a=false
    .rw[ha.1 f2];have hb:=X5f b (dep+1) (s.1+1+t.nodes+Xh a,false) (by simp only;omega) (by omega) (ov _ (by omega));simp only at hb;by_cases f3:s.1+1+t.nodes+Xh a+Xh b<=1024/\dep+1+sdL b<=13/\WJ b=false
     .rw[hb.1 f3];have hl:=X5f l dep (s.1+1+t.nodes+Xh a+Xh b,false) (by simp only;omega) hd (ov _ (by omega));simp only at hl;refine⟨fun hf=>?_,fun hf=>hl.2 fun h4=>hf ⟨by omega,by omega,⟨⟨by omega,f2.2.2⟩,f3.2.2⟩,h4.2.2⟩⟩;rw[hl.1 ⟨by omega,by omega,hf.2.2.2⟩];simp only[Prod.mk.injEq,and_true];omega
     refine⟨fun hf=>absurd ⟨by omega,by omega,hf.2.2.1.2⟩ f3,fun _=>X0J l dep _ ?_ (hb.2 f3)⟩;have:=(X0f b (dep+1) (s.1+1+t.nodes+Xh a,false)).1;simp only at this;omega
    refine⟨fun hf=>absurd ⟨by omega,by omega,hf.2.2.1.1.2⟩ f2,fun _=>?_⟩;have q1:=(X0f a (dep+1) (s.1+1+t.nodes,false)).1;have q2:=(X0f b (dep+1) (mSs a (dep+1) (s.1+1+t.nodes,false))).1;simp only at q1;exact X0J l dep _ (by omega) (X0J b (dep+1) _ (by omega) (ha.2 f2))
   refine⟨fun hf=>absurd ⟨by omega,by omega⟩ f1,fun _=>?_⟩;exact X0J l dep _ (by omega) (X0J b (dep+1) _ (by omega) (X0J a (dep+1) _ (by omega) (ht.2 f1)))
end Go.Proofs.YtdajceakaakdoaaGreat
