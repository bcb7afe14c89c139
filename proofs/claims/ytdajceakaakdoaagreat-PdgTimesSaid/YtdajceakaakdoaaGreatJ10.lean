/- Contracts of functions and plain facts about what they compute. Conditions: as each theorem states. -/
import Derived.Test.YtdajceakaakdoaaGreatJ7
import Derived.Test.YtdajceakaakdoaaGreatJ9
import Derived.Test.YtdajceakaakdoaaGreatJ8
import Derived.Test.YtdajceakaakdoaaGreatJ5
import Derived.Test.YtdajceakaakdoaaGreatJ1
import Derived.Test.YtdajceakaakdoaaGreatJ6
set_option linter.unusedSimpArgs false
set_option linter.unusedVariables false
set_option linter.unnecessarySimpa false
set_option maxRecDepth 100000
set_option maxHeartbeats 2000000
namespace Go.Proofs.YtdajceakaakdoaaGreat
open Go Go.Hl
open Tryz(prog)
theorem XaJ {vars:List Vr} {nh:Nat} {d v n:Int} {t:Tm} {la lb:Nat} {bs:List Int} {last:Bool} (h:shB vars nh d v n t la lb bs last=true):d=3\/d=4\/(la=0/\lb=0):=by
 by_cases h3:d=3
 .exact .inl h3
 by_cases h4:d=4
 .exact .inr (.inl h4)
 refine .inr (.inr ?_);unfold shB at h;simp only[N7 h3,N7 h4]at h;split at h
 .simp only[N3,N5]at h;exact h.1.1.1
 split at h
 .simp only[N3,N5]at h;exact h.1.1.1
 split at h
 .simp only[N3,N5]at h;exact h.1.1.1.1
 split at h
 .simp only[N3,N5]at h;exact h.1.1.1.1.1
 split at h
 .simp only[N3,N5]at h;exact h.1.1.1.1.1
 cases h
theorem X0k {vars:List Vr} {nh:Nat}:∀(l:List St) (top:Bool),ssC vars nh l top=0->okL l=true
 |[],_,_=>by simp[okL]
 | .mk d c v n t a b bs::l,top,h=>by
   simp only[ssC]at h;split at h
   .rename_i h0;split at h
    .rename_i ha;split at h
     .rename_i hb;have ia:=X0k a false ha;have ib:=X0k b false hb;have il:=X0k l top h;unfold stC at h0;split at h0
      .cases h0
      rename_i hs;split at h0
      .cases h0
      rename_i hn;have hs:shB vars nh d v n t a.length b.length bs (top&&l.isEmpty)=true:=by simpa using hs
      have hn:X3o d c n bs=true:=by simpa using hn
      have hf:=XaJ hs;unfold X3o at hn;simp only[N3,Nu,NR,NA,Nh]at hn;have hm:X3I d<=67108864:=by unfold X3I;split<;>omega
      simp only[okL,okS,N3,Nf,N5,De,ia,ib,il];have hla:a.length=0->a=[]:=Ns;have hlb:b.length=0->b=[]:=Ns;refine⟨⟨⟨by omega,by omega,by omega⟩,?_,by simp⟩,by simp⟩;rcases hf with hf|hf|hf
      .exact .inl hf
      .exact .inr (.inl hf)
      exact .inr (.inr ⟨hla hf.1,hlb hf.2⟩)
     rename_i hb;exact absurd h hb
    rename_i ha;exact absurd h ha
   rename_i h0;exact absurd h h0
def QD:List Ht->Nat
 |[]=>0
 |h::l=>h.term.nodes+QD l
def mH:List Ht->Int×Bool->Int×Bool
 |[],s=>s
 |h::l,s=>mH l (if Wh s=true then s else mTm h.term 1 s)
theorem X31 {l:List Ht} {h:Ht} (hm:h∈l):h.term.nodes<=QD l:=by
 induction l with
 |nil=>cases hm
 | cons x l ih=>
   simp only[QD];rcases Ng.1 hm with rfl|h1
   .omega
   have:=ih h1;omega
theorem X89:∀(l:List Ht) (s:Int×Bool),Wh s=true->Wh (mH l s)=true
 |[],s,h=>h
 | x::l,s,h=>by
   simp only[mH,N8 h];exact X89 l s h
def X0H (l:List Ht):Bool:=l.all fun h=>decide (tdT h.term<=12)
theorem mH_fit:∀(l:List Ht) (s:Int×Bool),0<=s.1->Wh s=false->
  (s.1+QD l<=1024/\X0H l=true->Wh (mH l s)=false)/\(¬(s.1+QD l<=1024/\X0H l=true)->Wh (mH l s)=true)
 | [],s,h0,h=>by
   have:=X4D h;simp only[mH,QD,X0H,List.all_nil];exact⟨fun _=>h,fun hn=>absurd ⟨by omega,trivial⟩ hn⟩
 | x::l,s,h0,h=>by
   have ho:=X4D h;have ht:=X8A x.term 1 s h0 (by omega) h;have hle:=X1F x.term 1 s;simp only[mH,h,QD,X0H,List.all_cons,N3,N5,NB,Nc];by_cases hf:s.1+x.term.nodes<=1024/\1+(tdT x.term:Int)<=13
   .have e:=ht.1 hf;rw[e];have ih:=mH_fit l (s.1+x.term.nodes,false) (by simp only;omega) (by simp only[Wh,Bool.false_or,Nh];omega);simp only[X0H]at ih;refine⟨fun hh=>ih.1 ⟨by omega,hh.2.2⟩,fun hh=>ih.2 fun h2=>hh ⟨by omega,by omega,h2.2⟩⟩
   have e:=ht.2 hf;refine⟨fun hh=>absurd ⟨by omega,by omega⟩ hf,fun _=>X89 _ _ e⟩
def X1G (f:Fl):Bool:=((((decide (f.vars.length<=64)&&decide (f.hats.length<=8))&&decide (Xl f.body+QD f.hats<=1024))&&decide (sdL f.body<=12))&& !WO f.body)&&X0H f.hats
def mF (f:Fl):Int×Bool:=mH f.hats (mSs f.body 1 (0,false))
theorem Xbd (f:Fl):X1G f=false↔64<f.vars.length\/8<f.hats.length\/Wh (mF f)=true:=by
 have h1:=X5R f.body 1 (0,false) (by decide) (by decide) rfl;unfold mF X1G;simp only[NA,Nh,Bool.not_eq_false',Nat.not_le];by_cases hs:((0:Int),false).1+Xl f.body<=1024/\1+(sdL f.body:Int)<=13/\WO f.body=false
 .rw[h1.1 hs];have h2:=mH_fit f.hats (0+(Xl f.body:Int),false) (by simp only;omega) (by simp only[Wh,Bool.false_or,Nh];have:=hs.1;simp only at this;omega);obtain⟨a1,a2,a3⟩:=hs;simp only at a1 h2;by_cases hh:0+(Xl f.body:Int)+QD f.hats<=1024/\X0H f.hats=true
  .have e:=h2.1 hh;have e3:=hh.2;simp only;rw[e,a3,e3];simp;omega
  have e:=h2.2 hh;simp only;rw[e,a3];constructor
  .intro _;exact .inr (.inr rfl)
  intro _;by_cases hd:X0H f.hats=true
  .left;left;left;right;by_cases hc:0+(Xl f.body:Int)+QD f.hats<=1024
   .exact absurd ⟨hc,hd⟩ hh
   omega
  right;simpa using hd
 have e:=X89 f.hats _ (h1.2 hs);rw[e];constructor
 .intro _;exact .inr (.inr rfl)
 intro _;simp only at hs;by_cases ht:WO f.body=true
 .left;right;exact ht
 have ht:WO f.body=false:=by simpa using ht
 by_cases hd:sdL f.body<=12
 .left;left;left;right;by_cases hc:0+(Xl f.body:Int)<=1024
  .exact absurd ⟨hc,by omega,ht⟩ hs
  omega
 left;left;right;omega
def X6X (l:List St):Bool:=decide (4096<(bdL CR l ⟨0,0,0⟩).s)||(decide (8<(bdL CR l ⟨0,0,0⟩).o)||decide (67108864<(bdL CR l ⟨0,0,0⟩).t))
def XR (f:Fl):Int:=
 if X1G f=false then 4 else if ZU f.vars=0 then
  (if hcs f.vars [] f.hats=0 then(if ssC f.vars f.hats.length f.body true=0 then(if X6X f.body=true then 4 else 0)else ssC f.vars f.hats.length f.body true)else hcs f.vars [] f.hats)
 else ZU f.vars
theorem ZE {vars:List Vr} (h:ZU vars=0):X0s vars:=by
 unfold ZU at h;split at h
 .rename_i h0;exact X3y _ _ h0
 rename_i h0;exact absurd h h0
theorem X1u (f:Fl) (hv:f.vars.length<=1000000) (hh:f.hats.length<=1000000) (hn:Xl f.body+QD f.hats<=900000000) (hb:Z9 f.body=true) (d:Nat):
  Con prog 62 true [aF f] (.v (li (XR f))) none d:=by
 obtain⟨res,hres⟩:∃r,XR f=r:=⟨_,rfl⟩;rw[hres];have hso:=Xbd f;have cvars:=XdF f.vars hv;have chat:=fun hg=>Xdw f hg hv hh (fun h hm=>by have:=X31 hm;omega);have cst:=fun hg=>Xb4 f hg hv f.body (by omega) hb;have cup:=fun ho=>X7v f.body (by omega) ho;have cms:=XbF f.body 1 0 false (by decide) (by decide) (by omega);have hms:=X0w f.body 1 (0,false);have hgood:ZU f.vars=0->X0s f.vars:=ZE;have hok:ssC f.vars f.hats.length f.body true=0->okL f.body=true:=X0k _ _;have hcmp:=fun h=>@bd_cmp f.body h;unfold XR X6X at hres;unfold mF at hso;obtain⟨vars,hats,body⟩:=f;simp only at hv hh hn hb hres hso cvars chat cst cup cms hms hgood hok hcmp;obtain⟨m0,hm0⟩:∃m,mSs body 1 (0,false)=m:=⟨_,rfl⟩;rw[hm0]at cms hms hso;obtain⟨c0,b0⟩:=m0;simp only at cms hms;obtain⟨mE,hmE⟩:∃m,mH hats (c0,b0)=m:=⟨_,rfl⟩;rw[hmE]at hso;obtain⟨VC,hVC⟩:∃x,ZU vars=x:=⟨_,rfl⟩;obtain⟨HC,hHC⟩:∃x,hcs vars [] hats=x:=⟨_,rfl⟩;obtain⟨SC,hSC⟩:∃x,ssC vars hats.length body true=x:=⟨_,rfl⟩;rw[hVC]at cvars hres hgood;rw[hHC]at chat hres;rw[hSC]at hres hok;have cst:=fun hg=>cst hg true;rw[hSC]at cst;clear hVC hHC hSC hm0;refine X5 Tryz.func62 ?_;simp only[Tryz.f62];simp only[aF,Fl.enc,Nk,Nr]at chat cst⊢;refine X2 ?_;refine X2 ?_;refine X0<|(X0X 2 (.tup []) ([iC c0,bC b0]) rfl (by simp[*];rfl) (by simp[ioOf, *];first|exact⟨rfl,rfl,rfl,rfl,rfl⟩|exact⟨rfl,rfl,rfl,rfl⟩|exact⟨rfl,rfl,rfl⟩|exact⟨rfl,rfl⟩|rfl) (cms) (by simp) (by simp[*];rfl) ?_);refine X0<|X0<|X1 ?_;refine X3<|(Xg [1,3,14,15] (fun(x:Nat×Int×Bool)=>[(16,.v (li x.1))]) (fun x=>[(1,.box [.c (.sl 5 (Xk vars)),.c (.sl 6 (Xn hats)),.c (.sl 10 (X7 body))]),(3,.box [.c (iC x.2.1),.c (bC x.2.2)])]) (fun x=>x.1<=hats.length/\mH (hats.drop x.1) x.2=mE/\0<=x.2.1/\x.2.1+QD (hats.drop x.1)<=1000000000) (fun x=>hats.length - x.1) (0,c0,b0) ⟨Nq _,by simpa using hmE,by simp only;omega,by simp only[List.drop_zero];omega⟩ ?_ ?_)
 .exact X4 (fun n=>n) []
 rintro⟨k,m,q⟩ ⟨hk,hJ,hm,hbb⟩;simp only[upS,X8,Xz]
 simp only[KN,Nat.reduceBEq,Nj,Nc,ins,Nat.reduceLT]
 simp only at hk hJ hm hbb;clear hmE hms cms;refine X2 ?_;refine X0<|(X6 rfl (fun h6=>Xe ?_) (fun h6=>?_))
 ·simp only[BN]at h6;have hlt:k<hats.length:=by omega
  obtain⟨h,he,hd⟩:=Xt hlt;have hw1:=XD hlt (by omega);have hk1:k+1<=hats.length:=hlt;rw[hd]at hJ hbb;simp only[mH,QD]at hJ hbb;have hle:=X1F h.term 1 (m,q);have cmt:=X7g h.term 1 m q (by decide) hm (by omega);obtain⟨nm,lo,hi,⟨o,tn,ks⟩⟩:=h;simp only at hle cmt hJ hbb;obtain⟨m1,hm1⟩:∃x,mTm (.mk o tn ks) 1 (m,q)=x:=⟨_,rfl⟩;rw[hm1]at cmt hle hJ;obtain⟨c1,b1⟩:=m1;simp only[aT,Tm.enc,Nk,Nr]at cmt hle;clear hlt h6 hd hm1 hso hres chat cst cup hok hcmp;refine X0<|X3<|X0<|X1 ?_;refine Xh [⟨true,.v (lb (q||decide (1024<m))),none⟩] ?_ ?_
  .first|exact Zj _ _ _|exact trivial|simpa[*]using Zj _ _ _
  refine(Xb rfl (fun h9=>?_) fun h9=>?_)
  .simp only[BN]at h9
   have hov:Wh (m,q)=false:=by
    simp only[Wh,NR,Nh]
    first|exact h9|simpa using h9
   rw[N7 (by rw[hov];decide)]at hJ;clear hov;refine(X0X 2 (.tup []) ([iC c1,bC b1]) rfl (by simp[*];rfl) (by simp[ioOf, *];first|exact⟨rfl,rfl,rfl,rfl,rfl⟩|exact⟨rfl,rfl,rfl,rfl⟩|exact⟨rfl,rfl,rfl⟩|exact⟨rfl,rfl⟩|rfl) (cmt) (by simp) (by simp[*];rfl) ?_);refine X1 ?_;exact⟨(k+1,c1,b1),⟨hk1,hJ,by simp only;omega,by simp only;omega⟩,by simp only;omega,X4 (fun n=>n) []⟩
  simp only[BN]at h9
  have hov:Wh (m,q)=true:=by
   simp only[Wh,Nf,N5]
   first|exact h9|simpa using h9
  rw[N8 hov]at hJ;clear hov;refine X1 ?_;exact⟨(k+1,m,q),⟨hk1,hJ,hm,by simp only;omega⟩,by simp only;omega,X4 (fun n=>n) []⟩
 simp only[BN]at h6;have hkl:k=hats.length:=by omega
 subst hkl;rw[Nw]at hJ;simp only[mH]at hJ;subst hJ;simp only[Wh,Nf,N5]at hso;refine(Xi ?_);refine X0<|X0<|(Xo [⟨true,.v (lb (q||decide (1024<m))),none⟩] ?_ ?_)
 .first|exact Zj _ _ _|exact trivial|simpa[*]using Zj _ _ _
 refine(Xb rfl (fun h16=>?_) fun h16=>?_)
 .simp only[BN]at h16
  rw [N8 (hso.2 (by
      simp only[or_assoc]at h16;rcases h16 with h|h|h|h
      .exact .inl (by omega)
      .exact .inr (.inl (by omega))
      .exact .inr (.inr (.inl h))
      exact .inr (.inr (.inr h))))]at hres
  subst hres;refine X2 ?_;exact Xc
 simp only[BN]at h16
 rw [N7 (by
     rw[hso];rintro(h|h|h|h)
     .omega
     .omega
     .exact absurd h (by simp[h16])
     omega)]at hres
 refine X0<|X0<|(Xo [⟨true,.v (li VC),none⟩] ?_ ?_)
 .first|exact cvars _|exact trivial|simpa[*]using cvars _
 refine X2 ?_;refine(Xb rfl (fun h21=>?_) fun h21=>?_)
 ·simp only[BN]at h21;rw[N7 h21]at hres;subst hres;refine X2 ?_;exact Xc
 simp only[BN]at h21;have hv0:VC=0:=by simpa using h21
 have hg:=hgood hv0;have chat:=chat hg;have cst:=cst hg;rw[N8 hv0]at hres;clear cvars hgood h21;refine X0<|X0<|(Xo [⟨true,.v (li HC),none⟩] ?_ ?_)
 .first|exact chat _|exact trivial|simpa[*]using chat _
 refine X2 ?_;refine(Xb rfl (fun h26=>?_) fun h26=>?_)
 ·simp only[BN]at h26;rw[N7 h26]at hres;subst hres;refine X2 ?_;exact Xc
 simp only[BN]at h26;have hh0:HC=0:=by simpa using h26
 rw[N8 hh0]at hres;clear chat h26;refine X0<|X0<|(Xo [⟨true,.v (li SC),none⟩] ?_ ?_)
 .first|exact cst _|exact trivial|simpa[*]using cst _
 refine X2 ?_;refine(Xb rfl (fun h31=>?_) fun h31=>?_)
 ·simp only[BN]at h31;rw[N7 h31]at hres;subst hres;refine X2 ?_;exact Xc
 simp only[BN]at h31;have hs0:SC=0:=by simpa using h31
 rw[N8 hs0]at hres;have hok:=hok hs0;have cup:=cup hok;have hcmp:=hcmp hok;obtain⟨X,hX⟩:∃x,bdL CP body ⟨0,0,0⟩=x:=⟨_,rfl⟩;obtain⟨Y,hY⟩:∃x,bdL CR body ⟨0,0,0⟩=x:=⟨_,rfl⟩;rw[hX]at cup hcmp;rw[hY]at hcmp hres;obtain⟨x1,x2,x3⟩:=X;obtain⟨y1,y2,y3⟩:=Y;simp only[Nf,N5]at hcmp hres;clear hX hY cst h31 hok;refine X0<|X0<|(Xo [⟨true,.v (aB ⟨x1,x2,x3⟩),none⟩] ?_ ?_)
 .first|exact cup _|exact trivial|simpa[*]using cup _
 refine X2 ?_;refine(Xb rfl (fun h36=>?_) fun h36=>?_)
 ·simp only[BN]at h36;rw[N8 (by omega)]at hres;subst hres;refine X2 ?_;exact Xc
 simp only[BN]at h36;rw[N7 (by omega)]at hres;subst hres;refine X2 ?_;exact Xc
mutual
def szS:St->Nat
 | .mk _ _ _ _ _ a b _=>1+szL a+szL b
def szL:List St->Nat
 |[]=>0
 |s::l=>szS s+szL l
end
mutual
theorem szS_le:∀s:St,szS s<=s.nodes
 | .mk _ _ _ _ t a b _=>by have:=Zh a;have:=Zh b;simp only[szS,St.nodes];omega
theorem Zh:∀l:List St,szL l<=Xl l
 |[]=>by simp[szL]
 |s::l=>by have:=szS_le s;have:=Zh l;simp only[szL,Xl];omega
end
theorem X8s (s:St):1<=szS s:=by cases s;simp only[szS];omega
theorem X5I:∀l:List St,l.length<=szL l
 |[]=>by simp
 |s::l=>by have:=X5I l;have:=X8s s;simp only[szL,List.length_cons];omega
theorem X0h (l:List St):Xl l<=1000000000->∀d:Nat,Con prog 16 true [lS l] (.v (li (szL l))) none d:=by
 revert l
 apply St.lists;intro l ih hn d;have hlen:=Qs l;have hsl:=Zh l;obtain⟨res,hres⟩:∃r,szL l=r:=⟨_,rfl⟩;rw[hres]at hsl⊢;refine X5 Tryz.func16 ?_;simp only[Tryz.f16];refine X2 ?_;refine X2 ?_;refine X0<|X0<|X1 ?_;refine X3<|(Xg [0] (fun(x:Nat×Nat)=>[(3,.v (li ((x.2:Nat):Int))),(4,.v (li x.1))]) (fun x=>[]) (fun x=>x.1<=l.length/\x.2+szL (l.drop x.1)=res) (fun x=>l.length - x.1) (0,0) ⟨Nq _,by simp[hres]⟩ ?_ ?_)
 .exact X4 (fun n=>n) []
 rintro⟨k,m⟩ ⟨hk,hJ⟩;simp only[upS,X8,Xz]
 simp only[KN,Nat.reduceBEq,Nj,Nc,ins,Nat.reduceLT]
 simp only at hk hJ;refine X0<|X0<|X1 ?_;refine(X6 rfl (fun h5=>Xe ?_) (fun h5=>?_))
 ·simp only[BN]at h5;have hlt:k<l.length:=by omega
  obtain⟨s,he,hd⟩:=Xt hlt;have hmem:s∈l:=N4 he;have hnm:=QJ hmem;have iha:=fun h=>(ih s hmem).1 h;have ihb:=fun h=>(ih s hmem).2 h;have hw1:=XD hlt (by omega);have hk1:k+1<=l.length:=hlt;rw[hd]at hJ;obtain⟨sd,sc,sv,sn,⟨so,stn,sks⟩,sa,sb,sbs⟩:=s;simp only[St.then_,St.else_,St.term]at iha ihb hnm;simp only[szL,szS]at hJ;have ca:=iha (by omega);have cb:=ihb (by omega);have he':=Q4 he;simp only[St.enc,Tm.enc,List.cons_append,List.nil_append]at he';generalize szL sa=na at*;generalize szL sb=nb at*;have hw2:IntKind.i64.wrap ((m:Int)+1)=(m:Int)+1:=Xa;have hw3:IntKind.i64.wrap ((m:Int)+1+(na:Int))=(m:Int)+1+(na:Int):=Xa;have hw4:IntKind.i64.wrap ((m:Int)+1+(na:Int)+(nb:Int))=(m:Int)+1+(na:Int)+(nb:Int):=Xa;clear hlt h5 ih hmem iha ihb;refine X0<|X3<|(XU [⟨true,.v (li (na:Int)),none⟩,⟨true,.v (li (nb:Int)),none⟩] (by kernel_rfl) (by kernel_rfl) (by rfl) (by simp[*];first|exact⟨rfl,Iff.rfl⟩|exact⟨rfl,trivial⟩|rfl) ?_ ?_)
  .first|exact⟨ca _,cb _⟩|exact trivial|(repeat' first|exact trivial|exact ca _|exact cb _|apply And.intro)
  refine X1 ?_;exact⟨(k+1,m+1+na+nb),⟨hk1,by simp only;omega⟩,by simp only;omega,X4 (fun n=>n) []⟩
 simp only[BN]at h5;have hkl:k=l.length:=by omega
 rw[hkl,Nw]at hJ;simp only[szL]at hJ;have hm:m=res:=by omega
 refine(Xi ?_);refine X2 ?_;exact Xc
structure Sta where
 vals:List Int
 outs:List Int
 time:Int
def tick (s:Sta) (c:Int):Sta:=⟨s.vals,s.outs,wr (s.time+c)⟩
def X0S (c:Int) (t:Tm) (body:Sta->Sta):Nat->Sta->Sta
 |0,s=>s
 |k+1,s=>if vT s.vals t=0 then tick s c else X0S c t body k (body (tick s c))
def X4t (vars:List Vr) (vs:List Int) (v n:Int):List Int:=
 match vars[v.toNat]? with
 |some w=>vs.set v.toNat (Qg n w.low w.high)
 |none=>vs
def QV (vars:List Vr) (hv:List Int) (d v n:Int) (t:Tm) (bs:List Int) (s:Sta):Sta:=
 if d=0 then⟨X4t vars s.vals v (vT s.vals t),s.outs,s.time⟩
 else if d=1 then⟨s.vals,s.outs++[vT s.vals t],s.time⟩
 else if d=5 then⟨X4t vars s.vals v ((hv[n.toNat]?).getD 0),s.outs,s.time⟩
 else if d=6 then⟨s.vals,s.outs,X0p bs s.time s.time false⟩ else s
def Q7 (vars:List Vr) (hv:List Int):List St->Sta->Sta
 |[]=>fun s=>s
 | .mk d c v n t a b bs::l=>fun s=>
   Q7 vars hv l (if d=4 then X0S c t (Q7 vars hv a) n.toNat s
    else if d=3 then(if vT s.vals t=0 then Q7 vars hv b (tick s c)else Q7 vars hv a (tick s c))
    else QV vars hv d v n t bs (tick s c))
mutual
def wfS (vars:List Vr) (nh:Nat):St->Bool
 | .mk d _ v n t a b bs=>Qu vars false t&&((decide (d≠0/\d≠5)||W3 vars v)&&((decide (d≠5)||(decide (0<=n)&&decide (n<nh)))&&((decide (d≠4)||decide (n<=4096))&&(decide (bs.length<=1000000000)&&(wfL vars nh a&&wfL vars nh b)))))
def wfL (vars:List Vr) (nh:Nat):List St->Bool
 |[]=>true
 |s::l=>wfS vars nh s&&wfL vars nh l
end
mutual
def oUS:St->Nat
 | .mk d _ _ n _ a b _=>if d=4 then n.toNat*oUL a else if d=3 then max (oUL a) (oUL b)else if d=1 then 1 else 0
def oUL:List St->Nat
 |[]=>0
 |s::l=>oUS s+oUL l
end
theorem X3X (vars:List Vr) (vs:List Int) (v n:Int):(X4t vars vs v n).length=vs.length:=by
 unfold X4t;split<;>simp
theorem X1h (vars:List Vr) (hv:List Int) (d v n:Int) (t:Tm) (bs:List Int) (s:Sta):(QV vars hv d v n t bs s).vals.length=s.vals.length/\(QV vars hv d v n t bs s).outs.length<=s.outs.length+(if d=1 then 1 else 0):=by
 unfold QV;split
 .rename_i h;subst h;simp[X3X]
 split
 .rename_i h;subst h;simp
 split
 .simp[X3X]
 split<;>simp
theorem XcS {c:Int} {t:Tm} {body:Sta->Sta} {O:Nat} (hb:∀s,(body s).vals.length=s.vals.length/\(body s).outs.length<=s.outs.length+O):∀(k:Nat) (s:Sta),(X0S c t body k s).vals.length=s.vals.length/\(X0S c t body k s).outs.length<=s.outs.length+k*O
 |0,s=>by simp[X0S]
 | k+1,s=>by
   simp only[X0S];split
   .simp[tick]
   have h1:=XcS (c:=c) (t:=t) hb k (body (tick s c));have h2:=hb (tick s c);simp only[tick]at h2⊢;rw[Nat.succ_mul];simp only[tick]at h1;omega
theorem ZL (vars:List Vr) (hv:List Int):∀(l:List St) (s:Sta),(Q7 vars hv l s).vals.length=s.vals.length/\(Q7 vars hv l s).outs.length<=s.outs.length+oUL l
 |[],s=>by simp[Q7]
 | .mk d c v n t a b bs::l,s=>by
   simp only[Q7,oUL,oUS];have ha:=ZL vars hv a;have hb:=ZL vars hv b;by_cases h4:d=4
   .rw[N8 h4,N8 h4];have h1:=XcS (c:=c) (t:=t) ha n.toNat s;have h2:=ZL vars hv l (X0S c t (Q7 vars hv a) n.toNat s);omega
   rw[N7 h4,N7 h4];by_cases h3:d=3
   .rw[N8 h3,N8 h3];have h1:=ha (tick s c);have h2:=hb (tick s c);have e:(tick s c).vals.length=s.vals.length/\(tick s c).outs.length=s.outs.length:=⟨rfl,rfl⟩;split
    .have h5:=ZL vars hv l (Q7 vars hv b (tick s c));omega
    have h5:=ZL vars hv l (Q7 vars hv a (tick s c));omega
   rw[N7 h3,N7 h3];have h1:=X1h vars hv d v n t bs (tick s c);have h5:=ZL vars hv l (QV vars hv d v n t bs (tick s c));have e:(tick s c).vals.length=s.vals.length/\(tick s c).outs.length=s.outs.length:=⟨rfl,rfl⟩;omega
theorem wfL_mem {vars:List Vr} {nh:Nat} {l:List St} (h:wfL vars nh l=true) {s:St} (hs:s∈l):wfS vars nh s=true:=by
 induction l with
 |nil=>cases hs
 | cons x l ih=>
   simp only[wfL,N3]at h;rcases Ng.1 hs with rfl|h1
   .exact h.1
   exact ih h.2 h1
abbrev Sev:=Sta×List (Nat×Int)
def X4S (c:Int) (t:Tm) (body:Sev->Sev):Nat->Sev->Sev
 |0,x=>x
 |k+1,x=>if vT x.1.vals t=0 then(tick x.1 c,x.2)else X4S c t body k (body (tick x.1 c,x.2))
def evD (vars:List Vr) (hv:List Int):List St->Nat->Sev->Sev
 |[],_=>fun x=>x
 | .mk d c v n t a b bs::l,o=>fun x=>
   evD vars hv l (o+(1+szL a+szL b)) (if d=4 then X4S c t (evD vars hv a (o+1)) n.toNat x
    else if d=3 then(if vT x.1.vals t=0 then evD vars hv b (o+1+szL a) (tick x.1 c,x.2)else evD vars hv a (o+1) (tick x.1 c,x.2))
    else(QV vars hv d v n t bs (tick x.1 c),if d=1 then x.2++[(o,vT x.1.vals t)] else x.2))
theorem St.lind {P:List St->Prop} (nil:P []) (cons:∀d c v n t a b bs l,P a->P b->P l->P (.mk d c v n t a b bs::l)):∀l,P l:=by
 apply St.lists;intro l ih
 induction l with
 |nil=>exact nil
 | cons s l ihl=>
   have h:=ih s (List.mem_cons_self ..);have h2:=ihl fun s hs=>ih s (NO _ hs);obtain⟨d,c,v,n,t,a,b,bs⟩:=s;exact cons d c v n t a b bs l h.1 h.2 h2
section
variable {vars:List Vr} {hv:List Int}
theorem XcT {c:Int} {t:Tm} {body:Sev->Sev} {bodyF:Sta->Sta} (h:∀x,(body x).1=bodyF x.1):∀(k:Nat) (x:Sev),(X4S c t body k x).1=X0S c t bodyF k x.1
 |0,x=>rfl
 | k+1,x=>by
   simp only[X4S,X0S];split
   .rfl
   rw[XcT h k,h]
theorem Xc7:∀l:List St,∀(o:Nat) (x:Sev),(evD vars hv l o x).1=Q7 vars hv l x.1:=by
 apply St.lind
 .intro o x;simp[evD,Q7]
 intro d c v n t a b bs l ia ib il o x;simp only[evD,Q7];rw[il];congr 1;by_cases h4:d=4
 .rw[N8 h4,N8 h4];exact XcT (fun x=>ia _ x) _ _
 rw[N7 h4,N7 h4];by_cases h3:d=3
 .rw[N8 h3,N8 h3];split
  .rw[ib]
  rw[ia]
 rw[N7 h3,N7 h3]
end
theorem X2H {vars:List Vr} {v:Int} (h:W3 vars v=true):0<=v/\∃w,vars[v.toNat]? =some w:=by
 unfold W3 at h;simp only[N3,N5]at h;refine⟨h.1,?_⟩;have h2:=h.2;split at h2
 .exact⟨_,by assumption⟩
 cases h2
theorem Xd4 (f:Fl) (hv:f.vars.length<=1000000) (hh:f.hats.length<=1000000) (hn:Xl f.body+QD f.hats<=900000000) (d:Nat):
  Con prog 48 true [aF f] (.v (lb (X1G f))) none d:=by
 obtain⟨res,hres⟩:∃r,X1G f=r:=⟨_,rfl⟩;rw[hres];have cn:=Xd8 f.body (by omega);have csd:=Xb6 f.body (by omega);have ctd:=XdH f.body (by omega);unfold X1G at hres;obtain⟨vars,hats,body⟩:=f;simp only at hv hh hn hres cn csd ctd;refine X5 Tryz.func48 ?_;simp only[Tryz.f48];simp only[aF,Fl.enc,Nk,Nr];refine X2 ?_;refine X0<|X0<|X1 ?_;refine(Xb rfl (fun h2=>?_) fun h2=>?_)
 .simp only[BN]at h2
  have hz:(decide (vars.length<=64)&&decide (hats.length<=8))=false:=by
   simp only[NA,Nh];omega
  rw[hz]at hres;simp only[Dc]at hres;subst hres;refine X2 ?_;exact Xc
 simp only[BN]at h2
 have hz:(decide (vars.length<=64)&&decide (hats.length<=8))=true:=by
  simp only[N3,N5];omega
 rw[hz]at hres;simp only[NQ]at hres;refine Xh [⟨true,.v (li (Xl body)),none⟩] ?_ ?_
 .first|exact cn _|exact trivial|simpa[*]using cn _
 refine X0<|X0<|X1 ?_;refine X3<|(Xg [1] (fun(x:Nat×Nat)=>[(3,.v (li x.2)),(4,.v (li x.1))]) (fun x=>[(1,.box [.c (.sl 5 (Xk vars)),.c (.sl 6 (Xn hats)),.c (.sl 10 (X7 body))])]) (fun x=>x.1<=hats.length/\x.2+QD (hats.drop x.1)=Xl body+QD hats/\X0H (hats.drop x.1)=X0H hats) (fun x=>hats.length - x.1) (0,Xl body) ⟨Nq _,by simp,by simp⟩ ?_ ?_)
 .exact X4 (fun n=>n) []
 rintro⟨k,n⟩ ⟨hk,hJ,hJ2⟩;simp only[upS,X8,Xz]
 simp only[KN,Nat.reduceBEq,Nj,Nc,ins,Nat.reduceLT]
 simp only at hk hJ hJ2;refine X0<|X0<|X1 ?_;refine(X6 rfl (fun h9=>Xe ?_) (fun h9=>?_))
 ·simp only[BN]at h9;have hlt:k<hats.length:=by omega
  obtain⟨h,he,hd⟩:=Xt hlt;have hw1:=XD hlt (by omega);have hk1:k+1<=hats.length:=hlt;rw[hd]at hJ hJ2;simp only[QD]at hJ;have hJ2:(decide (tdT h.term<=12)&&X0H (hats.drop (k+1)))=X0H hats:=hJ2;have ctn:=X6s h.term (by omega);have ctd2:=X6h h.term (by omega);have hw2:IntKind.i64.wrap ((n:Int)+h.term.nodes)=((n+h.term.nodes:Nat):Int):=by rw[Xa (by omega) (by omega)];simp
  obtain⟨nm,lo,hi,⟨o,tn,ks⟩⟩:=h;simp only at hJ hJ2 ctn ctd2 hw2;simp only[aT,Tm.enc,Nk,Nr]at ctn ctd2;obtain⟨N,hN⟩:∃x,(Tm.mk o tn ks).nodes=x:=⟨_,rfl⟩;obtain⟨D,hD⟩:∃x,tdT (Tm.mk o tn ks)=x:=⟨_,rfl⟩;rw[hN]at ctn hJ hw2;rw[hD]at ctd2 hJ2;clear hlt h9 hd hN hD;refine X0<|X3<|X0<|(Xo [⟨true,.v (li N),none⟩] ?_ ?_)
  .first|exact ctn _|exact trivial|simpa[*]using ctn _
  refine Xh [⟨true,.v (li D),none⟩] ?_ ?_
  .first|exact ctd2 _|exact trivial|simpa[*]using ctd2 _
  refine(Xb rfl (fun h12=>?_) fun h12=>?_)
  ·simp only[BN]at h12;have hz2:X0H hats=false:=by rw[<-hJ2];simp only[NA,Nh];omega
   rw[hz2,Bool.and_false]at hres;subst hres;refine X2 ?_;exact Xc
  simp only[BN]at h12;rw[D7 (by omega),NQ]at hJ2;refine X1 ?_;exact⟨(k+1,n+N),⟨hk1,by simp only;omega,hJ2⟩,by simp only;omega,X4 (fun n=>n) []⟩
 simp only[BN]at h9;have hkl:k=hats.length:=by omega
 subst hkl;rw[Nw]at hJ hJ2;simp only[QD,Nat.add_zero]at hJ;have hJ2:X0H hats=true:=hJ2.symm;rw[hJ2,Bool.and_true,<-hJ]at hres;obtain⟨S,hS⟩:∃x,sdL body=x:=⟨_,rfl⟩;obtain⟨T,hT⟩:∃x,WO body=x:=⟨_,rfl⟩;rw[hS]at csd hres;rw[hT]at ctd hres;have e1:decide (n<=1024)=decide ((n:Int)<=1024):=by rw[Dl,N5,N5];omega
 have e2:decide (S<=12)=decide ((S:Int)<=12):=by rw[Dl,N5,N5];omega
 rw[e1,e2]at hres;clear e1 e2 hS hT hJ2 h9 hJ;refine(Xi ?_);refine Xh [⟨true,.v (li S),none⟩,⟨true,.v (lb T),none⟩] ?_ ?_
 .first|exact⟨csd _,ctd _⟩|exact trivial|(repeat' first|exact trivial|exact csd _|exact ctd _|apply And.intro)
 exact(Xc (he:=by subst hres;simp[XG]))
theorem Xbi (f:Fl) (hv:f.vars.length<=1000000) (hh:f.hats.length<=1000000) (hn:Xl f.body+QD f.hats<=900000000) (hb:Z9 f.body=true) (d:Nat):
  Con prog 15 true [aF f] (.v (li (XR f))) none d:=by
 obtain⟨res,hres⟩:∃r,XR f=r:=⟨_,rfl⟩;rw[hres];have csz:=Xd4 f hv hh hn;have cvars:=XcZ f.vars hv;have ct:=fun(hg:X0s f.vars) (h:Ht) (hm:h∈f.hats)=>X7L f.vars true hg (by omega) h.term (by have:=X31 hm;omega);have cst:=fun hg=>XbU f hg hv f.body (by omega) hb;have cup:=fun ho=>X5a f.body (by omega) ho;have hgood:ZU f.vars=0->X0s f.vars:=ZE;have hok:ssC f.vars f.hats.length f.body true=0->okL f.body=true:=X0k _ _;unfold XR X6X at hres;obtain⟨SZ,hSZ⟩:∃x,X1G f=x:=⟨_,rfl⟩;rw[hSZ]at csz hres;obtain⟨vars,hats,body⟩:=f;simp only at hv hh hn hb hres csz cvars ct cst cup hgood hok;obtain⟨VC,hVC⟩:∃x,ZU vars=x:=⟨_,rfl⟩;obtain⟨HC,hHC⟩:∃x,hcs vars [] hats=x:=⟨_,rfl⟩;obtain⟨SC,hSC⟩:∃x,ssC vars hats.length body true=x:=⟨_,rfl⟩;rw[hVC]at cvars hres hgood;rw[hHC]at hres;rw[hSC]at hres hok;have cst:=fun hg=>cst hg true;rw[hSC]at cst;clear hVC hSC hSZ;refine X5 Tryz.func15 ?_;simp only[Tryz.f15];simp only[aF,Fl.enc,Nk,Nr]at csz cst⊢;refine X2 ?_;refine X0<|X0<|(Xo [⟨true,.v (lb SZ),none⟩] ?_ ?_)
 .first|exact csz _|exact trivial|simpa[*]using csz _
 refine(Xb rfl (fun h2=>?_) fun h2=>?_)
 ·simp only[BN]at h2;have hz:SZ=false:=by simpa using h2
  rw[N8 hz]at hres;subst hres;refine X2 ?_;exact Xc
 simp only[BN]at h2;have hz:SZ=true:=by simpa using h2
 rw[N7 (by rw[hz];decide)]at hres;clear csz h2;subst hz;refine Xh [⟨true,.v (li VC),none⟩] ?_ ?_
 .first|exact cvars _|exact trivial|simpa[*]using cvars _
 refine X0<|X0<|X1 ?_;refine(Xb rfl (fun h7=>?_) fun h7=>?_)
 ·simp only[BN]at h7;rw[N7 h7]at hres;subst hres;refine X2 ?_;exact Xc
 simp only[BN]at h7;have hv0:VC=0:=by simpa using h7
 have hg:=hgood hv0;have ct:=ct hg;have cst:=cst hg;rw[N8 hv0]at hres;clear cvars hgood h7;subst hv0;refine X0<|X0<|X1 ?_;refine X3<|(Xg [1] (fun(x:Nat)=>[(4,.v (li x))]) (fun x=>[(1,.box [.c (.sl 5 (Xk vars)),.c (.sl 6 (Xn hats)),.c (.sl 10 (X7 body))])]) (fun x=>x<=hats.length/\hcs vars (hats.take x) (hats.drop x)=HC) (fun x=>hats.length - x) (0:Nat) ⟨Nq _,hHC⟩ ?_ ?_)
 .exact X4 (fun n=>n) []
 rintro k ⟨hk,hJ⟩;simp only[upS,X8,Xz]
 simp only[KN,Nat.reduceBEq,Nj,Nc,ins,Nat.reduceLT]
 clear hHC;refine X0<|X0<|X1 ?_;refine(X6 rfl (fun h13=>Xe ?_) (fun h13=>?_))
 ·simp only[BN]at h13;have hlt:k<hats.length:=by omega
  obtain⟨h,he,hd⟩:=Xt hlt;have hw1:=XD hlt (by omega);have hk1:k+1<=hats.length:=hlt;have hkl:(hats.take k).length=k:=by rw[NF];omega
  rw[hd]at hJ;simp only[hcs]at hJ;rw[<-ZP he]at hJ;have ct:=ct h (N4 he);obtain⟨nm,lo,hi,⟨o,tn,ks⟩⟩:=h;obtain⟨C,hC⟩:∃x,X67 vars (hats.take k) ⟨nm,lo,hi,.mk o tn ks⟩=x:=⟨_,rfl⟩;rw[hC]at hJ;simp only[X67]at hC;simp only[aT,Tm.enc,Nk,Nr]at ct;obtain⟨TC,hTC⟩:∃x,X15 vars true (.mk o tn ks)=x:=⟨_,rfl⟩;rw[hTC]at ct hC;clear hlt h13 hd cup hok cst hTC;refine X0<|X3<|X0<|X1 ?_;refine X0<|X0<|(Xo [⟨true,.v (lb (X06 nm)),none⟩] ?_ ?_)
  .first|exact X2G _ _|exact trivial|simpa[*]using X2G _ _
  refine(Xb rfl (fun h16=>?_) fun h16=>?_)
  ·simp only[BN]at h16;rw[N8 h16]at hC;subst hC;rw[N7 (by decide)]at hJ;subst hJ;rw[N7 (by decide)]at hres;subst hres;refine X2 ?_;exact Xc
  simp only[BN]at h16;rw[N7 (by simp[h16])]at hC;clear h16;refine X0<|X0<|X1 ?_;refine X3<|(Xg [1,4,5] (fun(x:Nat)=>[(6,.v (li x))]) (fun x=>[(1,.box [.c (.sl 5 (Xk vars)),.c (.sl 6 (Xn hats)),.c (.sl 10 (X7 body))]),(5,.box [.c (sC nm),.c (iC lo),.c (iC hi),.c (iC o),.c (iC tn),.c (.sl 3 (Xx ks))])]) (fun x=>x<=k/\∀j:Nat,j<x->∀w,hats[j]? =some w->w.name≠nm) (fun x=>k - x) (0:Nat) ⟨Nq _,fun j hj=>absurd hj (Dv j)⟩ ?_ ?_)
  .exact X4 (fun n=>n) []
  rintro j ⟨hj,hno⟩;simp only[upS,X8,Xz]
  simp only[KN,Nat.reduceBEq,Nj,Nc,ins,Nat.reduceLT]
  refine X0<|X0<|X1 ?_;refine(X6 rfl (fun h22=>Xe ?_) (fun h22=>?_))
  ·simp only[BN]at h22;have hjk:j<k:=by omega
   obtain⟨w,hw⟩:∃w,hats[j]? =some w:=⟨hats[j],by simp[show j<hats.length by omega]⟩;have hwj:=XD hjk (by omega);have hj1:j+1<=k:=hjk
   have hmemw:w∈hats.take k:=by
    have:(hats.take k)[j]? =some w:=by rw[List.getElem?_take_of_lt hjk];exact hw
    exact N4 this
   obtain⟨n2,l2,i2,⟨o2,t2,k2⟩⟩:=w;clear hjk h22;refine X0<|X3<|X0<|(N0 ?_);refine(Xb rfl (fun h24=>?_) fun h24=>?_)
   .simp only[BN]at h24
    have hany:((hats.take k).any fun w=>decide (w.name=nm))=true:=by
     rw[List.any_eq_true];exact⟨_,hmemw,by simpa using h24⟩
    rw[N8 hany]at hC;subst hC;rw[N7 (by decide)]at hJ;subst hJ;rw[N7 (by decide)]at hres;subst hres;refine X2 ?_;exact Xc
   simp only[BN]at h24;refine X1 ?_
   exact⟨j+1,⟨hj1,fun i hi u hu=>by
    rcases Nat.lt_or_eq_of_le (Nat.le_of_lt_succ hi)with h|h
    .exact hno i h u hu
    subst h;rw[hw]at hu;cases hu
    simpa using h24⟩,by omega,X4 (fun n=>n) []⟩
  simp only[BN]at h22;have hjk:j=k:=by omega
  subst hjk
  have hany:((hats.take j).any fun w=>decide (w.name=nm))=false:=by
   rw[Df];intro w hw;obtain⟨i,hi⟩:=NK.1 hw;have hij:i<j:=by have:=(N6.1 hi).1;omega
   rw[List.getElem?_take_of_lt hij]at hi;simpa using hno i hij w hi
  rw[N7 (by simp[hany])]at hC;clear hno hkl hany;refine(Xi ?_);refine X0<|X0<|(Xo [⟨true,.v (lb (QT lo hi)),none⟩] ?_ ?_)
  .first|exact X08 _ _ _|exact trivial|simpa[*]using X08 _ _ _
  refine(Xb rfl (fun h30=>?_) fun h30=>?_)
  ·simp only[BN]at h30;rw[N8 h30]at hC;subst hC;rw[N7 (by decide)]at hJ;subst hJ;rw[N7 (by decide)]at hres;subst hres;refine X2 ?_;exact Xc
  simp only[BN]at h30;rw[N7 (by simp[h30])]at hC;subst hC;clear h30;refine Xh [⟨true,.v (li TC),none⟩] ?_ ?_
  .first|exact ct _|exact trivial|simpa[*]using ct _
  refine X2 ?_;refine(Xb rfl (fun h35=>?_) fun h35=>?_)
  ·simp only[BN]at h35;rw[N7 h35]at hJ;subst hJ;rw[N7 h35]at hres;subst hres;refine X2 ?_;exact Xc
  simp only[BN]at h35;rw[N8 (by simpa using h35)]at hJ;refine X1 ?_;exact⟨j+1,⟨hk1,hJ⟩,by omega,X4 (fun n=>n) []⟩
 simp only[BN]at h13;have hkl:k=hats.length:=by omega
 rw[hkl,Nw]at hJ;simp only[hcs]at hJ;rw[N8 hJ.symm]at hres;clear hJ hkl hk h13 ct;refine(Xi ?_);refine Xh [⟨true,.v (li SC),none⟩] ?_ ?_
 .first|exact cst _|exact trivial|simpa[*]using cst _
 refine X0<|X0<|X1 ?_;refine(Xb rfl (fun h42=>?_) fun h42=>?_)
 ·simp only[BN]at h42;rw[N7 h42]at hres;subst hres;refine X2 ?_;exact Xc
 simp only[BN]at h42;have hs0:SC=0:=by simpa using h42
 rw[N8 hs0]at hres;have hok:=hok hs0;have cup:=cup hok;obtain⟨Y,hY⟩:∃x,bdL CR body ⟨0,0,0⟩=x:=⟨_,rfl⟩;rw[hY]at hres cup;obtain⟨y1,y2,y3⟩:=Y;simp only[Nf,N5]at hres;simp only at cup;clear hY cst h42 hok;refine Xh [⟨true,.tup [li y1,li y2,li y3],none⟩] ?_ ?_
 .first|exact cup _|exact trivial|simpa[*]using cup _
 refine X0<|X0<|X1 ?_;refine(Xb rfl (fun h47=>?_) fun h47=>?_)
 ·simp only[BN]at h47;rw[N8 (by omega)]at hres;subst hres;refine X2 ?_;exact Xc
 simp only[BN]at h47;rw[N7 (by omega)]at hres;subst hres;refine X2 ?_;exact Xc
theorem X4x (i:Inp):∀(l:List Vr) (a b c:Nat) (vals:List Int) (fits:Bool),(stL i l a b c vals fits).2=0->(stL i l a b c vals fits).1.length=vals.length+l.length
 | [],a,b,c,vals,fits,h=>by
   simp only[stL]at h⊢;split
   .split
    .simp
    rename_i h1 h2;rw[N8 h1,N7 h2]at h;cases h
   rename_i h1;rw[N7 h1]at h;cases h
 | v::l,a,b,c,vals,fits,h=>by
   simp only[stL]at h⊢;split
   .rename_i h1;rw[N8 h1]at h;rw[X4x i l _ _ _ _ _ h];simp;omega
   rename_i h1;rw[N7 h1]at h;cases h
def st0:Sta:=⟨[],[],0⟩
structure Obs where
 outs:List Int
 time:Int
theorem X3p {vars:List Vr} {inp:Bool} {t:Tm} (h:X15 vars inp t=0):Qu vars inp t=true:=by
 unfold X15 at h;split at h
 .assumption
 cases h
theorem X3P {vars:List Vr}:∀(l seen:List Ht),hcs vars seen l=0->∀h∈l,Qu vars true h.term=true
 |[],_,_,h,hm=>by cases hm
 | x ::l,seen,h0,h,hm=>by
   simp only[hcs]at h0;split at h0
   .rename_i hx;rcases Ng.1 hm with rfl|h1
    .unfold X67 at hx;split at hx
     .cases hx
     split at hx
     .cases hx
     split at hx
     .cases hx
     exact X3p hx
    exact X3P l _ h0 h h1
   rename_i hx;exact absurd h0 hx
theorem X2F {vars:List Vr} {nh:Nat} {d c v n:Int} {t:Tm} {a b:List St} {bs:List Int} {l:List St} {top:Bool} (h:ssC vars nh (.mk d c v n t a b bs::l) top=0):
  shB vars nh d v n t a.length b.length bs (top&&l.isEmpty)=true/\X3o d c n bs=true/\X15 vars false t=0/\ssC vars nh a false=0/\ssC vars nh b false=0/\ssC vars nh l top=0:=by
 simp only[ssC]at h;split at h
 .rename_i h0;split at h
  .rename_i ha;split at h
   .rename_i hb;unfold stC at h0;split at h0
    .cases h0
    rename_i hs;split at h0
    .cases h0
    rename_i hn;exact⟨by simpa using hs,by simpa using hn,h0,ha,hb,h⟩
   rename_i hb;exact absurd h hb
  rename_i ha;exact absurd h ha
 rename_i h0;exact absurd h h0
theorem X7i {vars:List Vr} {nh:Nat} {d v n:Int} {t:Tm} {la lb_:Nat} {bs:List Int} {last:Bool} (h:shB vars nh d v n t la lb_ bs last=true) (hd:d=0\/d=5):W3 vars v=true/\(d=5->0<=n/\n<nh):=by
 unfold shB at h;rcases hd with rfl|rfl
 .simp only[Nj,N3]at h;exact⟨h.1.1.2,fun h=>by cases h⟩
 simp only[show ¬(5:Int)=0 by decide,show ¬(5:Int)=1 by decide,show ¬(5:Int)=2 by decide,show ¬(5:Int)=3 by decide,show ¬(5:Int)=4 by decide,Nj,Nc,N3,N5]at h;exact⟨h.1.1.1.1.2,fun _=>⟨h.1.1.1.2,h.1.1.2⟩⟩
theorem numB_in {d c n:Int} {bs:List Int} (h:X3o d c n bs=true):0<=c/\(d=4->0<=n/\n<=4096):=by
 unfold X3o at h;simp only[N3,Nu,NR,NA,Nh]at h;refine⟨by omega,fun h4=>?_⟩;rcases h.1.2 with h1|h1
 .exact absurd h4 h1
 omega
theorem X8i {vars:List Vr} {nh:Nat}:∀(l:List St) (top:Bool),ssC vars nh l top=0->Z9 l=true->wfL vars nh l=true
 |[],_,_,_=>by simp[wfL]
 | .mk d c v n t a b bs::l,top,h,hb=>by
   obtain⟨hs,hn,ht,ha,hb',hl⟩:=X2F h;simp only[Z9,X4v,N3,N5]at hb;have ia:=X8i a false ha hb.1.2.1;have ib:=X8i b false hb' hb.1.2.2;have il:=X8i l top hl hb.2;have hn4:=(numB_in hn).2;simp only[wfL,wfS,ia,ib,il,X3p ht,Bool.and_true,NQ,N3,Nf,N5];refine⟨?_,?_,?_,hb.1.1⟩
   .by_cases hd:d=0\/d=5
    .exact .inr (X7i hs hd).1
    exact .inl ⟨fun h=>hd (.inl h),fun h=>hd (.inr h)⟩
   .by_cases hd:d=5
    .exact .inr ((X7i hs (.inr hd)).2 hd)
    exact .inl hd
   by_cases hd:d=4
   .exact .inr (hn4 hd).2
   exact .inl hd
theorem X8C:∀(l:List St) (p:B3),okL l=true->0<=p.o->mn (bdL CR l p).o 9=mn (p.o+(oUL l:Int)) 9
 |[],p,_,_=>by simp[bdL,oUL]
 | .mk d c v n t a b bs::l,p,h,hp=>by
   simp only[okL,okS,N3,Nf,N5]at h;have ha:=X8C a ⟨0,0,0⟩ h.1.2.2.1 (NP 0);have hb:=X8C b ⟨0,0,0⟩ h.1.2.2.2 (NP 0);have na:=ZM (ZK X36 a _ h.1.2.2.1 (Z0 X36));have nb:=ZM (ZK X36 b _ h.1.2.2.2 (Z0 X36));simp only[bdL,bdS,oUL,oUS];generalize bdL CR a ⟨0,0,0⟩=A at*;generalize bdL CR b ⟨0,0,0⟩=B at*;simp only[DJ]at ha hb
   have key:0<=(bd1 d c n A B).o/\mn (bd1 d c n A B).o 9=mn (((if d=4 then n.toNat*oUL a else if d=3 then max (oUL a) (oUL b)else if d=1 then 1 else 0:Nat)):Int) 9:=by
    unfold nn3 at na nb;unfold bd1;by_cases h4:d=4
    .have hn:0<=n:=by omega
     rw[N8 h4,N8 h4];refine⟨D6 hn na.2.1,?_⟩;have e:=X1y (C:=9) hn na.2.1 (Int.natCast_nonneg (oUL a)) (NP 0) (NP 0) ha;simp only[DJ]at e;rw[e,Int.natCast_mul,Int.toNat_of_nonneg hn]
    rw[N7 h4,N7 h4];by_cases h3:d=3
    .rw[N8 h3,N8 h3];simp only[mx,mn]at ha hb⊢;have e:((max (oUL a) (oUL b):Nat):Int)=max (oUL a:Int) (oUL b:Int):=by omega
     rw[e];refine⟨by split<;>omega,?_⟩
     (repeat' split at ha)<;>(repeat' split at hb)<;>(repeat' split)<;>omega
    rw[N7 h3,N7 h3];split<;>exact⟨by simp only;omega,rfl⟩
   obtain⟨k0,k1⟩:=key;generalize(bd1 d c n A B)=X at*;generalize(if d=4 then n.toNat*oUL a else if d=3 then max (oUL a) (oUL b)else if d=1 then 1 else 0:Nat)=K at*
   have e:0<=(Qe CR p X).o/\mn (Qe CR p X).o 9=mn (p.o+K) 9:=by
    simp only[Qe,CR];simp only[mn]at k1⊢;refine⟨by split<;>omega,?_⟩
    (repeat' split at k1)<;>(repeat' split)<;>omega
   have il:=X8C l (Qe CR p X) h.2 e.1;rw[il];have e2:=e.2;generalize(Qe CR p X).o=Y at*;simp only[mn]at e2⊢;rw[Int.natCast_add]
   (repeat' split at e2)<;>(repeat' split)<;>omega
theorem Q6 {f:Fl} (h:XR f=0):X1G f=true/\ZU f.vars=0/\hcs f.vars [] f.hats=0/\ssC f.vars f.hats.length f.body true=0/\X6X f.body=false:=by
 unfold XR at h;split at h
 .cases h
 rename_i hs;split at h
 .rename_i hv;split at h
  .rename_i hh;split at h
   .rename_i hb;split at h
    .cases h
    rename_i ho;exact⟨by simpa using hs,hv,hh,hb,by simpa using ho⟩
   rename_i hb;exact absurd h hb
  rename_i hh;exact absurd h hh
 rename_i hv;exact absurd h hv
theorem X73 {l:List St} (h:X6X l=false):(bdL CR l ⟨0,0,0⟩).s<=4096/\(bdL CR l ⟨0,0,0⟩).o<=8/\(bdL CR l ⟨0,0,0⟩).t<=67108864:=by
 unfold X6X at h;simp only[NR,Nh,Int.not_lt]at h;exact⟨h.1,h.2.1,h.2.2⟩
theorem X3z {f:Fl} (hb:Z9 f.body=true) (h:XR f=0):wfL f.vars f.hats.length f.body=true/\oUL f.body<=2000000/\∀h∈f.hats,Qu f.vars true h.term=true:=by
 obtain⟨_,_,hh,hs,ho⟩:=Q6 h;have h8:=(X73 ho).2.1;have hc:=X8C f.body ⟨0,0,0⟩ (X0k _ _ hs) (NP 0);refine⟨X8i _ _ hs hb,?_,X3P _ _ hh⟩;simp only[DJ,mn]at hc
 (repeat' split at hc)<;>omega
attribute [simp] Ob.flat
def waitL (n:Int):List St:=if n=0 then [] else [.mk 2 n 0 0 (.mk 0 0 []) [] [] []]
def posI (n:Int):Int:=if 0<n then n else 0
def balS:St->St
 | .mk d c v n t a b bs=>
   if d=3 then .mk d c v n t (a++waitL (posI ((spL b (0,0)).1 - (spL a (0,0)).1))) (b++waitL (posI ((spL a (0,0)).1 - (spL b (0,0)).1))) bs
   else if d=4/\t.op≠0 then .mk d c v n (.mk 0 1 []) [.mk 3 0 0 0 t a (waitL (spL a (0,0)).1) []] b bs
   else .mk d c v n t a b bs
def evL:List St->List St
 |[]=>[]
 | .mk d c v n t a b bs::l=>balS (.mk d c v n t (evL a) (evL b) bs)::evL l
end Go.Proofs.YtdajceakaakdoaaGreat
