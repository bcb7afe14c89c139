/- Contracts of functions and plain facts about what they compute. Conditions: as each theorem states. -/
import Derived.Test.YtdajceakaakdoaaGreatJ12
import Derived.Test.YtdajceakaakdoaaGreatJ10
import Derived.Test.YtdajceakaakdoaaGreatJ11
import Derived.Test.YtdajceakaakdoaaGreatJ1
import Derived.Test.YtdajceakaakdoaaGreatJ7
import Derived.Test.YtdajceakaakdoaaGreatJ5
import Derived.Test.YtdajceakaakdoaaGreatH5
set_option linter.unusedSimpArgs false
set_option linter.unusedVariables false
set_option linter.unnecessarySimpa false
set_option maxRecDepth 100000
set_option maxHeartbeats 2000000
namespace Go.Proofs.YtdajceakaakdoaaGreat
open Go Go.Hl
open Tryz(prog)
def X00 (a b:List Int) (Z:List Bool) (n:Nat):Nat->List Int
 |0=>a
 |y+1=>if(Z[n+y]?).getD true=true then X00 a b Z n y else(X00 a b Z n y).set y ((b[y]?).getD 0)
theorem X0u (a b:List Int) (Z:List Bool) (n:Nat):∀y,(X00 a b Z n y).length=a.length
 |0=>rfl
 | y+1=>by
   rw[X00];split
   .exact X0u a b Z n y
   rw[DI,X0u a b Z n y]
theorem X8w (a b:List Int) (Z:List Bool) (n:Nat):∀y i,y<=i->(X00 a b Z n y)[i]? =a[i]?
 |0,_,_=>rfl
 | y+1,i,h=>by
   rw[X00];split
   .exact X8w a b Z n y i (by omega)
   rw[NY,N7 (by omega),X8w a b Z n y i (by omega)]
theorem X40 (a b:List Int) (Z:List Bool) (n:Nat):∀y i,i<y->i<a.length->(X00 a b Z n y)[i]? =if(Z[n+i]?).getD true=true then a[i]? else some ((b[i]?).getD 0)
 |0,_,h,_=>absurd h (Dv _)
 | y +1,i,h,hl=>by
   rw[X00];by_cases e:i=y
   .subst e;split
    .exact X8w a b Z n i i (NI _)
    rw[NY,N8 rfl,N8 (by rw[X0u];exact hl)]
   split
   .exact X40 a b Z n y i (by omega) hl
   rw[NY,N7 (fun h=>e h.symm),X40 a b Z n y i (by omega) hl]
theorem X6a (f:Fl) (a b:List Int) (Z:List Bool) (n:Nat) (ha:a.length=f.vars.length) (hb:b.length=f.vars.length) (hZ:n+f.vars.length<=Z.length) (hV:f.vars.length<=100000) (hn:n<=1000000) (d:Nat):
  Con prog 30 false [aF f,lI a,lI b,lBl Z,li n] (.v (lI (X00 a b Z n f.vars.length))) none d:=by
 obtain⟨vars,hats,body⟩:=f;simp only at ha hb hZ hV;simp only[aF,Fl.enc,Nk,Nr];have ccl:=X3r a (by omega);refine X5 Tryz.func30 ?_;simp only[Tryz.f30];refine X2 ?_;refine Xh [⟨false,.v (.one (.own 14)),some (.row 3 1 (X9 a))⟩] ?_ ?_
 .first|exact ccl _ (by decide)|exact trivial|simpa[*]using ccl _ (by decide)
 refine X0<|X0<|X1 ?_;refine X3<|(Xg [2,3,4,11,17] (fun(y:Nat)=>[(18,.v (li y)),(11,.v (.one (.own 14)))]) (fun y=>[(14,.row 3 1 (X9 (X00 a b Z n y)))]) (fun y=>y<=vars.length) (fun y=>vars.length - y) (0:Nat) (Nq _) ?_ ?_)
 .exact Xw (fun n=>n) [] rfl (by simp[*,upS,X8]) (by simp[*,upS,X00]) (by simp[upS])
 rintro y hy;simp only[upS,X8,Xz]
 simp only[KN,Nat.reduceBEq,Nj,Nc,ins,Nat.reduceLT]
 refine X2 ?_;refine X0<|(X6 rfl (fun h5=>Xe ?_) (fun h5=>?_))
 ·simp only[BN]at h5;have hlt:y<vars.length:=by omega
  have hw1:=XD hlt (by omega);obtain⟨z,hz,hzd⟩:=Xt (show n+y<Z.length by omega);have hze:=X2I hz;obtain⟨v,hv,hvd⟩:=Xt (show y<b.length by omega);obtain⟨u,hu,hud⟩:=Xt (show y<(X00 a b Z n y).length by rw[X0u];omega);have hyl:y+1<=(X00 a b Z n y).length:=by rw[X0u];omega
  have hst:=Xah (X00 a b Z n y) y v
  have hnx:X00 a b Z n (y+1)=if z=true then X00 a b Z n y else(X00 a b Z n y).set y v:=by
   rw[X00,hz,hv];rfl
  have hw4:IntKind.i64.wrap ((n:Int)+y)=((n+y:Nat):Int):=by rw[Xa (by omega) (by omega)];omega
  obtain⟨m,hm⟩:∃m,n+y=m:=⟨_,rfl⟩;rw[hm]at hw4 hze;have hlt2:y+1<=vars.length:=hlt;clear h5 hlt hz hzd hvd hud hm;refine X0<|X3<|X0<|X1 ?_;refine X2 ?_;refine(Xb rfl (fun h8=>?_) fun h8=>?_)
  ·simp only[BN]at h8;have hzf:z=false:=by simpa using h8
   subst hzf;simp only[NB,Nc]at hnx;refine X1 ?_;refine X1 ?_;exact⟨y+1,hlt2,by omega,X4 (fun n=>n) []⟩
  simp only[BN]at h8;have hzt:z=true:=by simpa using h8
  subst hzt;simp only[Nj]at hnx;refine X1 ?_;exact⟨y+1,hlt2,by omega,X4 (fun n=>n) []⟩
 simp only[BN]at h5;obtain rfl:y=vars.length:=by omega
 refine(Xi ?_);refine XC (Qy 14 rfl) ?_;refine X2 ?_;exact Xc
def Inp.enc (i:Inp):List CD:=[.sl 1 (X9 i.s),.sl 1 (X9 i.p),.sl 1 (X9 i.r)]
def X2d (l:List Inp):List (List CD):=l.map Inp.enc
@[simp] theorem encNms_app (a b:List Inp):X2d (a++b)=X2d a++X2d b:=by simp[X2d]
@[simp] theorem encNms_len (l:List Inp):(X2d l).length=l.length:=by simp[X2d]
@[simp] theorem get_encNm (l:List Inp) (i:Nat):(X2d l)[i]? =l[i]?.map Inp.enc:=by simp[X2d]
theorem Xee {vars:List Vr} (h:ZU vars=0):∀k,1<=k->k<=3->spc vars k<=4096:=by
 intro k h1 h2;unfold ZU at h;split at h
 .split at h
  .cases h
  rename_i hb;simp only[List.any_cons,List.any_nil,Bool.or_false,Nf,X3k,N5,not_or]at hb;have:k=1\/k=2\/k=3:=by omega
  rcases this with rfl|rfl|rfl<;>omega
 rename_i h0;exact absurd h h0
def fitB (f:Fl) (a b c:Int):Bool:=X6Q f 10 80&&(decide (XR f=0)&&(((decide (spc f.vars 1<=a)&&decide (spc f.vars 2<=b))&&decide (spc f.vars 3<=c))&&decide ((bdL CR f.body ⟨0,0,0⟩).s<=400)))
theorem X7Z (f:Fl) (a b c:Int) (d:Nat):Con prog 25 true [aF f,li a,li b,li c] (.v (lb (fitB f a b c))) none d:=by
 have cf:=few_con f 10 80 (by decide) (by decide)
 have hin:X6Q f 10 80=true->f.vars.length<=1000000/\f.hats.length<=1000000/\Xl f.body+QD f.hats<=80/\Z9 f.body=true:=by
  intro h;have:=Xcr (nodes:=80) (by decide) h;exact⟨by omega,by omega,by omega,this.2.2.2⟩
 have hcc:X6Q f 10 80=true->∀d,Con prog 15 true [aF f] (.v (li (XR f))) none d:=fun h=>Xbi f (hin h).1 (hin h).2.1 (by have:=(hin h).2.2.1;omega) (hin h).2.2.2
 have hsp:X6Q f 10 80=true->XR f=0->∀k,1<=k->k<=3->∀d,Con prog 68 true [lV f.vars,li k] (.tup [li (spc f.vars k),li 0]) none d:=fun h h0 k k1 k2=>
  X9B f.vars k ⟨k1,k2⟩ (ZE (Q6 h0).2.1) (hin h).1 (Xee (Q6 h0).2.1 k k1 k2)
 have hbd:X6Q f 10 80=true->XR f=0->∀d,Con prog 54 true [lS f.body] (.tup [li (bdL CR f.body ⟨0,0,0⟩).s,li (bdL CR f.body ⟨0,0,0⟩).o,li (bdL CR f.body ⟨0,0,0⟩).t]) none d:=fun h h0=>
  X5a f.body (by have:=(hin h).2.2.1;omega) (X0k _ _ (Q6 h0).2.2.2.1)
 obtain⟨res,hres⟩:∃r,fitB f a b c=r:=⟨_,rfl⟩;rw[hres];unfold fitB at hres;obtain⟨vars,hats,body⟩:=f;simp only at hsp hbd hres;obtain⟨FW,hFW⟩:∃x,X6Q ⟨vars,hats,body⟩ 10 80=x:=⟨_,rfl⟩;obtain⟨K,hK⟩:∃x,XR ⟨vars,hats,body⟩=x:=⟨_,rfl⟩;obtain⟨S1,h1⟩:∃x,spc vars 1=x:=⟨_,rfl⟩;obtain⟨S2,h2⟩:∃x,spc vars 2=x:=⟨_,rfl⟩;obtain⟨S3,h3⟩:∃x,spc vars 3=x:=⟨_,rfl⟩;have q1:=fun h h0=>hsp h h0 1 (by decide) (by decide);have q2:=fun h h0=>hsp h h0 2 (by decide) (by decide);have q3:=fun h h0=>hsp h h0 3 (by decide) (by decide);obtain⟨⟨bs,bo,bt⟩,hB⟩:∃x,bdL CR body ⟨0,0,0⟩=x:=⟨_,rfl⟩;rw[hFW]at cf hcc q1 q2 q3 hbd hres;rw[hK]at hcc q1 q2 q3 hbd hres;rw[hB]at hbd hres;rw[h1]at q1 hres;rw[h2]at q2 hres;rw[h3]at q3 hres;simp only at hbd hres;clear hFW hK h1 h2 h3 hB hsp hin;refine X5 Tryz.func25 ?_;simp only[Tryz.f25];simp only[aF,Fl.enc,Nk,Nr]at cf hcc⊢;refine X2 ?_;rcases FW with _|_
 .clear hcc q1 q2 q3 hbd;subst hres;refine X0<|X0<|(X2c [some ⟨true,.v (lb false),none⟩,none] (by simp[*];first|exact⟨rfl,Iff.rfl⟩|exact⟨rfl,trivial⟩|rfl) ?_ ?_)
  .first|exact trivial|exact cf _|simpa using cf _
  refine(Xb rfl (fun h2=>?_) fun h2=>?_)
  ·simp only at h2;refine X2 ?_;exact Xc
  exact absurd h2 (by simp)
 have hcc:=hcc rfl;simp only[NQ]at hres;refine X0<|X0<|(Xo [⟨true,.v (lb true),none⟩,⟨true,.v (li K),none⟩] ?_ ?_)
 .first|exact⟨cf _,hcc _⟩|exact trivial|(repeat' first|exact trivial|exact cf _|exact hcc _|apply And.intro)
 refine(Xb rfl (fun h2=>?_) fun h2=>?_)
 ·simp only[BN]at h2;have hk:¬K=0:=by simpa using h2
  rw[decide_eq_false hk,Dc]at hres;subst hres;clear q1 q2 q3 hbd;refine X2 ?_;exact Xc
 simp only[BN]at h2;have hk:K=0:=by simpa using h2
 have q1:=q1 rfl hk;have q2:=q2 rfl hk;have q3:=q3 rfl hk;have hbd:=hbd rfl hk;rw[D7 hk,NQ]at hres;clear cf hcc h2 hk;refine Xh [⟨true,.tup [li S1,li 0],none⟩] ?_ ?_
 .first|exact q1 _|exact trivial|simpa[*]using q1 _
 refine Xh [⟨true,.tup [li S2,li 0],none⟩] ?_ ?_
 .first|exact q2 _|exact trivial|simpa[*]using q2 _
 refine Xh [⟨true,.tup [li S3,li 0],none⟩] ?_ ?_
 .first|exact q3 _|exact trivial|simpa[*]using q3 _
 refine Xh [⟨true,.tup [li bs,li bo,li bt],none⟩] ?_ ?_
 .first|exact hbd _|exact trivial|simpa[*]using hbd _
 refine X2 ?_;subst hres;exact Xc
structure Fit (f:Fl) (a b c:Int):Prop where
 hv:f.vars.length<=10
 hh:f.hats.length<=10
 hn:Xl f.body+QD f.hats<=80
 hb:Z9 f.body=true
 code:XR f=0
 good:X0j f.vars
 s1:spc f.vars 1<=a
 s2:spc f.vars 2<=b
 s3:spc f.vars 3<=c
theorem fit_in {f:Fl} {a b c:Int} (h:fitB f a b c=true):Fit f a b c:=by
 unfold fitB at h;simp only[N3,N5]at h;have hf:=Xcr (nodes:=80) (by decide) h.1;exact⟨by omega,by omega,by omega,hf.2.2.2,h.2.1,ZE (Q6 h.2.1).2.1,h.2.2.1.1.1,h.2.2.1.1.2,h.2.2.1.2⟩
theorem Xaq (f:Fl) (hv:f.vars.length<=1000000) (hh:f.hats.length<=1000000) (hn:Xl f.body+QD f.hats<=900000000) (hb:Z9 f.body=true) (hc:XR f=0) (d:Nat):
  Con prog 191 true [aF f] (.tup [li (bdL CP f.body ⟨0,0,0⟩).s,li (bdL CP f.body ⟨0,0,0⟩).o,li (bdL CP f.body ⟨0,0,0⟩).t,li 0]) none d:=by
 have cc:=X1u f hv hh hn hb;have cu:=X7v f.body (by omega) (X0k _ _ (Q6 hc).2.2.2.1);rw[hc]at cc;obtain⟨vars,hats,body⟩:=f;simp only at cu⊢;obtain⟨⟨bs,bo,bt⟩,hB⟩:∃x,bdL CP body ⟨0,0,0⟩=x:=⟨_,rfl⟩;rw[hB]at cu⊢;simp only[aB]at cu⊢;clear hB hc hn hb hv hh;refine X5 Tryz.func191 ?_;simp only[Tryz.f191];simp only[aF,Fl.enc,Nk,Nr]at cc⊢;refine X2 ?_;refine X0<|X0<|(Xo [⟨true,.v (li 0),none⟩] ?_ ?_)
 .first|exact cc _|exact trivial|simpa[*]using cc _
 refine X2 ?_;refine(Xb rfl (fun h3=>?_) fun h3=>?_)
 .exact absurd h3 (by simp)
 simp only at h3;refine Xh [⟨true,.v (.agg [.c (iC bs),.c (iC bo),.c (iC bt)]),none⟩] ?_ ?_
 .first|exact cu _|exact trivial|simpa[*]using cu _
 refine X0<|(N0 ?_);exact Xc
theorem Xe7 (t:Tm):t.nodes<=1000000->∀d:Nat,Con prog 148 false [aT t] (.v (aT t)) none d:=by
 revert t
 refine Tm.ind ?_;intro o n ks ih hn d;simp only[Tm.nodes]at hn;have hlen:=WN ks;refine X5 Tryz.func148 ?_;simp only[Tryz.f148];simp only[aT,Tm.enc,Nk,Nr];refine X2 ?_;refine X2 ?_;refine X0<|X0<|X1 ?_;refine X3<|(Xg [2,3,12,13] (fun(x:Nat)=>[(14,.v (li x))]) (fun x=>[(2,.box [.c (iC 0),.c (iC 0),.c (.lit XX)]),(3,.box [.c (iC o),.c (iC n),.own 900001]),(900001,.row 68 3 (Xx (ks.take x)))]) (fun x=>x<=ks.length) (fun x=>ks.length - x) (0:Nat) (Nq _) ?_ ?_)
 .exact X4 (fun n=>n) [900001]
 rintro k hk;simp only[upS,X8,Xz]
 simp only[KN,Nat.reduceBEq,Nj,Nc,ins,Nat.reduceLT]
 refine X2 ?_;refine X0<|(X6 rfl (fun h5=>Xe ?_) (fun h5=>?_))
 ·simp only[BN]at h5;have hlt:k<ks.length:=by omega
  obtain⟨t,he,hd⟩:=Xt hlt;have hw1:=XD hlt (by omega);have hk1:k+1<=ks.length:=hlt;have hmem:t∈ks:=N4 he;have hnm:=XaV hmem;have ct:=ih t hmem (by omega);have htl:(ks.take k).length=k:=by rw[NF];omega
  have hroom:W5 (k+1) 40:=Qc (by omega) (by omega)
  have hsn:Xx (ks.take (k+1))=Xx (ks.take k)++[t.enc]:=by
   rw[X1k,X1k,List.take_add_one,he,Option.toList_some,DA];rfl
  have he':=Wu he;obtain⟨so,stn,sks⟩:=t;simp only[Tm.enc]at he' hsn;simp only[aT,Tm.enc,Nk,Nr]at ct;clear hlt h5 ih hmem hnm he hd;refine X0<|X3<|X0<|X1 ?_;refine(XdD [(18,3),(24,3)] [⟨false,.v (.agg [.c (iC so),.c (iC stn),.c (.sl 3 (Xx sks))]),none⟩] (by kernel_rfl) (by kernel_rfl) (by rfl) (by simp[evcH,hokB,QQ, *];first|exact⟨rfl,Iff.rfl⟩|exact⟨rfl,trivial⟩|rfl) ?_ ?_)
  .first|exact ct _|exact trivial|simpa[*]using ct _
  refine X1 ?_;exact⟨k+1,hk1,by omega,X4 (fun n=>if n=900001 then 23 else n) []⟩
 simp only[BN]at h5;have hkl:k=ks.length:=by omega
 subst hkl;simp only[List.take_length];refine(Xi ?_);refine XC (Qy 900001 rfl) ?_;refine X2 ?_;exact XZ ⟨.inr rfl,_,le_refl _,⟨⟨_,by simp;rfl,by simp[XG]⟩,by simp,fun h=>by cases h⟩⟩
theorem X9U (s:St) (hn:s.nodes<=1000000) (hb:X4v s=true) (ca:∀d:Nat,Con prog 149 false [lS s.then_] (.v (lS s.then_)) none d) (cb:∀d:Nat,Con prog 149 false [lS s.else_] (.v (lS s.else_)) none d) (d:Nat):
  Con prog 87 false [aS s] (.v (aS s)) none d:=by
 have ct:=Xe7 s.term;have cc:=Xc2 s.bounds;obtain⟨sd,sc,sv,sn,⟨so,stn,sks⟩,sa,sb,sbs⟩:=s;simp only[St.then_,St.else_,St.term,St.bounds]at ca cb ct cc;simp only[X4v,N3,N5]at hb;have cc:=cc hb.1;simp only[St.nodes]at hn;have ct:=ct (by omega);simp only[aT,Tm.enc,Nk,Nr]at ct;clear hn hb;refine X5 Tryz.func87 ?_;simp only[Tryz.f87];simp only[aS,St.enc,Tm.enc,Nk,Nr,List.cons_append,List.nil_append];refine X2 ?_;refine X0<|(XU [⟨false,.v (.agg [.c (iC so),.c (iC stn),.c (.sl 3 (Xx sks))]),none⟩,⟨false,.v (lS sa),none⟩,⟨false,.v (lS sb),none⟩,⟨false,.v (lI sbs),none⟩] (by kernel_rfl) (by kernel_rfl) (by rfl) (by simp[*,XL,QH,Q1];first|exact⟨rfl,Iff.rfl⟩|exact⟨rfl,trivial⟩|rfl) ?_ ?_)
 .first|exact⟨ct _,ca _,cb _,cc _⟩|exact trivial|(repeat' first|exact trivial|exact ct _|exact ca _|exact cb _|exact cc _|apply And.intro)
 exact XZ ⟨.inr rfl,_,le_refl _,⟨⟨_,by simp;rfl,by simp[XG]⟩,by simp,fun h=>by cases h⟩⟩
theorem X70 (l:List St):Xl l<=1000000->Z9 l=true->∀d:Nat,Con prog 149 false [lS l] (.v (lS l)) none d:=by
 revert l
 apply St.lists;intro l ih hn hbn d;have hlen:=Qs l;refine X5 Tryz.func149 ?_;simp only[Tryz.f149];refine X2 ?_;refine X2 ?_;refine X0<|X0<|X1 ?_;refine X3<|(Xg [6,7] (fun(x:Nat)=>[(3,.v (.one (.own 1003))),(8,.v (li x))]) (fun x=>[(1003,.row 70 10 (X7 (l.take x)))]) (fun x=>x<=l.length) (fun x=>l.length - x) (0:Nat) (Nq _) ?_ ?_)
 .exact X4 (fun n=>n) [1003]
 rintro k hk;simp only[upS,X8,Xz]
 simp only[KN,Nat.reduceBEq,Nj,Nc,ins,Nat.reduceLT]
 refine X2 ?_;refine X0<|(X6 rfl (fun h5=>Xe ?_) (fun h5=>?_))
 ·simp only[BN]at h5;have hlt:k<l.length:=by omega
  obtain⟨s,he,hd⟩:=Xt hlt;have hw1:=XD hlt (by omega);have hk1:k+1<=l.length:=hlt;have hmem:s∈l:=N4 he;have hnm:=QJ hmem;have hbm:=X6D hbn hmem
  have hsz:s.nodes<=1000000:=by
   obtain⟨sd,sc,sv,sn,t,sa,sb,sbs⟩:=s;simp only[St.then_,St.else_,St.term,St.nodes]at*;omega
  have hbab:Z9 s.then_=true/\Z9 s.else_=true:=by
   obtain⟨sd,sc,sv,sn,t,sa,sb,sbs⟩:=s;simp only[X4v,N3,N5]at hbm;exact hbm.2
  have cs:=X9U s hsz hbm ((ih s hmem).1 (by omega) hbab.1) ((ih s hmem).2 (by omega) hbab.2);have htl:(l.take k).length=k:=by rw[NF];omega
  have hroom:W5 (k+1) 144:=Qc (by omega) (by omega)
  have hsn:X7 (l.take (k+1))=X7 (l.take k)++[s.enc]:=by
   rw[WU,WU,List.take_add_one,he,Option.toList_some,DA];rfl
  have he':=Q4 he;obtain⟨sd,sc,sv,sn,⟨so,stn,sks⟩,sa,sb,sbs⟩:=s;simp only[St.enc,Tm.enc,List.cons_append,List.nil_append]at he' hsn;simp only[aS,St.enc,Tm.enc,Nk,Nr,List.cons_append,List.nil_append]at cs;clear hlt h5 ih hmem hnm he hd hbm hsz hbab;refine X0<|X3<|X0<|X1 ?_;refine(Xo [⟨false,.v (aS (.mk sd sc sv sn (.mk so stn sks) sa sb sbs)),none⟩] ?_ ?_)
  .first|exact cs _|exact trivial|simpa[*]using cs _
  refine X1 ?_;exact⟨k+1,hk1,by omega,X4 (fun n=>if n=1003 then 16 else n) []⟩
 simp only[BN]at h5;have hkl:k=l.length:=by omega
 subst hkl;simp only[List.take_length];refine(Xi ?_);refine X2 ?_;exact XZ ⟨.inr rfl,_,Qy 1003 rfl,⟨⟨_,by simp;rfl,by simp[XG]⟩,by simp,fun h=>by cases h⟩⟩
theorem XdK (s:St) (hn:s.nodes<=1000000) (hb:X4v s=true) (d:Nat):Con prog 87 false [aS s] (.v (aS s)) none d:=by
 have hx:Xl s.then_<=1000000/\Xl s.else_<=1000000/\Z9 s.then_=true/\Z9 s.else_=true:=by
  obtain⟨sd,sc,sv,sn,t,sa,sb,sbs⟩:=s;simp only[St.then_,St.else_,St.nodes,X4v,N3,N5]at*;exact⟨by omega,by omega,hb.2⟩
 exact X9U s hn hb (X70 _ hx.1 hx.2.2.1) (X70 _ hx.2.1 hx.2.2.2) d
mutual
def woS:St->Int->St
 | .mk d c v n t a b bs,i=>.mk d c v n t (woL a i) (woL b (i - szL a)) bs
def woL:List St->Int->List St
 |[],_=>[]
 |s::l,i=>(if i=0 then [] else [woS s (i - 1)])++woL l (i - szS s)
end
mutual
theorem woS_id:∀(s:St) (i:Int),i<0\/(szS s:Int) - 1<=i->woS s i=s
 | .mk d c v n t a b bs,i,h=>by
   simp only[szS]at h;simp only[woS];rw[X0U a i (by omega),X0U b _ (by omega)]
theorem X0U:∀(l:List St) (i:Int),i<0\/(szL l:Int)<=i->woL l i=l
 |[],i,h=>rfl
 | s::l,i,h=>by
   have hp:=X8s s;simp only[szL]at h;simp only[woL];rw[N7 (by omega),woS_id s _ (by omega),X0U l _ (by omega)];rfl
end
mutual
def fndS:St->Int->Option St
 | .mk d c v n t a b bs,i=>if i=0 then some (.mk d c v n t a b bs)else
   match Zr a (i - 1)with
   |some x=>some x
   |none=>Zr b (i - 1 - szL a)
def Zr:List St->Int->Option St
 |[],_=>none
 | s::l,i=>match fndS s i with
   |some x=>some x
   |none=>Zr l (i - szS s)
end
theorem X28 (i:Int):Zr [] i=none:=by simp only[Zr]
theorem X0i (d c v n:Int) (t:Tm) (a b:List St) (bs:List Int) (l:List St) (i:Int):Zr (.mk d c v n t a b bs::l) i=
  if i=0 then some (.mk d c v n t a b bs)else
  match Zr a (i - 1)with
  |some x=>some x
  | none=>match Zr b (i - 1 - szL a)with
    |some x=>some x
    |none=>Zr l (i - 1 - szL a - szL b):=by
 have h:i - ((1+szL a+szL b:Nat):Int)=i - 1 - szL a - szL b:=by omega
 simp only[Zr,fndS,szS];rw[h];by_cases h0:i=0
 .simp only[h0,Nj]
 simp only[h0,Nc];cases Zr a (i - 1)with
 |some x=>rfl
 |none=>rfl
end Go.Proofs.YtdajceakaakdoaaGreat
namespace Go.Hl
open Go Go.RowKit
theorem pin_mk {objs:List (Nat×Ob)} (h:(objs.all fun p=>match p.2 with| .box _=>decide (1000000<=p.1)|_=>true)=true) (n:Nat) (cs:List CV) (hl:lkp objs n=some (.box cs)):1000000<=n:=by
 rw[Nm]at h;have:=h _ (XA hl);simpa using this
theorem HT_endS {P:Program} {rs:List ResultVar} {s:HS} {r:RV} {objs':List (Nat×Ob)} {ts:List TV} (hr:X3h P s rs=some ts) (he:r=XG ts) (ho:∀p∈objs',lkp s.objs p.1=some p.2):
  ∃s2,le s s2/\(∃ts,X3h P s2 rs=some ts/\r=XG ts)/\∀n o,lkp objs' n=some o->lkp s2.objs n=some o:=
 ⟨s,le_refl s,⟨ts,hr,he⟩,fun n o h=>ho _ (XA h)⟩
attribute [simp] Qa okTV X4r Qz Wl rbB
end Go.Hl
