/- Contracts of functions and plain facts about what they compute. Conditions: as each theorem states. -/
import Derived.Test.YtdccocolnaklkaaGreatDoorK6
import Derived.Test.YtdccocolnaklkaaGreatDoorK2
set_option linter.unusedSimpArgs false
set_option linter.unusedVariables false
set_option linter.unnecessarySimpa false
set_option maxRecDepth 100000
set_option maxHeartbeats 2000000
namespace Go.Proofs.YtdccocolnaklkaaGreatDoor
open Go Go.Hl
open Tryz(prog)
def ofK (vars:List Vr) (kind:Int):List Vr:=vars.filter fun v=>decide (v.kind=kind)
def pdL:List Vr->Int
 |[]=>1
 |v::l=>sz v*pdL l
def uL:List Vr->Int->List Int
 |[],_=>[]
 |v::l,r=>(v.low+r/pdL l%sz v)::uL l r
theorem X6J:∀l:List Vr,QO l->1<=pdL l
 |[],_=>by simp[pdL]
 | v::l,h=>by
   have h1:=X6J l fun w hw=>h w (Nx _ hw);have h2:=(X4U h (List.mem_cons_self:v∈v::l)).1;simp only[pdL];have:=Int.mul_le_mul_of_nonneg_right h2 (show 0<=pdL l by omega);omega
theorem prV_pd:∀(l:List Vr) (n:Int),QO l->1<=n->prV l n<=4096->prV l n=n*pdL l
 |[],n,_,_,_=>by simp[prV,pdL]
 | v::l,n,h,hn,h1=>by
   simp only[prV]at h1⊢;have h2:=(X4U h (List.mem_cons_self:v∈v::l)).1;split at h1
   .omega
   rename_i hc
   rw[N6 hc,prV_pd l _ (fun w hw=>h w (Nx _ hw)) (by
    have:=Int.mul_le_mul_of_nonneg_right hn (show 0<=sz v by omega)
    omega) h1,pdL,Int.mul_assoc]
theorem X06 {vars:List Vr} (h:QO vars) (kind:Int):QO (ofK vars kind):=fun v hv=>h v (Dv.1 hv).1
theorem X9p (vars:List Vr) (kind:Int):(ofK vars kind).length<=vars.length:=List.length_filter_le _ _
theorem spc_pd {vars:List Vr} (h:QO vars) {kind:Int} (hs:spc vars kind<=4096):spc vars kind=pdL (ofK vars kind):=by
 have:=prV_pd (ofK vars kind) 1 (X06 h kind) (NX 1) hs;rw[Int.one_mul]at this;exact this
theorem X8k (vars:List Vr) (kind:Int) (hl:vars.length<=1000000) (d:Nat):Con prog 78 false [lV vars,li kind] (.v (lV (ofK vars kind))) none d:=by
 obtain⟨S,hS⟩:∃S,ofK vars kind=S:=⟨_,rfl⟩;rw[hS];unfold ofK at hS;refine X2 Tryz.func78 ?_;simp only[Tryz.f78];refine X4 ?_;refine X4 ?_;refine X0<|X0<|X1 ?_;refine X3<|(Xb [0,1] (fun(x:Nat×List Vr)=>[(5,.v (.one (.own 1005))),(6,.v (li x.1))]) (fun(x:Nat×List Vr)=>[(1005,.row 60 5 (Xr x.2))]) (fun(x:Nat×List Vr)=>x.1<=vars.length/\x.2=(vars.take x.1).filter fun v=>decide (v.kind=kind)) (fun(x:Nat×List Vr)=>vars.length - x.1) (0,[]) ⟨Nc _,by simp⟩ ?_);rintro⟨k,acc⟩ ⟨hk,hJ⟩;simp only[LN,Nat.reduceBEq,Nat.reduceLT];simp only at hk hJ;replace hJ:=hJ.symm;refine X0<|(Xc (fun h5=>X6 ?_) fun h5=>?_)
 .have hlt:k<vars.length:=by omega
  obtain⟨v,he,hd⟩:=Xw hlt;have hw1:=Xz hlt (by omega);have hk1:k+1<=vars.length:=hlt;have ht:=Z2 he;generalize hT:(vars.take k).filter (fun v=>decide (v.kind=kind))=T at hJ
  have hal:acc.length<=k:=by
   rw[<-hJ,<-hT];exact Dj (List.length_filter_le _ _) (by rw[Ns];omega)
  have hroom:QF (acc.length+1) 48:=XO (by omega) (by omega);clear hlt h5 hS;refine X0<|X3<|(X8 (fun h7=>?_) fun h7=>?_)
  .have hf:(vars.take (k+1)).filter (fun v=>decide (v.kind=kind))=acc++[v]:=by rw[ht,Dp,hT,hJ,Dc (by simpa using h7)];simp
   refine X1 ?_;refine X1 ?_;exact Xj ((k+1,acc++[v])) (⟨hk1,hf.symm⟩) (hm:=by simp only;omega)
  have hf:(vars.take (k+1)).filter (fun v=>decide (v.kind=kind))=acc:=by rw[ht,Dp,hT,hJ,NL (by simpa using h7)];simp
  refine X1 ?_;exact Xj ((k+1,acc)) (⟨hk1,hf.symm⟩) (hm:=by simp only;omega)
 have hkl:k=vars.length:=by omega
 rw[hkl,List.take_length,hS]at hJ;subst hJ;clear hS;refine(Xd ?_);refine X4 ?_;exact Xn ⟨.inr rfl,_,XL 1005 rfl,⟨⟨_,by simp;rfl,by simp[Xl]⟩,by simp,fun h=>by cases h⟩⟩
theorem Zc (vars:List Vr) (kind:Int) (hkd:1<=kind/\kind<=3) (hv:QO vars) (hl:vars.length<=1000000) (hs:spc vars kind<=4096) (d:Nat):
  Con prog 46 true [lV vars,li kind] (.tup [li (spc vars kind),li 0]) none d:=by
 have co:=X8k vars kind hl;have hg:=X06 hv kind;have hn:=X9p vars kind;unfold spc at*;change prV (ofK vars kind) 1<=4096 at hs;change Con _ _ _ _ (.tup [li (prV (ofK vars kind) 1),li 0]) _ _;obtain⟨res,hres⟩:∃r,prV (ofK vars kind) 1=r:=⟨_,rfl⟩;rw[hres]at hs⊢;obtain⟨S,hS⟩:∃S,ofK vars kind=S:=⟨_,rfl⟩;rw[hS]at co hg hn hres;clear hS hv;refine X2 Tryz.func46 ?_;simp only[Tryz.f46];refine X4 ?_;refine X0<|X0<|X1 ?_;refine(HT_cs rfl (fun h2=>?_) fun h2=>?_)
 .exfalso;simp at h2;omega
 (try simp only[BN]at h2);refine X0<|(Xa co ?_);refine X0<|X0<|X1 ?_;refine X3<|(Xb [6] (fun(x:Nat)=>[(7,.v (li x))]) (fun(x:Nat)=>[]) (fun(x:Nat)=>x<=S.length) (fun(x:Nat)=>S.length - x) (0:Nat) (Nc _) ?_);rintro k hk;simp only[LN,Nat.reduceBEq,Nat.reduceLT];clear co;refine X0<|(Xc (fun h9=>X6 ?_) fun h9=>?_)
 .have hlt:k<S.length:=by omega
  obtain⟨v,he,hd⟩:=Xw hlt;have hw1:=Xz hlt (by omega);have hk1:k+1<=S.length:=hlt;have hb:=hg v (N3 he);clear hlt h9 hg hres;refine X0<|X3<|X0<|(N0 ?_);refine(HT_cs rfl (fun h11=>?_) fun h11=>?_)
  .exfalso;simp at h11;omega
  (try simp only[BN]at h11);refine X1 ?_;exact Xj (k+1) (hk1)
 clear h9 hk;refine(Xd ?_);refine X4 ?_;refine X0<|X0<|X1 ?_;refine X3<|(Xb [6] (fun(x:Nat×Int)=>[(8,.v (li x.2)),(9,.v (li x.1))]) (fun(x:Nat×Int)=>[]) (fun(x:Nat×Int)=>x.1<=S.length/\prV (S.drop x.1) x.2=res/\1<=x.2/\x.2<=4096) (fun(x:Nat×Int)=>S.length - x.1) (0,1) ⟨Nc _,hres,by decide,by decide⟩ ?_);rintro⟨k,n⟩ ⟨hk,hJ,hn1,hn2⟩;simp only[LN,Nat.reduceBEq,Nat.reduceLT];simp only at hk hJ hn1 hn2;clear hres;refine X0<|(Xc (fun h20=>X6 ?_) fun h20=>?_)
 .have hlt:k<S.length:=by omega
  obtain⟨v,he,hd⟩:=Xw hlt;have hw1:=Xz hlt (by omega);have hk1:k+1<=S.length:=hlt;have hmem:v∈S:=N3 he;have hsz:=X4U hg hmem;have hm:=X6m ⟨hn1,hn2⟩ hsz;have hb:=hg v hmem;have hw2:IntKind.i64.wrap (v.high - v.low)=v.high - v.low:=X5;have hw3:IntKind.i64.wrap (v.high - v.low+1)=sz v:=by rw[X5 (by omega) (by omega)];rfl
  have hw4:IntKind.i64.wrap (n*sz v)=n*sz v:=X5;rw[hd]at hJ;simp only[prV]at hJ;clear hlt h20 hg;refine X0<|X3<|X0<|(N0 ?_);refine(X8 (fun h23=>?_) fun h23=>?_)
  .exfalso;rw[N9 (by simpa using h23)]at hJ;omega
  rw[N6 (by simpa using h23)]at hJ;refine X1 ?_;exact Xj ((k+1,n*sz v)) (⟨hk1,hJ,hm.1,by simp only;omega⟩) (hm:=by simp only;omega)
 have hkl:k=S.length:=by omega
 rw[hkl,Nj]at hJ;simp only[prV]at hJ;subst hJ;refine(Xd ?_);exact X7
theorem X0v (vars:List Vr) (kind:Int) (hkd:1<=kind/\kind<=3) (hv:QO vars) (hl:vars.length<=1000000) (hs:spc vars kind<=4096) (r:Int) (h0:0<=r) (h1:r<spc vars kind) (d:Nat):
  Con prog 79 false [lV vars,li kind,li r] (.tup [lI (uL (ofK vars kind) r),li 0]) none d:=by
 have co:=X8k vars kind hl;have cs:=Zc vars kind hkd hv hl hs;have hg:=X06 hv kind;have hn:=X9p vars kind;have hp:=spc_pd hv hs;rw[hp]at cs h1 hs;clear hp;obtain⟨S,hS⟩:∃S,ofK vars kind=S:=⟨_,rfl⟩;rw[hS]at co hg hn cs h1 hs⊢;clear hS hv;have hp1:=X6J S hg;obtain⟨n0,hn0⟩:∃n,pdL S=n:=⟨_,rfl⟩;rw[hn0]at cs h1 hs hp1;obtain⟨res,hres⟩:∃l,uL S r=l:=⟨_,rfl⟩;rw[hres];refine X2 Tryz.func79 ?_;simp only[Tryz.f79];refine X4 ?_;refine X0<|(Xa cs ?_);refine X0<|(X8 (fun h3=>?_) fun h3=>?_)
 .exact absurd h3 (by simp)
 refine X0<|X0<|X1 ?_;refine(HT_cs rfl (fun h7=>?_) fun h7=>?_)
 .exfalso;simp at h7;omega
 (try simp only[BN]at h7);refine X0<|(Xa co ?_);refine X4 ?_;refine X0<|X0<|X1 ?_;refine X3<|(Xb [2,10] (fun(x:Nat×Int×List Int)=>[(8,.v (li x.2.1)),(11,.v (.one (.own 1011))),(12,.v (li x.1))]) (fun(x:Nat×Int×List Int)=>[(1011,.row 3 1 (Xk x.2.2))]) (fun(x:Nat×Int×List Int)=>x.1<=S.length/\pdL (S.drop x.1)=x.2.1/\x.2.2++uL (S.drop x.1) r=res/\x.2.2.length=x.1/\x.2.1<=4096) (fun(x:Nat×Int×List Int)=>S.length - x.1) (0,n0,[]) ⟨Nc _,hn0,hres,rfl,hs⟩ ?_);rintro⟨k,n,acc⟩ ⟨hk,hJ,hA,hal,hn4⟩;simp only[LN,Nat.reduceBEq,Nat.reduceLT];simp only at hk hJ hA hal hn4;clear hres hn0 cs co;refine X0<|(Xc (fun h15=>X6 ?_) fun h15=>?_)
 .have hlt:k<S.length:=by omega
  obtain⟨v,he,hd⟩:=Xw hlt;have hw1:=Xz hlt (by omega);have hk1:k+1<=S.length:=hlt;have hmem:v∈S:=N3 he;have hsz:=X4U hg hmem;have hb:=hg v hmem;have hpp:=X6J (S.drop (k+1)) fun u hu=>hg u (D8 hu);rw[hd]at hJ hA;simp only[pdL,uL]at hJ hA;obtain⟨p,hpe⟩:∃p,pdL (S.drop (k+1))=p:=⟨_,rfl⟩;rw[hpe]at hJ hA hpp;have hpd:(sz v*p).tdiv (sz v)=p:=Int.mul_tdiv_cancel_left _ (by omega)
  have hple:p<=sz v*p:=by
   have:=Int.mul_le_mul_of_nonneg_right hsz.1 (show 0<=p by omega);omega
  have hw2:IntKind.i64.wrap (v.high - v.low)=v.high - v.low:=X5;have hw3:IntKind.i64.wrap (v.high - v.low+1)=sz v:=by rw[X5 (by omega) (by omega)];rfl
  have t2:r.tdiv p=r/p:=Int.tdiv_eq_ediv_of_nonneg (by omega);obtain⟨q,hq⟩:∃q,r/p=q:=⟨_,rfl⟩;rw[hq]at t2 hA;have hq0:0<=q:=by rw[<-hq];exact Int.ediv_nonneg (by omega) (by omega)
  have hq1:q<=r:=by rw[<-hq];exact Int.ediv_le_self _ (by omega)
  have hm0:0<=q%sz v:=Int.emod_nonneg _ (by omega);have hm1:q%sz v<sz v:=Int.emod_lt_of_pos _ (by omega);have t1:q.tmod (sz v)=q%sz v:=Int.tmod_eq_emod_of_nonneg hq0;have w0:IntKind.i64.wrap p=p:=X5;have w1:IntKind.i64.wrap (v.low+q%sz v)=v.low+q%sz v:=X5;have w2:IntKind.i64.wrap q=q:=X5;have s0:¬sz v=0:=by omega
  have p0:¬p=0:=by omega
  have hroom:QF (k+1) 8:=XO (by omega) (by omega);have hp4:p<=4096:=by omega
  rw[<-hJ];clear hlt h15 hg hq hd hpp hmem hJ;refine X0<|X3<|X0<|(N0 ?_);refine X4 ?_;refine(N0 ?_);refine X1 ?_;exact Xj ((k+1,p,acc++[v.low+q%sz v])) (⟨hk1,hpe,by simpa using hA,by simp[hal],by simp only;omega⟩) (hm:=by simp only;omega)
 have hkl:k=S.length:=by omega
 rw[hkl,Nj]at hA;simp only[uL,Db]at hA;subst hA;refine(Xd ?_);refine X4 ?_;exact Xn ⟨.inr rfl,_,XL 1011 rfl,⟨⟨_,by simp;rfl,by simp[Xl]⟩,by simp,fun h=>by cases h⟩⟩
def inpK (vars:List Vr) (a b c:Int):Inp:=⟨uL (ofK vars 1) a,uL (ofK vars 2) b,uL (ofK vars 3) c⟩
theorem Xb3 (vars:List Vr) (hv:QO vars) (hl:vars.length<=1000000) (hs:∀k,1<=k->k<=3->spc vars k<=4096) (a b c:Int) (ha:0<=a/\a<spc vars 1) (hb:0<=b/\b<spc vars 2) (hc:0<=c/\c<spc vars 3) (d:Nat):
  Con prog 47 false [lV vars,li a,li b,li c] (.tup [aI (inpK vars a b c),li 0]) none d:=by
 have c1:=X0v vars 1 (by decide) hv hl (hs 1 (by decide) (by decide)) a ha.1 ha.2;have c2:=X0v vars 2 (by decide) hv hl (hs 2 (by decide) (by decide)) b hb.1 hb.2;have c3:=X0v vars 3 (by decide) hv hl (hs 3 (by decide) (by decide)) c hc.1 hc.2;unfold inpK;obtain⟨A,hA⟩:∃l,uL (ofK vars 1) a=l:=⟨_,rfl⟩;obtain⟨B,hB⟩:∃l,uL (ofK vars 2) b=l:=⟨_,rfl⟩;obtain⟨C,hC⟩:∃l,uL (ofK vars 3) c=l:=⟨_,rfl⟩;rw[hA]at c1⊢;rw[hB]at c2⊢;rw[hC]at c3⊢;clear hA hB hC hv hs;refine X2 Tryz.func47 ?_;simp only[Tryz.f47];refine X4 ?_;refine X0<|(Xa c1 ?_);refine X0<|(X8 (fun h3=>?_) fun h3=>?_)
 .exact absurd h3 (by simp)
 refine X0<|(Xa c2 ?_);refine X0<|(X8 (fun h8=>?_) fun h8=>?_)
 .exact absurd h8 (by simp)
 refine X0<|(Xa c3 ?_);refine X0<|(X8 (fun h13=>?_) fun h13=>?_)
 .exact absurd h13 (by simp)
 refine X4 ?_;exact Xn ⟨.inr rfl,_,le_refl _,⟨⟨_,by simp;rfl,by simp[Xl]⟩,by simp,fun h=>by cases h⟩⟩
def Inp.enc (i:Inp):List CD:=[.sl 1 (Xk i.s),.sl 1 (Xk i.p),.sl 1 (Xk i.r)]
def Wy (l:List Inp):List (List CD):=l.map Inp.enc
@[simp] theorem X8F (a b:List Inp):Wy (a++b)=Wy a++Wy b:=by simp[Wy]
@[simp] theorem encNms_len (l:List Inp):(Wy l).length=l.length:=by simp[Wy]
@[simp] theorem XaX (l:List Inp) (i:Nat):(Wy l)[i]? =l[i]?.map Inp.enc:=by simp[Wy]
abbrev lN (l:List Inp):TV:=.one (.c (.sl 3 (Wy l)))
def inAt (vars:List Vr) (k:Nat):Inp:=inpK vars ((k:Int)/(spc vars 2*spc vars 3)) ((k:Int)/spc vars 3%spc vars 2) ((k:Int)%spc vars 3)
def insL (vars:List Vr):List Inp:=(List.range (spc vars 1*spc vars 2*spc vars 3).toNat).map (inAt vars)
theorem X0a {a b m n:Int} (ha:1<=a/\a<=m) (hb:1<=b/\b<=n):1<=a*b/\a*b<=m*n:=by
 have h1:=Int.mul_le_mul_of_nonneg_right ha.1 (show 0<=b by omega);have h2:=Int.mul_le_mul_of_nonneg_right ha.2 (show 0<=b by omega);have h3:=Int.mul_le_mul_of_nonneg_left hb.2 (show 0<=m by omega);omega
theorem X1o {vars:List Vr} (h:QO vars) (kind:Int):1<=spc vars kind:=(X9g h _ 1 (fun v hv=>(Dv.1 hv).1) (by decide)).1
theorem X8w (f:Fl) (hv:QO f.vars) (hl:f.vars.length<=1000000) (hA:spc f.vars 1<=16) (hB:spc f.vars 2<=4) (hC:spc f.vars 3<=4) (d:Nat):
  Con prog 14 false [aF f] (.v (lN (insL f.vars))) none d:=by
 obtain⟨vars,hats,body⟩:=f;simp only at hv hl hA hB hC⊢
 have hs:∀k,1<=k->k<=3->spc vars k<=4096:=by
  intro k h1 h2;have:k=1\/k=2\/k=3:=by omega
  rcases this with rfl|rfl|rfl<;>omega
 have c1:=Zc vars 1 (by decide) hv hl (hs 1 (by decide) (by decide));have c2:=Zc vars 2 (by decide) hv hl (hs 2 (by decide) (by decide));have c3:=Zc vars 3 (by decide) hv hl (hs 3 (by decide) (by decide));have ci:=Xb3 vars hv hl hs;have p1:=X1o hv 1;have p2:=X1o hv 2;have p3:=X1o hv 3;unfold insL;have hat:∀k,inAt vars k=inpK vars ((k:Int)/(spc vars 2*spc vars 3)) ((k:Int)/spc vars 3%spc vars 2) ((k:Int)%spc vars 3):=fun k=>rfl;obtain⟨A,eA⟩:∃x,spc vars 1=x:=⟨_,rfl⟩;obtain⟨B,eB⟩:∃x,spc vars 2=x:=⟨_,rfl⟩;obtain⟨C,eC⟩:∃x,spc vars 3=x:=⟨_,rfl⟩;obtain⟨g,hg⟩:∃g,inAt vars=g:=⟨_,rfl⟩;rw[eA]at c1 ci p1 hA;rw[eB]at c2 ci p2 hB hat;rw[eC]at c3 ci p3 hC hat;rw[eA,eB,eC,hg];rw[hg]at hat;clear eA eB eC hg hs hv;have mAB:=X0a ⟨p1,hA⟩ ⟨p2,hB⟩;have mBC:=X0a ⟨p2,hB⟩ ⟨p3,hC⟩;have mN:=X0a mAB ⟨p3,hC⟩;have hass:A*B*C=A*(B*C):=Int.mul_assoc _ _ _;obtain⟨AB,eAB⟩:∃x,A*B=x:=⟨_,rfl⟩;rw[eAB]at mAB mN hass⊢;obtain⟨BC,eBC⟩:∃x,B*C=x:=⟨_,rfl⟩;rw[eBC]at mBC hat hass;obtain⟨N,eN⟩:∃x,AB*C=x:=⟨_,rfl⟩;rw[eN]at mN hass⊢;replace hass:=hass.symm;have hn0:Wy []=[]:=rfl;have wAB:IntKind.i64.wrap AB=AB:=X5;have wBC:IntKind.i64.wrap BC=BC:=X5;have wN:IntKind.i64.wrap N=N:=X5;have hC0:¬C=0:=by omega
 have hB0:¬B=0:=by omega
 have hBC0:¬BC=0:=by omega
 have hNn:((N.toNat:Nat):Int)=N:=by omega
 obtain⟨M,eM⟩:∃x,N.toNat=x:=⟨_,rfl⟩;rw[eM]at hNn⊢;refine X2 Tryz.func14 ?_;simp only[Tryz.f14];simp only[aF,Fl.enc,Na,Nb];refine X4 ?_;refine X0<|(Xa c1 ?_);refine X0<|(Xa c2 ?_);refine X0<|(Xa c3 ?_);refine X4 ?_;refine X0<|X0<|X1 ?_;refine X3<|(Xb [1,3,5,7] (fun(x:Nat)=>[(9,.v (.one (.own 1009))),(10,.v (li x))]) (fun(x:Nat)=>[(1,.box [.c (.sl 5 (Xr vars)),.c (.sl 6 (Xu hats)),.c (.sl 10 (Xf body))]),(1009,.row 40 3 (Wy ((List.range x).map g)))]) (fun(x:Nat)=>x<=M) (fun(x:Nat)=>M - x) (0:Nat) (Nc _) ?_);rintro k hk;simp only[LN,Nat.reduceBEq,Nat.reduceLT];clear c1 c2 c3;refine X0<|(Xc (fun h8=>X6 ?_) fun h8=>?_)
 .have hlt:k<M:=by omega
  have hw1:IntKind.i64.wrap ((k:Int)+1)=(k:Int)+1:=X5;have hk1:k+1<=M:=hlt;have hgk:=hat k;have t1:(k:Int).tdiv BC=(k:Int)/BC:=Int.tdiv_eq_ediv_of_nonneg (by omega);have t2:(k:Int).tdiv C=(k:Int)/C:=Int.tdiv_eq_ediv_of_nonneg (by omega);have t3:((k:Int)/C).tmod B=(k:Int)/C%B:=Int.tmod_eq_emod_of_nonneg (Int.ediv_nonneg (by omega) (by omega));have t4:(k:Int).tmod C=(k:Int)%C:=Int.tmod_eq_emod_of_nonneg (by omega);have r1:0<=(k:Int)/BC:=Int.ediv_nonneg (by omega) (by omega);have r2:(k:Int)/BC<A:=Int.ediv_lt_of_lt_mul (by omega) (by omega);have r3:0<=(k:Int)/C%B:=Int.emod_nonneg _ (by omega);have r4:(k:Int)/C%B<B:=Int.emod_lt_of_pos _ (by omega);have r5:0<=(k:Int)%C:=Int.emod_nonneg _ (by omega);have r6:(k:Int)%C<C:=Int.emod_lt_of_pos _ (by omega);have r7:0<=(k:Int)/C:=Int.ediv_nonneg (by omega) (by omega);have r8:(k:Int)/C<=(k:Int):=Int.ediv_le_self _ (by omega);have ci:=ci _ _ _ ⟨r1,r2⟩ ⟨r3,r4⟩ ⟨r5,r6⟩;obtain⟨q,eq⟩:∃x,(k:Int)/C=x:=⟨_,rfl⟩;rw[eq]at t2 t3 r3 r4 r7 r8 ci hgk;obtain⟨a,ea⟩:∃x,(k:Int)/BC=x:=⟨_,rfl⟩;rw[ea]at t1 r1 r2 ci hgk;obtain⟨b,eb⟩:∃x,q%B=x:=⟨_,rfl⟩;rw[eb]at t3 r3 r4 ci hgk;obtain⟨c,ec⟩:∃x,(k:Int)%C=x:=⟨_,rfl⟩;rw[ec]at t4 r5 r6 ci hgk;have w1:IntKind.i64.wrap a=a:=X5;have w2:IntKind.i64.wrap q=q:=X5;obtain⟨⟨xs,xp,xr⟩,hX⟩:∃x,inpK vars a b c=x:=⟨_,rfl⟩;rw[hX]at ci hgk
  have hsn:Wy ((List.range (k+1)).map g)=Wy ((List.range k).map g)++[[.sl 1 (Xk xs),.sl 1 (Xk xp),.sl 1 (Xk xr)]]:=by
   rw[List.range_succ,Ds,X8F];simp[Wy,hgk,Inp.enc]
  have htl:((List.range k).map g).length=k:=by simp
  have hroom:QF (k+1) 72:=XO (by omega) (by omega);clear hat hX h8 hlt eq ea eb ec hgk r1 r2 r3 r4 r5 r6 r7 r8;refine X0<|X3<|X0<|(Xx [⟨false,.tup [.agg [.c (.sl 1 (Xk xs)),.c (.sl 1 (Xk xp)),.c (.sl 1 (Xk xr))],li 0],none⟩] (by kernel_rfl) (by kernel_rfl) (by rfl) (by simp[*];first|exact⟨rfl,Iff.rfl⟩|exact⟨rfl,trivial⟩|rfl) ?_ ?_)
  .first|exact ci _|exact trivial|simpa[*]using ci _
  refine X1 ?_;refine X1 ?_;exact Xj (k+1) (hk1)
 have hkl:k=M:=by omega
 subst hkl;refine(Xd ?_);refine X4 ?_;exact Xn ⟨.inr rfl,_,XL 1009 rfl,⟨⟨_,by simp;rfl,by simp[Xl]⟩,by simp,fun h=>by cases h⟩⟩
def inBb:List Vr->List Int->Prop
 |[],[]=>True
 |v::l,x::xs=>(v.low<=x/\x<=v.high)/\inBb l xs
 |_,_=>False
theorem uL_in:∀(l:List Vr) (r:Int),QO l->inBb l (uL l r)
 |[],r,_=>trivial
 | v::l,r,h=>by
   have hs:=(X4U h (List.mem_cons_self:v∈v::l)).1;have h0:0<=r/pdL l%sz v:=Int.emod_nonneg _ (by omega);have h1:r/pdL l%sz v<sz v:=Int.emod_lt_of_pos _ (by omega);refine⟨?_,uL_in l r fun w hw=>h w (Nx _ hw)⟩;unfold sz at*;omega
theorem X4u {v:Vr} {l:List Vr} {s:List Int} {a:Nat} (h:inBb (v::l) (s.drop a)):∃x,s[a]? =some x/\a<s.length/\v.low<=x/\x<=v.high/\inBb l (s.drop (a+1)):=by
 rcases Nat.lt_or_ge a s.length with hlt|hge
 .obtain⟨x,he,hd⟩:=Xw hlt;rw[hd]at h;exact⟨x,he,hlt,h.1.1,h.1.2,h.2⟩
 rw[List.drop_eq_nil_of_le hge]at h;exact h.elim
theorem X6e {s:List Int} {a:Nat} (h:inBb [] (s.drop a)) (ha:a<=s.length):a=s.length:=by
 rcases Nat.lt_or_ge a s.length with hlt|hge
 .obtain⟨x,he,hd⟩:=Xw hlt;rw[hd]at h;exact h.elim
 omega
theorem X4W (i:Inp):∀(l:List Vr) (a b c:Nat) (vals:List Int),(∀v∈l,v.kind≠1->v.kind≠2->v.kind≠3->v.low<=v.init/\v.init<=v.high)->
  inBb (ofK l 1) (i.s.drop a)->inBb (ofK l 2) (i.p.drop b)->inBb (ofK l 3) (i.r.drop c)->a<=i.s.length->b<=i.p.length->c<=i.r.length->(stL i l a b c vals true).2=0
 | [],a,b,c,vals,_,h1,h2,h3,ha,hb,hc=>by
   have e1:=X6e h1 ha;have e2:=X6e h2 hb;have e3:=X6e h3 hc;simp[stL,e1,e2,e3]
 | v::l,a,b,c,vals,hk,h1,h2,h3,ha,hb,hc=>by
   have hk':∀v∈l,v.kind≠1->v.kind≠2->v.kind≠3->v.low<=v.init/\v.init<=v.high:=fun w hw=>hk w (Nx _ hw);simp only[stL];unfold ofK at h1 h2 h3;by_cases k1:v.kind=1
   .rw[Dc (by simpa using k1)]at h1;rw[NL (by simp[k1])]at h2;rw[NL (by simp[k1])]at h3;obtain⟨x,he,hlt,l1,l2,hr⟩:=X4u h1;simp only[Za,N9 k1,he,Option.getD_some,Nw hlt,NG,Nw l1,Nw l2,Bool.and_true];exact X4W i l _ _ _ _ hk' hr h2 h3 (by omega) hb hc
   by_cases k2:v.kind=2
   .rw[NL (by simp[k2])]at h1;rw[Dc (by simpa using k2)]at h2;rw[NL (by simp[k2])]at h3;obtain⟨x,he,hlt,l1,l2,hr⟩:=X4u h2;simp only[Za,N6 k1,N9 k2,he,Option.getD_some,Nw hlt,NG,Nw l1,Nw l2,Bool.and_true];exact X4W i l _ _ _ _ hk' h1 hr h3 ha (by omega) hc
   by_cases k3:v.kind=3
   .rw[NL (by simp[k3])]at h1;rw[NL (by simp[k3])]at h2;rw[Dc (by simpa using k3)]at h3;obtain⟨x,he,hlt,l1,l2,hr⟩:=X4u h3;simp only[Za,N6 k1,N6 k2,N9 k3,he,Option.getD_some,Nw hlt,NG,Nw l1,Nw l2,Bool.and_true];exact X4W i l _ _ _ _ hk' h1 h2 hr ha hb (by omega)
   rw[NL (by simpa using k1)]at h1;rw[NL (by simpa using k2)]at h2;rw[NL (by simpa using k3)]at h3;obtain⟨l1,l2⟩:=hk v List.mem_cons_self k1 k2 k3;simp only[Za,N6 k1,N6 k2,N6 k3,NG,Nw l1,Nw l2,Bool.and_true];exact X4W i l _ _ _ _ hk' h1 h2 h3 ha hb hc
theorem X77:∀(l seen:List Vr),vcs seen l=0->∀v∈l,v.kind≠1->v.kind≠2->v.kind≠3->v.low<=v.init/\v.init<=v.high
 |[],_,_,v,hv=>by cases hv
 | w ::l,seen,h,v,hv=>by
   simp only[vcs]at h;split at h
   .rename_i h0;rcases Ni.1 hv with rfl|hv
    .intro k1 k2 k3;unfold Wo at h0;split at h0
     .cases h0
     split at h0
     .cases h0
     split at h0
     .cases h0
     rename_i hkr;split at h0
     .cases h0
     rename_i hkb;unfold QU at hkb;have hk0:v.kind=0:=by omega
     omega
    exact X77 l _ h v hv
   rename_i h0;exact absurd h h0
theorem ins_ok {vars:List Vr} (h:W8 vars=0) {i:Inp} (hi:i∈insL vars):(stL i vars 0 0 0 [] true).2=0:=by
 have hg:=Qz h;obtain⟨k,_,rfl⟩:=NN.1 hi
 have hvc:vcs [] vars=0:=by
  unfold W8 at h;split at h
  .assumption
  rename_i h0;exact absurd h h0
 refine X4W _ vars 0 0 0 [] (X77 vars [] hvc) ?_ ?_ ?_ (Nc _) (Nc _) (Nc _)
 .rw[List.drop_zero];exact uL_in _ _ (X06 hg 1)
 .rw[List.drop_zero];exact uL_in _ _ (X06 hg 2)
 rw[List.drop_zero];exact uL_in _ _ (X06 hg 3)
theorem insL_len {vars:List Vr} (hv:QO vars) (hA:spc vars 1<=16) (hB:spc vars 2<=4) (hC:spc vars 3<=4):(insL vars).length<=256:=by
 have mAB:=X0a ⟨X1o hv 1,hA⟩ ⟨X1o hv 2,hB⟩;have mN:=X0a mAB ⟨X1o hv 3,hC⟩;unfold insL;rw[D6,List.length_range];omega
mutual
def tL:Tm->Int->Int
 | .mk _ _ ks,left=>tLs ks (left - 1)
def tLs:List Tm->Int->Int
 |[],left=>left
 |t::l,left=>if 0<=left then tLs l (tL t left)else left
end
def lo1 (x:Int):Int:=if x<0 then x else -1
mutual
theorem X4Z:∀(t:Tm) (left:Int),lo1 (left - 1)<=tL t left/\tL t left<=left - 1
 | .mk _ _ ks,left=>by
   simp only[tL];exact X8I ks (left - 1)
theorem X8I:∀(l:List Tm) (left:Int),lo1 left<=tLs l left/\tLs l left<=left
 | [],left=>by
   simp only[tLs,lo1];split<;>omega
 | t ::l,left=>by
   simp only[tLs];split
   .have h1:=X4Z t left;have h2:=X8I l (tL t left);unfold lo1 at*;refine⟨?_,by omega⟩;split
    .omega
    refine Int.le_trans ?_ h2.1;split<;>(try split at h1)<;>omega
   unfold lo1;split<;>omega
end
theorem tLs_neg (l:List Tm) (left:Int) (h:left<0):tLs l left=left:=by
 cases l with
 |nil=>rfl
 |cons t l=>simp only[tLs];rw[N6 (by omega)]
mutual
theorem X95:∀(t:Tm) (left:Int),0<=tL t left->tL t left=left - t.nodes
 | .mk _ _ ks,left=>by
   simp only[tL,Tm.nodes];intro h;have:=X9A ks (left - 1) h;omega
theorem X9A:∀(l:List Tm) (left:Int),0<=tLs l left->tLs l left=left - Xs l
 |[],left=>by simp[tLs,Xs]
 | t::l,left=>by
   simp only[tLs,Xs];split
   .intro h;have h1:=X9A l (tL t left) h;have h2:=X8I l (tL t left);have h3:=X95 t left (by omega);omega
   intro h;omega
end
def sL:List St->Int->Int
 |[],left=>left
 | .mk _ _ _ _ t a b bs::l,left=>
   if 0<=left then(if tL t (left - 1)<bs.length then -1 else sL l (sL b (sL a (tL t (left - 1) - bs.length))))else left
theorem sL_neg (l:List St) (left:Int) (h:left<0):sL l left=left:=by
 cases l with
 |nil=>simp[sL]
 |cons s l=>obtain⟨d,c,v,n,t,a,b,bs⟩:=s;simp only[sL];rw[N6 (by omega)]
theorem X2G:∀(l:List St) (left:Int),lo1 left<=sL l left/\sL l left<=left
 | [],left=>by
   simp only[sL,lo1];split<;>omega
 | .mk _ _ _ _ t a b bs::l,left=>by
   simp only[sL];by_cases h0:0<=left
   .rw[N9 h0];have e:lo1 left=-1:=by unfold lo1;rw[N6 (by omega)]
    rw[e];split
    .omega
    have h1:=X4Z t (left - 1);have ha:=X2G a (tL t (left - 1) - bs.length);have hb:=X2G b (sL a (tL t (left - 1) - bs.length));have hl:=X2G l (sL b (sL a (tL t (left - 1) - bs.length)));refine⟨?_,by omega⟩;generalize sL l (sL b (sL a (tL t (left - 1) - bs.length)))=z at*;generalize sL b (sL a (tL t (left - 1) - bs.length))=y at*;generalize sL a (tL t (left - 1) - bs.length)=x at*;generalize tL t (left - 1)=w at*;unfold lo1 at ha hb hl
    (repeat' split at ha)<;>(repeat' split at hb)<;>(repeat' split at hl)<;>omega
   rw[N6 h0];unfold lo1;split<;>omega
theorem X67:∀(l:List St) (left:Int),left<=1000000->0<=sL l left->sL l left<=left - Xe l/\Qm l=true
 |[],left,_,_=>by simp[sL,Xe,Qm]
 | .mk _ _ _ _ t a b bs::l,left,hle,h=>by
   simp only[sL]at h⊢;by_cases h0:0<=left
   .rw[N9 h0]at h⊢;split at h
    .omega
    rename_i hbs;rw[N6 hbs];have i0:=X4Z t (left - 1);have ia:=X2G a (tL t (left - 1) - bs.length);have ib:=X2G b (sL a (tL t (left - 1) - bs.length));have il:=X2G l (sL b (sL a (tL t (left - 1) - bs.length)));have p3:=X67 l (sL b (sL a (tL t (left - 1) - bs.length))) (by omega) h;have p2:=X67 b (sL a (tL t (left - 1) - bs.length)) (by omega) (by omega);have p1:=X67 a (tL t (left - 1) - bs.length) (by omega) (by omega);have p0:=X95 t (left - 1) (by omega);simp only[Xe,St.nodes,Qm,X01,p1.2,p2.2,p3.2,Bool.and_true,N7];omega
   rw[N6 h0]at h;omega
def hL:List Ht->Int->Int
 |[],m=>m
 |h::l,m=>hL l (tL h.term m)
theorem hL_le:∀(l:List Ht) (m:Int),hL l m<=m
 |[],m=>by simp[hL]
 | h::l,m=>by
   have h1:=hL_le l (tL h.term m);have h2:=X4Z h.term m;simp only[hL];omega
theorem hL_pos:∀(l:List Ht) (m:Int),0<=hL l m->hL l m=m - XN l
 |[],m,_=>by simp[hL,XN]
 | h::l,m,h0=>by
   simp only[hL,XN]at h0⊢;have h1:=hL_pos l _ h0;have h2:=hL_le l (tL h.term m);have h3:=X95 h.term m (by omega);omega
def X4X (f:Fl) (vars nodes:Int):Bool:=if vars<f.vars.length\/vars<f.hats.length then false else decide (0<=hL f.hats (sL f.body nodes))
theorem X9s {f:Fl} {vars nodes:Int} (hn:nodes<=1000000) (h:X4X f vars nodes=true):f.vars.length<=vars/\f.hats.length<=vars/\Xe f.body+XN f.hats<=nodes/\Qm f.body=true:=by
 unfold X4X at h;split at h
 .cases h
 rename_i h1;simp only[N7]at h;have e1:=hL_pos _ _ h;have e2:=hL_le f.hats (sL f.body nodes);have e3:=X67 f.body nodes hn (by omega);exact⟨by omega,by omega,by omega,e3.2⟩
theorem X5X (t:Tm):∀left:Int,-1000000<=left->left<=1000000->∀d:Nat,Con prog 96 true [aT t,li left] (.v (li (tL t left))) none d:=by
 induction t using Tm.ind with
 |h o n ks ih=>
 intro left h1 h2 d;obtain⟨res,hres⟩:∃r,tL (.mk o n ks) left=r:=⟨_,rfl⟩;rw[hres];simp only[tL]at hres;have hw0:IntKind.i64.wrap (left - 1)=left - 1:=X5;refine X2 Tryz.func96 ?_;simp only[Tryz.f96];simp only[aT,Tm.enc];refine X4 ?_;refine X4 ?_;refine X0<|X0<|X1 ?_;refine X3<|(Xb [2] (fun(x:Nat×Int)=>[(1,.v (li x.2)),(5,.v (li x.1))]) (fun(x:Nat×Int)=>[(2,.box [.c (iC o),.c (iC n),.c (.sl 3 (Xg ks))])]) (fun(x:Nat×Int)=>x.1<=ks.length/\tLs (ks.drop x.1) x.2=res∧-1000001<=x.2/\x.2+x.1<=1000000) (fun(x:Nat×Int)=>ks.length - x.1) (0,left - 1) ⟨Nc _,by simpa using hres,by simp only;omega,by simp only;omega⟩ ?_);rintro⟨k,m⟩ ⟨hk,hJ,hm,hm2⟩;simp only[LN,Nat.reduceBEq,Nat.reduceLT];simp only at hk hJ hm hm2;refine X0<|(Xc (fun h5=>X6 ?_) fun h5=>?_)
 .have hlt:k<ks.length:=by omega
  have hm0:0<=m:=by omega
  obtain⟨⟨eo,en,ek⟩,he,hd⟩:=Xw hlt;have he':=Qc he;simp only[Tm.enc]at he';have hw1:IntKind.i64.wrap ((k:Int)+1)=(k:Int)+1:=X5;rw[hd]at hJ;simp only[tLs]at hJ;rw[N9 hm0]at hJ;have hk1:k+1<=ks.length:=hlt;have c:=ih _ (N3 he) m (by omega) (by omega);have hti:=X4Z (.mk eo en ek) m;have hlo:-1<=lo1 (m - 1):=by unfold lo1;split<;>omega
  obtain⟨M,hM⟩:∃x,tL (.mk eo en ek) m=x:=⟨_,rfl⟩;rw[hM]at c hJ hti;clear hlt h5 hM ih hd;refine X0<|X3<|(Xa c ?_);refine X1 ?_;exact Xj ((k+1,M)) (⟨hk1,hJ,by simp only;omega,by simp only;omega⟩) (hm:=by simp only;omega)
 have hz:tLs (ks.drop k) m=m:=by
  by_cases hm0:m<0
  .exact tLs_neg _ _ hm0
  have hkl:k=ks.length:=by omega
  rw[hkl,Nj];rfl
 rw[hz]at hJ;subst hJ;refine(Xd ?_);exact X7
theorem Xbi (l:List St):∀left:Int,-1000000<=left->left<=1000000->∀d:Nat,Con prog 95 true [lS l,li left] (.v (li (sL l left))) none d:=by
 revert l
 apply St.lists;intro l ih left h1 h2 d;obtain⟨res,hres⟩:∃r,sL l left=r:=⟨_,rfl⟩;rw[hres];refine X2 Tryz.func95 ?_;simp only[Tryz.f95];refine X4 ?_;refine X0<|X0<|X1 ?_;refine X3<|(Xb [0] (fun(x:Nat×Int)=>[(1,.v (li x.2)),(5,.v (li x.1))]) (fun(x:Nat×Int)=>[]) (fun(x:Nat×Int)=>x.1<=l.length/\sL (l.drop x.1) x.2=res∧-1000001<=x.2/\x.2+x.1<=1000000) (fun(x:Nat×Int)=>l.length - x.1) (0,left) ⟨Nc _,hres,by simp only;omega,by simp only;omega⟩ ?_);rintro⟨k,m⟩ ⟨hk,hJ,hm,hm2⟩;simp only[LN,Nat.reduceBEq,Nat.reduceLT];simp only at hk hJ hm hm2;clear hres;refine X0<|(Xc (fun h4=>X6 ?_) fun h4=>?_)
 .have hlt:k<l.length:=by omega
  have hm0:0<=m:=by omega
  obtain⟨s,he,hd⟩:=Xw hlt;have hmem:s∈l:=N3 he;have iha:=(ih s hmem).1;have ihb:=(ih s hmem).2;have hw1:IntKind.i64.wrap ((k:Int)+1)=(k:Int)+1:=X5;have hk1:k+1<=l.length:=hlt;have he':=Q7 he;obtain⟨sd,sc,sv,sn,⟨so,stn,sks⟩,sa,sb,sbs⟩:=s;simp only[St.then_,St.else_]at iha ihb;simp only[St.enc,Tm.enc,List.cons_append,List.nil_append]at he';rw[hd]at hJ;simp only[sL]at hJ;rw[N9 hm0]at hJ;have hw2:IntKind.i64.wrap (m - 1)=m - 1:=X5;have c:=X5X (.mk so stn sks) (m - 1) (by omega) (by omega);have hti:=X4Z (.mk so stn sks) (m - 1);have hlo:-2<=lo1 (m - 1 - 1):=by unfold lo1;split<;>omega
  obtain⟨M,hM⟩:∃x,tL (.mk so stn sks) (m - 1)=x:=⟨_,rfl⟩;rw[hM]at c hJ hti;simp only[aT,Tm.enc,Na,Nb]at c;clear hlt h4 hM ih hd hmem;refine X0<|X3<|X0<|(Xa c ?_);refine X0<|(X8 (fun h7=>?_) fun h7=>?_)
  .rw[N9 h7]at hJ;subst hJ;exact X7
  rw[N6 (by omega)]at hJ;have hw3:IntKind.i64.wrap (M - (sbs.length:Int))=M - (sbs.length:Int):=X5;have c1:=iha (M - sbs.length) (by omega) (by omega);have s1:=X2G sa (M - sbs.length);have hl1:-1<=lo1 (M - sbs.length):=by unfold lo1;split<;>omega
  obtain⟨M1,hM1⟩:∃x,sL sa (M - sbs.length)=x:=⟨_,rfl⟩;rw[hM1]at c1 s1 hJ;have c2:=ihb M1 (by omega) (by omega);have s2:=X2G sb M1;have hl2:-1<=lo1 M1:=by unfold lo1;split<;>omega
  obtain⟨M2,hM2⟩:∃x,sL sb M1=x:=⟨_,rfl⟩;rw[hM2]at c2 s2 hJ;clear iha ihb hM1 hM2 h7 c;refine(Xx [⟨true,.v (li M1),none⟩,⟨true,.v (li M2),none⟩] (by kernel_rfl) (by kernel_rfl) (by rfl) (by simp[*];first|exact⟨rfl,Iff.rfl⟩|exact⟨rfl,trivial⟩|rfl) ?_ ?_)
  .first|exact⟨c1 _,c2 _⟩|exact trivial|(repeat' first|exact trivial|exact c1 _|exact c2 _|apply And.intro)
  refine X1 ?_;exact Xj ((k+1,M2)) (⟨hk1,hJ,by simp only;omega,by simp only;omega⟩) (hm:=by simp only;omega)
 have hz:sL (l.drop k) m=m:=by
  by_cases hm0:m<0
  .exact sL_neg _ _ hm0
  have hkl:k=l.length:=by omega
  rw[hkl,Nj];simp[sL]
 rw[hz]at hJ;subst hJ;refine(Xd ?_);exact X7
theorem few_con (f:Fl) (vars nodes:Int) (hv:0<=vars/\vars<=1000) (hn:0<=nodes/\nodes<=1000) (d:Nat):Con prog 63 true [aF f,li vars,li nodes] (.v (lb (X4X f vars nodes))) none d:=by
 obtain⟨vs,hats,body⟩:=f;obtain⟨res,hres⟩:∃r,X4X ⟨vs,hats,body⟩ vars nodes=r:=⟨_,rfl⟩;rw[hres];unfold X4X at hres;simp only at hres;have cs:=Xbi body nodes (by omega) (by omega);have hsi:=X2G body nodes;have hlo:-2<=lo1 nodes:=by unfold lo1;split<;>omega
 obtain⟨S,hS⟩:∃x,sL body nodes=x:=⟨_,rfl⟩;rw[hS]at hres cs hsi;clear hS;refine X2 Tryz.func63 ?_;simp only[Tryz.f63];simp only[aF,Fl.enc,Na,Nb];refine X4 ?_;refine X0<|(X8 (fun h2=>?_) fun h2=>?_)
 .rw[N9 (by omega)]at hres;subst hres;exact X7
 rw[N6 (by omega)]at hres;obtain⟨E,hE⟩:∃x,hL hats S=x:=⟨_,rfl⟩;rw[hE]at hres;refine X0<|(Xa cs ?_);refine X0<|X0<|X1 ?_;refine X3<|(Xb [27,28] (fun(x:Nat×Int)=>[(7,.v (li x.2)),(29,.v (li x.1))]) (fun(x:Nat×Int)=>[]) (fun(x:Nat×Int)=>x.1<=hats.length/\hL (hats.drop x.1) x.2=E∧-2 - (x.1:Int)<=x.2/\x.2<=1000) (fun(x:Nat×Int)=>hats.length - x.1) (0,S) ⟨Nc _,hE,by simp only;omega,by simp only;omega⟩ ?_);rintro⟨k,m⟩ ⟨hk,hJ,hm,hm2⟩;simp only[LN,Nat.reduceBEq,Nat.reduceLT];simp only at hk hJ hm hm2;clear hE;refine(XS (fun h9=>X6 ?_) fun h9=>?_)
 .have hlt:k<hats.length:=by omega
  obtain⟨h,he,hd⟩:=Xw hlt;have hw1:IntKind.i64.wrap ((k:Int)+1)=(k:Int)+1:=X5;have hk1:k+1<=hats.length:=hlt;have c:=X5X h.term m (by omega) (by omega);have hti:=X4Z h.term m;have hl1:-3 - (k:Int)<=lo1 (m - 1):=by unfold lo1;split<;>omega
  rw[hd]at hJ;simp only[hL]at hJ;obtain⟨nm,lo,hi,⟨o,tn,ks⟩⟩:=h;simp only at c hti hJ;obtain⟨M,hM⟩:∃x,tL (.mk o tn ks) m=x:=⟨_,rfl⟩;rw[hM]at c hJ hti;simp only[aT,Tm.enc,Na,Nb]at c;clear hlt h9 hM hd;refine X0<|X3<|X0<|X1 ?_;refine(Xa c ?_);refine X1 ?_;exact Xj ((k+1,M)) (⟨hk1,hJ,by simp only;omega,by simp only;omega⟩) (hm:=by simp only;omega)
 have hkl:k=hats.length:=by omega
 rw[hkl,Nj]at hJ;simp only[hL]at hJ;subst hJ;subst hres;refine(Xd ?_);exact X7
theorem Xbb {vars:List Vr} (h:W8 vars=0):∀k,1<=k->k<=3->spc vars k<=4096:=by
 intro k h1 h2;unfold W8 at h;split at h
 .split at h
  .cases h
  rename_i hb;simp only[List.any_cons,List.any_nil,Bool.or_false,Ng,X1F,N7,not_or]at hb;have:k=1\/k=2\/k=3:=by omega
  rcases this with rfl|rfl|rfl<;>omega
 rename_i h0;exact absurd h h0
def fitB (f:Fl) (a b c:Int):Bool:=X4X f 10 80&&(decide (XU f=0)&&(((decide (spc f.vars 1<=a)&&decide (spc f.vars 2<=b))&&decide (spc f.vars 3<=c))&&decide ((bdL CR f.body ⟨0,0,0⟩).s<=400)))
theorem Xb7 (f:Fl) (a b c:Int) (d:Nat):Con prog 25 true [aF f,li a,li b,li c] (.v (lb (fitB f a b c))) none d:=by
 have cf:=few_con f 10 80 (by decide) (by decide)
 have hin:X4X f 10 80=true->f.vars.length<=1000000/\f.hats.length<=1000000/\Xe f.body+XN f.hats<=80/\Qm f.body=true:=by
  intro h;have:=X9s (nodes:=80) (by decide) h;exact⟨by omega,by omega,by omega,this.2.2.2⟩
 have hcc:X4X f 10 80=true->∀d,Con prog 64 true [aF f] (.v (li (XU f))) none d:=fun h=>X1R f (hin h).1 (hin h).2.1 (by have:=(hin h).2.2.1;omega) (hin h).2.2.2
 have hsp:X4X f 10 80=true->XU f=0->∀k,1<=k->k<=3->∀d,Con prog 46 true [lV f.vars,li k] (.tup [li (spc f.vars k),li 0]) none d:=fun h h0 k k1 k2=>
  Zc f.vars k ⟨k1,k2⟩ (Qz (XA h0).2.1) (hin h).1 (Xbb (XA h0).2.1 k k1 k2)
 have hbd:X4X f 10 80=true->XU f=0->∀d,Con prog 65 true [lS f.body] (.tup [li (bdL CR f.body ⟨0,0,0⟩).s,li (bdL CR f.body ⟨0,0,0⟩).o,li (bdL CR f.body ⟨0,0,0⟩).t]) none d:=fun h h0=>
  X3J f.body (by have:=(hin h).2.2.1;omega) (X1P _ _ (XA h0).2.2.2.1)
 obtain⟨res,hres⟩:∃r,fitB f a b c=r:=⟨_,rfl⟩;rw[hres];unfold fitB at hres;obtain⟨vars,hats,body⟩:=f;simp only at hsp hbd hres;obtain⟨FW,hFW⟩:∃x,X4X ⟨vars,hats,body⟩ 10 80=x:=⟨_,rfl⟩;obtain⟨K,hK⟩:∃x,XU ⟨vars,hats,body⟩=x:=⟨_,rfl⟩;obtain⟨S1,h1⟩:∃x,spc vars 1=x:=⟨_,rfl⟩;obtain⟨S2,h2⟩:∃x,spc vars 2=x:=⟨_,rfl⟩;obtain⟨S3,h3⟩:∃x,spc vars 3=x:=⟨_,rfl⟩;have q1:=fun h h0=>hsp h h0 1 (by decide) (by decide);have q2:=fun h h0=>hsp h h0 2 (by decide) (by decide);have q3:=fun h h0=>hsp h h0 3 (by decide) (by decide);obtain⟨⟨bs,bo,bt⟩,hB⟩:∃x,bdL CR body ⟨0,0,0⟩=x:=⟨_,rfl⟩;rw[hFW]at cf hcc q1 q2 q3 hbd hres;rw[hK]at hcc q1 q2 q3 hbd hres;rw[hB]at hbd hres;rw[h1]at q1 hres;rw[h2]at q2 hres;rw[h3]at q3 hres;simp only at hbd hres;clear hFW hK h1 h2 h3 hB hsp hin;refine X2 Tryz.func25 ?_;simp only[Tryz.f25];simp only[aF,Fl.enc,Na,Nb]at cf hcc⊢;refine X4 ?_;rcases FW with _|_
 .clear hcc q1 q2 q3 hbd;subst hres;refine X0<|X0<|(WI [some ⟨true,.v (lb false),none⟩,none] (by simp[*];first|exact⟨rfl,Iff.rfl⟩|exact⟨rfl,trivial⟩|rfl) ?_ ?_)
  .first|exact trivial|exact cf _|simpa using cf _
  refine(XM (fun h2=>?_) fun h2=>?_)
  .exact X7
  exact absurd h2 (by simp)
 have hcc:=hcc rfl;simp only[NF]at hres;refine X0<|X0<|(X7r cf hcc ?_);refine(XM (fun h2=>?_) fun h2=>?_)
 .have hk:¬K=0:=by simpa using h2
  rw[decide_eq_false hk,NY]at hres;subst hres;clear q1 q2 q3 hbd;exact X7
 have hk:K=0:=by simpa using h2
 have q1:=q1 rfl hk;have q2:=q2 rfl hk;have q3:=q3 rfl hk;have hbd:=hbd rfl hk;rw[Nw hk,NF]at hres;clear cf hcc h2 hk;refine X0<|(Xa q1 ?_);refine X0<|(Xa q2 ?_);refine X0<|(Xa q3 ?_);refine X0<|(Xa hbd ?_);refine X4 ?_;subst hres;exact Qd
theorem fit_con (f:Fl) (d:Nat):Con prog 6 true [aF f] (.v (lb (fitB f 16 4 4))) none d:=by
 have cf:=Xb7 f 16 4 4;obtain⟨res,hres⟩:∃r,fitB f 16 4 4=r:=⟨_,rfl⟩;rw[hres]at cf⊢;obtain⟨vars,hats,body⟩:=f;clear hres;refine X2 Tryz.func6 ?_;simp only[Tryz.f6];simp only[aF,Fl.enc,Na,Nb]at cf⊢;refine X4 ?_;refine X0<|(Xa cf ?_);exact Qd
structure Fit (f:Fl) (a b c:Int):Prop where
 hv:f.vars.length<=10
 hh:f.hats.length<=10
 hn:Xe f.body+XN f.hats<=80
 hb:Qm f.body=true
 code:XU f=0
 good:QO f.vars
 s1:spc f.vars 1<=a
 s2:spc f.vars 2<=b
 s3:spc f.vars 3<=c
theorem fit_in {f:Fl} {a b c:Int} (h:fitB f a b c=true):Fit f a b c:=by
 unfold fitB at h;simp only[N4,N7]at h;have hf:=X9s (nodes:=80) (by decide) h.1;exact⟨by omega,by omega,by omega,hf.2.2.2,h.2.1,Qz (XA h.2.1).2.1,h.2.2.1.1.1,h.2.2.1.1.2,h.2.2.1.2⟩
theorem outs_len {f:Fl} {i:Inp} (hb:Qm f.body=true):(ZO f i).1.outs.length<=1000000000:=by
 unfold ZO WP;split
 .rename_i h0;split
  .rename_i hc;split
   .have h1:=(X6H hb (by assumption)).2.1;have h2:=(W4 f.vars (Qw (stL i f.vars 0 0 0 [] true).1 f.hats) f.body ⟨(stL i f.vars 0 0 0 [] true).1,[],0⟩).2;simp only[List.length_nil]at h2⊢;omega
   simp[st0]
  simp[st0]
 simp
theorem Xa6 (t:Tm):t.nodes<=1000000000->∀d:Nat,Con prog 77 true [aT t,aT t] (.v (lb true)) none d:=by
 induction t using Tm.ind with
 |h o n ks ih=>
 intro hn d;simp only[Tm.nodes]at hn;have hlen:=Qy ks;refine X2 Tryz.func77 ?_;simp only[Tryz.f77];simp only[aT,Tm.enc];refine X4 ?_;refine X0<|(X8 (fun h2=>?_) fun h2=>?_)
 .exact absurd h2 (by simp)
 refine X0<|X0<|X1 ?_;refine X3<|(Xb [2,3] (fun(x:Nat)=>[(5,.v (li x))]) (fun(x:Nat)=>[(2,.box [.c (iC o),.c (iC n),.c (.sl 3 (Xg ks))]),(3,.box [.c (iC o),.c (iC n),.c (.sl 3 (Xg ks))])]) (fun(x:Nat)=>x<=ks.length) (fun(x:Nat)=>ks.length - x) (0:Nat) (Nc _) ?_);rintro k hk;simp only[LN,Nat.reduceBEq,Nat.reduceLT];refine X0<|(Xc (fun h8=>X6 ?_) fun h8=>?_)
 .have hlt:k<ks.length:=by omega
  obtain⟨⟨eo,en,ek⟩,he,hd⟩:=Xw hlt;have he':=Qc he;simp only[Tm.enc]at he';have hw1:=Xz hlt (by omega);have hk1:k+1<=ks.length:=hlt;have hmem:Tm.mk eo en ek∈ks:=N3 he;have hnm:=W3 hmem;have c:=ih _ hmem (by omega);clear hlt h8 ih hmem hnm;refine X0<|X3<|X0<|(Xx [⟨true,.v (lb true),none⟩] (by kernel_rfl) (by kernel_rfl) (by rfl) (by simp[*];first|exact⟨rfl,Iff.rfl⟩|exact⟨rfl,trivial⟩|rfl) ?_ ?_)
  .first|exact c _|exact trivial|simpa[*]using c _
  refine(XM (fun h10=>?_) fun h10=>?_)
  .exact absurd h10 (by simp)
  refine X1 ?_;exact Xj (k+1) (hk1)
 refine(Xd ?_);exact X7
theorem X9z (l:List Int) (hl:l.length<=1000000000) (d:Nat):Con prog 61 true [lI l,lI l] (.v (lb true)) none d:=by
 refine X2 Tryz.func61 ?_;simp only[Tryz.f61];refine X4 ?_;refine X0<|(X8 (fun h2=>?_) fun h2=>?_)
 .exact absurd h2 (by simp)
 refine X0<|X0<|X1 ?_;refine X3<|(Xb [0,1] (fun(x:Nat)=>[(5,.v (li x))]) (fun(x:Nat)=>[]) (fun(x:Nat)=>x<=l.length) (fun(x:Nat)=>l.length - x) (0:Nat) (Nc _) ?_);rintro k hk;simp only[LN,Nat.reduceBEq,Nat.reduceLT];refine X0<|(Xc (fun h8=>X6 ?_) fun h8=>?_)
 .have hlt:k<l.length:=by omega
  obtain⟨x,he,hd⟩:=Xw hlt;have hw1:=Xz hlt (by omega);have hk1:k+1<=l.length:=hlt;clear hlt h8;refine X0<|X3<|X0<|(N0 ?_);refine(XM (fun h10=>?_) fun h10=>?_)
  .exact absurd h10 (by simp)
  refine X1 ?_;exact Xj (k+1) (hk1)
 refine(Xd ?_);exact X7
theorem eqS_con (l:List St):Xe l<=1000000000->Qm l=true->∀d:Nat,Con prog 76 true [lS l,lS l] (.v (lb true)) none d:=by
 revert l
 apply St.lists;intro l ih hn hbn d;have hlen:=XB l;refine X2 Tryz.func76 ?_;simp only[Tryz.f76];refine X4 ?_;refine X0<|(X8 (fun h2=>?_) fun h2=>?_)
 .exact absurd h2 (by simp)
 refine X0<|X0<|X1 ?_;refine X3<|(Xb [0,1] (fun(x:Nat)=>[(5,.v (li x))]) (fun(x:Nat)=>[]) (fun(x:Nat)=>x<=l.length) (fun(x:Nat)=>l.length - x) (0:Nat) (Nc _) ?_);rintro k hk;simp only[LN,Nat.reduceBEq,Nat.reduceLT];refine X0<|(Xc (fun h8=>X6 ?_) fun h8=>?_)
 .have hlt:k<l.length:=by omega
  obtain⟨s,he,hd⟩:=Xw hlt;have hw1:=Xz hlt (by omega);have hk1:k+1<=l.length:=hlt;have hmem:s∈l:=N3 he;have hnm:=Q2 hmem;have hbm:=X13 hbn hmem;have ca:=(ih s hmem).1 (by omega);have cb:=(ih s hmem).2 (by omega);have ct:=Xa6 s.term (by omega);have cc:=X9z s.bounds;have he':=Q7 he;obtain⟨sd,sc,sv,sn,⟨so,stn,sks⟩,sa,sb,sbs⟩:=s;simp only[St.then_,St.else_,St.term,St.bounds]at ca cb ct cc;simp only[X01,N4,N7]at hbm;have ca:=ca hbm.2.1;have cb:=cb hbm.2.2;have cc:=cc hbm.1;simp only[St.enc,Tm.enc,List.cons_append,List.nil_append]at he';simp only[aT,Tm.enc,Na,Nb]at ct;clear hlt h8 ih hmem hnm he hd hbm;refine X0<|X3<|X0<|(X2V [(6,6),(7,7),(23,2000000),(24,2000000),(25,2000000)] (by kernel_rfl) (by kernel_rfl) (by rfl) (by simp[evsH,hokB,Qx, *];rfl) ?_);refine ZY [⟨true,.v (lb true),none⟩,⟨true,.v (lb true),none⟩,⟨true,.v (lb true),none⟩,⟨true,.v (lb true),none⟩] ?_ ?_
  .first|exact⟨ct _,cc _,ca _,cb _⟩|exact trivial|(repeat' first|exact trivial|exact ct _|exact cc _|exact ca _|exact cb _|apply And.intro)
  refine(XM (fun h11=>?_) fun h11=>?_)
  .exact absurd h11 (by simp)
  refine X1 ?_;exact Xj (k+1) (hk1)
 refine(Xd ?_);exact X7
theorem eqF_con (f:Fl) (hv:f.vars.length<=1000000) (hh:f.hats.length<=1000000) (hn:Xe f.body+XN f.hats<=900000000) (hb:Qm f.body=true) (d:Nat):
  Con prog 45 true [aF f,aF f] (.v (lb true)) none d:=by
 have cs:=eqS_con f.body (by omega) hb;have ct:=fun(h:Ht) (hm:h∈f.hats)=>Xa6 h.term (by have:=Wz hm;omega);obtain⟨vars,hats,body⟩:=f;simp only at hv hh hn hb cs ct;refine X2 Tryz.func45 ?_;simp only[Tryz.f45];simp only[aF,Fl.enc,Na,Nb];refine X4 ?_;refine X0<|X0<|(Xa cs ?_);refine(XM (fun h2=>?_) fun h2=>?_)
 .exact absurd h2 (by simp)
 refine X0<|X0<|X1 ?_;refine X3<|(Xb [2,3] (fun(x:Nat)=>[(5,.v (li x))]) (fun(x:Nat)=>[(2,.box [.c (.sl 5 (Xr vars)),.c (.sl 6 (Xu hats)),.c (.sl 10 (Xf body))]),(3,.box [.c (.sl 5 (Xr vars)),.c (.sl 6 (Xu hats)),.c (.sl 10 (Xf body))])]) (fun(x:Nat)=>x<=vars.length) (fun(x:Nat)=>vars.length - x) (0:Nat) (Nc _) ?_);rintro k hk;simp only[LN,Nat.reduceBEq,Nat.reduceLT];refine X0<|(Xc (fun h8=>X6 ?_) fun h8=>?_)
 .have hlt:k<vars.length:=by omega
  obtain⟨v,he,hd⟩:=Xw hlt;have hw1:=Xz hlt (by omega);have hk1:k+1<=vars.length:=hlt;clear hlt h8 hd;refine X0<|X3<|X0<|(N0 ?_);refine(XM (fun h10=>?_) fun h10=>?_)
  .exact absurd h10 (by simp)
  refine X1 ?_;exact Xj (k+1) (hk1)
 refine(Xd ?_);refine X0<|X0<|X1 ?_;refine X3<|(Xb [2,3] (fun(x:Nat)=>[(6,.v (li x))]) (fun(x:Nat)=>[(2,.box [.c (.sl 5 (Xr vars)),.c (.sl 6 (Xu hats)),.c (.sl 10 (Xf body))]),(3,.box [.c (.sl 5 (Xr vars)),.c (.sl 6 (Xu hats)),.c (.sl 10 (Xf body))])]) (fun(x:Nat)=>x<=hats.length) (fun(x:Nat)=>hats.length - x) (0:Nat) (Nc _) ?_);rintro k hk;simp only[LN,Nat.reduceBEq,Nat.reduceLT];refine X0<|(Xc (fun h18=>X6 ?_) fun h18=>?_)
 .have hlt:k<hats.length:=by omega
  obtain⟨h,he,hd⟩:=Xw hlt;have hw1:=Xz hlt (by omega);have hk1:k+1<=hats.length:=hlt;have ct:=ct h (N3 he);obtain⟨nm,lo,hi,⟨o,tn,ks⟩⟩:=h;simp only[aT,Tm.enc,Na,Nb]at ct;clear hlt h18 hd;refine X0<|X3<|X0<|(X2V [(58,2),(63,3),(7,7),(8,8),(64,2000000),(65,2000000),(66,2000000)] (by kernel_rfl) (by kernel_rfl) (by rfl) (by simp[evsH,hokB,Qx, *];rfl) ?_);refine X0<|(Xa ct ?_);refine(XM (fun h21=>?_) fun h21=>?_)
  .exact absurd h21 (by simp)
  refine X1 ?_;exact Xj (k+1) (hk1)
 refine(Xd ?_);exact X7
end Go.Proofs.YtdccocolnaklkaaGreatDoor
