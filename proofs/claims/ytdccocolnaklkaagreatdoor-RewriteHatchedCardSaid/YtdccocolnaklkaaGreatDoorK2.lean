/- Contracts of functions and plain facts about what they compute. Conditions: as each theorem states. -/
import Derived.Test.YtdccocolnaklkaaGreatDoorK1
set_option linter.unusedSimpArgs false
set_option linter.unusedVariables false
set_option linter.unnecessarySimpa false
set_option maxRecDepth 100000
set_option maxHeartbeats 2000000
namespace Go.Proofs.YtdccocolnaklkaaGreatDoor
open Go Go.Hl
open Tryz(prog)
@[simp] theorem take_encV (l:List Vr) (i:Nat):(Xr l).take i=Xr (l.take i):=by simp[Xr]
@[simp] theorem encV_snoc (l:List Vr) (v:Vr):Xr (l++[v])=Xr l++[v.enc]:=by simp[Xr]
theorem Z2 {T:Type} {l:List T} {k:Nat} {x:T} (h:l[k]? =some x):l.take (k+1)=l.take k++[x]:=by
 rw[List.take_add_one,h];rfl
theorem X5D (s:ByteArray) (d:Nat):Con prog 99 true [sv s] (.v (lb (X0P s))) none d:=by
 refine X2 Tryz.func99 ?_;simp only[Tryz.f99];refine X4 ?_;refine X0<|(X8 (fun h2=>?_) fun h2=>?_)
 .have hz:X0P s=false:=by
   unfold X0P;rw[Nn,Nn];simp only[Nd];omega
  exact X7
 have h1:1<=s.size:=by omega
 have h40:s.size<=40:=by omega
 refine X0<|X0<|X1 ?_;refine X3<|(Xb [0] (fun(x:Nat)=>[(3,.v (li x))]) (fun(x:Nat)=>[]) (fun(x:Nat)=>x<=s.size/\∀j:Nat,j<x->X3n s j=true) (fun(x:Nat)=>s.size - x) (0:Nat) ⟨Nc _,fun j hj=>absurd hj (Dk j)⟩ ?_);rintro k ⟨hk,hall⟩;simp only[LN,Nat.reduceBEq,Nat.reduceLT];refine X0<|(Xc (fun h8=>X6 ?_) fun h8=>?_)
 .have hlt:k<s.size:=by omega
  obtain⟨b,hb⟩:=X5Z hlt;have hw:=Xz hlt (by omega);have hk1:k+1<=s.size:=hlt;clear hlt h8;refine X0<|X3<|X0<|X1 ?_;refine X4 ?_;refine X4 ?_;refine(X8 (fun h13=>?_) fun h13=>?_)
  .have hbad:X3n s k=false:=by
    unfold X3n;rw[hb];simp only[NH,Nn,Nd];omega
   have hz:=X5G hk1 hbad;exact X7
  have hgood:X3n s k=true:=by
   unfold X3n;rw[hb];simp only[Ng,N4,N7];omega
  refine X1 ?_;exact Xj (k+1) (⟨by omega,fun j hj=>(Nat.lt_succ_iff_lt_or_eq.1 hj).elim (hall j) (fun e=>e▸hgood)⟩)
 have hz:=X47 h1 h40 (fun j hj=>hall j (by omega));refine(Xd ?_);exact X7
def sz (v:Vr):Int:=v.high - v.low+1
def prV:List Vr->Int->Int
 |[],n=>n
 |v::l,n=>if 4096<n*sz v then 4097 else prV l (n*sz v)
def spc (vars:List Vr) (kind:Int):Int:=prV (vars.filter fun v=>decide (v.kind=kind)) 1
def QO (vars:List Vr):Prop:=∀v∈vars,v.low<=v.high∧-1048576<=v.low/\v.high<=1048576
theorem X4U {vars:List Vr} (h:QO vars) {v:Vr} (hv:v∈vars):1<=sz v/\sz v<=2097153:=by
 have:=h v hv;unfold sz;omega
theorem X6m {n s:Int} (h1:1<=n/\n<=4096) (h2:1<=s/\s<=2097153):1<=n*s/\n*s<=8589938688:=by
 have h3:n.natAbs*s.natAbs<=4096*2097153:=Nat.mul_le_mul (by omega) (by omega);have h4:1*1<=n.natAbs*s.natAbs:=Nat.mul_le_mul (by omega) (by omega);rw[<-Int.natAbs_mul]at h3 h4;have h5:0<=n*s:=Dr (by omega) (by omega);omega
theorem X9g {vars:List Vr} (h:QO vars):∀(l:List Vr) (n:Int),(∀v∈l,v∈vars)->1<=n/\n<=4096->1<=prV l n/\prV l n<=4097
 |[],n,_,hn=>by simp only[prV];omega
 | v::l,n,hl,hn=>by
   simp only[prV];have:=X6m hn (X4U h (hl v (by simp)));split
   .omega
   exact X9g h l _ (fun w hw=>hl w (Nx _ hw)) (by omega)
theorem X1K (vars:List Vr) (kind:Int) (hv:QO vars) (hl:vars.length<=1000000000) (d:Nat):Con prog 131 true [lV vars,li kind] (.v (li (spc vars kind))) none d:=by
 obtain⟨res,hres⟩:∃r,spc vars kind=r:=⟨_,rfl⟩;rw[hres];unfold spc at hres;refine X2 Tryz.func131 ?_;simp only[Tryz.f131];refine X4 ?_;refine X4 ?_;refine X0<|X0<|X1 ?_;refine X3<|(Xb [0,1] (fun(x:Nat×Int)=>[(5,.v (li x.2)),(6,.v (li x.1))]) (fun(x:Nat×Int)=>[]) (fun(x:Nat×Int)=>x.1<=vars.length/\prV ((vars.drop x.1).filter fun v=>decide (v.kind=kind)) x.2=res/\1<=x.2/\x.2<=4096) (fun(x:Nat×Int)=>vars.length - x.1) (0,1) ⟨Nc _,hres,by decide,by decide⟩ ?_);rintro⟨k,n⟩ ⟨hk,hJ,hn1,hn2⟩;simp only[LN,Nat.reduceBEq,Nat.reduceLT];simp only at hk hJ hn1 hn2;clear hres;refine X0<|(Xc (fun h5=>X6 ?_) fun h5=>?_)
 .have hlt:k<vars.length:=by omega
  obtain⟨v,he,hd⟩:=Xw hlt;have hw1:=Xz hlt (by omega);have hk1:k+1<=vars.length:=hlt;have hmem:v∈vars:=N3 he;have hs:=X4U hv hmem;have hm:=X6m ⟨hn1,hn2⟩ hs;have hb:=hv v hmem;have hw2:IntKind.i64.wrap (v.high - v.low)=v.high - v.low:=X5;have hw3:IntKind.i64.wrap (v.high - v.low+1)=sz v:=by rw[X5 (by omega) (by omega)];rfl
  have hw4:IntKind.i64.wrap (n*sz v)=n*sz v:=X5;rw[hd]at hJ;clear hlt h5 hv;refine X0<|X3<|X0<|(X8 (fun h7=>?_) fun h7=>?_)
  .rw[NL (by simpa using h7)]at hJ;refine(Xd ?_);refine X1 ?_;exact Xj ((k+1,n)) (⟨hk1,hJ,hn1,hn2⟩) (hm:=by simp only;omega)
  rw[Dc (by simpa using h7)]at hJ;simp only[prV]at hJ;refine X0<|(N0 ?_);refine(X8 (fun h12=>?_) fun h12=>?_)
  .rw[N9 h12]at hJ;subst hJ;exact X7
  rw[N6 h12]at hJ;refine X1 ?_;exact Xj ((k+1,n*sz v)) (⟨hk1,hJ,hm.1,by simp only;omega⟩) (hm:=by simp only;omega)
 have hkl:k=vars.length:=by omega
 rw[hkl,Nj]at hJ;simp only[List.filter_nil,prV]at hJ;refine(Xd ?_);refine X4 ?_;exact(Qd (he:=by subst hJ;rfl))
theorem Xbd (v:Vr) (hv:-1048576<=v.low/\v.low<=v.high/\v.high<=1048576) (d:Nat):Con prog 152 true [aV v] (.v (li (sz v))) none d:=by
 have hw2:IntKind.i64.wrap (v.high - v.low)=v.high - v.low:=X5;have hw3:IntKind.i64.wrap (v.high - v.low+1)=sz v:=by rw[X5 (by omega) (by omega)];rfl
 refine X2 Tryz.func152 ?_;simp only[Tryz.f152];refine X4 ?_;exact X7
def chR (vars:List Vr) (kind:Int):RV:=if spc vars kind<=4096 then .tup [.one (.c (.sl 5 (Xr (vars.filter fun v=>decide (v.kind=kind))))),li (spc vars kind),li 0] else .tup [.one (.c (.lit XR)),li 0,li 4]
theorem X8Y (vars:List Vr) (kind:Int) (hkd:1<=kind/\kind<=3) (hv:QO vars) (hl:vars.length<=1000000) (d:Nat):Con prog 134 false [lV vars,li kind] (chR vars kind) none d:=by
 obtain⟨S,hS⟩:∃S,vars.filter (fun v=>decide (v.kind=kind))=S:=⟨_,rfl⟩;obtain⟨res,hres⟩:∃r,spc vars kind=r:=⟨_,rfl⟩;unfold chR;rw[hres,hS];unfold spc at hres;rw[hS]at hres;refine X2 Tryz.func134 ?_;simp only[Tryz.f134];refine X4 ?_;refine(XY [0,1] (fun(z:Unit)=>[]) (fun(z:Unit)=>[]) (fun(z:Unit)=>True) ?_ ?_)
 .refine X4 ?_;refine X3<|(XY [0,1] (fun(z:Bool)=>[(14,.v (lb z))]) (fun(z:Bool)=>[]) (fun(z:Bool)=>z=true) ?_ ?_)
  .refine(Xc (fun h5=>X6 ?_) fun h5=>?_)
   .exact Xv (true) (rfl)
   refine(Xc (fun h8=>X6 ?_) fun h8=>?_)
   .exact Xv (true) (rfl)
   refine(Xc (fun h11=>X6 ?_) fun h11=>?_)
   .exact Xv (true) (rfl)
   refine X1 ?_;have hz:decide (kind=3)=true:=by rw[N7];omega
   exact Xv (true) (rfl)
  rintro _ rfl;simp only[LN,Nat.reduceBEq,Nat.reduceLT];refine(QR (fun h15=>X6 ?_) fun h15=>?_)
  .exact Xv (()) (trivial)
  exact absurd h15 (by simp)
 rintro z hz;simp only[LN,Nat.reduceBEq,Nat.reduceLT];refine X4 ?_;refine X0<|X0<|X1 ?_;refine X3<|(Xb [1,19,20] (fun(x:Nat×List Vr)=>[(7,.v (.one (.own 1007))),(21,.v (li x.1))]) (fun(x:Nat×List Vr)=>[(1007,.row 60 5 (Xr x.2))]) (fun(x:Nat×List Vr)=>x.1<=vars.length/\x.2=(vars.take x.1).filter fun v=>decide (v.kind=kind)) (fun(x:Nat×List Vr)=>vars.length - x.1) (0,[]) ⟨Nc _,by simp⟩ ?_ (QJ (fun n=>n) [1007] rfl (by simp[upS,Ql]) (by simp[upS,Xr]) (by simp[upS])));rintro⟨k,acc⟩ ⟨hk,hJ⟩;simp only[LN,Nat.reduceBEq,Nat.reduceLT];simp only at hk hJ;replace hJ:=hJ.symm;refine(XS (fun h23=>X6 ?_) fun h23=>?_)
 .have hlt:k<vars.length:=by omega
  obtain⟨v,he,hd⟩:=Xw hlt;have hw1:=Xz hlt (by omega);have hk1:k+1<=vars.length:=hlt;have hmem:v∈vars:=N3 he;have hb:=hv v hmem;have ht:=Z2 he;generalize hT:(vars.take k).filter (fun v=>decide (v.kind=kind))=T at hJ
  have hal:acc.length<=k:=by
   rw[<-hJ,<-hT];exact Dj (List.length_filter_le _ _) (by rw[Ns];omega)
  have hroom:QF (acc.length+1) 48:=XO (by omega) (by omega);clear hlt h23 hv;refine X0<|X3<|X0<|X1 ?_;refine X0<|(X8 (fun h26=>?_) fun h26=>?_)
  .have hf:(vars.take (k+1)).filter (fun v=>decide (v.kind=kind))=acc:=by rw[ht,Dp,hT,hJ,NL (by simpa using h26)];simp
   clear hS;refine(Xd ?_);refine X1 ?_;exact Xj ((k+1,acc)) (⟨hk1,hf.symm⟩) (hm:=by simp only;omega)
  have hf:(vars.take (k+1)).filter (fun v=>decide (v.kind=kind))=acc++[v]:=by rw[ht,Dp,hT,hJ,Dc (by simpa using h26)];simp
  clear hS;refine X0<|X0<|X1 ?_;refine(HT_cs rfl (fun h30=>?_) fun h30=>?_)
  .exfalso;simp only[Ng,N7]at h30;omega
  (try simp only[BN]at h30);refine X1 ?_;refine X1 ?_;exact Xj ((k+1,acc++[v])) (⟨hk1,hf.symm⟩) (hm:=by simp only;omega)
 have hkl:k=vars.length:=by omega
 rw[hkl,List.take_length,hS]at hJ;subst hJ;have hSl:S.length<=1000000:=by rw[<-hS];exact Dj (List.length_filter_le _ _) hl
 have hSv:∀v∈S,v.low<=v.high∧-1048576<=v.low/\v.high<=1048576:=fun v h=>hv v (by rw[<-hS]at h;exact(Dv.1 h).1);clear hS hv hk hl h23 hkl;refine(Xd ?_);refine X4 ?_;refine X0<|X0<|X1 ?_;refine X3<|(Xb [7,49,50] (fun(x:Nat×Int)=>[(10,.v (li x.2)),(51,.v (li x.1))]) (fun(x:Nat×Int)=>[(1007,.row 60 5 (Xr S))]) (fun(x:Nat×Int)=>x.1<=S.length/\prV (S.drop x.1) x.2=res/\1<=x.2/\x.2<=4096) (fun(x:Nat×Int)=>S.length - x.1) (0,1) ⟨Nc _,hres,by decide,by decide⟩ ?_);rintro⟨k2,n⟩ ⟨hk2,hJ,hn1,hn2⟩;simp only[LN,Nat.reduceBEq,Nat.reduceLT];simp only at hk2 hJ hn1 hn2;clear hres;refine(XS (fun h40=>X6 ?_) fun h40=>?_)
 .have hlt:k2<S.length:=by omega
  obtain⟨v,he,hd⟩:=Xw hlt;have hw1:=Xz hlt (by omega);have hk1:k2+1<=S.length:=hlt;have hb:=hSv v (N3 he);have hs:1<=sz v/\sz v<=2097153:=by unfold sz;omega
  have hm:=X6m ⟨hn1,hn2⟩ hs;have hw4:IntKind.i64.wrap (n*sz v)=n*sz v:=X5;rw[hd]at hJ;simp only[prV]at hJ;clear hlt h40;refine X0<|X3<|X0<|X1 ?_;refine X0<|(Xa (Xbd v ⟨hb.2.1,hb.1,hb.2.2⟩) ?_);refine(X8 (fun h44=>?_) fun h44=>?_)
  .rw[N9 h44]at hJ;subst hJ;refine X4 ?_;exact Xn ⟨.inr rfl,_,le_refl _,⟨⟨_,by simp;rfl,by simp[Xl]⟩,by simp,fun h=>by cases h⟩⟩
  rw[N6 h44]at hJ;refine X1 ?_;exact Xj ((k2+1,n*sz v)) (⟨hk1,hJ,hm.1,by simp only;omega⟩) (hm:=by simp only;omega)
 have hkl:k2=S.length:=by omega
 rw[hkl,Nj]at hJ;simp only[prV]at hJ;subst hJ;refine(Xd ?_);refine X4 ?_;exact Xn ⟨.inr rfl,_,XL 1007 rfl,⟨⟨_,by simp;rfl,by simp[Xl,hn2]⟩,by simp,fun h=>by cases h⟩⟩
theorem X8L (vars:List Vr) (kind:Int) (hkd:1<=kind/\kind<=3) (hv:QO vars) (hl:vars.length<=1000000) (d:Nat):Con prog 108 true [lV vars,li kind]
  (.tup [li (if spc vars kind<=4096 then spc vars kind else 0),li (if spc vars kind<=4096 then 0 else 4)]) none d:=by
 have c:=X8Y vars kind hkd hv hl;unfold chR at c;obtain⟨res,hres⟩:∃r,spc vars kind=r:=⟨_,rfl⟩;rw[hres]at c⊢;clear hres;by_cases h:res<=4096
 .rw[N9 h]at c;rw[N9 h,N9 h];refine X2 Tryz.func108 ?_;simp only[Tryz.f108];refine X4 ?_;refine X0<|(Xa c ?_);exact X7
 rw[N6 h]at c;rw[N6 h,N6 h];refine X2 Tryz.func108 ?_;simp only[Tryz.f108];refine X4 ?_;refine X0<|(Xa c ?_);exact X7
theorem idxV_con (l:List Vr) (g:FuncId) (cap:List CD) (p:Vr->Bool) (hl:l.length<=1000000000) (hp:∀v∈l,∀d,Con prog g true (aV v::cap.map fun c=>.one (.c c)) (.v (lb (p v))) none d) (d:Nat):
  ∃r:Int,(∀d,Con prog 74 true [lV l,.one (.c (.fn g cap))] (.v (li r)) none d)/\(0<=r↔l.any p=true):=by
 let rec_:List Vr->Int->Int:=fun l k=>match l.findIdx? p with
  |some i=>k+i
  |none=>-1
 refine⟨(match l.findIdx? p with|some i=>(i:Int)|none=>-1),fun d=>?_,?_⟩
 .have hstep:∀k:Nat,(∀j:Nat,j<k->∀v,l[j]? =some v->p v=false)->∀v,l[k]? =some v->p v=true->l.findIdx? p=some k:=by
   intro k hno v hv hpv;rw[List.findIdx?_eq_some_iff_getElem];have hk:k<l.length:=(N5.1 hv).1;refine⟨hk,?_,fun j hj=>?_⟩
   .simp only[Nr hk,Option.some.injEq]at hv;rw[hv];exact hpv
   have:=hno j hj l[j] (by simp);simp[this]
  have hnone:(∀j:Nat,j<l.length->∀v,l[j]? =some v->p v=false)->l.findIdx? p=none:=by
   intro hno;rw[List.findIdx?_eq_none_iff];intro v hv;obtain⟨j,hj⟩:=Nu.1 hv;exact hno j (N5.1 hj).1 v hj
  clear rec_;refine X2 Tryz.func74 ?_;simp only[Tryz.f74];refine X4 ?_;refine X0<|X0<|X1 ?_;refine X3<|(Xb [0,1,7] (fun(x:Nat)=>[(8,.v (li x))]) (fun(x:Nat)=>[]) (fun(x:Nat)=>x<=l.length/\∀j:Nat,j<x->∀v,l[j]? =some v->p v=false) (fun(x:Nat)=>l.length - x) (0:Nat) ⟨Nc _,fun j hj=>absurd hj (Dk j)⟩ ?_);rintro k ⟨hk,hJ⟩;simp only[LN,Nat.reduceBEq,Nat.reduceLT];refine(XS (fun h4=>X6 ?_) fun h4=>?_)
  .have hlt:k<l.length:=by omega
   obtain⟨v,he,hd⟩:=Xw hlt;have hw1:=Xz hlt (by omega);have hk1:k+1<=l.length:=hlt;have hpv:=hp v (N3 he);have hs:=hstep k hJ v he;clear hlt h4 hstep hnone hp;refine X0<|X3<|X0<|X1 ?_;refine X0<|(Xa hpv ?_);refine(XM (fun h7=>?_) fun h7=>?_)
   .rw[hs h7];exact X7
   refine X1 ?_;exact Xj (k+1) (⟨hk1,fun j hj w hw=>(Nat.lt_succ_iff_lt_or_eq.1 hj).elim (fun h=>hJ j h w hw) (fun e=>by subst e;rw[he]at hw;cases hw;exact h7)⟩)
  rw[hnone fun j hj=>hJ j (by omega)];refine(Xd ?_);exact X7
 rw[List.any_eq];cases h:l.findIdx? p with
 | none=>
   rw[List.findIdx?_eq_none_iff]at h;simp only[N7];constructor
   .intro h;omega
   rintro⟨v,hv,hpv⟩;have:=h v hv;rw[hpv]at this;cases this
 | some i=>
   rw[List.findIdx?_eq_some_iff_getElem]at h;obtain⟨hi,hpi,_⟩:=h;simp only[N7];exact⟨fun _=>⟨l[i],Di _,hpi⟩,fun _=>by omega⟩
theorem conV_con (l:List Vr) (g:FuncId) (cap:List CD) (p:Vr->Bool) (hl:l.length<=1000000000) (hp:∀v∈l,∀d,Con prog g true (aV v::cap.map fun c=>.one (.c c)) (.v (lb (p v))) none d) (d:Nat):
  Con prog 30 true [lV l,.one (.c (.fn g cap))] (.v (lb (l.any p))) none d:=by
 obtain⟨r,hr,hi⟩:=idxV_con l g cap p hl hp 0;have hd:decide (0<=r)=l.any p:=by rw[D9,N7];exact hi
 clear hi hp;refine X2 Tryz.func30 ?_;simp only[Tryz.f30];refine X4 ?_;refine X0<|(Xa hr ?_);exact Qd
theorem Xbh (w v:Vr) (d:Nat):Con prog 105 true [aV w,.one (.c (.ptr v.enc))] (.v (lb (decide (w.name=v.name)))) none d:=by
 refine X2 Tryz.func105 ?_;simp only[Tryz.f105];refine X4 ?_;exact X7
def WQ (l:List Int) (i:Nat):Bool:=
 match l[i]?,l[i+1]? with
 |some a,some b=>decide (a<b)
 |_,_=>true
def Z5 (l:List Int):Bool:=(List.range l.length).all (WQ l)
theorem X3V {l:List Int} {i:Nat} (hi:i<l.length) (h:WQ l i=false):Z5 l=false:=by
 unfold Z5;rw[List.all_eq_false];exact⟨i,by simpa using hi,by simp[h]⟩
theorem X1d {l:List Int} (h:∀i:Nat,i+1<l.length->WQ l i=true):Z5 l=true:=by
 unfold Z5;rw[Nh];intro i hi;simp only[List.mem_range]at hi;by_cases h2:i+1<l.length
 .exact h i h2
 unfold WQ;rw[NB (i:=i+1) (by omega)];cases l[i]? <;>rfl
theorem X0i {l:List Int} {k:Nat} (h:k<l.length):∃b,l[k]? =some b:=⟨l[k],by simp[h]⟩
theorem X7J (l:List Int) (hl:l.length<=1000000000) (d:Nat):Con prog 141 true [lI l] (.v (lb (Z5 l))) none d:=by
 refine X2 Tryz.func141 ?_;simp only[Tryz.f141];refine X4 ?_;refine X0<|X0<|X1 ?_;refine X3<|(Xb [0,5] (fun(x:Nat)=>[(6,.v (li x))]) (fun(x:Nat)=>[]) (fun(x:Nat)=>x<=l.length/\∀j:Nat,j+1<x->WQ l j=true) (fun(x:Nat)=>l.length - x) (0:Nat) ⟨Nc _,fun j hj=>absurd hj (by omega)⟩ ?_);rintro k ⟨hk,hJ⟩;simp only[LN,Nat.reduceBEq,Nat.reduceLT];refine(XS (fun h4=>X6 ?_) fun h4=>?_)
 .have hlt:k<l.length:=by omega
  obtain⟨b,hb⟩:=X0i hlt;have hw:=Xz hlt hl;have hk1:k+1<=l.length:=hlt;have hk9:k<=1000000000:=by omega
  clear hlt h4;refine X0<|X3<|X0<|X1 ?_;rcases k with _|j
  .have hw1:IntKind.i64.wrap 1=1:=X5;refine X0<|(N0 ?_);refine(XM (fun h7=>?_) fun h7=>?_)
   .exact absurd h7 (by simp)
   refine X1 ?_;exact Xj (1) (⟨hk1,fun j hj=>absurd hj (by omega)⟩)
  have hw1:IntKind.i64.wrap ((j:Int)+1+1)=(j:Int)+1+1:=X5;obtain⟨a,ha⟩:=X0i (show j<l.length by omega);have hwj:IntKind.i64.wrap (j:Int)=j:=X5;have hri:WQ l j=decide (a<b):=by unfold WQ;rw[ha,hb]
  have hj0:(0:Int)<(j:Int)+1:=by omega
  have hj1:0<=(j:Int)+1:=by omega
  have hj2:((j:Int)+1).toNat=j+1:=by omega
  refine X0<|(N0 ?_);refine(XM (fun h7=>?_) fun h7=>?_)
  .have hz:Z5 l=false:=X3V (i:=j) (by omega) (by rw[hri];simpa using h7);exact X7
  refine X1 ?_
  exact Xj (j+1+1) (⟨hk1,fun i hi=>by
   rcases Nat.lt_or_eq_of_le (Nat.le_of_lt_succ hi)with h|h
   .exact hJ i (by omega)
   have:i=j:=by omega
   rw[this,hri]
   simpa using h7⟩)
 have hz:Z5 l=true:=X1d fun i hi=>hJ i (by omega);refine(Xd ?_);exact X7
def X3F (l:List Int):Bool:=
 match l[0]? with
 |some b=>decide (0<=b)
 |none=>false
def Zi (l:List Int):Bool:=(decide (1<=l.length)&&(decide (l.length<=32)&&X3F l))&&Z5 l
theorem X8Z (l:List Int):l=[]\/∃b0,l[0]? =some b0:=by
 cases l with
 |nil=>exact .inl rfl
 |cons b r=>exact .inr ⟨b,rfl⟩
theorem X85 (l:List Int) (hl:l.length<=1000000000) (d:Nat):Con prog 151 true [lI l] (.v (lb (Zi l))) none d:=by
 obtain⟨res,hres⟩:∃r,Zi l=r:=⟨_,rfl⟩;rw[hres];refine X2 Tryz.func151 ?_;simp only[Tryz.f151];refine X4 ?_;rcases X8Z l with h0|⟨b0,hb0⟩
 .subst h0;replace hres:false=res:=hres;refine X0<|(X8 (fun h2=>?_) fun h2=>?_)
  .subst hres;exact X7
  exact absurd h2 (by simp)
 have hh:X3F l=decide (0<=b0):=by unfold X3F;rw[hb0]
 have hpos:1<=l.length:=(N5.1 hb0).1;refine X0<|(X8 (fun h2=>?_) fun h2=>?_)
 .have hz:Zi l=false:=by
   unfold Zi;rw[hh];simp only[Nn,Nd];omega
  rw[hz]at hres;subst hres;exact X7
 have hz:Zi l=Z5 l:=by
  unfold Zi;rw[hh];rw[Nw (by omega),Nw (by omega),Nw (by omega)];rfl
 rw[hz]at hres;have hl32:l.length<=32:=by omega
 clear hz hh h2 hb0;refine X0<|X0<|X1 ?_;refine X3<|(Xb [0] (fun(x:Nat)=>[(3,.v (li ((x:Int)+1)))]) (fun(x:Nat)=>[]) (fun(x:Nat)=>x+1<=l.length/\∀j:Nat,j<x->WQ l j=true) (fun(x:Nat)=>l.length - x) (0:Nat) ⟨hpos,fun j hj=>absurd hj (Dk j)⟩ ?_);rintro k ⟨hk,hJ⟩;simp only[LN,Nat.reduceBEq,Nat.reduceLT];refine X0<|(Xc (fun h8=>X6 ?_) fun h8=>?_)
 .have hlt:k+1<l.length:=by omega
  obtain⟨b,hb⟩:=X0i hlt;obtain⟨a,ha⟩:=X0i (show k<l.length by omega);have hw:IntKind.i64.wrap ((k:Int)+1+1)=(k:Int)+1+1:=X5;have hwj:IntKind.i64.wrap (k:Int)=k:=X5;have hri:WQ l k=decide (a<b):=by unfold WQ;rw[ha,hb]
  have hj1:0<=(k:Int)+1:=by omega
  have hj2:((k:Int)+1).toNat=k+1:=by omega
  have hk1:k+1+1<=l.length:=hlt;clear hlt h8;refine X0<|X3<|X0<|(N0 ?_);refine(XM (fun h10=>?_) fun h10=>?_)
  .have hz:Z5 l=false:=X3V (i:=k) (by omega) (by rw[hri];simpa using h10);exact X7
  refine X1 ?_
  exact Xj (k+1) (⟨hk1,fun i hi=>by
   rcases Nat.lt_or_eq_of_le (Nat.le_of_lt_succ hi)with h|h
   .exact hJ i h
   rw[h,hri]
   simpa using h10⟩)
 have hz:Z5 l=true:=X1d fun i hi=>hJ i (by omega);refine(Xd ?_);exact X7
def Wu:Tm->Bool
 | .mk o n ks=>decide (o=0)&&(decide (n=0)&&decide (ks.length=0))
theorem X8S (t:Tm) (d:Nat):Con prog 150 true [aT t] (.v (lb (Wu t))) none d:=by
 obtain⟨o,n,ks⟩:=t;refine X2 Tryz.func150 ?_;simp only[Tryz.f150];simp only[aT,Tm.enc];refine X4 ?_;refine X4 ?_;exact(Qd (he:=by first|rfl|(simp[*,Wu,NR];done)|(simp only[Xl,Wu,NR];(repeat' split)<;>first|rfl|(exfalso;omega)|simp_all)))
theorem X9j (t:Tm) (d:Nat):Con prog 140 true [aT t] (.v (lb (Wu t))) none d:=by
 obtain⟨o,n,ks⟩:=t;refine X2 Tryz.func140 ?_;simp only[Tryz.f140];simp only[aT,Tm.enc];refine X4 ?_;refine X4 ?_;exact(Qd (he:=by first|rfl|(simp[*,Wu,NR];done)|(simp only[Xl,Wu,NR];(repeat' split)<;>first|rfl|(exfalso;omega)|simp_all)))
def uVB (d:Int):Bool:=decide (d=0)||decide (d=5)
def uNB (d:Int):Bool:=decide (d=4)||decide (d=5)
def uTB (d:Int):Bool:=decide (d=0)||(decide (d=1)||(decide (d=3)||decide (d=4)))
theorem uV_con (a:Int) (d:Nat):Con prog 137 true [li a] (.v (lb (uVB a))) none d:=by
 refine X2 Tryz.func137 ?_;simp only[Tryz.f137];refine X4 ?_;refine X4 ?_;exact(Qd (he:=by first|rfl|(simp[*,uVB];done)|(simp only[Xl,uVB];(repeat' split)<;>first|rfl|(exfalso;omega)|simp_all)))
theorem uN_con (a:Int) (d:Nat):Con prog 138 true [li a] (.v (lb (uNB a))) none d:=by
 refine X2 Tryz.func138 ?_;simp only[Tryz.f138];refine X4 ?_;refine X4 ?_;exact(Qd (he:=by first|rfl|(simp[*,uNB];done)|(simp only[Xl,uNB];(repeat' split)<;>first|rfl|(exfalso;omega)|simp_all)))
theorem uT_con (a:Int) (d:Nat):Con prog 139 true [li a] (.v (lb (uTB a))) none d:=by
 refine X2 Tryz.func139 ?_;simp only[Tryz.f139];refine X4 ?_;refine X4 ?_;exact(Qd (he:=by first|rfl|(simp[*,uTB,Bool.or_assoc];done)|(simp only[Xl,uTB,Bool.or_assoc];(repeat' split)<;>first|rfl|(exfalso;omega)|simp_all)))
def QE (vars:List Vr) (v:Int):Bool:=decide (0<=v)&&(match vars[v.toNat]? with|some w=>decide (w.kind=0)|none=>false)
def shB (vars:List Vr) (nh:Nat) (d v n:Int) (t:Tm) (la lb_:Nat) (bs:List Int) (last:Bool):Bool:=
 if d=0 then((decide (la=0)&&decide (lb_=0))&&QE vars v&&decide (n=0))&&decide (bs.length=0)
 else if d=1 then((decide (la=0)&&decide (lb_=0))&&decide (v=0)&&decide (n=0))&&decide (bs.length=0)
 else if d=2 then(((decide (la=0)&&decide (lb_=0))&&decide (v=0)&&decide (n=0))&&decide (bs.length=0))&&Wu t
 else if d=3 then(decide (v=0)&&decide (n=0))&&decide (bs.length=0)
 else if d=4 then(decide (v=0)&&decide (lb_=0))&&decide (bs.length=0)
 else if d=5 then((((decide (la=0)&&decide (lb_=0))&&QE vars v&&decide (0<=n))&&decide (n<nh))&&decide (bs.length=0))&&Wu t
 else if d=6 then((((decide (la=0)&&decide (lb_=0))&&last&&decide (v=0))&&decide (n=0))&&Wu t)&&Zi bs
 else false
theorem X7z (f:Fl) (s:St) (last:Bool) (hv:f.vars.length<=1000000000) (hb:s.bounds.length<=1000000000) (e:Nat):
  Con prog 133 true [aF f,aS s,lb last] (.v (lb (shB f.vars f.hats.length s.do_ s.var s.n s.term s.then_.length s.else_.length s.bounds last))) none e:=by
 obtain⟨vars,hats,body⟩:=f;obtain⟨d,c,v,n,t,a,b,bs⟩:=s;simp only[St.do_,St.var,St.n,St.term,St.then_,St.else_,St.bounds]at hb⊢;simp only at hv;have c1:=X8S t;have c2:=X85 bs hb;obtain⟨P,hP⟩:∃p,Wu t=p:=⟨_,rfl⟩;obtain⟨R,hR⟩:∃p,Zi bs=p:=⟨_,rfl⟩;obtain⟨la,hla⟩:∃k,a.length=k:=⟨_,rfl⟩;obtain⟨lc,hlc⟩:∃k,b.length=k:=⟨_,rfl⟩;obtain⟨nb,hnb⟩:∃k,bs.length=k:=⟨_,rfl⟩;obtain⟨nv,hnv⟩:∃k,vars.length=k:=⟨_,rfl⟩;obtain⟨nh,hnh⟩:∃k,hats.length=k:=⟨_,rfl⟩;obtain⟨res,hres⟩:∃r,shB vars hats.length d v n t a.length b.length bs last=r:=⟨_,rfl⟩;rw[hres];simp only[shB,hP,hR,hla,hlc,hnb,hnh]at hres;rw[hP]at c1;rw[hR]at c2;obtain⟨o,tn,ks⟩:=t;clear hP hR;simp only[aT,Tm.enc,Na,Nb]at c1;refine X2 Tryz.func133 ?_;simp only[Tryz.f133];simp only[aF,aS,Fl.enc,St.enc,Tm.enc,Na,Nb,List.cons_append,List.nil_append];refine X4 ?_;refine X4 ?_;refine XY [2,3,4,7] (fun(z:Bool)=>[(8,.v (lb z))]) (fun(z:Bool)=>[(3,.box [.c (.sl 5 (Xr vars)),.c (.sl 6 (Xu hats)),.c (.sl 10 (Xf body))]),(4,.box [.c (iC d),.c (iC c),.c (iC v),.c (iC n),.c (iC o),.c (iC tn),.c (.sl 3 (Xg ks)),.c (.sl 10 (Xf a)),.c (.sl 10 (Xf b)),.c (.sl 1 (Xk bs))])]) (fun(z:Bool)=>z=QE vars v) ?_ ?_
 .by_cases h0:0<=v
  .by_cases h1:v<vars.length
   .obtain⟨w,hw⟩:=X2t ⟨h0,h1⟩;have h2:decide (v<(nv:Int))=true:=Nw (by omega);have hz:QE vars v=decide (w.kind=0):=by unfold QE;rw[hw];simp[h0]
    clear h1;refine XF (by simp[*];rfl) ?_;exact⟨decide (w.kind=0),hz.symm,X1c (fun n=>n) []⟩
   have hw:=X0k h0 h1;have h2:¬v<(nv:Int):=by omega
   have hz:QE vars v=false:=by unfold QE;rw[hw];simp
   clear h1;refine XF (by simp[*];rfl) ?_;exact⟨false,hz.symm,X1c (fun n=>n) []⟩
  have hz:QE vars v=false:=by unfold QE;simp[h0]
  refine XF (by simp[*];rfl) ?_;exact⟨false,hz.symm,X1c (fun n=>n) []⟩
 rintro LO hLO;simp only[upS,Ql,insS]
 try simp only[Ql,KN,Nat.reduceBEq,NG,NW,ins,Nat.reduceLT]
 rw[<-hLO]at hres;clear hLO;refine X0<|X0<|X1 ?_;refine X3<|(Xc (fun h5=>?_) fun h5=>?_)
 .refine X4 ?_;exact(Qd (he:=by rw[<-hres];simp[*,Xl,NR]))
 refine(Xc (fun h9=>?_) fun h9=>?_)
 .refine X4 ?_;exact(Qd (he:=by rw[<-hres];simp[*,Xl,NR]))
 refine(Xc (fun h13=>?_) fun h13=>?_)
 .by_cases hg:(la=0/\lc=0)/\v=0/\n=0/\nb=0
  .obtain⟨⟨g1,g2⟩,g3,g4,g5⟩:=hg;refine X0<|(Xa c1 ?_);exact(Qd (he:=by rw[<-hres];simp[*,Xl,NR]))
  have hgb:(decide (la=0)&&decide (lc=0)&&decide (v=0)&&decide (n=0)&&decide (nb=0))=false:=by simp only[Nn,Nd];omega
  clear hg
  have hr:false=res:=by
   rw[<-hres,N6 h5,N6 h9,N9 h13];rw[hgb];rfl
  subst hr;refine X0<|(WI [none] (by simp[*];first|exact⟨rfl,trivial⟩|exact⟨rfl,Iff.rfl⟩|rfl) ?_ ?_)
  .trivial
  exact(Qd (he:=by rfl))
 refine(Xc (fun h17=>?_) fun h17=>?_)
 .refine X4 ?_;exact(Qd (he:=by rw[<-hres];simp[*,Xl,NR]))
 refine(Xc (fun h21=>?_) fun h21=>?_)
 .refine X4 ?_;exact(Qd (he:=by rw[<-hres];simp[*,Xl,NR]))
 refine(Xc (fun h25=>?_) fun h25=>?_)
 .by_cases hg:(la=0/\lc=0)/\LO=true/\0<=n/\n<nh/\nb=0
  .obtain⟨⟨g1,g2⟩,g3,g4,g5,g6⟩:=hg;refine X0<|(Xa c1 ?_);exact(Qd (he:=by rw[<-hres];simp[*,Xl,NR]))
  have hgb:(decide (la=0)&&decide (lc=0)&&LO&&decide (0<=n)&&decide (n<(nh:Int))&&decide (nb=0))=false:=by
   cases LO
   .simp
   simp only[Nn,Nd];simp only[true_and]at hg;omega
  clear hg
  have hr:false=res:=by
   rw[<-hres,N6 h5,N6 h9,N6 h13,N6 h17,N6 h21,N9 h25];rw[hgb];rfl
  subst hr;refine X0<|(WI [none] (by simp[*];first|exact⟨rfl,trivial⟩|exact⟨rfl,Iff.rfl⟩|rfl) ?_ ?_)
  .trivial
  exact(Qd (he:=by rfl))
 refine(X8 (fun h29=>?_) fun h29=>?_)
 .by_cases hg:(la=0/\lc=0)/\last=true/\v=0/\n=0
  .obtain⟨⟨g1,g2⟩,g3,g4,g5⟩:=hg;refine X0<|(X7r c1 c2 ?_);exact(Qd (he:=by rw[<-hres];simp[*,Xl,NR]))
  have hgb:(decide (la=0)&&decide (lc=0)&&last&&decide (v=0)&&decide (n=0))=false:=by
   cases last
   .simp
   simp only[Nn,Nd];simp only[true_and]at hg;omega
  clear hg
  have hr:false=res:=by
   rw[<-hres,N6 h5,N6 h9,N6 h13,N6 h17,N6 h21,N6 h25,N9 h29];rw[hgb];rfl
  subst hr;refine X0<|(WI [none,none] (by simp[*];first|exact⟨rfl,trivial⟩|exact⟨rfl,Iff.rfl⟩|rfl) ?_ ?_)
  .trivial
  exact(Qd (he:=by rfl))
 refine X4 ?_;exact(Qd (he:=by rw[<-hres];simp[*,Xl,NR]))
def badP (UV UN UT P LO:Bool) (d v n:Int) (la lc nb nh:Nat):Prop:=
 d<0\/6<d\/(UV=false/\v≠0)\/(UN=false/\n≠0)\/(UT=false/\P=false)\/((d≠3/\d≠4)/\0<la)\/(d≠3/\0<lc)\/(d≠6/\0<nb)\/(UV=true/\LO=false)\/(d=5/\(n<0\/nh<=n))
instance (UV UN UT P LO:Bool) (d v n:Int) (la lc nb nh:Nat):Decidable (badP UV UN UT P LO d v n la lc nb nh):=by unfold badP;exact inferInstance
theorem sh_bad {vars:List Vr} {nh:Nat} {d v n:Int} {t:Tm} {la lc:Nat} {bs:List Int} {last:Bool} (h:badP (uVB d) (uNB d) (uTB d) (Wu t) (QE vars v) d v n la lc bs.length nh):shB vars nh d v n t la lc bs last=false:=by
 unfold shB;generalize Wu t=P at*;generalize QE vars v=LO at*
 have hr:Zi bs=true->1<=bs.length:=by
  intro h;unfold Zi at h;simp only[N4,N7]at h;omega
 generalize Zi bs=R at*;generalize bs.length=nb at*;unfold badP uVB uNB uTB at h
 (repeat' split)<;>(simp only[Nn,NH,Ng,N7,Nd]at h⊢)<;>cases P<;>cases LO<;>cases last<;>cases R<;>simp at h hr⊢ <;>omega
theorem sh_good {vars:List Vr} {nh:Nat} {d v n:Int} {t:Tm} {la lc:Nat} {bs:List Int} {last:Bool} (h:¬badP (uVB d) (uNB d) (uTB d) (Wu t) (QE vars v) d v n la lc bs.length nh):shB vars nh d v n t la lc bs last=(decide (d≠6)||(last&&Zi bs)):=by
 unfold shB;generalize Wu t=P at*;generalize QE vars v=LO at*;generalize Zi bs=R at*;generalize bs.length=nb at*;unfold badP uVB uNB uTB at h;rw[D9]
 (repeat' split)<;>(simp only[not_or,not_and,NH,Ng,N4,N7,Nd]at h⊢)<;>cases P<;>cases LO<;>cases last<;>cases R<;>simp at h⊢ <;>omega
def X2S (d:Int):Int:=if d=2 then 67108864 else 10000
def X34 (bs:List Int):Bool:=
 match bs[bs.length - 1]? with
 |some x=>decide (x<=67108864)
 |none=>true
def X1V (d c n:Int) (bs:List Int):Bool:=
 (!(decide (c<0)||decide (X2S d<c)||(decide (d=4)&&(decide (n<0)||decide (4096<n)))))&&(decide (d≠6)||X34 bs)
theorem numP_con (s:St) (hb:s.bounds.length<=1000000000) (h6:s.do_=6->s.bounds≠[]) (h5:s.do_≠6->s.bounds=[]) (e:Nat):
  Con prog 112 true [aS s] (.v (lb (X1V s.do_ s.cost s.n s.bounds))) none e:=by
 obtain⟨d,c,v,n,⟨o,tn,ks⟩,a,b,bs⟩:=s;simp only[St.do_,St.cost,St.n,St.bounds]at hb h6 h5⊢;refine X2 Tryz.func112 ?_;simp only[Tryz.f112];simp only[aS,St.enc,Tm.enc,Na,Nb,List.cons_append,List.nil_append];refine X4 ?_;refine X4 ?_;refine(XY [1] (fun(z:Int)=>[(3,.v (li z))]) (fun(z:Int)=>[(1,.box [.c (iC d),.c (iC c),.c (iC v),.c (iC n),.c (iC o),.c (iC tn),.c (.sl 3 (Xg ks)),.c (.sl 10 (Xf a)),.c (.sl 10 (Xf b)),.c (.sl 1 (Xk bs))])]) (fun(z:Int)=>z=X2S d) ?_ ?_)
 .refine(X8 (fun h4=>?_) fun h4=>?_)
  .refine X1 ?_;exact Xv (67108864) (by simp[X2S,h4])
  exact Xv (10000) (by simp[X2S,h4])
 rintro M hM;simp only[LN,Nat.reduceBEq,Nat.reduceLT];refine X0<|(X8 (fun h9=>?_) fun h9=>?_)
 .have hz:X1V d c n bs=false:=by
   unfold X1V;rw[<-hM];simp only[Nn,Ng,N4,Bool.not_eq_false',N7];omega
  exact X7
 have hz:X1V d c n bs=(decide (d≠6)||X34 bs):=by
  unfold X1V;rw[<-hM]
  rw[show(!(decide (c<0)||decide (M<c)||(decide (d=4)&&(decide (n<0)||decide (4096<n)))))=true by
   simp only[NH,Nn,Nk,Nd]
   omega]
  rfl
 clear h9;by_cases hd6:d=6
 .have hne:=h6 hd6
  have hpos:1<=bs.length:=by
   cases bs with
   |nil=>exact absurd rfl hne
   |cons x l=>simp
  obtain⟨x,hx⟩:=X0i (show bs.length - 1<bs.length by omega);have hw1:IntKind.i64.wrap ((bs.length:Int) - 1)=(bs.length:Int) - 1:=X5;have hw2:0<=(bs.length:Int) - 1:=by omega
  have hw3:((bs.length:Int) - 1).toNat=bs.length - 1:=by omega
  have hw4:1<=(bs.length:Int):=by omega
  have hlo:X34 bs=decide (x<=67108864):=by unfold X34;rw[hx]
  clear h6 h5 hne hpos;exact X7
 have hbs:=h5 hd6;subst hbs;have hw1:IntKind.i64.wrap (-1)=-1:=by decide
 clear h6 h5;exact X7
theorem X87 (f:Fl) (s:St) (last:Bool) (hv:f.vars.length<=1000000000) (hb:s.bounds.length<=1000000000) (e:Nat):
  Con prog 111 true [aF f,aS s,lb last] (.v (lb (shB f.vars f.hats.length s.do_ s.var s.n s.term s.then_.length s.else_.length s.bounds last))) none e:=by
 obtain⟨vars,hats,body⟩:=f;obtain⟨d,c,v,n,t,a,b,bs⟩:=s;simp only[St.do_,St.var,St.n,St.term,St.then_,St.else_,St.bounds]at hb⊢;simp only at hv;have c1:=X9j t;have c2:=X7J bs hb;have c3:=uV_con d;have c4:=uN_con d;have c5:=uT_con d;have hgood:=@sh_good vars hats.length d v n t a.length b.length bs last;have hbad:=@sh_bad vars hats.length d v n t a.length b.length bs last;have hrise:Zi bs=((decide (1<=bs.length)&&(decide (bs.length<=32)&&X3F bs))&&Z5 bs):=rfl;rw[hrise]at hgood;clear hrise;generalize shB vars hats.length d v n t a.length b.length bs last=SH at*;generalize uVB d=UV at*;generalize uNB d=UN at*;generalize uTB d=UT at*;generalize Wu t=P at*;generalize Z5 bs=R at*;obtain⟨LO,hLO⟩:∃p,QE vars v=p:=⟨_,rfl⟩;rw[hLO]at hgood hbad;obtain⟨o,tn,ks⟩:=t;obtain⟨la,hla⟩:∃k,a.length=k:=⟨_,rfl⟩;obtain⟨lc,hlc⟩:∃k,b.length=k:=⟨_,rfl⟩;obtain⟨nb,hnb⟩:∃k,bs.length=k:=⟨_,rfl⟩;obtain⟨nv,hnv⟩:∃k,vars.length=k:=⟨_,rfl⟩;obtain⟨nh,hnh⟩:∃k,hats.length=k:=⟨_,rfl⟩;rw[hla,hlc,hnb,hnh]at hgood hbad;simp only[aT,Tm.enc,Na,Nb]at c1;refine X2 Tryz.func111 ?_;simp only[Tryz.f111];simp only[aF,aS,Fl.enc,St.enc,Tm.enc,Na,Nb,List.cons_append,List.nil_append];refine X4 ?_;refine X4 ?_;refine(XY [2,4,7] (fun(z:Unit)=>[]) (fun(z:Unit)=>[(4,.box [.c (iC d),.c (iC c),.c (iC v),.c (iC n),.c (iC o),.c (iC tn),.c (.sl 3 (Xg ks)),.c (.sl 10 (Xf a)),.c (.sl 10 (Xf b)),.c (.sl 1 (Xk bs))])]) (fun(z:Unit)=>SH=(decide (d≠6)||(last&&((decide (0<nb)&&(decide (nb<=32)&&X3F bs))&&R)))) ?_ ?_)
 .refine X3<|(XY [2,4,7] (fun(z:Bool)=>[(10,.v (lb z))]) (fun(z:Bool)=>[(4,.box [.c (iC d),.c (iC c),.c (iC v),.c (iC n),.c (iC o),.c (iC tn),.c (.sl 3 (Xg ks)),.c (.sl 10 (Xf a)),.c (.sl 10 (Xf b)),.c (.sl 1 (Xk bs))])]) (fun(z:Bool)=>z=decide (badP UV UN UT P LO d v n la lc nb nh)) ?_ ?_)
  .refine(Xc (fun h5=>X6 ?_) fun h5=>?_)
   .exact Xv (true) ((Nw (h5.elim .inl (fun h=>.inr (.inl h)))).symm)
   refine X0<|(Xa c3 ?_);refine(QR (fun h8=>X6 ?_) fun h8=>?_)
   .exact Xv (true) ((Nw (.inr (.inr (.inl h8)))).symm)
   refine X0<|(Xa c4 ?_);refine(QR (fun h11=>X6 ?_) fun h11=>?_)
   .exact Xv (true) ((Nw (.inr (.inr (.inr (.inl h11))))).symm)
   refine XY [2,3,4,7] (fun(z:Bool)=>[(10,.v (lb z))]) (fun(z:Bool)=>[(3,.box [.c (.sl 5 (Xr vars)),.c (.sl 6 (Xu hats)),.c (.sl 10 (Xf body))]),(4,.box [.c (iC d),.c (iC c),.c (iC v),.c (iC n),.c (iC o),.c (iC tn),.c (.sl 3 (Xg ks)),.c (.sl 10 (Xf a)),.c (.sl 10 (Xf b)),.c (.sl 1 (Xk bs))])]) (fun(z:Bool)=>z=(!UT&& !P)) ?_ ?_
   .rcases(show UT=false\/UT=true by cases UT<;>simp)with hUT|hUT
    .refine Wk [⟨true,.v (lb false),none⟩,⟨true,.v (lb P),none⟩] (by simp[*];first|exact⟨rfl,Iff.rfl⟩|exact⟨rfl,trivial⟩|rfl) ?_ ?_
     ·(repeat' first|exact trivial|(simpa[hUT]using c5 _)|exact c1 _|apply And.intro)
     exact⟨!P,by simp[hUT],X1c (fun n=>n) []⟩
    refine WI [some ⟨true,.v (lb true),none⟩,none] (by simp[*];first|exact⟨rfl,Iff.rfl⟩|exact⟨rfl,trivial⟩|rfl) ?_ ?_
    .first|exact trivial|(simpa[hUT]using c5 _)
    exact⟨false,by simp[hUT],X1c (fun n=>n) []⟩
   rintro LUT hLUT;simp only[upS,Ql,insS]
   try simp only[Ql,KN,Nat.reduceBEq,NG,NW,ins,Nat.reduceLT]
   refine(QR (fun h14=>X6 ?_) fun h14=>?_)
   .rw[hLUT,N4,Nk,Nk]at h14;exact Xv (true) ((Nw (.inr (.inr (.inr (.inr (.inl h14)))))).symm)
   refine(Xc (fun h17=>X6 ?_) fun h17=>?_)
   .exact Xv (true) ((Nw (.inr (.inr (.inr (.inr (.inr (.inl ⟨h17.1,by omega⟩))))))).symm)
   refine(Xc (fun h20=>X6 ?_) fun h20=>?_)
   .exact Xv (true) ((Nw (.inr (.inr (.inr (.inr (.inr (.inr (.inl ⟨h20.1,by omega⟩)))))))).symm)
   refine(Xc (fun h23=>X6 ?_) fun h23=>?_)
   .exact Xv (true) ((Nw (.inr (.inr (.inr (.inr (.inr (.inr (.inr (.inl ⟨h23.1,by omega⟩))))))))).symm)
   refine XY [2,3,4,7] (fun(z:Bool)=>[(10,.v (lb z))]) (fun(z:Bool)=>[(3,.box [.c (.sl 5 (Xr vars)),.c (.sl 6 (Xu hats)),.c (.sl 10 (Xf body))]),(4,.box [.c (iC d),.c (iC c),.c (iC v),.c (iC n),.c (iC o),.c (iC tn),.c (.sl 3 (Xg ks)),.c (.sl 10 (Xf a)),.c (.sl 10 (Xf b)),.c (.sl 1 (Xk bs))])]) (fun(z:Bool)=>z=(UV&& !LO)) ?_ ?_
   .by_cases h0:0<=v
    .have h3:¬v<0:=by omega
     by_cases h1:v<vars.length
     .obtain⟨w,hw⟩:=X2t ⟨h0,h1⟩;have h2:¬(nv:Int)<=v:=by omega
      have hz:LO=decide (w.kind=0):=by rw[<-hLO];unfold QE;rw[hw];simp[h0]
      subst hz;clear h1;refine Wk [⟨true,.v (lb UV),none⟩] (by simp[*];first|exact⟨rfl,Iff.rfl⟩|exact⟨rfl,trivial⟩|rfl) ?_ ?_
      .first|exact c3 _|exact trivial
      exact⟨UV&& !decide (w.kind=0),rfl,X1c (fun n=>n) []⟩
     have hw:=X0k h0 h1;have h2:(nv:Int)<=v:=by omega
     have hz:LO=false:=by rw[<-hLO];unfold QE;rw[hw];simp
     subst hz;clear h1;refine Wk [⟨true,.v (lb UV),none⟩] (by simp[*];first|exact⟨rfl,Iff.rfl⟩|exact⟨rfl,trivial⟩|rfl) ?_ ?_
     .first|exact c3 _|exact trivial
     exact⟨UV&& !false,rfl,X1c (fun n=>n) []⟩
    have h3:v<0:=by omega
    have hz:LO=false:=by rw[<-hLO];unfold QE;simp[h0]
    subst hz;refine Wk [⟨true,.v (lb UV),none⟩] (by simp[*];first|exact⟨rfl,Iff.rfl⟩|exact⟨rfl,trivial⟩|rfl) ?_ ?_
    .first|exact c3 _|exact trivial
    exact⟨UV&& !false,rfl,X1c (fun n=>n) []⟩
   rintro LOU hLOU;simp only[upS,Ql,insS]
   try simp only[Ql,KN,Nat.reduceBEq,NG,NW,ins,Nat.reduceLT]
   refine(QR (fun h26=>X6 ?_) fun h26=>?_)
   .rw[hLOU,N4,Nk]at h26;exact Xv (true) ((Nw (.inr (.inr (.inr (.inr (.inr (.inr (.inr (.inr (.inl h26)))))))))).symm)
   have hz:decide (badP UV UN UT P LO d v n la lc nb nh)=(decide (d=5)&&(decide (n<0)||decide ((nh:Int)<=n))):=by
    rw[hLOU]at h26;rw[D9,N7];unfold badP;simp only[N4,Ng,N7];constructor
    .rintro(h|h|h|h|h|h|h|h|h|h)
     .omega
     .omega
     .exact absurd h8 (by simp[h.1,h.2])
     .exact absurd h11 (by simp[h.1,h.2])
     .rw[hLUT,h.1,h.2]at h14;cases h14
     .omega
     .omega
     .omega
     .exact absurd h26 (by simp[h.1,h.2])
     exact h
    exact fun h=>.inr (.inr (.inr (.inr (.inr (.inr (.inr (.inr (.inr h))))))))
   refine X1 ?_;exact Xv ((decide (d=5)&&(decide (n<0)||decide ((nh:Int)<=n)))) (hz.symm)
  rintro _ rfl;simp only[LN,Nat.reduceBEq,Nat.reduceLT];refine(XM (fun h30=>?_) fun h30=>?_)
  .have hz:=hbad h30;clear hgood hbad;exact X7
  have hz:=hgood h30;clear hgood hbad;exact Xv (()) (hz)
 rintro _ hz;simp only[LN,Nat.reduceBEq,Nat.reduceLT];clear hgood hbad;rcases X8Z bs with h0|⟨b0,hb0⟩
 .subst h0;have hh:X3F []=false:=rfl;replace hnb:nb=0:=hnb.symm;subst hnb;rw[hh]at hz;refine X0<|(Xa c2 ?_);exact(Qd (he:=by first|(simp[*,Xl,NR];done)|rfl))
 have hh:X3F bs=decide (0<=b0):=by unfold X3F;rw[hb0]
 rw[hh]at hz;have e32:decide ((nb:Int)<=32)=decide (nb<=32):=by rw[decide_eq_decide];omega
 refine X0<|(Xa c2 ?_);exact(Qd (he:=by rw[hz];simp[Xl,e32,NR]))
end Go.Proofs.YtdccocolnaklkaaGreatDoor
