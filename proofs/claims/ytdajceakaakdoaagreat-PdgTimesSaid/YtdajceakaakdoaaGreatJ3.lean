/- Contracts of functions and plain facts about what they compute. Conditions: as each theorem states. -/
import Derived.Test.YtdajceakaakdoaaGreatJ1
set_option linter.unusedSimpArgs false
set_option linter.unusedVariables false
set_option linter.unnecessarySimpa false
set_option maxRecDepth 100000
set_option maxHeartbeats 2000000
namespace Go.Proofs.YtdajceakaakdoaaGreat
open Go Go.Hl
open Tryz(prog)
@[simp] theorem take_encV (l:List Vr) (i:Nat):(Xk l).take i=Xk (l.take i):=by simp[Xk]
@[simp] theorem encV_snoc (l:List Vr) (v:Vr):Xk (l++[v])=Xk l++[v.enc]:=by simp[Xk]
theorem ZP {T:Type} {l:List T} {k:Nat} {x:T} (h:l[k]? =some x):l.take (k+1)=l.take k++[x]:=by
 rw[List.take_add_one,h];rfl
theorem X2G (s:ByteArray) (d:Nat):Con prog 50 true [sv s] (.v (lb (X06 s))) none d:=by
 refine X5 Tryz.func50 ?_;simp only[Tryz.f50];refine X2 ?_;refine X0<|X0<|X1 ?_;refine(Xb rfl (fun h2=>?_) fun h2=>?_)
 .simp only[BN]at h2
  have hz:X06 s=false:=by
   unfold X06;rw[NA,NA];simp only[Nh];omega
  refine X2 ?_;exact Xc
 simp only[BN]at h2;have h1:1<=s.size:=by omega
 have h40:s.size<=40:=by omega
 refine X0<|X0<|X1 ?_;refine X3<|(Xg [0] (fun(x:Nat)=>[(3,.v (li x))]) (fun x=>[]) (fun x=>x<=s.size/\∀j:Nat,j<x->X53 s j=true) (fun x=>s.size - x) (0:Nat) ⟨Nq _,fun j hj=>absurd hj (Dv j)⟩ ?_ ?_)
 .exact X4 (fun n=>n) []
 rintro k ⟨hk,hall⟩;simp only[upS,X8,Xz]
 simp only[KN,Nat.reduceBEq,Nj,Nc,ins,Nat.reduceLT]
 refine X0<|X0<|X1 ?_;refine(X6 rfl (fun h8=>Xe ?_) (fun h8=>?_))
 ·simp only[BN]at h8;have hlt:k<s.size:=by omega
  obtain⟨b,hb⟩:=X7N hlt;have hw:=XD hlt (by omega);have hk1:k+1<=s.size:=hlt;clear hlt h8;refine X0<|X3<|X0<|X1 ?_;refine X2 ?_;refine X2 ?_;refine X2 ?_;refine(Xb rfl (fun h13=>?_) fun h13=>?_)
  .simp only[BN]at h13
   have hbad:X53 s k=false:=by
    unfold X53;rw[hb];simp only[NR,NA,Nh];omega
   have hz:=X7Y hk1 hbad;refine X2 ?_;exact Xc
  simp only[BN]at h13
  have hgood:X53 s k=true:=by
   unfold X53;rw[hb];simp only[Nf,N3,N5];omega
  refine X1 ?_;exact⟨k+1,⟨by omega,fun j hj=>(Nat.lt_succ_iff_lt_or_eq.1 hj).elim (hall j) (fun e=>e▸hgood)⟩,by omega,X4 (fun n=>n) []⟩
 simp only[BN]at h8;have hz:=X6V h1 h40 (fun j hj=>hall j (by omega));refine(Xi ?_);refine X2 ?_;exact Xc
def sz (v:Vr):Int:=v.high - v.low+1
def prV:List Vr->Int->Int
 |[],n=>n
 |v::l,n=>if 4096<n*sz v then 4097 else prV l (n*sz v)
def spc (vars:List Vr) (kind:Int):Int:=prV (vars.filter fun v=>decide (v.kind=kind)) 1
def X0j (vars:List Vr):Prop:=∀v∈vars,v.low<=v.high∧-1048576<=v.low/\v.high<=1048576
theorem sz_in {vars:List Vr} (h:X0j vars) {v:Vr} (hv:v∈vars):1<=sz v/\sz v<=2097153:=by
 have:=h v hv;unfold sz;omega
theorem X8D {n s:Int} (h1:1<=n/\n<=4096) (h2:1<=s/\s<=2097153):1<=n*s/\n*s<=8589938688:=by
 have h3:n.natAbs*s.natAbs<=4096*2097153:=Nat.mul_le_mul (by omega) (by omega);have h4:1*1<=n.natAbs*s.natAbs:=Nat.mul_le_mul (by omega) (by omega);rw[<-Int.natAbs_mul]at h3 h4;have h5:0<=n*s:=D6 (by omega) (by omega);omega
theorem prV_in {vars:List Vr} (h:X0j vars):∀(l:List Vr) (n:Int),(∀v∈l,v∈vars)->1<=n/\n<=4096->1<=prV l n/\prV l n<=4097
 |[],n,_,hn=>by simp only[prV];omega
 | v::l,n,hl,hn=>by
   simp only[prV];have:=X8D hn (sz_in h (hl v (by simp)));split
   .omega
   exact prV_in h l _ (fun w hw=>hl w (NO _ hw)) (by omega)
theorem X39 (vars:List Vr) (kind:Int) (hv:X0j vars) (hl:vars.length<=1000000000) (d:Nat):Con prog 95 true [lV vars,li kind] (.v (li (spc vars kind))) none d:=by
 obtain⟨res,hres⟩:∃r,spc vars kind=r:=⟨_,rfl⟩;rw[hres];unfold spc at hres;refine X5 Tryz.func95 ?_;simp only[Tryz.f95];refine X2 ?_;refine X2 ?_;refine X0<|X0<|X1 ?_;refine X3<|(Xg [0,1] (fun(x:Nat×Int)=>[(5,.v (li x.2)),(6,.v (li x.1))]) (fun x=>[]) (fun x=>x.1<=vars.length/\prV ((vars.drop x.1).filter fun v=>decide (v.kind=kind)) x.2=res/\1<=x.2/\x.2<=4096) (fun x=>vars.length - x.1) (0,1) ⟨Nq _,hres,by decide,by decide⟩ ?_ ?_)
 .exact X4 (fun n=>n) []
 rintro⟨k,n⟩ ⟨hk,hJ,hn1,hn2⟩;simp only[upS,X8,Xz]
 simp only[KN,Nat.reduceBEq,Nj,Nc,ins,Nat.reduceLT]
 simp only at hk hJ hn1 hn2;clear hres;refine X0<|X0<|X1 ?_;refine(X6 rfl (fun h5=>Xe ?_) (fun h5=>?_))
 ·simp only[BN]at h5;have hlt:k<vars.length:=by omega
  obtain⟨v,he,hd⟩:=Xt hlt;have hw1:=XD hlt (by omega);have hk1:k+1<=vars.length:=hlt;have hmem:v∈vars:=N4 he;have hs:=sz_in hv hmem;have hm:=X8D ⟨hn1,hn2⟩ hs;have hb:=hv v hmem;have hw2:IntKind.i64.wrap (v.high - v.low)=v.high - v.low:=Xa;have hw3:IntKind.i64.wrap (v.high - v.low+1)=sz v:=by rw[Xa (by omega) (by omega)];rfl
  have hw4:IntKind.i64.wrap (n*sz v)=n*sz v:=Xa;rw[hd]at hJ;clear hlt h5 hv;refine X0<|X3<|X0<|X0<|X1 ?_;refine(Xb rfl (fun h7=>?_) fun h7=>?_)
  ·simp only[BN]at h7;rw[DE (by simpa using h7)]at hJ;refine(Xi ?_);refine X1 ?_;exact⟨(k+1,n),⟨hk1,hJ,hn1,hn2⟩,by simp only;omega,X4 (fun n=>n) []⟩
  simp only[BN]at h7;rw[DF (by simpa using h7)]at hJ;simp only[prV]at hJ;refine X0<|(N0 ?_);refine X2 ?_;refine(Xb rfl (fun h12=>?_) fun h12=>?_)
  ·simp only[BN]at h12;rw[N8 h12]at hJ;subst hJ;refine X2 ?_;exact Xc
  simp only[BN]at h12;rw[N7 h12]at hJ;refine X1 ?_;exact⟨(k+1,n*sz v),⟨hk1,hJ,hm.1,by simp only;omega⟩,by simp only;omega,X4 (fun n=>n) []⟩
 simp only[BN]at h5;have hkl:k=vars.length:=by omega
 rw[hkl,Nw]at hJ;simp only[List.filter_nil,prV]at hJ;refine(Xi ?_);refine X2 ?_;exact(Xc (he:=by subst hJ;rfl))
theorem X7k (v:Vr) (hv:-1048576<=v.low/\v.low<=v.high/\v.high<=1048576) (d:Nat):Con prog 247 true [aV v] (.v (li (sz v))) none d:=by
 have hw2:IntKind.i64.wrap (v.high - v.low)=v.high - v.low:=Xa;have hw3:IntKind.i64.wrap (v.high - v.low+1)=sz v:=by rw[Xa (by omega) (by omega)];rfl
 refine X5 Tryz.func247 ?_;simp only[Tryz.f247];refine X2 ?_;refine X2 ?_;exact Xc
def chR (vars:List Vr) (kind:Int):RV:=if spc vars kind<=4096 then .tup [.one (.c (.sl 5 (Xk (vars.filter fun v=>decide (v.kind=kind))))),li (spc vars kind),li 0] else .tup [.one (.c (.lit XX)),li 0,li 4]
theorem XbZ (vars:List Vr) (kind:Int) (hkd:1<=kind/\kind<=3) (hv:X0j vars) (hl:vars.length<=1000000) (d:Nat):Con prog 219 false [lV vars,li kind] (chR vars kind) none d:=by
 obtain⟨S,hS⟩:∃S,vars.filter (fun v=>decide (v.kind=kind))=S:=⟨_,rfl⟩;obtain⟨res,hres⟩:∃r,spc vars kind=r:=⟨_,rfl⟩;unfold chR;rw[hres,hS];unfold spc at hres;rw[hS]at hres;refine X5 Tryz.func219 ?_;simp only[Tryz.f219];refine X2 ?_;refine(XT [0,1] (fun(z:Unit)=>[]) (fun(z:Unit)=>[]) (fun(z:Unit)=>True) ?_ ?_)
 ·
  refine X2 ?_;refine X3<|(XT [0,1] (fun(z:Bool)=>[(14,.v (lb z))]) (fun(z:Bool)=>[]) (fun(z:Bool)=>z=true) ?_ ?_)
  ·
   refine X2 ?_;refine(X6 rfl (fun h5=>Xe ?_) (fun h5=>?_))
   ·simp only[BN]at h5;exact⟨true,rfl,X4 (fun n=>n) []⟩
   simp only[BN]at h5;refine X2 ?_;refine(X6 rfl (fun h8=>Xe ?_) (fun h8=>?_))
   ·simp only[BN]at h8;exact⟨true,rfl,X4 (fun n=>n) []⟩
   simp only[BN]at h8;refine X2 ?_;refine(X6 rfl (fun h11=>Xe ?_) (fun h11=>?_))
   ·simp only[BN]at h11;exact⟨true,rfl,X4 (fun n=>n) []⟩
   simp only[BN]at h11;refine X1 ?_;have hz:decide (kind=3)=true:=by rw[N5];omega
   exact⟨true,rfl,X4 (fun n=>n) []⟩
  rintro _ rfl;simp only[upS,X8,Xz]
  simp only[KN,Nat.reduceBEq,Nj,Nc,ins,Nat.reduceLT]
  refine(X6 rfl (fun h15=>Xe ?_) (fun h15=>?_))
  ·simp only at h15;exact⟨(),trivial,X4 (fun n=>n) []⟩
  exact absurd h15 (by simp)
 rintro z hz;simp only[upS,X8,Xz]
 simp only[KN,Nat.reduceBEq,Nj,Nc]
 refine X2 ?_;refine X0<|X0<|X1 ?_;refine X3<|(Xg [1,19,20] (fun(x:Nat×List Vr)=>[(7,.v (.one (.own 1007))),(21,.v (li x.1))]) (fun x=>[(1007,.row 89 5 (Xk x.2))]) (fun x=>x.1<=vars.length/\x.2=(vars.take x.1).filter fun v=>decide (v.kind=kind)) (fun x=>vars.length - x.1) (0,[]) ⟨Nq _,by simp⟩ ?_ ?_)
 .exact Xw (fun n=>n) [1007] rfl (by simp[upS,X8]) (by simp[upS,Xk]) (by simp[upS])
 rintro⟨k,acc⟩ ⟨hk,hJ⟩;simp only[upS,X8,Xz]
 simp only[KN,Nat.reduceBEq,Nj,Nc,ins,Nat.reduceLT]
 simp only at hk hJ;replace hJ:=hJ.symm;refine X2 ?_;refine X0<|(X6 rfl (fun h23=>Xe ?_) (fun h23=>?_))
 ·simp only[BN]at h23;have hlt:k<vars.length:=by omega
  obtain⟨v,he,hd⟩:=Xt hlt;have hw1:=XD hlt (by omega);have hk1:k+1<=vars.length:=hlt;have hmem:v∈vars:=N4 he;have hb:=hv v hmem;have ht:=ZP he;generalize hT:(vars.take k).filter (fun v=>decide (v.kind=kind))=T at hJ
  have hal:acc.length<=k:=by
   rw[<-hJ,<-hT];exact Dz (Dh _ _) (by rw[NF];omega)
  have hroom:W5 (acc.length+1) 48:=Qc (by omega) (by omega);clear hlt h23 hv;refine X0<|X3<|X0<|X1 ?_;refine X0<|X0<|X1 ?_;refine(Xb rfl (fun h26=>?_) fun h26=>?_)
  ·simp only[BN]at h26;have hf:(vars.take (k+1)).filter (fun v=>decide (v.kind=kind))=acc:=by rw[ht,Da,hT,hJ,DE (by simpa using h26)];simp
   clear hS;refine(Xi ?_);refine X1 ?_;exact⟨(k+1,acc),⟨hk1,hf.symm⟩,by simp only;omega,X4 (fun n=>n) []⟩
  simp only[BN]at h26;have hf:(vars.take (k+1)).filter (fun v=>decide (v.kind=kind))=acc++[v]:=by rw[ht,Da,hT,hJ,DF (by simpa using h26)];simp
  clear hS;refine X0<|X0<|X1 ?_;refine(Xb rfl (fun h30=>?_) fun h30=>?_)
  .exfalso;simp only[Nf,N5]at h30;omega
  simp only[BN]at h30;refine X1 ?_;refine X1 ?_;exact⟨(k+1,acc++[v]),⟨hk1,hf.symm⟩,by simp only;omega,X4 (fun n=>if n=1007 then 47 else n) []⟩
 simp only[BN]at h23;have hkl:k=vars.length:=by omega
 rw[hkl,List.take_length,hS]at hJ;subst hJ;have hSl:S.length<=1000000:=by rw[<-hS];exact Dz (Dh _ _) hl
 have hSv:∀v∈S,v.low<=v.high∧-1048576<=v.low/\v.high<=1048576:=fun v h=>hv v (by rw[<-hS]at h;exact(NN.1 h).1);clear hS hv hk hl h23 hkl;refine(Xi ?_);refine X2 ?_;refine X0<|X0<|X1 ?_;refine X3<|(Xg [7,49,50] (fun(x:Nat×Int)=>[(10,.v (li x.2)),(51,.v (li x.1))]) (fun x=>[(1007,.row 89 5 (Xk S))]) (fun x=>x.1<=S.length/\prV (S.drop x.1) x.2=res/\1<=x.2/\x.2<=4096) (fun x=>S.length - x.1) (0,1) ⟨Nq _,hres,by decide,by decide⟩ ?_ ?_)
 .exact X4 (fun n=>n) []
 rintro⟨k2,n⟩ ⟨hk2,hJ,hn1,hn2⟩;simp only[upS,X8,Xz]
 simp only[KN,Nat.reduceBEq,Nj,Nc,ins,Nat.reduceLT]
 simp only at hk2 hJ hn1 hn2;clear hres;refine X2 ?_;refine X0<|(X6 rfl (fun h40=>Xe ?_) (fun h40=>?_))
 ·simp only[BN]at h40;have hlt:k2<S.length:=by omega
  obtain⟨v,he,hd⟩:=Xt hlt;have hw1:=XD hlt (by omega);have hk1:k2+1<=S.length:=hlt;have hb:=hSv v (N4 he);have hs:1<=sz v/\sz v<=2097153:=by unfold sz;omega
  have hm:=X8D ⟨hn1,hn2⟩ hs;have hw4:IntKind.i64.wrap (n*sz v)=n*sz v:=Xa;rw[hd]at hJ;simp only[prV]at hJ;clear hlt h40;refine X0<|X3<|X0<|X1 ?_;refine Xh [⟨true,.v (li (sz v)),none⟩] ?_ ?_
  .first|exact X7k v ⟨hb.2.1,hb.1,hb.2.2⟩ _|exact trivial|simpa[*]using X7k v ⟨hb.2.1,hb.1,hb.2.2⟩ _
  refine X2 ?_;refine(Xb rfl (fun h44=>?_) fun h44=>?_)
  ·simp only[BN]at h44;rw[N8 h44]at hJ;subst hJ;refine X2 ?_;exact XZ ⟨.inr rfl,_,le_refl _,⟨⟨_,by simp;rfl,by simp[XG]⟩,by simp,fun h=>by cases h⟩⟩
  simp only[BN]at h44;rw[N7 h44]at hJ;refine X1 ?_;exact⟨(k2+1,n*sz v),⟨hk1,hJ,hm.1,by simp only;omega⟩,by simp only;omega,X4 (fun n=>n) []⟩
 simp only[BN]at h40;have hkl:k2=S.length:=by omega
 rw[hkl,Nw]at hJ;simp only[prV]at hJ;subst hJ;refine(Xi ?_);refine X2 ?_;exact XZ ⟨.inr rfl,_,Qy 1007 rfl,⟨⟨_,by simp;rfl,by simp[XG,hn2]⟩,by simp,fun h=>by cases h⟩⟩
theorem Xbw (vars:List Vr) (kind:Int) (hkd:1<=kind/\kind<=3) (hv:X0j vars) (hl:vars.length<=1000000) (d:Nat):Con prog 182 true [lV vars,li kind]
  (.tup [li (if spc vars kind<=4096 then spc vars kind else 0),li (if spc vars kind<=4096 then 0 else 4)]) none d:=by
 have c:=XbZ vars kind hkd hv hl;unfold chR at c;obtain⟨res,hres⟩:∃r,spc vars kind=r:=⟨_,rfl⟩;rw[hres]at c⊢;clear hres;by_cases h:res<=4096
 .rw[N8 h]at c;rw[N8 h,N8 h];refine X5 Tryz.func182 ?_;simp only[Tryz.f182];refine X2 ?_;refine Xh [⟨false,.tup [.one (.c (.sl 5 (Xk (vars.filter fun v=>decide (v.kind=kind))))),li res,li 0],none⟩] ?_ ?_
  .first|exact c _|exact trivial|simpa[*]using c _
  refine X2 ?_;exact Xc
 rw[N7 h]at c;rw[N7 h,N7 h];refine X5 Tryz.func182 ?_;simp only[Tryz.f182];refine X2 ?_;refine Xh [⟨false,.tup [.one (.c (.lit XX)),li 0,li 4],none⟩] ?_ ?_
 .first|exact c _|exact trivial|simpa[*]using c _
 refine X2 ?_;exact Xc
theorem idxV_con (l:List Vr) (g:FuncId) (cap:List CD) (p:Vr->Bool) (hl:l.length<=1000000000) (hp:∀v∈l,∀d,Con prog g true (aV v::cap.map fun c=>.one (.c c)) (.v (lb (p v))) none d) (d:Nat):
  ∃r:Int,(∀d,Con prog 218 true [lV l,.one (.c (.fn g cap))] (.v (li r)) none d)/\(0<=r↔l.any p=true):=by
 let rec_:List Vr->Int->Int:=fun l k=>match l.findIdx? p with
  |some i=>k+i
  |none=>-1
 refine⟨(match l.findIdx? p with|some i=>(i:Int)|none=>-1),fun d=>?_,?_⟩
 .have hstep:∀k:Nat,(∀j:Nat,j<k->∀v,l[j]? =some v->p v=false)->∀v,l[k]? =some v->p v=true->l.findIdx? p=some k:=by
   intro k hno v hv hpv;rw[List.findIdx?_eq_some_iff_getElem];have hk:k<l.length:=(N6.1 hv).1;refine⟨hk,?_,fun j hj=>?_⟩
   .simp only[Nz hk,Option.some.injEq]at hv;rw[hv];exact hpv
   have:=hno j hj l[j] (by simp);simp[this]
  have hnone:(∀j:Nat,j<l.length->∀v,l[j]? =some v->p v=false)->l.findIdx? p=none:=by
   intro hno;rw[List.findIdx?_eq_none_iff];intro v hv;obtain⟨j,hj⟩:=NK.1 hv;exact hno j (N6.1 hj).1 v hj
  clear rec_;refine X5 Tryz.func218 ?_;simp only[Tryz.f218];refine X2 ?_;refine X0<|X0<|X1 ?_;refine X3<|(Xg [0,1,7] (fun(x:Nat)=>[(8,.v (li x))]) (fun x=>[]) (fun x=>x<=l.length/\∀j:Nat,j<x->∀v,l[j]? =some v->p v=false) (fun x=>l.length - x) (0:Nat) ⟨Nq _,fun j hj=>absurd hj (Dv j)⟩ ?_ ?_)
  .exact X4 (fun n=>n) []
  rintro k ⟨hk,hJ⟩;simp only[upS,X8,Xz]
  simp only[KN,Nat.reduceBEq,Nj,Nc,ins,Nat.reduceLT]
  refine X2 ?_;refine X0<|(X6 rfl (fun h4=>Xe ?_) (fun h4=>?_))
  ·simp only[BN]at h4;have hlt:k<l.length:=by omega
   obtain⟨v,he,hd⟩:=Xt hlt;have hw1:=XD hlt (by omega);have hk1:k+1<=l.length:=hlt;have hpv:=hp v (N4 he);have hs:=hstep k hJ v he;clear hlt h4 hstep hnone hp;refine X0<|X3<|X0<|X1 ?_;refine Xh [⟨true,.v (lb (p v)),none⟩] ?_ ?_
   .first|exact hpv _|exact trivial|simpa[*]using hpv _
   refine(Xb rfl (fun h7=>?_) fun h7=>?_)
   ·rw[hs h7];refine X2 ?_;exact Xc
   refine X1 ?_;exact⟨k+1,⟨hk1,fun j hj w hw=>(Nat.lt_succ_iff_lt_or_eq.1 hj).elim (fun h=>hJ j h w hw) (fun e=>by subst e;rw[he]at hw;cases hw;exact h7)⟩,by omega,X4 (fun n=>n) []⟩
  simp only[BN]at h4;rw[hnone fun j hj=>hJ j (by omega)];refine(Xi ?_);refine X2 ?_;exact Xc
 rw[List.any_eq];cases h:l.findIdx? p with
 | none=>
   rw[List.findIdx?_eq_none_iff]at h;simp only[N5];constructor
   .intro h;omega
   rintro⟨v,hv,hpv⟩;have:=h v hv;rw[hpv]at this;cases this
 | some i=>
   rw[List.findIdx?_eq_some_iff_getElem]at h;obtain⟨hi,hpi,_⟩:=h;simp only[N5];exact⟨fun _=>⟨l[i],DC _,hpi⟩,fun _=>by omega⟩
theorem Xa0 (l:List Vr) (g:FuncId) (cap:List CD) (p:Vr->Bool) (hl:l.length<=1000000000) (hp:∀v∈l,∀d,Con prog g true (aV v::cap.map fun c=>.one (.c c)) (.v (lb (p v))) none d) (d:Nat):
  Con prog 180 true [lV l,.one (.c (.fn g cap))] (.v (lb (l.any p))) none d:=by
 obtain⟨r,hr,hi⟩:=idxV_con l g cap p hl hp 0;have hd:decide (0<=r)=l.any p:=by rw[Dl,N5];exact hi
 clear hi hp;refine X5 Tryz.func180 ?_;simp only[Tryz.f180];refine X2 ?_;refine Xh [⟨true,.v (li r),none⟩] ?_ ?_
 .first|exact hr _|exact trivial|simpa[*]using hr _
 exact Xc
theorem X7O (w v:Vr) (d:Nat):Con prog 178 true [aV w,.one (.c (.ptr v.enc))] (.v (lb (decide (w.name=v.name)))) none d:=by
 refine X5 Tryz.func178 ?_;simp only[Tryz.f178];refine X2 ?_;refine X2 ?_;exact Xc
def X1J (l:List Int) (i:Nat):Bool:=
 match l[i]?,l[i+1]? with
 |some a,some b=>decide (a<b)
 |_,_=>true
def X3Y (l:List Int):Bool:=(List.range l.length).all (X1J l)
theorem Xcc {l:List Int} {i:Nat} (hi:i<l.length) (h:X1J l i=false):X3Y l=false:=by
 unfold X3Y;rw[List.all_eq_false];exact⟨i,by simpa using hi,by simp[h]⟩
theorem Xao {l:List Int} (h:∀i:Nat,i+1<l.length->X1J l i=true):X3Y l=true:=by
 unfold X3Y;rw[Nm];intro i hi;simp only[List.mem_range]at hi;by_cases h2:i+1<l.length
 .exact h i h2
 unfold X1J;rw[Ny (i:=i+1) (by omega)];cases l[i]? <;>rfl
theorem X6Y {l:List Int} {k:Nat} (h:k<l.length):∃b,l[k]? =some b:=⟨l[k],by simp[h]⟩
theorem XaU (l:List Int) (hl:l.length<=1000000000) (d:Nat):Con prog 226 true [lI l] (.v (lb (X3Y l))) none d:=by
 refine X5 Tryz.func226 ?_;simp only[Tryz.f226];refine X2 ?_;refine X0<|X0<|X1 ?_;refine X3<|(Xg [0,5] (fun(x:Nat)=>[(6,.v (li x))]) (fun x=>[]) (fun x=>x<=l.length/\∀j:Nat,j+1<x->X1J l j=true) (fun x=>l.length - x) (0:Nat) ⟨Nq _,fun j hj=>absurd hj (by omega)⟩ ?_ ?_)
 .exact X4 (fun n=>n) []
 rintro k ⟨hk,hJ⟩;simp only[upS,X8,Xz]
 simp only[KN,Nat.reduceBEq,Nj,Nc,ins,Nat.reduceLT]
 refine X2 ?_;refine X0<|(X6 rfl (fun h4=>Xe ?_) (fun h4=>?_))
 ·simp only[BN]at h4;have hlt:k<l.length:=by omega
  obtain⟨b,hb⟩:=X6Y hlt;have hw:=XD hlt hl;have hk1:k+1<=l.length:=hlt;have hk9:k<=1000000000:=by omega
  clear hlt h4;refine X0<|X3<|X0<|X1 ?_;rcases k with _|j
  .have hw1:IntKind.i64.wrap 1=1:=Xa;refine X0<|(N0 ?_);refine(Xb rfl (fun h7=>?_) fun h7=>?_)
   .exact absurd h7 (by simp)
   simp only at h7;refine X1 ?_;exact⟨1,⟨hk1,fun j hj=>absurd hj (by omega)⟩,by omega,X4 (fun n=>n) []⟩
  have hw1:IntKind.i64.wrap ((j:Int)+1+1)=(j:Int)+1+1:=Xa;obtain⟨a,ha⟩:=X6Y (show j<l.length by omega);have hwj:IntKind.i64.wrap (j:Int)=j:=Xa;have hri:X1J l j=decide (a<b):=by unfold X1J;rw[ha,hb]
  have hj0:(0:Int)<(j:Int)+1:=by omega
  have hj1:0<=(j:Int)+1:=by omega
  have hj2:((j:Int)+1).toNat=j+1:=by omega
  refine X0<|(N0 ?_);refine(Xb rfl (fun h7=>?_) fun h7=>?_)
  ·simp only[BN]at h7;have hz:X3Y l=false:=Xcc (i:=j) (by omega) (by rw[hri];simpa using h7);refine X2 ?_;exact Xc
  simp only[BN]at h7;refine X1 ?_
  exact⟨j+1+1,⟨hk1,fun i hi=>by
   rcases Nat.lt_or_eq_of_le (Nat.le_of_lt_succ hi)with h|h
   .exact hJ i (by omega)
   have:i=j:=by omega
   rw[this,hri]
   simpa using h7⟩,by omega,X4 (fun n=>n) []⟩
 simp only[BN]at h4;have hz:X3Y l=true:=Xao fun i hi=>hJ i (by omega);refine(Xi ?_);refine X2 ?_;exact Xc
def X5o (l:List Int):Bool:=
 match l[0]? with
 |some b=>decide (0<=b)
 |none=>false
def WY (l:List Int):Bool:=(decide (1<=l.length)&&(decide (l.length<=32)&&X5o l))&&X3Y l
theorem XbQ (l:List Int):l=[]\/∃b0,l[0]? =some b0:=by
 cases l with
 |nil=>exact .inl rfl
 |cons b r=>exact .inr ⟨b,rfl⟩
theorem Xap (l:List Int) (hl:l.length<=1000000000) (d:Nat):Con prog 164 true [lI l] (.v (lb (WY l))) none d:=by
 obtain⟨res,hres⟩:∃r,WY l=r:=⟨_,rfl⟩;rw[hres];refine X5 Tryz.func164 ?_;simp only[Tryz.f164];refine X2 ?_;rcases XbQ l with h0|⟨b0,hb0⟩
 .subst h0;replace hres:false=res:=hres;refine X0<|X0<|X1 ?_;refine(Xb rfl (fun h2=>?_) fun h2=>?_)
  ·simp only at h2;subst hres;refine X2 ?_;exact Xc
  exact absurd h2 (by simp)
 have hh:X5o l=decide (0<=b0):=by unfold X5o;rw[hb0]
 have hpos:1<=l.length:=(N6.1 hb0).1;refine X0<|X0<|X1 ?_;refine(Xb rfl (fun h2=>?_) fun h2=>?_)
 .simp only[BN]at h2
  have hz:WY l=false:=by
   unfold WY;rw[hh];simp only[NA,Nh];omega
  rw[hz]at hres;subst hres;refine X2 ?_;exact Xc
 simp only[BN]at h2
 have hz:WY l=X3Y l:=by
  unfold WY;rw[hh];rw[D7 (by omega),D7 (by omega),D7 (by omega)];rfl
 rw[hz]at hres;have hl32:l.length<=32:=by omega
 clear hz hh h2 hb0;refine X0<|X0<|X1 ?_;refine X3<|(Xg [0] (fun(x:Nat)=>[(3,.v (li ((x:Int)+1)))]) (fun x=>[]) (fun x=>x+1<=l.length/\∀j:Nat,j<x->X1J l j=true) (fun x=>l.length - x) (0:Nat) ⟨hpos,fun j hj=>absurd hj (Dv j)⟩ ?_ ?_)
 .exact X4 (fun n=>n) []
 rintro k ⟨hk,hJ⟩;simp only[upS,X8,Xz]
 simp only[KN,Nat.reduceBEq,Nj,Nc,ins,Nat.reduceLT]
 refine X0<|X0<|X1 ?_;refine(X6 rfl (fun h8=>Xe ?_) (fun h8=>?_))
 ·simp only[BN]at h8;have hlt:k+1<l.length:=by omega
  obtain⟨b,hb⟩:=X6Y hlt;obtain⟨a,ha⟩:=X6Y (show k<l.length by omega);have hw:IntKind.i64.wrap ((k:Int)+1+1)=(k:Int)+1+1:=Xa;have hwj:IntKind.i64.wrap (k:Int)=k:=Xa;have hri:X1J l k=decide (a<b):=by unfold X1J;rw[ha,hb]
  have hj1:0<=(k:Int)+1:=by omega
  have hj2:((k:Int)+1).toNat=k+1:=by omega
  have hk1:k+1+1<=l.length:=hlt;clear hlt h8;refine X0<|X3<|X0<|(N0 ?_);refine(Xb rfl (fun h10=>?_) fun h10=>?_)
  ·simp only[BN]at h10;have hz:X3Y l=false:=Xcc (i:=k) (by omega) (by rw[hri];simpa using h10);refine X2 ?_;exact Xc
  simp only[BN]at h10;refine X1 ?_
  exact⟨k+1,⟨hk1,fun i hi=>by
   rcases Nat.lt_or_eq_of_le (Nat.le_of_lt_succ hi)with h|h
   .exact hJ i h
   rw[h,hri]
   simpa using h10⟩,by omega,X4 (fun n=>n) []⟩
 simp only[BN]at h8;have hz:X3Y l=true:=Xao fun i hi=>hJ i (by omega);refine(Xi ?_);refine X2 ?_;exact Xc
def WQ:Tm->Bool
 | .mk o n ks=>decide (o=0)&&(decide (n=0)&&decide (ks.length=0))
theorem XbE (t:Tm) (d:Nat):Con prog 163 true [aT t] (.v (lb (WQ t))) none d:=by
 obtain⟨o,n,ks⟩:=t;refine X5 Tryz.func163 ?_;simp only[Tryz.f163];simp only[aT,Tm.enc];refine X2 ?_;refine X2 ?_;exact(Xc (he:=by first|rfl|(simp[*,WQ,Dw];done)|(simp only[XG,WQ,Dw];(repeat' split)<;>first|rfl|(exfalso;omega)|simp_all)))
theorem Xbf (t:Tm) (d:Nat):Con prog 225 true [aT t] (.v (lb (WQ t))) none d:=by
 obtain⟨o,n,ks⟩:=t;refine X5 Tryz.func225 ?_;simp only[Tryz.f225];simp only[aT,Tm.enc];refine X2 ?_;refine X2 ?_;exact(Xc (he:=by first|rfl|(simp[*,WQ,Dw];done)|(simp only[XG,WQ,Dw];(repeat' split)<;>first|rfl|(exfalso;omega)|simp_all)))
def uVB (d:Int):Bool:=decide (d=0)||decide (d=5)
def uNB (d:Int):Bool:=decide (d=4)||decide (d=5)
def uTB (d:Int):Bool:=decide (d=0)||(decide (d=1)||(decide (d=3)||decide (d=4)))
theorem uV_con (a:Int) (d:Nat):Con prog 222 true [li a] (.v (lb (uVB a))) none d:=by
 refine X5 Tryz.func222 ?_;simp only[Tryz.f222];refine X2 ?_;refine X2 ?_;exact(Xc (he:=by first|rfl|(simp[*,uVB];done)|(simp only[XG,uVB];(repeat' split)<;>first|rfl|(exfalso;omega)|simp_all)))
theorem uN_con (a:Int) (d:Nat):Con prog 223 true [li a] (.v (lb (uNB a))) none d:=by
 refine X5 Tryz.func223 ?_;simp only[Tryz.f223];refine X2 ?_;refine X2 ?_;exact(Xc (he:=by first|rfl|(simp[*,uNB];done)|(simp only[XG,uNB];(repeat' split)<;>first|rfl|(exfalso;omega)|simp_all)))
theorem uT_con (a:Int) (d:Nat):Con prog 224 true [li a] (.v (lb (uTB a))) none d:=by
 refine X5 Tryz.func224 ?_;simp only[Tryz.f224];refine X2 ?_;refine X2 ?_;exact(Xc (he:=by first|rfl|(simp[*,uTB,Bool.or_assoc];done)|(simp only[XG,uTB,Bool.or_assoc];(repeat' split)<;>first|rfl|(exfalso;omega)|simp_all)))
def W3 (vars:List Vr) (v:Int):Bool:=decide (0<=v)&&(match vars[v.toNat]? with|some w=>decide (w.kind=0)|none=>false)
def shB (vars:List Vr) (nh:Nat) (d v n:Int) (t:Tm) (la lb_:Nat) (bs:List Int) (last:Bool):Bool:=
 if d=0 then((decide (la=0)&&decide (lb_=0))&&W3 vars v&&decide (n=0))&&decide (bs.length=0)
 else if d=1 then((decide (la=0)&&decide (lb_=0))&&decide (v=0)&&decide (n=0))&&decide (bs.length=0)
 else if d=2 then(((decide (la=0)&&decide (lb_=0))&&decide (v=0)&&decide (n=0))&&decide (bs.length=0))&&WQ t
 else if d=3 then(decide (v=0)&&decide (n=0))&&decide (bs.length=0)
 else if d=4 then(decide (v=0)&&decide (lb_=0))&&decide (bs.length=0)
 else if d=5 then((((decide (la=0)&&decide (lb_=0))&&W3 vars v&&decide (0<=n))&&decide (n<nh))&&decide (bs.length=0))&&WQ t
 else if d=6 then((((decide (la=0)&&decide (lb_=0))&&last&&decide (v=0))&&decide (n=0))&&WQ t)&&WY bs
 else false
theorem Xaz (f:Fl) (s:St) (last:Bool) (hv:f.vars.length<=1000000000) (hb:s.bounds.length<=1000000000) (e:Nat):
  Con prog 98 true [aF f,aS s,lb last] (.v (lb (shB f.vars f.hats.length s.do_ s.var s.n s.term s.then_.length s.else_.length s.bounds last))) none e:=by
 obtain⟨vars,hats,body⟩:=f;obtain⟨d,c,v,n,t,a,b,bs⟩:=s;simp only[St.do_,St.var,St.n,St.term,St.then_,St.else_,St.bounds]at hb⊢;simp only at hv;have c1:=XbE t;have c2:=Xap bs hb;obtain⟨P,hP⟩:∃p,WQ t=p:=⟨_,rfl⟩;obtain⟨R,hR⟩:∃p,WY bs=p:=⟨_,rfl⟩;obtain⟨la,hla⟩:∃k,a.length=k:=⟨_,rfl⟩;obtain⟨lc,hlc⟩:∃k,b.length=k:=⟨_,rfl⟩;obtain⟨nb,hnb⟩:∃k,bs.length=k:=⟨_,rfl⟩;obtain⟨nv,hnv⟩:∃k,vars.length=k:=⟨_,rfl⟩;obtain⟨nh,hnh⟩:∃k,hats.length=k:=⟨_,rfl⟩;obtain⟨res,hres⟩:∃r,shB vars hats.length d v n t a.length b.length bs last=r:=⟨_,rfl⟩;rw[hres];simp only[shB,hP,hR,hla,hlc,hnb,hnh]at hres;rw[hP]at c1;rw[hR]at c2;obtain⟨o,tn,ks⟩:=t;clear hP hR;simp only[aT,Tm.enc,Nk,Nr]at c1;refine X5 Tryz.func98 ?_;simp only[Tryz.f98];simp only[aF,aS,Fl.enc,St.enc,Tm.enc,Nk,Nr,List.cons_append,List.nil_append];refine X2 ?_;refine X2 ?_;refine XT [2,3,4,7] (fun(z:Bool)=>[(8,.v (lb z))]) (fun(z:Bool)=>[(3,.box [.c (.sl 5 (Xk vars)),.c (.sl 6 (Xn hats)),.c (.sl 10 (X7 body))]),(4,.box [.c (iC d),.c (iC c),.c (iC v),.c (iC n),.c (iC o),.c (iC tn),.c (.sl 3 (Xx ks)),.c (.sl 10 (X7 a)),.c (.sl 10 (X7 b)),.c (.sl 1 (X9 bs))])]) (fun(z:Bool)=>z=W3 vars v) ?_ ?_
 .by_cases h0:0<=v
  .by_cases h1:v<vars.length
   .obtain⟨w,hw⟩:=X3H ⟨h0,h1⟩;have h2:decide (v<(nv:Int))=true:=D7 (by omega);have hz:W3 vars v=decide (w.kind=0):=by unfold W3;rw[hw];simp[h0]
    clear h1;refine Xs (by simp[*];rfl) ?_;exact⟨decide (w.kind=0),hz.symm,X4 (fun n=>n) []⟩
   have hw:=X1l h0 h1;have h2:¬v<(nv:Int):=by omega
   have hz:W3 vars v=false:=by unfold W3;rw[hw];simp
   clear h1;refine Xs (by simp[*];rfl) ?_;exact⟨false,hz.symm,X4 (fun n=>n) []⟩
  have hz:W3 vars v=false:=by unfold W3;simp[h0]
  refine Xs (by simp[*];rfl) ?_;exact⟨false,hz.symm,X4 (fun n=>n) []⟩
 rintro LO hLO;simp only[upS,X8,Xz]
 simp only[KN,Nat.reduceBEq,Nj,Nc,ins,Nat.reduceLT]
 rw[<-hLO]at hres;clear hLO;refine X0<|X0<|X1 ?_;refine X3<|X0<|X1 ?_;refine(X6 rfl (fun h5=>?_) (fun h5=>?_))
 ·simp only[BN]at h5;refine X2 ?_;exact(Xc (he:=by rw[<-hres];simp[*,XG,Dw]))
 simp only[BN]at h5;refine X2 ?_;refine(X6 rfl (fun h9=>?_) (fun h9=>?_))
 ·simp only[BN]at h9;refine X2 ?_;exact(Xc (he:=by rw[<-hres];simp[*,XG,Dw]))
 simp only[BN]at h9;refine X2 ?_;refine(X6 rfl (fun h13=>?_) (fun h13=>?_))
 ·simp only[BN]at h13;by_cases hg:(la=0/\lc=0)/\v=0/\n=0/\nb=0
  .obtain⟨⟨g1,g2⟩,g3,g4,g5⟩:=hg;refine Xh [⟨true,.v (lb P),none⟩] ?_ ?_
   .first|exact c1 _|exact trivial|simpa[*]using c1 _
   exact(Xc (he:=by rw[<-hres];simp[*,XG]))
  have hgb:(decide (la=0)&&decide (lc=0)&&decide (v=0)&&decide (n=0)&&decide (nb=0))=false:=by simp only[NA,Nh];omega
  clear hg
  have hr:false=res:=by
   rw[<-hres,N7 h5,N7 h9,N8 h13];rw[hgb];rfl
  subst hr;refine X0<|(X2c [none] (by simp[*];first|exact⟨rfl,trivial⟩|exact⟨rfl,Iff.rfl⟩|rfl) ?_ ?_)
  .trivial
  exact(Xc (he:=by rfl))
 simp only[BN]at h13;refine X2 ?_;refine(X6 rfl (fun h17=>?_) (fun h17=>?_))
 ·simp only[BN]at h17;refine X2 ?_;exact(Xc (he:=by rw[<-hres];simp[*,XG,Dw]))
 simp only[BN]at h17;refine X2 ?_;refine(X6 rfl (fun h21=>?_) (fun h21=>?_))
 ·simp only[BN]at h21;refine X2 ?_;exact(Xc (he:=by rw[<-hres];simp[*,XG,Dw]))
 simp only[BN]at h21;refine X2 ?_;refine(X6 rfl (fun h25=>?_) (fun h25=>?_))
 ·simp only[BN]at h25;by_cases hg:(la=0/\lc=0)/\LO=true/\0<=n/\n<nh/\nb=0
  .obtain⟨⟨g1,g2⟩,g3,g4,g5,g6⟩:=hg;refine Xh [⟨true,.v (lb P),none⟩] ?_ ?_
   .first|exact c1 _|exact trivial|simpa[*]using c1 _
   exact(Xc (he:=by rw[<-hres];simp[*,XG]))
  have hgb:(decide (la=0)&&decide (lc=0)&&LO&&decide (0<=n)&&decide (n<(nh:Int))&&decide (nb=0))=false:=by
   cases LO
   .simp
   simp only[NA,Nh];simp only[true_and]at hg;omega
  clear hg
  have hr:false=res:=by
   rw[<-hres,N7 h5,N7 h9,N7 h13,N7 h17,N7 h21,N8 h25];rw[hgb];rfl
  subst hr;refine X0<|(X2c [none] (by simp[*];first|exact⟨rfl,trivial⟩|exact⟨rfl,Iff.rfl⟩|rfl) ?_ ?_)
  .trivial
  exact(Xc (he:=by rfl))
 simp only[BN]at h25;refine X2 ?_;refine(Xb rfl (fun h29=>?_) fun h29=>?_)
 ·simp only[BN]at h29;by_cases hg:(la=0/\lc=0)/\last=true/\v=0/\n=0
  .obtain⟨⟨g1,g2⟩,g3,g4,g5⟩:=hg;refine Xh [⟨true,.v (lb P),none⟩,⟨true,.v (lb R),none⟩] ?_ ?_
   .first|exact⟨c1 _,c2 _⟩|exact trivial|(repeat' first|exact trivial|exact c1 _|exact c2 _|apply And.intro)
   exact(Xc (he:=by rw[<-hres];simp[*,XG]))
  have hgb:(decide (la=0)&&decide (lc=0)&&last&&decide (v=0)&&decide (n=0))=false:=by
   cases last
   .simp
   simp only[NA,Nh];simp only[true_and]at hg;omega
  clear hg
  have hr:false=res:=by
   rw[<-hres,N7 h5,N7 h9,N7 h13,N7 h17,N7 h21,N7 h25,N8 h29];rw[hgb];rfl
  subst hr;refine X0<|(X2c [none,none] (by simp[*];first|exact⟨rfl,trivial⟩|exact⟨rfl,Iff.rfl⟩|rfl) ?_ ?_)
  .trivial
  exact(Xc (he:=by rfl))
 simp only[BN]at h29;refine X2 ?_;exact(Xc (he:=by rw[<-hres];simp[*,XG]))
def badP (UV UN UT P LO:Bool) (d v n:Int) (la lc nb nh:Nat):Prop:=
 d<0\/6<d\/(UV=false/\v≠0)\/(UN=false/\n≠0)\/(UT=false/\P=false)\/((d≠3/\d≠4)/\0<la)\/(d≠3/\0<lc)\/(d≠6/\0<nb)\/(UV=true/\LO=false)\/(d=5/\(n<0\/nh<=n))
instance (UV UN UT P LO:Bool) (d v n:Int) (la lc nb nh:Nat):Decidable (badP UV UN UT P LO d v n la lc nb nh):=by unfold badP;exact inferInstance
theorem sh_bad {vars:List Vr} {nh:Nat} {d v n:Int} {t:Tm} {la lc:Nat} {bs:List Int} {last:Bool} (h:badP (uVB d) (uNB d) (uTB d) (WQ t) (W3 vars v) d v n la lc bs.length nh):shB vars nh d v n t la lc bs last=false:=by
 unfold shB;generalize WQ t=P at*;generalize W3 vars v=LO at*
 have hr:WY bs=true->1<=bs.length:=by
  intro h;unfold WY at h;simp only[N3,N5]at h;omega
 generalize WY bs=R at*;generalize bs.length=nb at*;unfold badP uVB uNB uTB at h
 (repeat' split)<;>(simp only[NA,NR,Nf,N5,Nh]at h⊢)<;>cases P<;>cases LO<;>cases last<;>cases R<;>simp at h hr⊢ <;>omega
theorem sh_good {vars:List Vr} {nh:Nat} {d v n:Int} {t:Tm} {la lc:Nat} {bs:List Int} {last:Bool} (h:¬badP (uVB d) (uNB d) (uTB d) (WQ t) (W3 vars v) d v n la lc bs.length nh):shB vars nh d v n t la lc bs last=(decide (d≠6)||(last&&WY bs)):=by
 unfold shB;generalize WQ t=P at*;generalize W3 vars v=LO at*;generalize WY bs=R at*;generalize bs.length=nb at*;unfold badP uVB uNB uTB at h;rw[Dl]
 (repeat' split)<;>(simp only[not_or,not_and,NR,Nf,N3,N5,Nh]at h⊢)<;>cases P<;>cases LO<;>cases last<;>cases R<;>simp at h⊢ <;>omega
def X3I (d:Int):Int:=if d=2 then 67108864 else 10000
def X4G (bs:List Int):Bool:=
 match bs[bs.length - 1]? with
 |some x=>decide (x<=67108864)
 |none=>true
def X3o (d c n:Int) (bs:List Int):Bool:=
 (!(decide (c<0)||decide (X3I d<c)||(decide (d=4)&&(decide (n<0)||decide (4096<n)))))&&(decide (d≠6)||X4G bs)
theorem numP_con (s:St) (hb:s.bounds.length<=1000000000) (h6:s.do_=6->s.bounds≠[]) (h5:s.do_≠6->s.bounds=[]) (e:Nat):
  Con prog 187 true [aS s] (.v (lb (X3o s.do_ s.cost s.n s.bounds))) none e:=by
 obtain⟨d,c,v,n,⟨o,tn,ks⟩,a,b,bs⟩:=s;simp only[St.do_,St.cost,St.n,St.bounds]at hb h6 h5⊢;refine X5 Tryz.func187 ?_;simp only[Tryz.f187];simp only[aS,St.enc,Tm.enc,Nk,Nr,List.cons_append,List.nil_append];refine X2 ?_;refine X2 ?_;refine(XT [1] (fun(z:Int)=>[(3,.v (li z))]) (fun(z:Int)=>[(1,.box [.c (iC d),.c (iC c),.c (iC v),.c (iC n),.c (iC o),.c (iC tn),.c (.sl 3 (Xx ks)),.c (.sl 10 (X7 a)),.c (.sl 10 (X7 b)),.c (.sl 1 (X9 bs))])]) (fun(z:Int)=>z=X3I d) ?_ ?_)
 ·
  refine X2 ?_;refine(Xb rfl (fun h4=>?_) fun h4=>?_)
  ·simp only[BN]at h4;refine X1 ?_;exact⟨67108864,by simp[X3I,h4],X4 (fun n=>n) []⟩
  simp only[BN]at h4;exact⟨10000,by simp[X3I,h4],X4 (fun n=>n) []⟩
 rintro M hM;simp only[upS,X8,Xz]
 simp only[KN,Nat.reduceBEq,Nj,Nc,ins,Nat.reduceLT]
 refine X0<|X0<|X1 ?_;refine(Xb rfl (fun h9=>?_) fun h9=>?_)
 .simp only[BN]at h9
  have hz:X3o d c n bs=false:=by
   unfold X3o;rw[<-hM];simp only[NA,Nf,N3,Bool.not_eq_false',N5];omega
  refine X2 ?_;exact Xc
 simp only[BN]at h9
 have hz:X3o d c n bs=(decide (d≠6)||X4G bs):=by
  unfold X3o;rw[<-hM]
  rw[show(!(decide (c<0)||decide (M<c)||(decide (d=4)&&(decide (n<0)||decide (4096<n)))))=true by
   simp only[NR,NA,Nu,Nh]
   omega]
  rfl
 clear h9;by_cases hd6:d=6
 .have hne:=h6 hd6
  have hpos:1<=bs.length:=by
   cases bs with
   |nil=>exact absurd rfl hne
   |cons x l=>simp
  obtain⟨x,hx⟩:=X6Y (show bs.length - 1<bs.length by omega);have hw1:IntKind.i64.wrap ((bs.length:Int) - 1)=(bs.length:Int) - 1:=Xa;have hw2:0<=(bs.length:Int) - 1:=by omega
  have hw3:((bs.length:Int) - 1).toNat=bs.length - 1:=by omega
  have hw4:1<=(bs.length:Int):=by omega
  have hlo:X4G bs=decide (x<=67108864):=by unfold X4G;rw[hx]
  clear h6 h5 hne hpos;refine X2 ?_;exact Xc
 have hbs:=h5 hd6;subst hbs;have hw1:IntKind.i64.wrap (-1)=-1:=by decide
 clear h6 h5;refine X2 ?_;exact Xc
theorem X9z (f:Fl) (s:St) (last:Bool) (hv:f.vars.length<=1000000000) (hb:s.bounds.length<=1000000000) (e:Nat):
  Con prog 186 true [aF f,aS s,lb last] (.v (lb (shB f.vars f.hats.length s.do_ s.var s.n s.term s.then_.length s.else_.length s.bounds last))) none e:=by
 obtain⟨vars,hats,body⟩:=f;obtain⟨d,c,v,n,t,a,b,bs⟩:=s;simp only[St.do_,St.var,St.n,St.term,St.then_,St.else_,St.bounds]at hb⊢;simp only at hv;have c1:=Xbf t;have c2:=XaU bs hb;have c3:=uV_con d;have c4:=uN_con d;have c5:=uT_con d;have hgood:=@sh_good vars hats.length d v n t a.length b.length bs last;have hbad:=@sh_bad vars hats.length d v n t a.length b.length bs last;have hrise:WY bs=((decide (1<=bs.length)&&(decide (bs.length<=32)&&X5o bs))&&X3Y bs):=rfl;rw[hrise]at hgood;clear hrise;generalize shB vars hats.length d v n t a.length b.length bs last=SH at*;generalize uVB d=UV at*;generalize uNB d=UN at*;generalize uTB d=UT at*;generalize WQ t=P at*;generalize X3Y bs=R at*;obtain⟨LO,hLO⟩:∃p,W3 vars v=p:=⟨_,rfl⟩;rw[hLO]at hgood hbad;obtain⟨o,tn,ks⟩:=t;obtain⟨la,hla⟩:∃k,a.length=k:=⟨_,rfl⟩;obtain⟨lc,hlc⟩:∃k,b.length=k:=⟨_,rfl⟩;obtain⟨nb,hnb⟩:∃k,bs.length=k:=⟨_,rfl⟩;obtain⟨nv,hnv⟩:∃k,vars.length=k:=⟨_,rfl⟩;obtain⟨nh,hnh⟩:∃k,hats.length=k:=⟨_,rfl⟩;rw[hla,hlc,hnb,hnh]at hgood hbad;simp only[aT,Tm.enc,Nk,Nr]at c1;refine X5 Tryz.func186 ?_;simp only[Tryz.f186];simp only[aF,aS,Fl.enc,St.enc,Tm.enc,Nk,Nr,List.cons_append,List.nil_append];refine X2 ?_;refine X2 ?_;refine(XT [2,4,7] (fun(z:Unit)=>[]) (fun(z:Unit)=>[(4,.box [.c (iC d),.c (iC c),.c (iC v),.c (iC n),.c (iC o),.c (iC tn),.c (.sl 3 (Xx ks)),.c (.sl 10 (X7 a)),.c (.sl 10 (X7 b)),.c (.sl 1 (X9 bs))])]) (fun(z:Unit)=>SH=(decide (d≠6)||(last&&((decide (0<nb)&&(decide (nb<=32)&&X5o bs))&&R)))) ?_ ?_)
 ·
  refine X3<|(XT [2,4,7] (fun(z:Bool)=>[(10,.v (lb z))]) (fun(z:Bool)=>[(4,.box [.c (iC d),.c (iC c),.c (iC v),.c (iC n),.c (iC o),.c (iC tn),.c (.sl 3 (Xx ks)),.c (.sl 10 (X7 a)),.c (.sl 10 (X7 b)),.c (.sl 1 (X9 bs))])]) (fun(z:Bool)=>z=decide (badP UV UN UT P LO d v n la lc nb nh)) ?_ ?_)
  ·
   refine X2 ?_;refine(X6 rfl (fun h5=>Xe ?_) (fun h5=>?_))
   ·simp only[BN]at h5;exact⟨true,(D7 (h5.elim .inl (fun h=>.inr (.inl h)))).symm,X4 (fun n=>n) []⟩
   simp only[BN]at h5;refine Xh [⟨true,.v (lb UV),none⟩] ?_ ?_
   .first|exact c3 _|exact trivial|simpa[*]using c3 _
   refine(X6 rfl (fun h8=>Xe ?_) (fun h8=>?_))
   ·simp only[BN]at h8;exact⟨true,(D7 (.inr (.inr (.inl h8)))).symm,X4 (fun n=>n) []⟩
   simp only[BN]at h8;refine Xh [⟨true,.v (lb UN),none⟩] ?_ ?_
   .first|exact c4 _|exact trivial|simpa[*]using c4 _
   refine(X6 rfl (fun h11=>Xe ?_) (fun h11=>?_))
   ·simp only[BN]at h11;exact⟨true,(D7 (.inr (.inr (.inr (.inl h11))))).symm,X4 (fun n=>n) []⟩
   simp only[BN]at h11;refine XT [2,3,4,7] (fun(z:Bool)=>[(10,.v (lb z))]) (fun(z:Bool)=>[(3,.box [.c (.sl 5 (Xk vars)),.c (.sl 6 (Xn hats)),.c (.sl 10 (X7 body))]),(4,.box [.c (iC d),.c (iC c),.c (iC v),.c (iC n),.c (iC o),.c (iC tn),.c (.sl 3 (Xx ks)),.c (.sl 10 (X7 a)),.c (.sl 10 (X7 b)),.c (.sl 1 (X9 bs))])]) (fun(z:Bool)=>z=(!UT&& !P)) ?_ ?_
   .rcases(show UT=false\/UT=true by cases UT<;>simp)with hUT|hUT
    .refine Wi [⟨true,.v (lb false),none⟩,⟨true,.v (lb P),none⟩] (by simp[*];first|exact⟨rfl,Iff.rfl⟩|exact⟨rfl,trivial⟩|rfl) ?_ ?_
     ·(repeat' first|exact trivial|(simpa[hUT]using c5 _)|exact c1 _|apply And.intro)
     exact⟨!P,by simp[hUT],X4 (fun n=>n) []⟩
    refine X2c [some ⟨true,.v (lb true),none⟩,none] (by simp[*];first|exact⟨rfl,Iff.rfl⟩|exact⟨rfl,trivial⟩|rfl) ?_ ?_
    .first|exact trivial|(simpa[hUT]using c5 _)
    exact⟨false,by simp[hUT],X4 (fun n=>n) []⟩
   rintro LUT hLUT;simp only[upS,X8,Xz]
   simp only[KN,Nat.reduceBEq,Nj,Nc,ins,Nat.reduceLT]
   refine(X6 rfl (fun h14=>Xe ?_) (fun h14=>?_))
   ·rw[hLUT,N3,Nu,Nu]at h14;exact⟨true,(D7 (.inr (.inr (.inr (.inr (.inl h14)))))).symm,X4 (fun n=>n) []⟩
   refine X2 ?_;refine(X6 rfl (fun h17=>Xe ?_) (fun h17=>?_))
   ·simp only[BN]at h17;exact⟨true,(D7 (.inr (.inr (.inr (.inr (.inr (.inl ⟨h17.1,by omega⟩))))))).symm,X4 (fun n=>n) []⟩
   simp only[BN]at h17;refine X2 ?_;refine(X6 rfl (fun h20=>Xe ?_) (fun h20=>?_))
   ·simp only[BN]at h20;exact⟨true,(D7 (.inr (.inr (.inr (.inr (.inr (.inr (.inl ⟨h20.1,by omega⟩)))))))).symm,X4 (fun n=>n) []⟩
   simp only[BN]at h20;refine X2 ?_;refine(X6 rfl (fun h23=>Xe ?_) (fun h23=>?_))
   ·simp only[BN]at h23;exact⟨true,(D7 (.inr (.inr (.inr (.inr (.inr (.inr (.inr (.inl ⟨h23.1,by omega⟩))))))))).symm,X4 (fun n=>n) []⟩
   simp only[BN]at h23;refine XT [2,3,4,7] (fun(z:Bool)=>[(10,.v (lb z))]) (fun(z:Bool)=>[(3,.box [.c (.sl 5 (Xk vars)),.c (.sl 6 (Xn hats)),.c (.sl 10 (X7 body))]),(4,.box [.c (iC d),.c (iC c),.c (iC v),.c (iC n),.c (iC o),.c (iC tn),.c (.sl 3 (Xx ks)),.c (.sl 10 (X7 a)),.c (.sl 10 (X7 b)),.c (.sl 1 (X9 bs))])]) (fun(z:Bool)=>z=(UV&& !LO)) ?_ ?_
   .by_cases h0:0<=v
    .have h3:¬v<0:=by omega
     by_cases h1:v<vars.length
     .obtain⟨w,hw⟩:=X3H ⟨h0,h1⟩;have h2:¬(nv:Int)<=v:=by omega
      have hz:LO=decide (w.kind=0):=by rw[<-hLO];unfold W3;rw[hw];simp[h0]
      subst hz;clear h1;refine Wi [⟨true,.v (lb UV),none⟩] (by simp[*];first|exact⟨rfl,Iff.rfl⟩|exact⟨rfl,trivial⟩|rfl) ?_ ?_
      .first|exact c3 _|exact trivial
      exact⟨UV&& !decide (w.kind=0),rfl,X4 (fun n=>n) []⟩
     have hw:=X1l h0 h1;have h2:(nv:Int)<=v:=by omega
     have hz:LO=false:=by rw[<-hLO];unfold W3;rw[hw];simp
     subst hz;clear h1;refine Wi [⟨true,.v (lb UV),none⟩] (by simp[*];first|exact⟨rfl,Iff.rfl⟩|exact⟨rfl,trivial⟩|rfl) ?_ ?_
     .first|exact c3 _|exact trivial
     exact⟨UV&& !false,rfl,X4 (fun n=>n) []⟩
    have h3:v<0:=by omega
    have hz:LO=false:=by rw[<-hLO];unfold W3;simp[h0]
    subst hz;refine Wi [⟨true,.v (lb UV),none⟩] (by simp[*];first|exact⟨rfl,Iff.rfl⟩|exact⟨rfl,trivial⟩|rfl) ?_ ?_
    .first|exact c3 _|exact trivial
    exact⟨UV&& !false,rfl,X4 (fun n=>n) []⟩
   rintro LOU hLOU;simp only[upS,X8,Xz]
   simp only[KN,Nat.reduceBEq,Nj,Nc,ins,Nat.reduceLT]
   refine(X6 rfl (fun h26=>Xe ?_) (fun h26=>?_))
   ·rw[hLOU,N3,Nu]at h26;exact⟨true,(D7 (.inr (.inr (.inr (.inr (.inr (.inr (.inr (.inr (.inl h26)))))))))).symm,X4 (fun n=>n) []⟩
   have hz:decide (badP UV UN UT P LO d v n la lc nb nh)=(decide (d=5)&&(decide (n<0)||decide ((nh:Int)<=n))):=by
    rw[hLOU]at h26;rw[Dl,N5];unfold badP;simp only[N3,Nf,N5];constructor
    .rintro(h|h|h|h|h|h|h|h|h|h)
     .omega
     .omega
     .exact absurd h8 (by simp[h.1,h.2])
     .exact absurd h11 (by simp[h.1,h.2])
     .rw[hLUT,h.1,h.2]at h14;cases h14
     .omega
     .omega
     .omega
     .exact absurd h26 (by simp[h.1,h.2])
     exact h
    exact fun h=>.inr (.inr (.inr (.inr (.inr (.inr (.inr (.inr (.inr h))))))))
   refine X1 ?_;exact⟨(decide (d=5)&&(decide (n<0)||decide ((nh:Int)<=n))),hz.symm,X4 (fun n=>n) []⟩
  rintro _ rfl;simp only[upS,X8,Xz]
  simp only[KN,Nat.reduceBEq,Nj,Nc,ins,Nat.reduceLT]
  refine(Xb rfl (fun h30=>?_) fun h30=>?_)
  ·simp only[BN]at h30;have hz:=hbad h30;clear hgood hbad;refine X2 ?_;exact Xc
  simp only[BN]at h30;have hz:=hgood h30;clear hgood hbad;exact⟨(),hz,X4 (fun n=>n) []⟩
 rintro _ hz;simp only[upS,X8,Xz]
 simp only[KN,Nat.reduceBEq,Nj,Nc]
 clear hgood hbad;rcases XbQ bs with h0|⟨b0,hb0⟩
 .subst h0;have hh:X5o []=false:=rfl;replace hnb:nb=0:=hnb.symm;subst hnb;rw[hh]at hz;refine Xh [⟨true,.v (lb R),none⟩] ?_ ?_
  .first|exact c2 _|exact trivial|simpa[*]using c2 _
  exact(Xc (he:=by first|(simp[*,XG];done)|rfl))
 have hh:X5o bs=decide (0<=b0):=by unfold X5o;rw[hb0]
 rw[hh]at hz;have e32:decide ((nb:Int)<=32)=decide (nb<=32):=by rw[decide_eq_decide];omega
 refine Xh [⟨true,.v (lb R),none⟩] ?_ ?_
 .first|exact c2 _|exact trivial|simpa[*]using c2 _
 exact(Xc (he:=by rw[hz];simp[XG,Dw]))
end Go.Proofs.YtdajceakaakdoaaGreat
