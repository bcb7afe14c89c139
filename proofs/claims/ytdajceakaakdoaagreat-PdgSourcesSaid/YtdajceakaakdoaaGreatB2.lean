/- Contracts of functions and plain facts about what they compute. Conditions: as each theorem states. -/
import Derived.Test.YtdajceakaakdoaaGreatB1
set_option linter.unusedSimpArgs false
set_option linter.unusedVariables false
set_option linter.unnecessarySimpa false
set_option maxRecDepth 100000
set_option maxHeartbeats 2000000
namespace Go.Proofs.YtdajceakaakdoaaGreat
open Go Go.Hl
open Tryz(prog)
@[simp] theorem take_encV (l:List Vr) (i:Nat):(Xm l).take i=Xm (l.take i):=by simp[Xm]
@[simp] theorem encV_snoc (l:List Vr) (v:Vr):Xm (l++[v])=Xm l++[v.enc]:=by simp[Xm]
theorem WA {T:Type} {l:List T} {k:Nat} {x:T} (h:l[k]? =some x):l.take (k+1)=l.take k++[x]:=by
 rw[List.take_add_one,h];rfl
theorem X27 (s:ByteArray) (d:Nat):Con prog 50 true [sv s] (.v (lb (ZT s))) none d:=by
 refine X6 Tryz.func50 ?_;simp only[Tryz.f50];refine X1 ?_;refine X0<|X0<|X2 ?_;refine(Xc rfl (fun h2=>?_) fun h2=>?_)
 .try simp only[BN]at h2
  have hz:ZT s=false:=by
   unfold ZT;rw[NB,NB];simp only[Nj];omega
  refine X1 ?_;exact Xf
 (try simp only[BN]at h2);have h1:1<=s.size:=by omega
 have h40:s.size<=40:=by omega
 refine X0<|X0<|X2 ?_;refine X3<|(Xd [0] (fun(x:Nat)=>[(3,.v (li x))]) (fun x=>[]) (fun x=>x<=s.size/\∀j:Nat,j<x->X4B s j=true) (fun x=>s.size - x) (0:Nat) ⟨Nq _,fun j hj=>absurd hj (Dy j)⟩ ?_ ?_)
 .exact X4 (fun n=>n) []
 rintro k ⟨hk,hall⟩;simp only[upS,X5,Xy]
 try simp only[X5,KN,Nat.reduceBEq,Nf,Nc,ins,Nat.reduceLT]
 refine X0<|X0<|X2 ?_;refine(X8 rfl (fun h8=>Xb ?_) (fun h8=>?_))
 ·(try simp only[BN]at h8);have hlt:k<s.size:=by omega
  obtain⟨b,hb⟩:=X6T hlt;have hw:=XE hlt (by omega);have hk1:k+1<=s.size:=hlt;clear hlt h8;refine X0<|X3<|X0<|X2 ?_;refine X1 ?_;refine X1 ?_;refine X1 ?_;refine(Xc rfl (fun h13=>?_) fun h13=>?_)
  .try simp only[BN]at h13
   have hbad:X4B s k=false:=by
    unfold X4B;rw[hb];simp only[NV,NB,Nj];omega
   have hz:=X6P hk1 hbad;refine X1 ?_;exact Xf
  try simp only[BN]at h13
  have hgood:X4B s k=true:=by
   unfold X4B;rw[hb];simp only[Nl,N4,N6];omega
  refine X2 ?_;exact⟨k+1,⟨by omega,fun j hj=>(Nat.lt_succ_iff_lt_or_eq.1 hj).elim (hall j) (fun e=>e▸hgood)⟩,by omega,X4 (fun n=>n) []⟩
 (try simp only[BN]at h8);have hz:=X67 h1 h40 (fun j hj=>hall j (by omega));refine(Xg ?_);refine X1 ?_;exact Xf
def sz (v:Vr):Int:=v.high - v.low+1
def prV:List Vr->Int->Int
 |[],n=>n
 |v::l,n=>if 4096<n*sz v then 4097 else prV l (n*sz v)
def spc (vars:List Vr) (kind:Int):Int:=prV (vars.filter fun v=>decide (v.kind=kind)) 1
def X1K (vars:List Vr):Prop:=∀v∈vars,v.low<=v.high∧-1048576<=v.low/\v.high<=1048576
theorem sz_in {vars:List Vr} (h:X1K vars) {v:Vr} (hv:v∈vars):1<=sz v/\sz v<=2097153:=by
 have:=h v hv;unfold sz;omega
theorem XaJ {n s:Int} (h1:1<=n/\n<=4096) (h2:1<=s/\s<=2097153):1<=n*s/\n*s<=8589938688:=by
 have h3:n.natAbs*s.natAbs<=4096*2097153:=Nat.mul_le_mul (by omega) (by omega);have h4:1*1<=n.natAbs*s.natAbs:=Nat.mul_le_mul (by omega) (by omega);rw[<-Int.natAbs_mul]at h3 h4;have h5:0<=n*s:=DJ (by omega) (by omega);omega
theorem prV_in {vars:List Vr} (h:X1K vars):∀(l:List Vr) (n:Int),(∀v∈l,v∈vars)->1<=n/\n<=4096->1<=prV l n/\prV l n<=4097
 |[],n,_,hn=>by simp only[prV];omega
 | v::l,n,hl,hn=>by
   simp only[prV];have:=XaJ hn (sz_in h (hl v (by simp)));split
   .omega
   exact prV_in h l _ (fun w hw=>hl w (NS _ hw)) (by omega)
theorem X2I (vars:List Vr) (kind:Int) (hv:X1K vars) (hl:vars.length<=1000000000) (d:Nat):Con prog 95 true [lV vars,li kind] (.v (li (spc vars kind))) none d:=by
 obtain⟨res,hres⟩:∃r,spc vars kind=r:=⟨_,rfl⟩;rw[hres];unfold spc at hres;refine X6 Tryz.func95 ?_;simp only[Tryz.f95];refine X1 ?_;refine X1 ?_;refine X0<|X0<|X2 ?_;refine X3<|(Xd [0,1] (fun(x:Nat×Int)=>[(5,.v (li x.2)),(6,.v (li x.1))]) (fun x=>[]) (fun x=>x.1<=vars.length/\prV ((vars.drop x.1).filter fun v=>decide (v.kind=kind)) x.2=res/\1<=x.2/\x.2<=4096) (fun x=>vars.length - x.1) (0,1) ⟨Nq _,hres,by decide,by decide⟩ ?_ ?_)
 .exact X4 (fun n=>n) []
 rintro⟨k,n⟩ ⟨hk,hJ,hn1,hn2⟩;simp only[upS,X5,Xy]
 try simp only[X5,KN,Nat.reduceBEq,Nf,Nc,ins,Nat.reduceLT]
 simp only at hk hJ hn1 hn2;clear hres;refine X0<|X0<|X2 ?_;refine(X8 rfl (fun h5=>Xb ?_) (fun h5=>?_))
 ·(try simp only[BN]at h5);have hlt:k<vars.length:=by omega
  obtain⟨v,he,hd⟩:=Xu hlt;have hw1:=XE hlt (by omega);have hk1:k+1<=vars.length:=hlt;have hmem:v∈vars:=N3 he;have hs:=sz_in hv hmem;have hm:=XaJ ⟨hn1,hn2⟩ hs;have hb:=hv v hmem;have hw2:IntKind.i64.wrap (v.high - v.low)=v.high - v.low:=X9;have hw3:IntKind.i64.wrap (v.high - v.low+1)=sz v:=by rw[X9 (by omega) (by omega)];rfl
  have hw4:IntKind.i64.wrap (n*sz v)=n*sz v:=X9;rw[hd]at hJ;clear hlt h5 hv;refine X0<|X3<|X0<|X0<|X2 ?_;refine(Xc rfl (fun h7=>?_) fun h7=>?_)
  ·(try simp only[BN]at h7);rw[DG (by simpa using h7)]at hJ;refine(Xg ?_);refine X2 ?_;exact⟨(k+1,n),⟨hk1,hJ,hn1,hn2⟩,by simp only;omega,X4 (fun n=>n) []⟩
  (try simp only[BN]at h7);rw[DH (by simpa using h7)]at hJ;simp only[prV]at hJ;refine X0<|(N0 ?_);refine X1 ?_;refine(Xc rfl (fun h12=>?_) fun h12=>?_)
  ·(try simp only[BN]at h12);rw[Na h12]at hJ;subst hJ;refine X1 ?_;exact Xf
  (try simp only[BN]at h12);rw[N7 h12]at hJ;refine X2 ?_;exact⟨(k+1,n*sz v),⟨hk1,hJ,hm.1,by simp only;omega⟩,by simp only;omega,X4 (fun n=>n) []⟩
 (try simp only[BN]at h5);have hkl:k=vars.length:=by omega
 rw[hkl,Nt]at hJ;simp only[List.filter_nil,prV]at hJ;refine(Xg ?_);refine X1 ?_;exact(Xf (he:=by subst hJ;rfl))
theorem X6E (v:Vr) (hv:-1048576<=v.low/\v.low<=v.high/\v.high<=1048576) (d:Nat):Con prog 247 true [aV v] (.v (li (sz v))) none d:=by
 have hw2:IntKind.i64.wrap (v.high - v.low)=v.high - v.low:=X9;have hw3:IntKind.i64.wrap (v.high - v.low+1)=sz v:=by rw[X9 (by omega) (by omega)];rfl
 refine X6 Tryz.func247 ?_;simp only[Tryz.f247];refine X1 ?_;refine X1 ?_;exact Xf
def chR (vars:List Vr) (kind:Int):RV:=if spc vars kind<=4096 then .tup [.one (.c (.sl 5 (Xm (vars.filter fun v=>decide (v.kind=kind))))),li (spc vars kind),li 0] else .tup [.one (.c (.lit XY)),li 0,li 4]
theorem Xaj (vars:List Vr) (kind:Int) (hkd:1<=kind/\kind<=3) (hv:X1K vars) (hl:vars.length<=1000000) (d:Nat):Con prog 219 false [lV vars,li kind] (chR vars kind) none d:=by
 obtain⟨S,hS⟩:∃S,vars.filter (fun v=>decide (v.kind=kind))=S:=⟨_,rfl⟩;obtain⟨res,hres⟩:∃r,spc vars kind=r:=⟨_,rfl⟩;unfold chR;rw[hres,hS];unfold spc at hres;rw[hS]at hres;refine X6 Tryz.func219 ?_;simp only[Tryz.f219];refine X1 ?_;refine(XM [0,1] (fun(z:Unit)=>[]) (fun(z:Unit)=>[]) (fun(z:Unit)=>True) ?_ ?_)
 ·
  refine X1 ?_;refine X3<|(XM [0,1] (fun(z:Bool)=>[(14,.v (lb z))]) (fun(z:Bool)=>[]) (fun(z:Bool)=>z=true) ?_ ?_)
  ·
   refine X1 ?_;refine(X8 rfl (fun h5=>Xb ?_) (fun h5=>?_))
   ·(try simp only[BN]at h5);exact⟨true,rfl,X4 (fun n=>n) []⟩
   (try simp only[BN]at h5);refine X1 ?_;refine(X8 rfl (fun h8=>Xb ?_) (fun h8=>?_))
   ·(try simp only[BN]at h8);exact⟨true,rfl,X4 (fun n=>n) []⟩
   (try simp only[BN]at h8);refine X1 ?_;refine(X8 rfl (fun h11=>Xb ?_) (fun h11=>?_))
   ·(try simp only[BN]at h11);exact⟨true,rfl,X4 (fun n=>n) []⟩
   (try simp only[BN]at h11);refine X2 ?_;have hz:decide (kind=3)=true:=by rw[N6];omega
   exact⟨true,rfl,X4 (fun n=>n) []⟩
  rintro _ rfl;simp only[upS,X5,Xy]
  try simp only[X5,KN,Nat.reduceBEq,Nf,Nc,ins,Nat.reduceLT]
  refine(X8 rfl (fun h15=>Xb ?_) (fun h15=>?_))
  ·(try simp only[BN]at h15);exact⟨(),trivial,X4 (fun n=>n) []⟩
  exact absurd h15 (by simp)
 rintro z hz;simp only[upS,X5,Xy]
 try simp only[X5,KN,Nat.reduceBEq,Nf,Nc,ins,Nat.reduceLT]
 refine X1 ?_;refine X0<|X0<|X2 ?_;refine X3<|(Xd [1,19,20] (fun(x:Nat×List Vr)=>[(7,.v (.one (.own 1007))),(21,.v (li x.1))]) (fun x=>[(1007,.row 89 5 (Xm x.2))]) (fun x=>x.1<=vars.length/\x.2=(vars.take x.1).filter fun v=>decide (v.kind=kind)) (fun x=>vars.length - x.1) (0,[]) ⟨Nq _,by simp⟩ ?_ ?_)
 .exact Xl (fun n=>n) [1007] rfl (by simp[upS,X5]) (by simp[upS,Xm]) (by simp[upS])
 rintro⟨k,acc⟩ ⟨hk,hJ⟩;simp only[upS,X5,Xy]
 try simp only[X5,KN,Nat.reduceBEq,Nf,Nc,ins,Nat.reduceLT]
 simp only at hk hJ;replace hJ:=hJ.symm;refine X1 ?_;refine X0<|(X8 rfl (fun h23=>Xb ?_) (fun h23=>?_))
 ·(try simp only[BN]at h23);have hlt:k<vars.length:=by omega
  obtain⟨v,he,hd⟩:=Xu hlt;have hw1:=XE hlt (by omega);have hk1:k+1<=vars.length:=hlt;have hmem:v∈vars:=N3 he;have hb:=hv v hmem;have ht:=WA he;generalize hT:(vars.take k).filter (fun v=>decide (v.kind=kind))=T at hJ
  have hal:acc.length<=k:=by
   rw[<-hJ,<-hT];exact Dx (DC _ _) (by rw[NG];omega)
  have hroom:W4 (acc.length+1) 48:=XX (by omega) (by omega);clear hlt h23 hv;refine X0<|X3<|X0<|X2 ?_;refine X0<|X0<|X2 ?_;refine(Xc rfl (fun h26=>?_) fun h26=>?_)
  ·(try simp only[BN]at h26);have hf:(vars.take (k+1)).filter (fun v=>decide (v.kind=kind))=acc:=by rw[ht,Dl,hT,hJ,DG (by simpa using h26)];simp
   clear hS;refine(Xg ?_);refine X2 ?_;exact⟨(k+1,acc),⟨hk1,hf.symm⟩,by simp only;omega,X4 (fun n=>n) []⟩
  (try simp only[BN]at h26);have hf:(vars.take (k+1)).filter (fun v=>decide (v.kind=kind))=acc++[v]:=by rw[ht,Dl,hT,hJ,DH (by simpa using h26)];simp
  clear hS;refine X0<|X0<|X2 ?_;refine(Xc rfl (fun h30=>?_) fun h30=>?_)
  .exfalso;simp only[Nl,N6]at h30;omega
  (try simp only[BN]at h30);refine X2 ?_;refine X2 ?_;exact⟨(k+1,acc++[v]),⟨hk1,hf.symm⟩,by simp only;omega,X4 (fun n=>if n=1007 then 47 else n) []⟩
 (try simp only[BN]at h23);have hkl:k=vars.length:=by omega
 rw[hkl,List.take_length,hS]at hJ;subst hJ;have hSl:S.length<=1000000:=by rw[<-hS];exact Dx (DC _ _) hl
 have hSv:∀v∈S,v.low<=v.high∧-1048576<=v.low/\v.high<=1048576:=fun v h=>hv v (by rw[<-hS]at h;exact(NR.1 h).1);clear hS hv hk hl h23 hkl;refine(Xg ?_);refine X1 ?_;refine X0<|X0<|X2 ?_;refine X3<|(Xd [7,49,50] (fun(x:Nat×Int)=>[(10,.v (li x.2)),(51,.v (li x.1))]) (fun x=>[(1007,.row 89 5 (Xm S))]) (fun x=>x.1<=S.length/\prV (S.drop x.1) x.2=res/\1<=x.2/\x.2<=4096) (fun x=>S.length - x.1) (0,1) ⟨Nq _,hres,by decide,by decide⟩ ?_ ?_)
 .exact X4 (fun n=>n) []
 rintro⟨k2,n⟩ ⟨hk2,hJ,hn1,hn2⟩;simp only[upS,X5,Xy]
 try simp only[X5,KN,Nat.reduceBEq,Nf,Nc,ins,Nat.reduceLT]
 simp only at hk2 hJ hn1 hn2;clear hres;refine X1 ?_;refine X0<|(X8 rfl (fun h40=>Xb ?_) (fun h40=>?_))
 ·(try simp only[BN]at h40);have hlt:k2<S.length:=by omega
  obtain⟨v,he,hd⟩:=Xu hlt;have hw1:=XE hlt (by omega);have hk1:k2+1<=S.length:=hlt;have hb:=hSv v (N3 he);have hs:1<=sz v/\sz v<=2097153:=by unfold sz;omega
  have hm:=XaJ ⟨hn1,hn2⟩ hs;have hw4:IntKind.i64.wrap (n*sz v)=n*sz v:=X9;rw[hd]at hJ;simp only[prV]at hJ;clear hlt h40;refine X0<|X3<|X0<|X2 ?_;refine Xk [⟨true,.v (li (sz v)),none⟩] ?_ ?_
  .first|exact X6E v ⟨hb.2.1,hb.1,hb.2.2⟩ _|exact trivial|simpa[*]using X6E v ⟨hb.2.1,hb.1,hb.2.2⟩ _
  refine X1 ?_;refine(Xc rfl (fun h44=>?_) fun h44=>?_)
  ·(try simp only[BN]at h44);rw[Na h44]at hJ;subst hJ;refine X1 ?_;exact Qe ⟨.inr rfl,_,le_refl _,⟨⟨_,by simp;rfl,by simp[XL]⟩,by simp,fun h=>by cases h⟩⟩
  (try simp only[BN]at h44);rw[N7 h44]at hJ;refine X2 ?_;exact⟨(k2+1,n*sz v),⟨hk1,hJ,hm.1,by simp only;omega⟩,by simp only;omega,X4 (fun n=>n) []⟩
 (try simp only[BN]at h40);have hkl:k2=S.length:=by omega
 rw[hkl,Nt]at hJ;simp only[prV]at hJ;subst hJ;refine(Xg ?_);refine X1 ?_;exact Qe ⟨.inr rfl,_,Qs 1007 rfl,⟨⟨_,by simp;rfl,by simp[XL,hn2]⟩,by simp,fun h=>by cases h⟩⟩
theorem Xae (vars:List Vr) (kind:Int) (hkd:1<=kind/\kind<=3) (hv:X1K vars) (hl:vars.length<=1000000) (d:Nat):Con prog 182 true [lV vars,li kind]
  (.tup [li (if spc vars kind<=4096 then spc vars kind else 0),li (if spc vars kind<=4096 then 0 else 4)]) none d:=by
 have c:=Xaj vars kind hkd hv hl;unfold chR at c;obtain⟨res,hres⟩:∃r,spc vars kind=r:=⟨_,rfl⟩;rw[hres]at c⊢;clear hres;by_cases h:res<=4096
 .rw[Na h]at c;rw[Na h,Na h];refine X6 Tryz.func182 ?_;simp only[Tryz.f182];refine X1 ?_;refine Xk [⟨false,.tup [.one (.c (.sl 5 (Xm (vars.filter fun v=>decide (v.kind=kind))))),li res,li 0],none⟩] ?_ ?_
  .first|exact c _|exact trivial|simpa[*]using c _
  refine X1 ?_;exact Xf
 rw[N7 h]at c;rw[N7 h,N7 h];refine X6 Tryz.func182 ?_;simp only[Tryz.f182];refine X1 ?_;refine Xk [⟨false,.tup [.one (.c (.lit XY)),li 0,li 4],none⟩] ?_ ?_
 .first|exact c _|exact trivial|simpa[*]using c _
 refine X1 ?_;exact Xf
theorem idxV_con (l:List Vr) (g:FuncId) (cap:List CD) (p:Vr->Bool) (hl:l.length<=1000000000) (hp:∀v∈l,∀d,Con prog g true (aV v::cap.map fun c=>.one (.c c)) (.v (lb (p v))) none d) (d:Nat):
  ∃r:Int,(∀d,Con prog 218 true [lV l,.one (.c (.fn g cap))] (.v (li r)) none d)/\(0<=r↔l.any p=true):=by
 let rec_:List Vr->Int->Int:=fun l k=>match l.findIdx? p with
  |some i=>k+i
  |none=>-1
 refine⟨(match l.findIdx? p with|some i=>(i:Int)|none=>-1),fun d=>?_,?_⟩
 .have hstep:∀k:Nat,(∀j:Nat,j<k->∀v,l[j]? =some v->p v=false)->∀v,l[k]? =some v->p v=true->l.findIdx? p=some k:=by
   intro k hno v hv hpv;rw[List.findIdx?_eq_some_iff_getElem];have hk:k<l.length:=(N5.1 hv).1;refine⟨hk,?_,fun j hj=>?_⟩
   .simp only[NA hk,Option.some.injEq]at hv;rw[hv];exact hpv
   have:=hno j hj l[j] (by simp);simp[this]
  have hnone:(∀j:Nat,j<l.length->∀v,l[j]? =some v->p v=false)->l.findIdx? p=none:=by
   intro hno;rw[List.findIdx?_eq_none_iff];intro v hv;obtain⟨j,hj⟩:=NL.1 hv;exact hno j (N5.1 hj).1 v hj
  clear rec_;refine X6 Tryz.func218 ?_;simp only[Tryz.f218];refine X1 ?_;refine X0<|X0<|X2 ?_;refine X3<|(Xd [0,1,7] (fun(x:Nat)=>[(8,.v (li x))]) (fun x=>[]) (fun x=>x<=l.length/\∀j:Nat,j<x->∀v,l[j]? =some v->p v=false) (fun x=>l.length - x) (0:Nat) ⟨Nq _,fun j hj=>absurd hj (Dy j)⟩ ?_ ?_)
  .exact X4 (fun n=>n) []
  rintro k ⟨hk,hJ⟩;simp only[upS,X5,Xy]
  try simp only[X5,KN,Nat.reduceBEq,Nf,Nc,ins,Nat.reduceLT]
  refine X1 ?_;refine X0<|(X8 rfl (fun h4=>Xb ?_) (fun h4=>?_))
  ·(try simp only[BN]at h4);have hlt:k<l.length:=by omega
   obtain⟨v,he,hd⟩:=Xu hlt;have hw1:=XE hlt (by omega);have hk1:k+1<=l.length:=hlt;have hpv:=hp v (N3 he);have hs:=hstep k hJ v he;clear hlt h4 hstep hnone hp;refine X0<|X3<|X0<|X2 ?_;refine Xk [⟨true,.v (lb (p v)),none⟩] ?_ ?_
   .first|exact hpv _|exact trivial|simpa[*]using hpv _
   refine(Xc rfl (fun h7=>?_) fun h7=>?_)
   ·(try simp only[BN]at h7);rw[hs h7];refine X1 ?_;exact Xf
   (try simp only[BN]at h7);refine X2 ?_;exact⟨k+1,⟨hk1,fun j hj w hw=>(Nat.lt_succ_iff_lt_or_eq.1 hj).elim (fun h=>hJ j h w hw) (fun e=>by subst e;rw[he]at hw;cases hw;exact h7)⟩,by omega,X4 (fun n=>n) []⟩
  (try simp only[BN]at h4);rw[hnone fun j hj=>hJ j (by omega)];refine(Xg ?_);refine X1 ?_;exact Xf
 rw[List.any_eq];cases h:l.findIdx? p with
 | none=>
   rw[List.findIdx?_eq_none_iff]at h;simp only[N6];constructor
   .intro h;omega
   rintro⟨v,hv,hpv⟩;have:=h v hv;rw[hpv]at this;cases this
 | some i=>
   rw[List.findIdx?_eq_some_iff_getElem]at h;obtain⟨hi,hpi,_⟩:=h;simp only[N6];exact⟨fun _=>⟨l[i],DA _,hpi⟩,fun _=>by omega⟩
theorem X9s (l:List Vr) (g:FuncId) (cap:List CD) (p:Vr->Bool) (hl:l.length<=1000000000) (hp:∀v∈l,∀d,Con prog g true (aV v::cap.map fun c=>.one (.c c)) (.v (lb (p v))) none d) (d:Nat):
  Con prog 180 true [lV l,.one (.c (.fn g cap))] (.v (lb (l.any p))) none d:=by
 obtain⟨r,hr,hi⟩:=idxV_con l g cap p hl hp 0;have hd:decide (0<=r)=l.any p:=by rw[Dk,N6];exact hi
 clear hi hp;refine X6 Tryz.func180 ?_;simp only[Tryz.f180];refine X1 ?_;refine Xk [⟨true,.v (li r),none⟩] ?_ ?_
 .first|exact hr _|exact trivial|simpa[*]using hr _
 exact Xf
theorem X72 (w v:Vr) (d:Nat):Con prog 178 true [aV w,.one (.c (.ptr v.enc))] (.v (lb (decide (w.name=v.name)))) none d:=by
 refine X6 Tryz.func178 ?_;simp only[Tryz.f178];refine X1 ?_;refine X1 ?_;exact Xf
def X2u (l:List Int) (i:Nat):Bool:=
 match l[i]?,l[i+1]? with
 |some a,some b=>decide (a<b)
 |_,_=>true
def X4D (l:List Int):Bool:=(List.range l.length).all (X2u l)
theorem Xbk {l:List Int} {i:Nat} (hi:i<l.length) (h:X2u l i=false):X4D l=false:=by
 unfold X4D;rw[List.all_eq_false];exact⟨i,by simpa using hi,by simp[h]⟩
theorem X8t {l:List Int} (h:∀i:Nat,i+1<l.length->X2u l i=true):X4D l=true:=by
 unfold X4D;rw[Nm];intro i hi;simp only[List.mem_range]at hi;by_cases h2:i+1<l.length
 .exact h i h2
 unfold X2u;rw[Nx (i:=i+1) (by omega)];cases l[i]? <;>rfl
theorem X6Z {l:List Int} {k:Nat} (h:k<l.length):∃b,l[k]? =some b:=⟨l[k],by simp[h]⟩
theorem X8u (l:List Int) (hl:l.length<=1000000000) (d:Nat):Con prog 226 true [lI l] (.v (lb (X4D l))) none d:=by
 refine X6 Tryz.func226 ?_;simp only[Tryz.f226];refine X1 ?_;refine X0<|X0<|X2 ?_;refine X3<|(Xd [0,5] (fun(x:Nat)=>[(6,.v (li x))]) (fun x=>[]) (fun x=>x<=l.length/\∀j:Nat,j+1<x->X2u l j=true) (fun x=>l.length - x) (0:Nat) ⟨Nq _,fun j hj=>absurd hj (by omega)⟩ ?_ ?_)
 .exact X4 (fun n=>n) []
 rintro k ⟨hk,hJ⟩;simp only[upS,X5,Xy]
 try simp only[X5,KN,Nat.reduceBEq,Nf,Nc,ins,Nat.reduceLT]
 refine X1 ?_;refine X0<|(X8 rfl (fun h4=>Xb ?_) (fun h4=>?_))
 ·(try simp only[BN]at h4);have hlt:k<l.length:=by omega
  obtain⟨b,hb⟩:=X6Z hlt;have hw:=XE hlt hl;have hk1:k+1<=l.length:=hlt;have hk9:k<=1000000000:=by omega
  clear hlt h4;refine X0<|X3<|X0<|X2 ?_;rcases k with _|j
  .have hw1:IntKind.i64.wrap 1=1:=X9;refine X0<|(N0 ?_);refine(Xc rfl (fun h7=>?_) fun h7=>?_)
   .exact absurd h7 (by simp)
   (try simp only[BN]at h7);refine X2 ?_;exact⟨1,⟨hk1,fun j hj=>absurd hj (by omega)⟩,by omega,X4 (fun n=>n) []⟩
  have hw1:IntKind.i64.wrap ((j:Int)+1+1)=(j:Int)+1+1:=X9;obtain⟨a,ha⟩:=X6Z (show j<l.length by omega);have hwj:IntKind.i64.wrap (j:Int)=j:=X9;have hri:X2u l j=decide (a<b):=by unfold X2u;rw[ha,hb]
  have hj0:(0:Int)<(j:Int)+1:=by omega
  have hj1:0<=(j:Int)+1:=by omega
  have hj2:((j:Int)+1).toNat=j+1:=by omega
  refine X0<|(N0 ?_);refine(Xc rfl (fun h7=>?_) fun h7=>?_)
  ·(try simp only[BN]at h7);have hz:X4D l=false:=Xbk (i:=j) (by omega) (by rw[hri];simpa using h7);refine X1 ?_;exact Xf
  (try simp only[BN]at h7);refine X2 ?_
  exact⟨j+1+1,⟨hk1,fun i hi=>by
   rcases Nat.lt_or_eq_of_le (Nat.le_of_lt_succ hi)with h|h
   .exact hJ i (by omega)
   have:i=j:=by omega
   rw[this,hri]
   simpa using h7⟩,by omega,X4 (fun n=>n) []⟩
 (try simp only[BN]at h4);have hz:X4D l=true:=X8t fun i hi=>hJ i (by omega);refine(Xg ?_);refine X1 ?_;exact Xf
def X53 (l:List Int):Bool:=
 match l[0]? with
 |some b=>decide (0<=b)
 |none=>false
def ZM (l:List Int):Bool:=(decide (1<=l.length)&&(decide (l.length<=32)&&X53 l))&&X4D l
theorem Xag (l:List Int):l=[]\/∃b0,l[0]? =some b0:=by
 cases l with
 |nil=>exact .inl rfl
 |cons b r=>exact .inr ⟨b,rfl⟩
theorem X8k (l:List Int) (hl:l.length<=1000000000) (d:Nat):Con prog 164 true [lI l] (.v (lb (ZM l))) none d:=by
 obtain⟨res,hres⟩:∃r,ZM l=r:=⟨_,rfl⟩;rw[hres];refine X6 Tryz.func164 ?_;simp only[Tryz.f164];refine X1 ?_;rcases Xag l with h0|⟨b0,hb0⟩
 .subst h0;replace hres:false=res:=hres;refine X0<|X0<|X2 ?_;refine(Xc rfl (fun h2=>?_) fun h2=>?_)
  ·(try simp only[BN]at h2);subst hres;refine X1 ?_;exact Xf
  exact absurd h2 (by simp)
 have hh:X53 l=decide (0<=b0):=by unfold X53;rw[hb0]
 have hpos:1<=l.length:=(N5.1 hb0).1;refine X0<|X0<|X2 ?_;refine(Xc rfl (fun h2=>?_) fun h2=>?_)
 .try simp only[BN]at h2
  have hz:ZM l=false:=by
   unfold ZM;rw[hh];simp only[NB,Nj];omega
  rw[hz]at hres;subst hres;refine X1 ?_;exact Xf
 try simp only[BN]at h2
 have hz:ZM l=X4D l:=by
  unfold ZM;rw[hh];rw[Db (by omega),Db (by omega),Db (by omega)];rfl
 rw[hz]at hres;have hl32:l.length<=32:=by omega
 clear hz hh h2 hb0;refine X0<|X0<|X2 ?_;refine X3<|(Xd [0] (fun(x:Nat)=>[(3,.v (li ((x:Int)+1)))]) (fun x=>[]) (fun x=>x+1<=l.length/\∀j:Nat,j<x->X2u l j=true) (fun x=>l.length - x) (0:Nat) ⟨hpos,fun j hj=>absurd hj (Dy j)⟩ ?_ ?_)
 .exact X4 (fun n=>n) []
 rintro k ⟨hk,hJ⟩;simp only[upS,X5,Xy]
 try simp only[X5,KN,Nat.reduceBEq,Nf,Nc,ins,Nat.reduceLT]
 refine X0<|X0<|X2 ?_;refine(X8 rfl (fun h8=>Xb ?_) (fun h8=>?_))
 ·(try simp only[BN]at h8);have hlt:k+1<l.length:=by omega
  obtain⟨b,hb⟩:=X6Z hlt;obtain⟨a,ha⟩:=X6Z (show k<l.length by omega);have hw:IntKind.i64.wrap ((k:Int)+1+1)=(k:Int)+1+1:=X9;have hwj:IntKind.i64.wrap (k:Int)=k:=X9;have hri:X2u l k=decide (a<b):=by unfold X2u;rw[ha,hb]
  have hj1:0<=(k:Int)+1:=by omega
  have hj2:((k:Int)+1).toNat=k+1:=by omega
  have hk1:k+1+1<=l.length:=hlt;clear hlt h8;refine X0<|X3<|X0<|(N0 ?_);refine(Xc rfl (fun h10=>?_) fun h10=>?_)
  ·(try simp only[BN]at h10);have hz:X4D l=false:=Xbk (i:=k) (by omega) (by rw[hri];simpa using h10);refine X1 ?_;exact Xf
  (try simp only[BN]at h10);refine X2 ?_
  exact⟨k+1,⟨hk1,fun i hi=>by
   rcases Nat.lt_or_eq_of_le (Nat.le_of_lt_succ hi)with h|h
   .exact hJ i h
   rw[h,hri]
   simpa using h10⟩,by omega,X4 (fun n=>n) []⟩
 (try simp only[BN]at h8);have hz:X4D l=true:=X8t fun i hi=>hJ i (by omega);refine(Xg ?_);refine X1 ?_;exact Xf
def WE:Tm->Bool
 | .mk o n ks=>decide (o=0)&&(decide (n=0)&&decide (ks.length=0))
theorem Xai (t:Tm) (d:Nat):Con prog 163 true [aT t] (.v (lb (WE t))) none d:=by
 obtain⟨o,n,ks⟩:=t;refine X6 Tryz.func163 ?_;simp only[Tryz.f163];simp only[aT,Tm.enc];refine X1 ?_;refine X1 ?_;exact(Xf (he:=by first|rfl|(simp[*,WE,Dc];done)|(simp only[XL,WE,Dc];(repeat' split)<;>first|rfl|(exfalso;omega)|simp_all)))
theorem Xa9 (t:Tm) (d:Nat):Con prog 225 true [aT t] (.v (lb (WE t))) none d:=by
 obtain⟨o,n,ks⟩:=t;refine X6 Tryz.func225 ?_;simp only[Tryz.f225];simp only[aT,Tm.enc];refine X1 ?_;refine X1 ?_;exact(Xf (he:=by first|rfl|(simp[*,WE,Dc];done)|(simp only[XL,WE,Dc];(repeat' split)<;>first|rfl|(exfalso;omega)|simp_all)))
def uVB (d:Int):Bool:=decide (d=0)||decide (d=5)
def uNB (d:Int):Bool:=decide (d=4)||decide (d=5)
def uTB (d:Int):Bool:=decide (d=0)||(decide (d=1)||(decide (d=3)||decide (d=4)))
theorem uV_con (a:Int) (d:Nat):Con prog 222 true [li a] (.v (lb (uVB a))) none d:=by
 refine X6 Tryz.func222 ?_;simp only[Tryz.f222];refine X1 ?_;refine X1 ?_;exact(Xf (he:=by first|rfl|(simp[*,uVB];done)|(simp only[XL,uVB];(repeat' split)<;>first|rfl|(exfalso;omega)|simp_all)))
theorem uN_con (a:Int) (d:Nat):Con prog 223 true [li a] (.v (lb (uNB a))) none d:=by
 refine X6 Tryz.func223 ?_;simp only[Tryz.f223];refine X1 ?_;refine X1 ?_;exact(Xf (he:=by first|rfl|(simp[*,uNB];done)|(simp only[XL,uNB];(repeat' split)<;>first|rfl|(exfalso;omega)|simp_all)))
theorem uT_con (a:Int) (d:Nat):Con prog 224 true [li a] (.v (lb (uTB a))) none d:=by
 refine X6 Tryz.func224 ?_;simp only[Tryz.f224];refine X1 ?_;refine X1 ?_;exact(Xf (he:=by first|rfl|(simp[*,uTB,Bool.or_assoc];done)|(simp only[XL,uTB,Bool.or_assoc];(repeat' split)<;>first|rfl|(exfalso;omega)|simp_all)))
def W5 (vars:List Vr) (v:Int):Bool:=decide (0<=v)&&(match vars[v.toNat]? with|some w=>decide (w.kind=0)|none=>false)
def shB (vars:List Vr) (nh:Nat) (d v n:Int) (t:Tm) (la lb_:Nat) (bs:List Int) (last:Bool):Bool:=
 if d=0 then((decide (la=0)&&decide (lb_=0))&&W5 vars v&&decide (n=0))&&decide (bs.length=0)
 else if d=1 then((decide (la=0)&&decide (lb_=0))&&decide (v=0)&&decide (n=0))&&decide (bs.length=0)
 else if d=2 then(((decide (la=0)&&decide (lb_=0))&&decide (v=0)&&decide (n=0))&&decide (bs.length=0))&&WE t
 else if d=3 then(decide (v=0)&&decide (n=0))&&decide (bs.length=0)
 else if d=4 then(decide (v=0)&&decide (lb_=0))&&decide (bs.length=0)
 else if d=5 then((((decide (la=0)&&decide (lb_=0))&&W5 vars v&&decide (0<=n))&&decide (n<nh))&&decide (bs.length=0))&&WE t
 else if d=6 then((((decide (la=0)&&decide (lb_=0))&&last&&decide (v=0))&&decide (n=0))&&WE t)&&ZM bs
 else false
theorem X8T (f:Fl) (s:St) (last:Bool) (hv:f.vars.length<=1000000000) (hb:s.bounds.length<=1000000000) (e:Nat):
  Con prog 98 true [aF f,aS s,lb last] (.v (lb (shB f.vars f.hats.length s.do_ s.var s.n s.term s.then_.length s.else_.length s.bounds last))) none e:=by
 obtain⟨vars,hats,body⟩:=f;obtain⟨d,c,v,n,t,a,b,bs⟩:=s;simp only[St.do_,St.var,St.n,St.term,St.then_,St.else_,St.bounds]at hb⊢;simp only at hv;have c1:=Xai t;have c2:=X8k bs hb;obtain⟨P,hP⟩:∃p,WE t=p:=⟨_,rfl⟩;obtain⟨R,hR⟩:∃p,ZM bs=p:=⟨_,rfl⟩;obtain⟨la,hla⟩:∃k,a.length=k:=⟨_,rfl⟩;obtain⟨lc,hlc⟩:∃k,b.length=k:=⟨_,rfl⟩;obtain⟨nb,hnb⟩:∃k,bs.length=k:=⟨_,rfl⟩;obtain⟨nv,hnv⟩:∃k,vars.length=k:=⟨_,rfl⟩;obtain⟨nh,hnh⟩:∃k,hats.length=k:=⟨_,rfl⟩;obtain⟨res,hres⟩:∃r,shB vars hats.length d v n t a.length b.length bs last=r:=⟨_,rfl⟩;rw[hres];simp only[shB,hP,hR,hla,hlc,hnb,hnh]at hres;rw[hP]at c1;rw[hR]at c2;obtain⟨o,tn,ks⟩:=t;clear hP hR;simp only[aT,Tm.enc,Ni,Nr]at c1;refine X6 Tryz.func98 ?_;simp only[Tryz.f98];simp only[aF,aS,Fl.enc,St.enc,Tm.enc,Ni,Nr,List.cons_append,List.nil_append];refine X1 ?_;refine X1 ?_;refine XM [2,3,4,7] (fun(z:Bool)=>[(8,.v (lb z))]) (fun(z:Bool)=>[(3,.box [.c (.sl 5 (Xm vars)),.c (.sl 6 (Xn hats)),.c (.sl 10 (X7 body))]),(4,.box [.c (iC d),.c (iC c),.c (iC v),.c (iC n),.c (iC o),.c (iC tn),.c (.sl 3 (XA ks)),.c (.sl 10 (X7 a)),.c (.sl 10 (X7 b)),.c (.sl 1 (Xi bs))])]) (fun(z:Bool)=>z=W5 vars v) ?_ ?_
 .by_cases h0:0<=v
  .by_cases h1:v<vars.length
   .obtain⟨w,hw⟩:=X3X ⟨h0,h1⟩;have h2:decide (v<(nv:Int))=true:=Db (by omega);have hz:W5 vars v=decide (w.kind=0):=by unfold W5;rw[hw];simp[h0]
    clear h1;refine Xp (by simp[*];rfl) ?_;exact⟨decide (w.kind=0),hz.symm,X4 (fun n=>n) []⟩
   have hw:=X0H h0 h1;have h2:¬v<(nv:Int):=by omega
   have hz:W5 vars v=false:=by unfold W5;rw[hw];simp
   clear h1;refine Xp (by simp[*];rfl) ?_;exact⟨false,hz.symm,X4 (fun n=>n) []⟩
  have hz:W5 vars v=false:=by unfold W5;simp[h0]
  refine Xp (by simp[*];rfl) ?_;exact⟨false,hz.symm,X4 (fun n=>n) []⟩
 rintro LO hLO;simp only[upS,X5,Xy]
 try simp only[X5,KN,Nat.reduceBEq,Nf,Nc,ins,Nat.reduceLT]
 rw[<-hLO]at hres;clear hLO;refine X0<|X0<|X2 ?_;refine X3<|X0<|X2 ?_;refine(X8 rfl (fun h5=>?_) (fun h5=>?_))
 ·(try simp only[BN]at h5);refine X1 ?_;exact(Xf (he:=by rw[<-hres];simp[*,XL,Dc]))
 (try simp only[BN]at h5);refine X1 ?_;refine(X8 rfl (fun h9=>?_) (fun h9=>?_))
 ·(try simp only[BN]at h9);refine X1 ?_;exact(Xf (he:=by rw[<-hres];simp[*,XL,Dc]))
 (try simp only[BN]at h9);refine X1 ?_;refine(X8 rfl (fun h13=>?_) (fun h13=>?_))
 ·(try simp only[BN]at h13);by_cases hg:(la=0/\lc=0)/\v=0/\n=0/\nb=0
  .obtain⟨⟨g1,g2⟩,g3,g4,g5⟩:=hg;refine Xk [⟨true,.v (lb P),none⟩] ?_ ?_
   .first|exact c1 _|exact trivial|simpa[*]using c1 _
   exact(Xf (he:=by rw[<-hres];simp[*,XL,Dc]))
  have hgb:(decide (la=0)&&decide (lc=0)&&decide (v=0)&&decide (n=0)&&decide (nb=0))=false:=by simp only[NB,Nj];omega
  clear hg
  have hr:false=res:=by
   rw[<-hres,N7 h5,N7 h9,Na h13];rw[hgb];rfl
  subst hr;refine X0<|(X37 [none] (by simp[*];first|exact⟨rfl,trivial⟩|exact⟨rfl,Iff.rfl⟩|rfl) ?_ ?_)
  .trivial
  exact(Xf (he:=by rfl))
 (try simp only[BN]at h13);refine X1 ?_;refine(X8 rfl (fun h17=>?_) (fun h17=>?_))
 ·(try simp only[BN]at h17);refine X1 ?_;exact(Xf (he:=by rw[<-hres];simp[*,XL,Dc]))
 (try simp only[BN]at h17);refine X1 ?_;refine(X8 rfl (fun h21=>?_) (fun h21=>?_))
 ·(try simp only[BN]at h21);refine X1 ?_;exact(Xf (he:=by rw[<-hres];simp[*,XL,Dc]))
 (try simp only[BN]at h21);refine X1 ?_;refine(X8 rfl (fun h25=>?_) (fun h25=>?_))
 ·(try simp only[BN]at h25);by_cases hg:(la=0/\lc=0)/\LO=true/\0<=n/\n<nh/\nb=0
  .obtain⟨⟨g1,g2⟩,g3,g4,g5,g6⟩:=hg;refine Xk [⟨true,.v (lb P),none⟩] ?_ ?_
   .first|exact c1 _|exact trivial|simpa[*]using c1 _
   exact(Xf (he:=by rw[<-hres];simp[*,XL,Dc]))
  have hgb:(decide (la=0)&&decide (lc=0)&&LO&&decide (0<=n)&&decide (n<(nh:Int))&&decide (nb=0))=false:=by
   cases LO
   .simp
   simp only[NB,Nj];simp only[true_and]at hg;omega
  clear hg
  have hr:false=res:=by
   rw[<-hres,N7 h5,N7 h9,N7 h13,N7 h17,N7 h21,Na h25];rw[hgb];rfl
  subst hr;refine X0<|(X37 [none] (by simp[*];first|exact⟨rfl,trivial⟩|exact⟨rfl,Iff.rfl⟩|rfl) ?_ ?_)
  .trivial
  exact(Xf (he:=by rfl))
 (try simp only[BN]at h25);refine X1 ?_;refine(Xc rfl (fun h29=>?_) fun h29=>?_)
 ·(try simp only[BN]at h29);by_cases hg:(la=0/\lc=0)/\last=true/\v=0/\n=0
  .obtain⟨⟨g1,g2⟩,g3,g4,g5⟩:=hg;refine Xk [⟨true,.v (lb P),none⟩,⟨true,.v (lb R),none⟩] ?_ ?_
   .first|exact⟨c1 _,c2 _⟩|exact trivial|(repeat' first|exact trivial|exact c1 _|exact c2 _|apply And.intro)
   exact(Xf (he:=by rw[<-hres];simp[*,XL,Dc]))
  have hgb:(decide (la=0)&&decide (lc=0)&&last&&decide (v=0)&&decide (n=0))=false:=by
   cases last
   .simp
   simp only[NB,Nj];simp only[true_and]at hg;omega
  clear hg
  have hr:false=res:=by
   rw[<-hres,N7 h5,N7 h9,N7 h13,N7 h17,N7 h21,N7 h25,Na h29];rw[hgb];rfl
  subst hr;refine X0<|(X37 [none,none] (by simp[*];first|exact⟨rfl,trivial⟩|exact⟨rfl,Iff.rfl⟩|rfl) ?_ ?_)
  .trivial
  exact(Xf (he:=by rfl))
 (try simp only[BN]at h29);refine X1 ?_;exact(Xf (he:=by rw[<-hres];simp[*,XL,Dc]))
theorem Xa5 (l:List Int) (hl:l.length<=1000000000) (d:Nat):Con prog 72 false [lI l] (.v (lI l)) none d:=by
 have hroom:W4 l.length 8:=⟨by unfold maxLen;omega,by omega⟩;cases l with
 | nil=>
   refine XbI ?_ ?_
   .refine X6 Tryz.func72 ?_;simp only[Tryz.f72];refine X1 ?_;refine X0<|X0<|X2 ?_;refine(Xc rfl (fun h2=>?_) fun h2=>?_)
    ·(try simp only[BN]at h2);refine X1 ?_;exact Qe ⟨.inr rfl,_,le_one 2 1 rfl,⟨⟨_,by simp;rfl,by simp[XL]⟩,by simp,fun h=>by cases h⟩⟩
    exact absurd h2 (by simp)
   intro a cap;refine X6 Tryz.func72 ?_;simp only[Tryz.f72];refine X1 ?_;refine X0<|X0<|X2 ?_;refine(Xc rfl (fun h2=>?_) fun h2=>?_)
   .exact absurd h2 (by simp)
   (try simp only[BN]at h2);refine XB (le_emp 0 1 rfl) ?_;refine X1 ?_;exact Qe ⟨.inr rfl,_,Qs 7 rfl,⟨⟨_,by simp;rfl,by simp[XL]⟩,by simp,fun h=>by cases h⟩⟩
 | cons v r=>
   refine X6 Tryz.func72 ?_;simp only[Tryz.f72];rw[List.length_cons]at hroom;refine X1 ?_;refine X0<|X0<|X2 ?_;refine(Xc rfl (fun h2=>?_) fun h2=>?_)
   .exact absurd h2 (by simp)
   (try simp only[BN]at h2);refine X1 ?_;exact Qe ⟨.inr rfl,_,Qs 7 rfl,⟨⟨_,by simp;rfl,by simp[XL]⟩,by simp,fun h=>by cases h⟩⟩
end Go.Proofs.YtdajceakaakdoaaGreat
