/- Contracts of functions and plain facts about what they compute. Conditions: as each theorem states. -/
import Derived.Test.YtdccocolnaklkaaGreatDoorG1
set_option linter.unusedSimpArgs false
set_option linter.unusedVariables false
set_option linter.unnecessarySimpa false
set_option maxRecDepth 100000
set_option maxHeartbeats 2000000
namespace Go.Proofs.YtdccocolnaklkaaGreatDoor
open Go Go.Hl
open Tryz(prog)
@[simp] theorem take_encV (l:List Vr) (i:Nat):(Xt l).take i=Xt (l.take i):=by simp[Xt]
@[simp] theorem encV_snoc (l:List Vr) (v:Vr):Xt (l++[v])=Xt l++[v.enc]:=by simp[Xt]
theorem WN {T:Type} {l:List T} {k:Nat} {x:T} (h:l[k]? =some x):l.take (k+1)=l.take k++[x]:=by
 rw[List.take_add_one,h];rfl
theorem X17 (s:ByteArray) (d:Nat):Con prog 99 true [sv s] (.v (lb (Zb s))) none d:=by
 refine X3 Tryz.func99 ?_;simp only[Tryz.f99];refine X1 ?_;refine X0<|X0<|X2 ?_;refine(X9 rfl (fun h2=>?_) fun h2=>?_)
 .try simp only[BN]at h2
  have hz:Zb s=false:=by
   unfold Zb;rw[No,No];simp only[Nc];omega
  refine X1 ?_;exact Xb
 (try simp only[BN]at h2);have h1:1<=s.size:=by omega
 have h40:s.size<=40:=by omega
 refine X0<|X0<|X2 ?_;refine X4<|(Xf [0] (fun(x:Nat)=>[(3,.v (li x))]) (fun x=>[]) (fun x=>x<=s.size/\∀j:Nat,j<x->X2X s j=true) (fun x=>s.size - x) (0:Nat) ⟨Nf _,fun j hj=>absurd hj (Dd j)⟩ ?_ ?_)
 .exact X5 (fun n=>n) []
 rintro k ⟨hk,hall⟩;simp only[upS,X7,Xy]
 try simp only[X7,KN,Nat.reduceBEq,Nd,Nb,ins,Nat.reduceLT]
 refine X0<|X0<|X2 ?_;refine(X6 rfl (fun h8=>Xc ?_) (fun h8=>?_))
 ·(try simp only[BN]at h8);have hlt:k<s.size:=by omega
  obtain⟨b,hb⟩:=X52 hlt;have hw:=XB hlt (by omega);have hk1:k+1<=s.size:=hlt;clear hlt h8;refine X0<|X4<|X0<|X2 ?_;refine X1 ?_;refine X1 ?_;refine X1 ?_;refine(X9 rfl (fun h13=>?_) fun h13=>?_)
  .try simp only[BN]at h13
   have hbad:X2X s k=false:=by
    unfold X2X;rw[hb];simp only[NC,No,Nc];omega
   have hz:=X4V hk1 hbad;refine X1 ?_;exact Xb
  try simp only[BN]at h13
  have hgood:X2X s k=true:=by
   unfold X2X;rw[hb];simp only[Ni,N4,N5];omega
  refine X2 ?_;exact⟨k+1,⟨by omega,fun j hj=>(Nat.lt_succ_iff_lt_or_eq.1 hj).elim (hall j) (fun e=>e▸hgood)⟩,by omega,X5 (fun n=>n) []⟩
 (try simp only[BN]at h8);have hz:=X4d h1 h40 (fun j hj=>hall j (by omega));refine(Xj ?_);refine X1 ?_;exact Xb
def sz (v:Vr):Int:=v.high - v.low+1
def prV:List Vr->Int->Int
 |[],n=>n
 |v::l,n=>if 4096<n*sz v then 4097 else prV l (n*sz v)
def spc (vars:List Vr) (kind:Int):Int:=prV (vars.filter fun v=>decide (v.kind=kind)) 1
def QH (vars:List Vr):Prop:=∀v∈vars,v.low<=v.high∧-1048576<=v.low/\v.high<=1048576
theorem X3J {vars:List Vr} (h:QH vars) {v:Vr} (hv:v∈vars):1<=sz v/\sz v<=2097153:=by
 have:=h v hv;unfold sz;omega
theorem X5w {n s:Int} (h1:1<=n/\n<=4096) (h2:1<=s/\s<=2097153):1<=n*s/\n*s<=8589938688:=by
 have h3:n.natAbs*s.natAbs<=4096*2097153:=Nat.mul_le_mul (by omega) (by omega);have h4:1*1<=n.natAbs*s.natAbs:=Nat.mul_le_mul (by omega) (by omega);rw[<-Int.natAbs_mul]at h3 h4;have h5:0<=n*s:=Dn (by omega) (by omega);omega
theorem X7G {vars:List Vr} (h:QH vars):∀(l:List Vr) (n:Int),(∀v∈l,v∈vars)->1<=n/\n<=4096->1<=prV l n/\prV l n<=4097
 |[],n,_,hn=>by simp only[prV];omega
 | v::l,n,hl,hn=>by
   simp only[prV];have:=X5w hn (X3J h (hl v (by simp)));split
   .omega
   exact X7G h l _ (fun w hw=>hl w (Nu _ hw)) (by omega)
theorem X1w (vars:List Vr) (kind:Int) (hv:QH vars) (hl:vars.length<=1000000000) (d:Nat):Con prog 131 true [lV vars,li kind] (.v (li (spc vars kind))) none d:=by
 obtain⟨res,hres⟩:∃r,spc vars kind=r:=⟨_,rfl⟩;rw[hres];unfold spc at hres;refine X3 Tryz.func131 ?_;simp only[Tryz.f131];refine X1 ?_;refine X1 ?_;refine X0<|X0<|X2 ?_;refine X4<|(Xf [0,1] (fun(x:Nat×Int)=>[(5,.v (li x.2)),(6,.v (li x.1))]) (fun x=>[]) (fun x=>x.1<=vars.length/\prV ((vars.drop x.1).filter fun v=>decide (v.kind=kind)) x.2=res/\1<=x.2/\x.2<=4096) (fun x=>vars.length - x.1) (0,1) ⟨Nf _,hres,by decide,by decide⟩ ?_ ?_)
 .exact X5 (fun n=>n) []
 rintro⟨k,n⟩ ⟨hk,hJ,hn1,hn2⟩;simp only[upS,X7,Xy]
 try simp only[X7,KN,Nat.reduceBEq,Nd,Nb,ins,Nat.reduceLT]
 simp only at hk hJ hn1 hn2;clear hres;refine X0<|X0<|X2 ?_;refine(X6 rfl (fun h5=>Xc ?_) (fun h5=>?_))
 ·(try simp only[BN]at h5);have hlt:k<vars.length:=by omega
  obtain⟨v,he,hd⟩:=XF hlt;have hw1:=XB hlt (by omega);have hk1:k+1<=vars.length:=hlt;have hmem:v∈vars:=N3 he;have hs:=X3J hv hmem;have hm:=X5w ⟨hn1,hn2⟩ hs;have hb:=hv v hmem;have hw2:IntKind.i64.wrap (v.high - v.low)=v.high - v.low:=X8;have hw3:IntKind.i64.wrap (v.high - v.low+1)=sz v:=by rw[X8 (by omega) (by omega)];rfl
  have hw4:IntKind.i64.wrap (n*sz v)=n*sz v:=X8;rw[hd]at hJ;clear hlt h5 hv;refine X0<|X4<|X0<|X0<|X2 ?_;refine(X9 rfl (fun h7=>?_) fun h7=>?_)
  ·(try simp only[BN]at h7);rw[NJ (by simpa using h7)]at hJ;refine(Xj ?_);refine X2 ?_;exact⟨(k+1,n),⟨hk1,hJ,hn1,hn2⟩,by simp only;omega,X5 (fun n=>n) []⟩
  (try simp only[BN]at h7);rw[Da (by simpa using h7)]at hJ;simp only[prV]at hJ;refine X0<|(N0 ?_);refine X1 ?_;refine(X9 rfl (fun h12=>?_) fun h12=>?_)
  ·(try simp only[BN]at h12);rw[N9 h12]at hJ;subst hJ;refine X1 ?_;exact Xb
  (try simp only[BN]at h12);rw[N6 h12]at hJ;refine X2 ?_;exact⟨(k+1,n*sz v),⟨hk1,hJ,hm.1,by simp only;omega⟩,by simp only;omega,X5 (fun n=>n) []⟩
 (try simp only[BN]at h5);have hkl:k=vars.length:=by omega
 rw[hkl,Nq]at hJ;simp only[List.filter_nil,prV]at hJ;refine(Xj ?_);refine X1 ?_;exact(Xb (he:=by subst hJ;rfl))
theorem X4y (v:Vr) (hv:-1048576<=v.low/\v.low<=v.high/\v.high<=1048576) (d:Nat):Con prog 152 true [aV v] (.v (li (sz v))) none d:=by
 have hw2:IntKind.i64.wrap (v.high - v.low)=v.high - v.low:=X8;have hw3:IntKind.i64.wrap (v.high - v.low+1)=sz v:=by rw[X8 (by omega) (by omega)];rfl
 refine X3 Tryz.func152 ?_;simp only[Tryz.f152];refine X1 ?_;refine X1 ?_;exact Xb
def chR (vars:List Vr) (kind:Int):RV:=if spc vars kind<=4096 then .tup [.one (.c (.sl 5 (Xt (vars.filter fun v=>decide (v.kind=kind))))),li (spc vars kind),li 0] else .tup [.one (.c (.lit XZ)),li 0,li 4]
theorem X8a (vars:List Vr) (kind:Int) (hkd:1<=kind/\kind<=3) (hv:QH vars) (hl:vars.length<=1000000) (d:Nat):Con prog 134 false [lV vars,li kind] (chR vars kind) none d:=by
 obtain⟨S,hS⟩:∃S,vars.filter (fun v=>decide (v.kind=kind))=S:=⟨_,rfl⟩;obtain⟨res,hres⟩:∃r,spc vars kind=r:=⟨_,rfl⟩;unfold chR;rw[hres,hS];unfold spc at hres;rw[hS]at hres;refine X3 Tryz.func134 ?_;simp only[Tryz.f134];refine X1 ?_;refine(Q0 [0,1] (fun(z:Unit)=>[]) (fun(z:Unit)=>[]) (fun(z:Unit)=>True) ?_ ?_)
 ·
  refine X1 ?_;refine X4<|(Q0 [0,1] (fun(z:Bool)=>[(14,.v (lb z))]) (fun(z:Bool)=>[]) (fun(z:Bool)=>z=true) ?_ ?_)
  ·
   refine X1 ?_;refine(X6 rfl (fun h5=>Xc ?_) (fun h5=>?_))
   ·(try simp only[BN]at h5);exact⟨true,rfl,X5 (fun n=>n) []⟩
   (try simp only[BN]at h5);refine X1 ?_;refine(X6 rfl (fun h8=>Xc ?_) (fun h8=>?_))
   ·(try simp only[BN]at h8);exact⟨true,rfl,X5 (fun n=>n) []⟩
   (try simp only[BN]at h8);refine X1 ?_;refine(X6 rfl (fun h11=>Xc ?_) (fun h11=>?_))
   ·(try simp only[BN]at h11);exact⟨true,rfl,X5 (fun n=>n) []⟩
   (try simp only[BN]at h11);refine X2 ?_;have hz:decide (kind=3)=true:=by rw[N5];omega
   exact⟨true,rfl,X5 (fun n=>n) []⟩
  rintro _ rfl;simp only[upS,X7,Xy]
  try simp only[X7,KN,Nat.reduceBEq,Nd,Nb,ins,Nat.reduceLT]
  refine(X6 rfl (fun h15=>Xc ?_) (fun h15=>?_))
  ·(try simp only[BN]at h15);exact⟨(),trivial,X5 (fun n=>n) []⟩
  exact absurd h15 (by simp)
 rintro z hz;simp only[upS,X7,Xy]
 try simp only[X7,KN,Nat.reduceBEq,Nd,Nb,ins,Nat.reduceLT]
 refine X1 ?_;refine X0<|X0<|X2 ?_;refine X4<|(Xf [1,19,20] (fun(x:Nat×List Vr)=>[(7,.v (.one (.own 1007))),(21,.v (li x.1))]) (fun x=>[(1007,.row 60 5 (Xt x.2))]) (fun x=>x.1<=vars.length/\x.2=(vars.take x.1).filter fun v=>decide (v.kind=kind)) (fun x=>vars.length - x.1) (0,[]) ⟨Nf _,by simp⟩ ?_ ?_)
 .exact Qs (fun n=>n) [1007] rfl (by simp[upS,X7]) (by simp[upS,Xt]) (by simp[upS])
 rintro⟨k,acc⟩ ⟨hk,hJ⟩;simp only[upS,X7,Xy]
 try simp only[X7,KN,Nat.reduceBEq,Nd,Nb,ins,Nat.reduceLT]
 simp only at hk hJ;replace hJ:=hJ.symm;refine X1 ?_;refine X0<|(X6 rfl (fun h23=>Xc ?_) (fun h23=>?_))
 ·(try simp only[BN]at h23);have hlt:k<vars.length:=by omega
  obtain⟨v,he,hd⟩:=XF hlt;have hw1:=XB hlt (by omega);have hk1:k+1<=vars.length:=hlt;have hmem:v∈vars:=N3 he;have hb:=hv v hmem;have ht:=WN he;generalize hT:(vars.take k).filter (fun v=>decide (v.kind=kind))=T at hJ
  have hal:acc.length<=k:=by
   rw[<-hJ,<-hT];exact Dq (List.length_filter_le _ _) (by rw[Nt];omega)
  have hroom:Qy (acc.length+1) 48:=XC (by omega) (by omega);clear hlt h23 hv;refine X0<|X4<|X0<|X2 ?_;refine X0<|X0<|X2 ?_;refine(X9 rfl (fun h26=>?_) fun h26=>?_)
  ·(try simp only[BN]at h26);have hf:(vars.take (k+1)).filter (fun v=>decide (v.kind=kind))=acc:=by rw[ht,Di,hT,hJ,NJ (by simpa using h26)];simp
   clear hS;refine(Xj ?_);refine X2 ?_;exact⟨(k+1,acc),⟨hk1,hf.symm⟩,by simp only;omega,X5 (fun n=>n) []⟩
  (try simp only[BN]at h26);have hf:(vars.take (k+1)).filter (fun v=>decide (v.kind=kind))=acc++[v]:=by rw[ht,Di,hT,hJ,Da (by simpa using h26)];simp
  clear hS;refine X0<|X0<|X2 ?_;refine(X9 rfl (fun h30=>?_) fun h30=>?_)
  .exfalso;simp only[Ni,N5]at h30;omega
  (try simp only[BN]at h30);refine X2 ?_;refine X2 ?_;exact⟨(k+1,acc++[v]),⟨hk1,hf.symm⟩,by simp only;omega,X5 (fun n=>if n=1007 then 47 else n) []⟩
 (try simp only[BN]at h23);have hkl:k=vars.length:=by omega
 rw[hkl,List.take_length,hS]at hJ;subst hJ;have hSl:S.length<=1000000:=by rw[<-hS];exact Dq (List.length_filter_le _ _) hl
 have hSv:∀v∈S,v.low<=v.high∧-1048576<=v.low/\v.high<=1048576:=fun v h=>hv v (by rw[<-hS]at h;exact(Dr.1 h).1);clear hS hv hk hl h23 hkl;refine(Xj ?_);refine X1 ?_;refine X0<|X0<|X2 ?_;refine X4<|(Xf [7,49,50] (fun(x:Nat×Int)=>[(10,.v (li x.2)),(51,.v (li x.1))]) (fun x=>[(1007,.row 60 5 (Xt S))]) (fun x=>x.1<=S.length/\prV (S.drop x.1) x.2=res/\1<=x.2/\x.2<=4096) (fun x=>S.length - x.1) (0,1) ⟨Nf _,hres,by decide,by decide⟩ ?_ ?_)
 .exact X5 (fun n=>n) []
 rintro⟨k2,n⟩ ⟨hk2,hJ,hn1,hn2⟩;simp only[upS,X7,Xy]
 try simp only[X7,KN,Nat.reduceBEq,Nd,Nb,ins,Nat.reduceLT]
 simp only at hk2 hJ hn1 hn2;clear hres;refine X1 ?_;refine X0<|(X6 rfl (fun h40=>Xc ?_) (fun h40=>?_))
 ·(try simp only[BN]at h40);have hlt:k2<S.length:=by omega
  obtain⟨v,he,hd⟩:=XF hlt;have hw1:=XB hlt (by omega);have hk1:k2+1<=S.length:=hlt;have hb:=hSv v (N3 he);have hs:1<=sz v/\sz v<=2097153:=by unfold sz;omega
  have hm:=X5w ⟨hn1,hn2⟩ hs;have hw4:IntKind.i64.wrap (n*sz v)=n*sz v:=X8;rw[hd]at hJ;simp only[prV]at hJ;clear hlt h40;refine X0<|X4<|X0<|X2 ?_;refine Xd [⟨true,.v (li (sz v)),none⟩] ?_ ?_
  .first|exact X4y v ⟨hb.2.1,hb.1,hb.2.2⟩ _|exact trivial|simpa[*]using X4y v ⟨hb.2.1,hb.1,hb.2.2⟩ _
  refine X1 ?_;refine(X9 rfl (fun h44=>?_) fun h44=>?_)
  ·(try simp only[BN]at h44);rw[N9 h44]at hJ;subst hJ;refine X1 ?_;exact Xr ⟨.inr rfl,_,le_refl _,⟨⟨_,by simp;rfl,by simp[Xp]⟩,by simp,fun h=>by cases h⟩⟩
  (try simp only[BN]at h44);rw[N6 h44]at hJ;refine X2 ?_;exact⟨(k2+1,n*sz v),⟨hk1,hJ,hm.1,by simp only;omega⟩,by simp only;omega,X5 (fun n=>n) []⟩
 (try simp only[BN]at h40);have hkl:k2=S.length:=by omega
 rw[hkl,Nq]at hJ;simp only[prV]at hJ;subst hJ;refine(Xj ?_);refine X1 ?_;exact Xr ⟨.inr rfl,_,XO 1007 rfl,⟨⟨_,by simp;rfl,by simp[Xp,hn2]⟩,by simp,fun h=>by cases h⟩⟩
theorem X7B (vars:List Vr) (kind:Int) (hkd:1<=kind/\kind<=3) (hv:QH vars) (hl:vars.length<=1000000) (d:Nat):Con prog 108 true [lV vars,li kind]
  (.tup [li (if spc vars kind<=4096 then spc vars kind else 0),li (if spc vars kind<=4096 then 0 else 4)]) none d:=by
 have c:=X8a vars kind hkd hv hl;unfold chR at c;obtain⟨res,hres⟩:∃r,spc vars kind=r:=⟨_,rfl⟩;rw[hres]at c⊢;clear hres;by_cases h:res<=4096
 .rw[N9 h]at c;rw[N9 h,N9 h];refine X3 Tryz.func108 ?_;simp only[Tryz.f108];refine X1 ?_;refine Xd [⟨false,.tup [.one (.c (.sl 5 (Xt (vars.filter fun v=>decide (v.kind=kind))))),li res,li 0],none⟩] ?_ ?_
  .first|exact c _|exact trivial|simpa[*]using c _
  refine X1 ?_;exact Xb
 rw[N6 h]at c;rw[N6 h,N6 h];refine X3 Tryz.func108 ?_;simp only[Tryz.f108];refine X1 ?_;refine Xd [⟨false,.tup [.one (.c (.lit XZ)),li 0,li 4],none⟩] ?_ ?_
 .first|exact c _|exact trivial|simpa[*]using c _
 refine X1 ?_;exact Xb
theorem idxV_con (l:List Vr) (g:FuncId) (cap:List CD) (p:Vr->Bool) (hl:l.length<=1000000000) (hp:∀v∈l,∀d,Con prog g true (aV v::cap.map fun c=>.one (.c c)) (.v (lb (p v))) none d) (d:Nat):
  ∃r:Int,(∀d,Con prog 74 true [lV l,.one (.c (.fn g cap))] (.v (li r)) none d)/\(0<=r↔l.any p=true):=by
 let rec_:List Vr->Int->Int:=fun l k=>match l.findIdx? p with
  |some i=>k+i
  |none=>-1
 refine⟨(match l.findIdx? p with|some i=>(i:Int)|none=>-1),fun d=>?_,?_⟩
 .have hstep:∀k:Nat,(∀j:Nat,j<k->∀v,l[j]? =some v->p v=false)->∀v,l[k]? =some v->p v=true->l.findIdx? p=some k:=by
   intro k hno v hv hpv;rw[List.findIdx?_eq_some_iff_getElem];have hk:k<l.length:=(N8.1 hv).1;refine⟨hk,?_,fun j hj=>?_⟩
   .simp only[Ny hk,Option.some.injEq]at hv;rw[hv];exact hpv
   have:=hno j hj l[j] (by simp);simp[this]
  have hnone:(∀j:Nat,j<l.length->∀v,l[j]? =some v->p v=false)->l.findIdx? p=none:=by
   intro hno;rw[List.findIdx?_eq_none_iff];intro v hv;obtain⟨j,hj⟩:=NH.1 hv;exact hno j (N8.1 hj).1 v hj
  clear rec_;refine X3 Tryz.func74 ?_;simp only[Tryz.f74];refine X1 ?_;refine X0<|X0<|X2 ?_;refine X4<|(Xf [0,1,7] (fun(x:Nat)=>[(8,.v (li x))]) (fun x=>[]) (fun x=>x<=l.length/\∀j:Nat,j<x->∀v,l[j]? =some v->p v=false) (fun x=>l.length - x) (0:Nat) ⟨Nf _,fun j hj=>absurd hj (Dd j)⟩ ?_ ?_)
  .exact X5 (fun n=>n) []
  rintro k ⟨hk,hJ⟩;simp only[upS,X7,Xy]
  try simp only[X7,KN,Nat.reduceBEq,Nd,Nb,ins,Nat.reduceLT]
  refine X1 ?_;refine X0<|(X6 rfl (fun h4=>Xc ?_) (fun h4=>?_))
  ·(try simp only[BN]at h4);have hlt:k<l.length:=by omega
   obtain⟨v,he,hd⟩:=XF hlt;have hw1:=XB hlt (by omega);have hk1:k+1<=l.length:=hlt;have hpv:=hp v (N3 he);have hs:=hstep k hJ v he;clear hlt h4 hstep hnone hp;refine X0<|X4<|X0<|X2 ?_;refine Xd [⟨true,.v (lb (p v)),none⟩] ?_ ?_
   .first|exact hpv _|exact trivial|simpa[*]using hpv _
   refine(X9 rfl (fun h7=>?_) fun h7=>?_)
   ·(try simp only[BN]at h7);rw[hs h7];refine X1 ?_;exact Xb
   (try simp only[BN]at h7);refine X2 ?_;exact⟨k+1,⟨hk1,fun j hj w hw=>(Nat.lt_succ_iff_lt_or_eq.1 hj).elim (fun h=>hJ j h w hw) (fun e=>by subst e;rw[he]at hw;cases hw;exact h7)⟩,by omega,X5 (fun n=>n) []⟩
  (try simp only[BN]at h4);rw[hnone fun j hj=>hJ j (by omega)];refine(Xj ?_);refine X1 ?_;exact Xb
 rw[List.any_eq];cases h:l.findIdx? p with
 | none=>
   rw[List.findIdx?_eq_none_iff]at h;simp only[N5];constructor
   .intro h;omega
   rintro⟨v,hv,hpv⟩;have:=h v hv;rw[hpv]at this;cases this
 | some i=>
   rw[List.findIdx?_eq_some_iff_getElem]at h;obtain⟨hi,hpi,_⟩:=h;simp only[N5];exact⟨fun _=>⟨l[i],Df _,hpi⟩,fun _=>by omega⟩
theorem X2b (l:List Vr) (g:FuncId) (cap:List CD) (p:Vr->Bool) (hl:l.length<=1000000000) (hp:∀v∈l,∀d,Con prog g true (aV v::cap.map fun c=>.one (.c c)) (.v (lb (p v))) none d) (d:Nat):
  Con prog 30 true [lV l,.one (.c (.fn g cap))] (.v (lb (l.any p))) none d:=by
 obtain⟨r,hr,hi⟩:=idxV_con l g cap p hl hp 0;have hd:decide (0<=r)=l.any p:=by rw[D6,N5];exact hi
 clear hi hp;refine X3 Tryz.func30 ?_;simp only[Tryz.f30];refine X1 ?_;refine Xd [⟨true,.v (li r),none⟩] ?_ ?_
 .first|exact hr _|exact trivial|simpa[*]using hr _
 exact Xb
theorem X4R (w v:Vr) (d:Nat):Con prog 105 true [aV w,.one (.c (.ptr v.enc))] (.v (lb (decide (w.name=v.name)))) none d:=by
 refine X3 Tryz.func105 ?_;simp only[Tryz.f105];refine X1 ?_;refine X1 ?_;exact Xb
def WG (l:List Int) (i:Nat):Bool:=
 match l[i]?,l[i+1]? with
 |some a,some b=>decide (a<b)
 |_,_=>true
def Wt (l:List Int):Bool:=(List.range l.length).all (WG l)
theorem X3w {l:List Int} {i:Nat} (hi:i<l.length) (h:WG l i=false):Wt l=false:=by
 unfold Wt;rw[List.all_eq_false];exact⟨i,by simpa using hi,by simp[h]⟩
theorem X0V {l:List Int} (h:∀i:Nat,i+1<l.length->WG l i=true):Wt l=true:=by
 unfold Wt;rw[Nl];intro i hi;simp only[List.mem_range]at hi;by_cases h2:i+1<l.length
 .exact h i h2
 unfold WG;rw[ND (i:=i+1) (by omega)];cases l[i]? <;>rfl
theorem Zr {l:List Int} {k:Nat} (h:k<l.length):∃b,l[k]? =some b:=⟨l[k],by simp[h]⟩
theorem X6Y (l:List Int) (hl:l.length<=1000000000) (d:Nat):Con prog 141 true [lI l] (.v (lb (Wt l))) none d:=by
 refine X3 Tryz.func141 ?_;simp only[Tryz.f141];refine X1 ?_;refine X0<|X0<|X2 ?_;refine X4<|(Xf [0,5] (fun(x:Nat)=>[(6,.v (li x))]) (fun x=>[]) (fun x=>x<=l.length/\∀j:Nat,j+1<x->WG l j=true) (fun x=>l.length - x) (0:Nat) ⟨Nf _,fun j hj=>absurd hj (by omega)⟩ ?_ ?_)
 .exact X5 (fun n=>n) []
 rintro k ⟨hk,hJ⟩;simp only[upS,X7,Xy]
 try simp only[X7,KN,Nat.reduceBEq,Nd,Nb,ins,Nat.reduceLT]
 refine X1 ?_;refine X0<|(X6 rfl (fun h4=>Xc ?_) (fun h4=>?_))
 ·(try simp only[BN]at h4);have hlt:k<l.length:=by omega
  obtain⟨b,hb⟩:=Zr hlt;have hw:=XB hlt hl;have hk1:k+1<=l.length:=hlt;have hk9:k<=1000000000:=by omega
  clear hlt h4;refine X0<|X4<|X0<|X2 ?_;rcases k with _|j
  .have hw1:IntKind.i64.wrap 1=1:=X8;refine X0<|(N0 ?_);refine(X9 rfl (fun h7=>?_) fun h7=>?_)
   .exact absurd h7 (by simp)
   (try simp only[BN]at h7);refine X2 ?_;exact⟨1,⟨hk1,fun j hj=>absurd hj (by omega)⟩,by omega,X5 (fun n=>n) []⟩
  have hw1:IntKind.i64.wrap ((j:Int)+1+1)=(j:Int)+1+1:=X8;obtain⟨a,ha⟩:=Zr (show j<l.length by omega);have hwj:IntKind.i64.wrap (j:Int)=j:=X8;have hri:WG l j=decide (a<b):=by unfold WG;rw[ha,hb]
  have hj0:(0:Int)<(j:Int)+1:=by omega
  have hj1:0<=(j:Int)+1:=by omega
  have hj2:((j:Int)+1).toNat=j+1:=by omega
  refine X0<|(N0 ?_);refine(X9 rfl (fun h7=>?_) fun h7=>?_)
  ·(try simp only[BN]at h7);have hz:Wt l=false:=X3w (i:=j) (by omega) (by rw[hri];simpa using h7);refine X1 ?_;exact Xb
  (try simp only[BN]at h7);refine X2 ?_
  exact⟨j+1+1,⟨hk1,fun i hi=>by
   rcases Nat.lt_or_eq_of_le (Nat.le_of_lt_succ hi)with h|h
   .exact hJ i (by omega)
   have:i=j:=by omega
   rw[this,hri]
   simpa using h7⟩,by omega,X5 (fun n=>n) []⟩
 (try simp only[BN]at h4);have hz:Wt l=true:=X0V fun i hi=>hJ i (by omega);refine(Xj ?_);refine X1 ?_;exact Xb
def X3h (l:List Int):Bool:=
 match l[0]? with
 |some b=>decide (0<=b)
 |none=>false
def Z7 (l:List Int):Bool:=(decide (1<=l.length)&&(decide (l.length<=32)&&X3h l))&&Wt l
theorem X85 (l:List Int):l=[]\/∃b0,l[0]? =some b0:=by
 cases l with
 |nil=>exact .inl rfl
 |cons b r=>exact .inr ⟨b,rfl⟩
theorem X6k (l:List Int) (hl:l.length<=1000000000) (d:Nat):Con prog 151 true [lI l] (.v (lb (Z7 l))) none d:=by
 obtain⟨res,hres⟩:∃r,Z7 l=r:=⟨_,rfl⟩;rw[hres];refine X3 Tryz.func151 ?_;simp only[Tryz.f151];refine X1 ?_;rcases X85 l with h0|⟨b0,hb0⟩
 .subst h0;replace hres:false=res:=hres;refine X0<|X0<|X2 ?_;refine(X9 rfl (fun h2=>?_) fun h2=>?_)
  ·(try simp only[BN]at h2);subst hres;refine X1 ?_;exact Xb
  exact absurd h2 (by simp)
 have hh:X3h l=decide (0<=b0):=by unfold X3h;rw[hb0]
 have hpos:1<=l.length:=(N8.1 hb0).1;refine X0<|X0<|X2 ?_;refine(X9 rfl (fun h2=>?_) fun h2=>?_)
 .try simp only[BN]at h2
  have hz:Z7 l=false:=by
   unfold Z7;rw[hh];simp only[No,Nc];omega
  rw[hz]at hres;subst hres;refine X1 ?_;exact Xb
 try simp only[BN]at h2
 have hz:Z7 l=Wt l:=by
  unfold Z7;rw[hh];rw[Nv (by omega),Nv (by omega),Nv (by omega)];rfl
 rw[hz]at hres;have hl32:l.length<=32:=by omega
 clear hz hh h2 hb0;refine X0<|X0<|X2 ?_;refine X4<|(Xf [0] (fun(x:Nat)=>[(3,.v (li ((x:Int)+1)))]) (fun x=>[]) (fun x=>x+1<=l.length/\∀j:Nat,j<x->WG l j=true) (fun x=>l.length - x) (0:Nat) ⟨hpos,fun j hj=>absurd hj (Dd j)⟩ ?_ ?_)
 .exact X5 (fun n=>n) []
 rintro k ⟨hk,hJ⟩;simp only[upS,X7,Xy]
 try simp only[X7,KN,Nat.reduceBEq,Nd,Nb,ins,Nat.reduceLT]
 refine X0<|X0<|X2 ?_;refine(X6 rfl (fun h8=>Xc ?_) (fun h8=>?_))
 ·(try simp only[BN]at h8);have hlt:k+1<l.length:=by omega
  obtain⟨b,hb⟩:=Zr hlt;obtain⟨a,ha⟩:=Zr (show k<l.length by omega);have hw:IntKind.i64.wrap ((k:Int)+1+1)=(k:Int)+1+1:=X8;have hwj:IntKind.i64.wrap (k:Int)=k:=X8;have hri:WG l k=decide (a<b):=by unfold WG;rw[ha,hb]
  have hj1:0<=(k:Int)+1:=by omega
  have hj2:((k:Int)+1).toNat=k+1:=by omega
  have hk1:k+1+1<=l.length:=hlt;clear hlt h8;refine X0<|X4<|X0<|(N0 ?_);refine(X9 rfl (fun h10=>?_) fun h10=>?_)
  ·(try simp only[BN]at h10);have hz:Wt l=false:=X3w (i:=k) (by omega) (by rw[hri];simpa using h10);refine X1 ?_;exact Xb
  (try simp only[BN]at h10);refine X2 ?_
  exact⟨k+1,⟨hk1,fun i hi=>by
   rcases Nat.lt_or_eq_of_le (Nat.le_of_lt_succ hi)with h|h
   .exact hJ i h
   rw[h,hri]
   simpa using h10⟩,by omega,X5 (fun n=>n) []⟩
 (try simp only[BN]at h8);have hz:Wt l=true:=X0V fun i hi=>hJ i (by omega);refine(Xj ?_);refine X1 ?_;exact Xb
def Wl:Tm->Bool
 | .mk o n ks=>decide (o=0)&&(decide (n=0)&&decide (ks.length=0))
theorem X7w (t:Tm) (d:Nat):Con prog 150 true [aT t] (.v (lb (Wl t))) none d:=by
 obtain⟨o,n,ks⟩:=t;refine X3 Tryz.func150 ?_;simp only[Tryz.f150];simp only[aT,Tm.enc];refine X1 ?_;refine X1 ?_;exact(Xb (he:=by first|rfl|(simp[*,Wl,NO];done)|(simp only[Xp,Wl,NO];(repeat' split)<;>first|rfl|(exfalso;omega)|simp_all)))
theorem X7L (t:Tm) (d:Nat):Con prog 140 true [aT t] (.v (lb (Wl t))) none d:=by
 obtain⟨o,n,ks⟩:=t;refine X3 Tryz.func140 ?_;simp only[Tryz.f140];simp only[aT,Tm.enc];refine X1 ?_;refine X1 ?_;exact(Xb (he:=by first|rfl|(simp[*,Wl,NO];done)|(simp only[Xp,Wl,NO];(repeat' split)<;>first|rfl|(exfalso;omega)|simp_all)))
def uVB (d:Int):Bool:=decide (d=0)||decide (d=5)
def uNB (d:Int):Bool:=decide (d=4)||decide (d=5)
def uTB (d:Int):Bool:=decide (d=0)||(decide (d=1)||(decide (d=3)||decide (d=4)))
theorem uV_con (a:Int) (d:Nat):Con prog 137 true [li a] (.v (lb (uVB a))) none d:=by
 refine X3 Tryz.func137 ?_;simp only[Tryz.f137];refine X1 ?_;refine X1 ?_;exact(Xb (he:=by first|rfl|(simp[*,uVB];done)|(simp only[Xp,uVB];(repeat' split)<;>first|rfl|(exfalso;omega)|simp_all)))
theorem uN_con (a:Int) (d:Nat):Con prog 138 true [li a] (.v (lb (uNB a))) none d:=by
 refine X3 Tryz.func138 ?_;simp only[Tryz.f138];refine X1 ?_;refine X1 ?_;exact(Xb (he:=by first|rfl|(simp[*,uNB];done)|(simp only[Xp,uNB];(repeat' split)<;>first|rfl|(exfalso;omega)|simp_all)))
theorem uT_con (a:Int) (d:Nat):Con prog 139 true [li a] (.v (lb (uTB a))) none d:=by
 refine X3 Tryz.func139 ?_;simp only[Tryz.f139];refine X1 ?_;refine X1 ?_;exact(Xb (he:=by first|rfl|(simp[*,uTB,Bool.or_assoc];done)|(simp only[Xp,uTB,Bool.or_assoc];(repeat' split)<;>first|rfl|(exfalso;omega)|simp_all)))
def Qu (vars:List Vr) (v:Int):Bool:=decide (0<=v)&&(match vars[v.toNat]? with|some w=>decide (w.kind=0)|none=>false)
def shB (vars:List Vr) (nh:Nat) (d v n:Int) (t:Tm) (la lb_:Nat) (bs:List Int) (last:Bool):Bool:=
 if d=0 then((decide (la=0)&&decide (lb_=0))&&Qu vars v&&decide (n=0))&&decide (bs.length=0)
 else if d=1 then((decide (la=0)&&decide (lb_=0))&&decide (v=0)&&decide (n=0))&&decide (bs.length=0)
 else if d=2 then(((decide (la=0)&&decide (lb_=0))&&decide (v=0)&&decide (n=0))&&decide (bs.length=0))&&Wl t
 else if d=3 then(decide (v=0)&&decide (n=0))&&decide (bs.length=0)
 else if d=4 then(decide (v=0)&&decide (lb_=0))&&decide (bs.length=0)
 else if d=5 then((((decide (la=0)&&decide (lb_=0))&&Qu vars v&&decide (0<=n))&&decide (n<nh))&&decide (bs.length=0))&&Wl t
 else if d=6 then((((decide (la=0)&&decide (lb_=0))&&last&&decide (v=0))&&decide (n=0))&&Wl t)&&Z7 bs
 else false
theorem X6b (f:Fl) (s:St) (last:Bool) (hv:f.vars.length<=1000000000) (hb:s.bounds.length<=1000000000) (e:Nat):
  Con prog 133 true [aF f,aS s,lb last] (.v (lb (shB f.vars f.hats.length s.do_ s.var s.n s.term s.then_.length s.else_.length s.bounds last))) none e:=by
 obtain⟨vars,hats,body⟩:=f;obtain⟨d,c,v,n,t,a,b,bs⟩:=s;simp only[St.do_,St.var,St.n,St.term,St.then_,St.else_,St.bounds]at hb⊢;simp only at hv;have c1:=X7w t;have c2:=X6k bs hb;obtain⟨P,hP⟩:∃p,Wl t=p:=⟨_,rfl⟩;obtain⟨R,hR⟩:∃p,Z7 bs=p:=⟨_,rfl⟩;obtain⟨la,hla⟩:∃k,a.length=k:=⟨_,rfl⟩;obtain⟨lc,hlc⟩:∃k,b.length=k:=⟨_,rfl⟩;obtain⟨nb,hnb⟩:∃k,bs.length=k:=⟨_,rfl⟩;obtain⟨nv,hnv⟩:∃k,vars.length=k:=⟨_,rfl⟩;obtain⟨nh,hnh⟩:∃k,hats.length=k:=⟨_,rfl⟩;obtain⟨res,hres⟩:∃r,shB vars hats.length d v n t a.length b.length bs last=r:=⟨_,rfl⟩;rw[hres];simp only[shB,hP,hR,hla,hlc,hnb,hnh]at hres;rw[hP]at c1;rw[hR]at c2;obtain⟨o,tn,ks⟩:=t;clear hP hR;simp only[aT,Tm.enc,Na,Ng]at c1;refine X3 Tryz.func133 ?_;simp only[Tryz.f133];simp only[aF,aS,Fl.enc,St.enc,Tm.enc,Na,Ng,List.cons_append,List.nil_append];refine X1 ?_;refine X1 ?_;refine Q0 [2,3,4,7] (fun(z:Bool)=>[(8,.v (lb z))]) (fun(z:Bool)=>[(3,.box [.c (.sl 5 (Xt vars)),.c (.sl 6 (Xz hats)),.c (.sl 10 (Xe body))]),(4,.box [.c (iC d),.c (iC c),.c (iC v),.c (iC n),.c (iC o),.c (iC tn),.c (.sl 3 (XH ks)),.c (.sl 10 (Xe a)),.c (.sl 10 (Xe b)),.c (.sl 1 (Xg bs))])]) (fun(z:Bool)=>z=Qu vars v) ?_ ?_
 .by_cases h0:0<=v
  .by_cases h1:v<vars.length
   .obtain⟨w,hw⟩:=X1R ⟨h0,h1⟩;have h2:decide (v<(nv:Int))=true:=Nv (by omega);have hz:Qu vars v=decide (w.kind=0):=by unfold Qu;rw[hw];simp[h0]
    clear h1;refine XI (by simp[*];rfl) ?_;exact⟨decide (w.kind=0),hz.symm,X5 (fun n=>n) []⟩
   have hw:=ZX h0 h1;have h2:¬v<(nv:Int):=by omega
   have hz:Qu vars v=false:=by unfold Qu;rw[hw];simp
   clear h1;refine XI (by simp[*];rfl) ?_;exact⟨false,hz.symm,X5 (fun n=>n) []⟩
  have hz:Qu vars v=false:=by unfold Qu;simp[h0]
  refine XI (by simp[*];rfl) ?_;exact⟨false,hz.symm,X5 (fun n=>n) []⟩
 rintro LO hLO;simp only[upS,X7,Xy]
 try simp only[X7,KN,Nat.reduceBEq,Nd,Nb,ins,Nat.reduceLT]
 rw[<-hLO]at hres;clear hLO;refine X0<|X0<|X2 ?_;refine X4<|X0<|X2 ?_;refine(X6 rfl (fun h5=>?_) (fun h5=>?_))
 ·(try simp only[BN]at h5);refine X1 ?_;exact(Xb (he:=by rw[<-hres];simp[*,Xp,NO]))
 (try simp only[BN]at h5);refine X1 ?_;refine(X6 rfl (fun h9=>?_) (fun h9=>?_))
 ·(try simp only[BN]at h9);refine X1 ?_;exact(Xb (he:=by rw[<-hres];simp[*,Xp,NO]))
 (try simp only[BN]at h9);refine X1 ?_;refine(X6 rfl (fun h13=>?_) (fun h13=>?_))
 ·(try simp only[BN]at h13);by_cases hg:(la=0/\lc=0)/\v=0/\n=0/\nb=0
  .obtain⟨⟨g1,g2⟩,g3,g4,g5⟩:=hg;refine Xd [⟨true,.v (lb P),none⟩] ?_ ?_
   .first|exact c1 _|exact trivial|simpa[*]using c1 _
   exact(Xb (he:=by rw[<-hres];simp[*,Xp,NO]))
  have hgb:(decide (la=0)&&decide (lc=0)&&decide (v=0)&&decide (n=0)&&decide (nb=0))=false:=by simp only[No,Nc];omega
  clear hg
  have hr:false=res:=by
   rw[<-hres,N6 h5,N6 h9,N9 h13];rw[hgb];rfl
  subst hr;refine X0<|(Z6 [none] (by simp[*];first|exact⟨rfl,trivial⟩|exact⟨rfl,Iff.rfl⟩|rfl) ?_ ?_)
  .trivial
  exact(Xb (he:=by rfl))
 (try simp only[BN]at h13);refine X1 ?_;refine(X6 rfl (fun h17=>?_) (fun h17=>?_))
 ·(try simp only[BN]at h17);refine X1 ?_;exact(Xb (he:=by rw[<-hres];simp[*,Xp,NO]))
 (try simp only[BN]at h17);refine X1 ?_;refine(X6 rfl (fun h21=>?_) (fun h21=>?_))
 ·(try simp only[BN]at h21);refine X1 ?_;exact(Xb (he:=by rw[<-hres];simp[*,Xp,NO]))
 (try simp only[BN]at h21);refine X1 ?_;refine(X6 rfl (fun h25=>?_) (fun h25=>?_))
 ·(try simp only[BN]at h25);by_cases hg:(la=0/\lc=0)/\LO=true/\0<=n/\n<nh/\nb=0
  .obtain⟨⟨g1,g2⟩,g3,g4,g5,g6⟩:=hg;refine Xd [⟨true,.v (lb P),none⟩] ?_ ?_
   .first|exact c1 _|exact trivial|simpa[*]using c1 _
   exact(Xb (he:=by rw[<-hres];simp[*,Xp,NO]))
  have hgb:(decide (la=0)&&decide (lc=0)&&LO&&decide (0<=n)&&decide (n<(nh:Int))&&decide (nb=0))=false:=by
   cases LO
   .simp
   simp only[No,Nc];simp only[true_and]at hg;omega
  clear hg
  have hr:false=res:=by
   rw[<-hres,N6 h5,N6 h9,N6 h13,N6 h17,N6 h21,N9 h25];rw[hgb];rfl
  subst hr;refine X0<|(Z6 [none] (by simp[*];first|exact⟨rfl,trivial⟩|exact⟨rfl,Iff.rfl⟩|rfl) ?_ ?_)
  .trivial
  exact(Xb (he:=by rfl))
 (try simp only[BN]at h25);refine X1 ?_;refine(X9 rfl (fun h29=>?_) fun h29=>?_)
 ·(try simp only[BN]at h29);by_cases hg:(la=0/\lc=0)/\last=true/\v=0/\n=0
  .obtain⟨⟨g1,g2⟩,g3,g4,g5⟩:=hg;refine Xd [⟨true,.v (lb P),none⟩,⟨true,.v (lb R),none⟩] ?_ ?_
   .first|exact⟨c1 _,c2 _⟩|exact trivial|(repeat' first|exact trivial|exact c1 _|exact c2 _|apply And.intro)
   exact(Xb (he:=by rw[<-hres];simp[*,Xp,NO]))
  have hgb:(decide (la=0)&&decide (lc=0)&&last&&decide (v=0)&&decide (n=0))=false:=by
   cases last
   .simp
   simp only[No,Nc];simp only[true_and]at hg;omega
  clear hg
  have hr:false=res:=by
   rw[<-hres,N6 h5,N6 h9,N6 h13,N6 h17,N6 h21,N6 h25,N9 h29];rw[hgb];rfl
  subst hr;refine X0<|(Z6 [none,none] (by simp[*];first|exact⟨rfl,trivial⟩|exact⟨rfl,Iff.rfl⟩|rfl) ?_ ?_)
  .trivial
  exact(Xb (he:=by rfl))
 (try simp only[BN]at h29);refine X1 ?_;exact(Xb (he:=by rw[<-hres];simp[*,Xp,NO]))
def badP (UV UN UT P LO:Bool) (d v n:Int) (la lc nb nh:Nat):Prop:=
 d<0\/6<d\/(UV=false/\v≠0)\/(UN=false/\n≠0)\/(UT=false/\P=false)\/((d≠3/\d≠4)/\0<la)\/(d≠3/\0<lc)\/(d≠6/\0<nb)\/(UV=true/\LO=false)\/(d=5/\(n<0\/nh<=n))
instance (UV UN UT P LO:Bool) (d v n:Int) (la lc nb nh:Nat):Decidable (badP UV UN UT P LO d v n la lc nb nh):=by unfold badP;exact inferInstance
theorem sh_bad {vars:List Vr} {nh:Nat} {d v n:Int} {t:Tm} {la lc:Nat} {bs:List Int} {last:Bool} (h:badP (uVB d) (uNB d) (uTB d) (Wl t) (Qu vars v) d v n la lc bs.length nh):shB vars nh d v n t la lc bs last=false:=by
 unfold shB;generalize Wl t=P at*;generalize Qu vars v=LO at*
 have hr:Z7 bs=true->1<=bs.length:=by
  intro h;unfold Z7 at h;simp only[N4,N5]at h;omega
 generalize Z7 bs=R at*;generalize bs.length=nb at*;unfold badP uVB uNB uTB at h
 (repeat' split)<;>(simp only[No,NC,Ni,N5,Nc]at h⊢)<;>cases P<;>cases LO<;>cases last<;>cases R<;>simp at h hr⊢ <;>omega
theorem sh_good {vars:List Vr} {nh:Nat} {d v n:Int} {t:Tm} {la lc:Nat} {bs:List Int} {last:Bool} (h:¬badP (uVB d) (uNB d) (uTB d) (Wl t) (Qu vars v) d v n la lc bs.length nh):shB vars nh d v n t la lc bs last=(decide (d≠6)||(last&&Z7 bs)):=by
 unfold shB;generalize Wl t=P at*;generalize Qu vars v=LO at*;generalize Z7 bs=R at*;generalize bs.length=nb at*;unfold badP uVB uNB uTB at h;rw[D6]
 (repeat' split)<;>(simp only[not_or,not_and,NC,Ni,N4,N5,Nc]at h⊢)<;>cases P<;>cases LO<;>cases last<;>cases R<;>simp at h⊢ <;>omega
def X1O (d:Int):Int:=if d=2 then 67108864 else 10000
def X2M (bs:List Int):Bool:=
 match bs[bs.length - 1]? with
 |some x=>decide (x<=67108864)
 |none=>true
def X1r (d c n:Int) (bs:List Int):Bool:=
 (!(decide (c<0)||decide (X1O d<c)||(decide (d=4)&&(decide (n<0)||decide (4096<n)))))&&(decide (d≠6)||X2M bs)
theorem numP_con (s:St) (hb:s.bounds.length<=1000000000) (h6:s.do_=6->s.bounds≠[]) (h5:s.do_≠6->s.bounds=[]) (e:Nat):
  Con prog 112 true [aS s] (.v (lb (X1r s.do_ s.cost s.n s.bounds))) none e:=by
 obtain⟨d,c,v,n,⟨o,tn,ks⟩,a,b,bs⟩:=s;simp only[St.do_,St.cost,St.n,St.bounds]at hb h6 h5⊢;refine X3 Tryz.func112 ?_;simp only[Tryz.f112];simp only[aS,St.enc,Tm.enc,Na,Ng,List.cons_append,List.nil_append];refine X1 ?_;refine X1 ?_;refine(Q0 [1] (fun(z:Int)=>[(3,.v (li z))]) (fun(z:Int)=>[(1,.box [.c (iC d),.c (iC c),.c (iC v),.c (iC n),.c (iC o),.c (iC tn),.c (.sl 3 (XH ks)),.c (.sl 10 (Xe a)),.c (.sl 10 (Xe b)),.c (.sl 1 (Xg bs))])]) (fun(z:Int)=>z=X1O d) ?_ ?_)
 ·
  refine X1 ?_;refine(X9 rfl (fun h4=>?_) fun h4=>?_)
  ·(try simp only[BN]at h4);refine X2 ?_;exact⟨67108864,by simp[X1O,h4],X5 (fun n=>n) []⟩
  (try simp only[BN]at h4);exact⟨10000,by simp[X1O,h4],X5 (fun n=>n) []⟩
 rintro M hM;simp only[upS,X7,Xy]
 try simp only[X7,KN,Nat.reduceBEq,Nd,Nb,ins,Nat.reduceLT]
 refine X0<|X0<|X2 ?_;refine(X9 rfl (fun h9=>?_) fun h9=>?_)
 .try simp only[BN]at h9
  have hz:X1r d c n bs=false:=by
   unfold X1r;rw[<-hM];simp only[No,Ni,N4,Bool.not_eq_false',N5];omega
  refine X1 ?_;exact Xb
 try simp only[BN]at h9
 have hz:X1r d c n bs=(decide (d≠6)||X2M bs):=by
  unfold X1r;rw[<-hM]
  rw[show(!(decide (c<0)||decide (M<c)||(decide (d=4)&&(decide (n<0)||decide (4096<n)))))=true by
   simp only[NC,No,Nm,Nc]
   omega]
  rfl
 clear h9;by_cases hd6:d=6
 .have hne:=h6 hd6
  have hpos:1<=bs.length:=by
   cases bs with
   |nil=>exact absurd rfl hne
   |cons x l=>simp
  obtain⟨x,hx⟩:=Zr (show bs.length - 1<bs.length by omega);have hw1:IntKind.i64.wrap ((bs.length:Int) - 1)=(bs.length:Int) - 1:=X8;have hw2:0<=(bs.length:Int) - 1:=by omega
  have hw3:((bs.length:Int) - 1).toNat=bs.length - 1:=by omega
  have hw4:1<=(bs.length:Int):=by omega
  have hlo:X2M bs=decide (x<=67108864):=by unfold X2M;rw[hx]
  clear h6 h5 hne hpos;refine X1 ?_;exact Xb
 have hbs:=h5 hd6;subst hbs;have hw1:IntKind.i64.wrap (-1)=-1:=by decide
 clear h6 h5;refine X1 ?_;exact Xb
theorem X6c (f:Fl) (s:St) (last:Bool) (hv:f.vars.length<=1000000000) (hb:s.bounds.length<=1000000000) (e:Nat):
  Con prog 111 true [aF f,aS s,lb last] (.v (lb (shB f.vars f.hats.length s.do_ s.var s.n s.term s.then_.length s.else_.length s.bounds last))) none e:=by
 obtain⟨vars,hats,body⟩:=f;obtain⟨d,c,v,n,t,a,b,bs⟩:=s;simp only[St.do_,St.var,St.n,St.term,St.then_,St.else_,St.bounds]at hb⊢;simp only at hv;have c1:=X7L t;have c2:=X6Y bs hb;have c3:=uV_con d;have c4:=uN_con d;have c5:=uT_con d;have hgood:=@sh_good vars hats.length d v n t a.length b.length bs last;have hbad:=@sh_bad vars hats.length d v n t a.length b.length bs last;have hrise:Z7 bs=((decide (1<=bs.length)&&(decide (bs.length<=32)&&X3h bs))&&Wt bs):=rfl;rw[hrise]at hgood;clear hrise;generalize shB vars hats.length d v n t a.length b.length bs last=SH at*;generalize uVB d=UV at*;generalize uNB d=UN at*;generalize uTB d=UT at*;generalize Wl t=P at*;generalize Wt bs=R at*;obtain⟨LO,hLO⟩:∃p,Qu vars v=p:=⟨_,rfl⟩;rw[hLO]at hgood hbad;obtain⟨o,tn,ks⟩:=t;obtain⟨la,hla⟩:∃k,a.length=k:=⟨_,rfl⟩;obtain⟨lc,hlc⟩:∃k,b.length=k:=⟨_,rfl⟩;obtain⟨nb,hnb⟩:∃k,bs.length=k:=⟨_,rfl⟩;obtain⟨nv,hnv⟩:∃k,vars.length=k:=⟨_,rfl⟩;obtain⟨nh,hnh⟩:∃k,hats.length=k:=⟨_,rfl⟩;rw[hla,hlc,hnb,hnh]at hgood hbad;simp only[aT,Tm.enc,Na,Ng]at c1;refine X3 Tryz.func111 ?_;simp only[Tryz.f111];simp only[aF,aS,Fl.enc,St.enc,Tm.enc,Na,Ng,List.cons_append,List.nil_append];refine X1 ?_;refine X1 ?_;refine(Q0 [2,4,7] (fun(z:Unit)=>[]) (fun(z:Unit)=>[(4,.box [.c (iC d),.c (iC c),.c (iC v),.c (iC n),.c (iC o),.c (iC tn),.c (.sl 3 (XH ks)),.c (.sl 10 (Xe a)),.c (.sl 10 (Xe b)),.c (.sl 1 (Xg bs))])]) (fun(z:Unit)=>SH=(decide (d≠6)||(last&&((decide (0<nb)&&(decide (nb<=32)&&X3h bs))&&R)))) ?_ ?_)
 ·
  refine X4<|(Q0 [2,4,7] (fun(z:Bool)=>[(10,.v (lb z))]) (fun(z:Bool)=>[(4,.box [.c (iC d),.c (iC c),.c (iC v),.c (iC n),.c (iC o),.c (iC tn),.c (.sl 3 (XH ks)),.c (.sl 10 (Xe a)),.c (.sl 10 (Xe b)),.c (.sl 1 (Xg bs))])]) (fun(z:Bool)=>z=decide (badP UV UN UT P LO d v n la lc nb nh)) ?_ ?_)
  ·
   refine X1 ?_;refine(X6 rfl (fun h5=>Xc ?_) (fun h5=>?_))
   ·(try simp only[BN]at h5);exact⟨true,(Nv (h5.elim .inl (fun h=>.inr (.inl h)))).symm,X5 (fun n=>n) []⟩
   (try simp only[BN]at h5);refine Xd [⟨true,.v (lb UV),none⟩] ?_ ?_
   .first|exact c3 _|exact trivial|simpa[*]using c3 _
   refine(X6 rfl (fun h8=>Xc ?_) (fun h8=>?_))
   ·(try simp only[BN]at h8);exact⟨true,(Nv (.inr (.inr (.inl h8)))).symm,X5 (fun n=>n) []⟩
   (try simp only[BN]at h8);refine Xd [⟨true,.v (lb UN),none⟩] ?_ ?_
   .first|exact c4 _|exact trivial|simpa[*]using c4 _
   refine(X6 rfl (fun h11=>Xc ?_) (fun h11=>?_))
   ·(try simp only[BN]at h11);exact⟨true,(Nv (.inr (.inr (.inr (.inl h11))))).symm,X5 (fun n=>n) []⟩
   (try simp only[BN]at h11);refine Q0 [2,3,4,7] (fun(z:Bool)=>[(10,.v (lb z))]) (fun(z:Bool)=>[(3,.box [.c (.sl 5 (Xt vars)),.c (.sl 6 (Xz hats)),.c (.sl 10 (Xe body))]),(4,.box [.c (iC d),.c (iC c),.c (iC v),.c (iC n),.c (iC o),.c (iC tn),.c (.sl 3 (XH ks)),.c (.sl 10 (Xe a)),.c (.sl 10 (Xe b)),.c (.sl 1 (Xg bs))])]) (fun(z:Bool)=>z=(!UT&& !P)) ?_ ?_
   .rcases(show UT=false\/UT=true by cases UT<;>simp)with hUT|hUT
    .refine Wv [⟨true,.v (lb false),none⟩,⟨true,.v (lb P),none⟩] (by simp[*];first|exact⟨rfl,Iff.rfl⟩|exact⟨rfl,trivial⟩|rfl) ?_ ?_
     ·(repeat' first|exact trivial|(simpa[hUT]using c5 _)|exact c1 _|apply And.intro)
     exact⟨!P,by simp[hUT],X5 (fun n=>n) []⟩
    refine Z6 [some ⟨true,.v (lb true),none⟩,none] (by simp[*];first|exact⟨rfl,Iff.rfl⟩|exact⟨rfl,trivial⟩|rfl) ?_ ?_
    .first|exact trivial|(simpa[hUT]using c5 _)
    exact⟨false,by simp[hUT],X5 (fun n=>n) []⟩
   rintro LUT hLUT;simp only[upS,X7,Xy]
   try simp only[X7,KN,Nat.reduceBEq,Nd,Nb,ins,Nat.reduceLT]
   refine(X6 rfl (fun h14=>Xc ?_) (fun h14=>?_))
   ·(try simp only[BN]at h14);rw[hLUT,N4,Nm,Nm]at h14;exact⟨true,(Nv (.inr (.inr (.inr (.inr (.inl h14)))))).symm,X5 (fun n=>n) []⟩
   (try simp only[BN]at h14);refine X1 ?_;refine(X6 rfl (fun h17=>Xc ?_) (fun h17=>?_))
   ·(try simp only[BN]at h17);exact⟨true,(Nv (.inr (.inr (.inr (.inr (.inr (.inl ⟨h17.1,by omega⟩))))))).symm,X5 (fun n=>n) []⟩
   (try simp only[BN]at h17);refine X1 ?_;refine(X6 rfl (fun h20=>Xc ?_) (fun h20=>?_))
   ·(try simp only[BN]at h20);exact⟨true,(Nv (.inr (.inr (.inr (.inr (.inr (.inr (.inl ⟨h20.1,by omega⟩)))))))).symm,X5 (fun n=>n) []⟩
   (try simp only[BN]at h20);refine X1 ?_;refine(X6 rfl (fun h23=>Xc ?_) (fun h23=>?_))
   ·(try simp only[BN]at h23);exact⟨true,(Nv (.inr (.inr (.inr (.inr (.inr (.inr (.inr (.inl ⟨h23.1,by omega⟩))))))))).symm,X5 (fun n=>n) []⟩
   (try simp only[BN]at h23);refine Q0 [2,3,4,7] (fun(z:Bool)=>[(10,.v (lb z))]) (fun(z:Bool)=>[(3,.box [.c (.sl 5 (Xt vars)),.c (.sl 6 (Xz hats)),.c (.sl 10 (Xe body))]),(4,.box [.c (iC d),.c (iC c),.c (iC v),.c (iC n),.c (iC o),.c (iC tn),.c (.sl 3 (XH ks)),.c (.sl 10 (Xe a)),.c (.sl 10 (Xe b)),.c (.sl 1 (Xg bs))])]) (fun(z:Bool)=>z=(UV&& !LO)) ?_ ?_
   .by_cases h0:0<=v
    .have h3:¬v<0:=by omega
     by_cases h1:v<vars.length
     .obtain⟨w,hw⟩:=X1R ⟨h0,h1⟩;have h2:¬(nv:Int)<=v:=by omega
      have hz:LO=decide (w.kind=0):=by rw[<-hLO];unfold Qu;rw[hw];simp[h0]
      subst hz;clear h1;refine Wv [⟨true,.v (lb UV),none⟩] (by simp[*];first|exact⟨rfl,Iff.rfl⟩|exact⟨rfl,trivial⟩|rfl) ?_ ?_
      .first|exact c3 _|exact trivial
      exact⟨UV&& !decide (w.kind=0),rfl,X5 (fun n=>n) []⟩
     have hw:=ZX h0 h1;have h2:(nv:Int)<=v:=by omega
     have hz:LO=false:=by rw[<-hLO];unfold Qu;rw[hw];simp
     subst hz;clear h1;refine Wv [⟨true,.v (lb UV),none⟩] (by simp[*];first|exact⟨rfl,Iff.rfl⟩|exact⟨rfl,trivial⟩|rfl) ?_ ?_
     .first|exact c3 _|exact trivial
     exact⟨UV&& !false,rfl,X5 (fun n=>n) []⟩
    have h3:v<0:=by omega
    have hz:LO=false:=by rw[<-hLO];unfold Qu;simp[h0]
    subst hz;refine Wv [⟨true,.v (lb UV),none⟩] (by simp[*];first|exact⟨rfl,Iff.rfl⟩|exact⟨rfl,trivial⟩|rfl) ?_ ?_
    .first|exact c3 _|exact trivial
    exact⟨UV&& !false,rfl,X5 (fun n=>n) []⟩
   rintro LOU hLOU;simp only[upS,X7,Xy]
   try simp only[X7,KN,Nat.reduceBEq,Nd,Nb,ins,Nat.reduceLT]
   refine(X6 rfl (fun h26=>Xc ?_) (fun h26=>?_))
   ·(try simp only[BN]at h26);rw[hLOU,N4,Nm]at h26;exact⟨true,(Nv (.inr (.inr (.inr (.inr (.inr (.inr (.inr (.inr (.inl h26)))))))))).symm,X5 (fun n=>n) []⟩
   try simp only[BN]at h26
   have hz:decide (badP UV UN UT P LO d v n la lc nb nh)=(decide (d=5)&&(decide (n<0)||decide ((nh:Int)<=n))):=by
    rw[hLOU]at h26;rw[D6,N5];unfold badP;simp only[N4,Ni,N5];constructor
    .rintro(h|h|h|h|h|h|h|h|h|h)
     .omega
     .omega
     .exact absurd h8 (by simp[h.1,h.2])
     .exact absurd h11 (by simp[h.1,h.2])
     .rw[hLUT,h.1,h.2]at h14;cases h14
     .omega
     .omega
     .omega
     .exact absurd h26 (by simp[h.1,h.2])
     exact h
    exact fun h=>.inr (.inr (.inr (.inr (.inr (.inr (.inr (.inr (.inr h))))))))
   refine X2 ?_;exact⟨(decide (d=5)&&(decide (n<0)||decide ((nh:Int)<=n))),hz.symm,X5 (fun n=>n) []⟩
  rintro _ rfl;simp only[upS,X7,Xy]
  try simp only[X7,KN,Nat.reduceBEq,Nd,Nb,ins,Nat.reduceLT]
  refine(X9 rfl (fun h30=>?_) fun h30=>?_)
  ·(try simp only[BN]at h30);have hz:=hbad h30;clear hgood hbad;refine X1 ?_;exact Xb
  (try simp only[BN]at h30);have hz:=hgood h30;clear hgood hbad;exact⟨(),hz,X5 (fun n=>n) []⟩
 rintro _ hz;simp only[upS,X7,Xy]
 try simp only[X7,KN,Nat.reduceBEq,Nd,Nb,ins,Nat.reduceLT]
 clear hgood hbad;rcases X85 bs with h0|⟨b0,hb0⟩
 .subst h0;have hh:X3h []=false:=rfl;replace hnb:nb=0:=hnb.symm;subst hnb;rw[hh]at hz;refine Xd [⟨true,.v (lb R),none⟩] ?_ ?_
  .first|exact c2 _|exact trivial|simpa[*]using c2 _
  exact(Xb (he:=by first|(simp[*,Xp,NO];done)|rfl))
 have hh:X3h bs=decide (0<=b0):=by unfold X3h;rw[hb0]
 rw[hh]at hz;have e32:decide ((nb:Int)<=32)=decide (nb<=32):=by rw[decide_eq_decide];omega
 refine Xd [⟨true,.v (lb R),none⟩] ?_ ?_
 .first|exact c2 _|exact trivial|simpa[*]using c2 _
 exact(Xb (he:=by rw[hz];simp[Xp,e32,NO]))
end Go.Proofs.YtdccocolnaklkaaGreatDoor
