/- Contracts of functions and plain facts about what they compute. Conditions: as each theorem states. -/
import Derived.Test.YtdajceakaakdoaaGreatJ6
import Derived.Test.YtdajceakaakdoaaGreatJ3
import Derived.Test.YtdajceakaakdoaaGreatJ5
set_option linter.unusedSimpArgs false
set_option linter.unusedVariables false
set_option linter.unnecessarySimpa false
set_option maxRecDepth 100000
set_option maxHeartbeats 2000000
namespace Go.Proofs.YtdajceakaakdoaaGreat
open Go Go.Hl
open Tryz(prog)
def WV (v:Vr):Prop:=QT v.low v.high=false\/(v.kind≠0/\v.init≠0)\/(v.kind=0/\(v.init<v.low\/v.high<v.init))
instance (v:Vr):Decidable (WV v):=by unfold WV;exact inferInstance
def Zu (seen:List Vr) (v:Vr):Int:=
 if X06 v.name=false then 7 else if(seen.any fun w=>decide (w.name=v.name))=true then 8 else if v.kind<0\/3<v.kind then 1 else if WV v then 3 else 0
def vcs:List Vr->List Vr->Int
 |_,[]=>0
 |seen,v::l=>if Zu seen v=0 then vcs (seen++[v]) l else Zu seen v
def X3k (vars:List Vr) (kind:Int):Bool:=decide (4096<spc vars kind)||(decide (kind=3)&&decide (256<spc vars kind))
def ZU (vars:List Vr):Int:=if vcs [] vars=0 then(if([1,2,3].any (X3k vars))=true then 4 else 0)else vcs [] vars
theorem X3y:∀(l seen:List Vr),vcs seen l=0->X0s l
 |[],_,_,v,hv=>by cases hv
 | w :: l,seen,h,v,hv=>by
   simp only[vcs]at h;split at h
   .rename_i h0;rcases Ng.1 hv with rfl|hv
    .unfold Zu at h0;split at h0
     .cases h0
     split at h0
     .cases h0
     split at h0
     .cases h0
     split at h0
     .cases h0
     rename_i hk;unfold WV at hk
     have hb:QT v.low v.high=true:=by
      cases hb:QT v.low v.high with
      |true=>rfl
      |false=>exact absurd (.inl hb) hk
     simp only[QT,N3,N5]at hb;omega
    exact X3y l _ h v hv
   rename_i h0;exact absurd h h0
def X6S (vars:List Vr):List Int->Int
 |[]=>0
 |k::l=>if X3k vars k=true then 4 else X6S vars l
theorem X7V (vars:List Vr):∀l:List Int,X6S vars l=if l.any (X3k vars)=true then 4 else 0
 |[]=>by simp[X6S]
 | k::l=>by
   simp only[X6S,List.any_cons,X7V vars l];by_cases hb:X3k vars k=true
   .simp[hb]
   simp only[DL]at hb;simp[hb]
theorem XdF (vars:List Vr) (hl:vars.length<=1000000) (d:Nat):Con prog 115 true [lV vars] (.v (li (ZU vars))) none d:=by
 obtain⟨res,hres⟩:∃r,ZU vars=r:=⟨_,rfl⟩;rw[hres];obtain⟨cd,hcd⟩:∃r,vcs [] vars=r:=⟨_,rfl⟩;have hgood:cd=0->X0j vars:=fun h=>X3y vars [] (hcd.trans h);unfold ZU at hres;rw[hcd]at hres;refine X5 Tryz.func115 ?_;simp only[Tryz.f115];refine X2 ?_;refine X0<|X0<|X1 ?_;refine X3<|(Xg [0,10,11] (fun(x:Nat)=>[(12,.v (li x))]) (fun x=>[]) (fun x=>x<=vars.length/\vcs (vars.take x) (vars.drop x)=cd) (fun x=>vars.length - x) (0:Nat) ⟨Nq _,hcd⟩ ?_ ?_)
 .exact X4 (fun n=>n) []
 rintro k ⟨hk,hJ⟩;simp only[upS,X8,Xz]
 simp only[KN,Nat.reduceBEq,Nj,Nc,ins,Nat.reduceLT]
 clear hcd;refine X2 ?_;refine X0<|(X6 rfl (fun h4=>Xe ?_) (fun h4=>?_))
 ·simp only[BN]at h4;have hlt:k<vars.length:=by omega
  obtain⟨v,he,hd⟩:=Xt hlt;have hw1:=XD hlt (by omega);have hk1:k+1<=vars.length:=hlt;have hkl:(vars.take k).length<=1000000000:=by rw[NF];omega
  rw[hd]at hJ;simp only[vcs]at hJ;rw[<-ZP he]at hJ;clear hlt h4 hgood;refine X0<|X3<|X0<|X1 ?_;refine X2 ?_;refine X3<|X0<|(Xo [⟨true,.v (lb (X06 v.name)),none⟩] ?_ ?_)
  .first|exact X2O _ _|exact trivial|simpa[*]using X2O _ _
  refine(X6 rfl (fun h8=>?_) (fun h8=>?_))
  ·simp only[BN]at h8;have hc:Zu (vars.take k) v=7:=by unfold Zu;rw[N8 h8]
   rw[hc,N7 (by decide)]at hJ;subst hJ;rw[N7 (by decide)]at hres;subst hres;refine X2 ?_;exact Xc
  simp only[BN]at h8;refine Xh [⟨true,.v (lb ((vars.take k).any fun w=>decide (w.name=v.name))),none⟩] ?_ ?_
  .first|exact Xa0 (vars.take k) 178 [.ptr v.enc] (fun w=>decide (w.name=v.name)) hkl (fun w _ d=>X7O w v d) _|exact trivial|simpa[*]using Xa0 (vars.take k) 178 [.ptr v.enc] (fun w=>decide (w.name=v.name)) hkl (fun w _ d=>X7O w v d) _
  refine(X6 rfl (fun h12=>?_) (fun h12=>?_))
  ·have hc:Zu (vars.take k) v=8:=by unfold Zu;rw[N7 (by simp[h8]),N8 h12]
   rw[hc,N7 (by decide)]at hJ;subst hJ;rw[N7 (by decide)]at hres;subst hres;refine X2 ?_;exact Xc
  refine X2 ?_;refine(X6 rfl (fun h16=>?_) (fun h16=>?_))
  ·simp only[BN]at h16;have hc:Zu (vars.take k) v=1:=by unfold Zu;rw[N7 (by simp[h8]),N7 (by simp[h12]),N8 h16]
   rw[hc,N7 (by decide)]at hJ;subst hJ;rw[N7 (by decide)]at hres;subst hres;refine X2 ?_;exact Xc
  simp only[BN]at h16;have hc:Zu (vars.take k) v=if WV v then 3 else 0:=by unfold Zu;rw[N7 (by simp[h8]),N7 (by simp[h12]),N7 (by omega)]
  refine(XT [0,10,11,12] (fun(z:Bool)=>[(38,.v (lb z))]) (fun(z:Bool)=>[]) (fun(z:Bool)=>z=decide (WV v)) ?_ ?_)
  ·
   refine Xh [⟨true,.v (lb (QT v.low v.high)),none⟩] ?_ ?_
   .first|exact X09 _ _ _|exact trivial|simpa[*]using X09 _ _ _
   refine(X6 rfl (fun h21=>Xe ?_) (fun h21=>?_))
   ·simp only[BN]at h21;exact⟨true,(D7 (.inl (by simpa using h21))).symm,X4 (fun n=>n) []⟩
   simp only[BN]at h21;refine X2 ?_;refine(X6 rfl (fun h24=>Xe ?_) (fun h24=>?_))
   ·simp only[BN]at h24;exact⟨true,(D7 (.inr (.inl (by simpa using h24)))).symm,X4 (fun n=>n) []⟩
   simp only[BN]at h24
   have hz:decide (WV v)=(decide (v.kind=0)&&(decide (v.init<v.low)||decide (v.high<v.init))):=by
    rw[Dl,N5];unfold WV;simp only[N5,N3,Nf];have h21':QT v.low v.high=true:=by simpa using h21
    rw[h21'];constructor
    .rintro(h|h|h)
     .cases h
     .exfalso;omega
     exact h
    exact fun h=>.inr (.inr h)
   clear h21 h24;refine X1 ?_;exact⟨(decide (v.kind=0)&&(decide (v.init<v.low)||decide (v.high<v.init))),hz.symm,X4 (fun n=>n) []⟩
  rintro _ rfl;simp only[upS,X8,Xz]
  simp only[KN,Nat.reduceBEq,Nj,Nc,ins,Nat.reduceLT]
  refine(Xb rfl (fun h28=>?_) fun h28=>?_)
  ·simp only[BN]at h28;rw[N8 h28]at hc;rw[hc,N7 (by decide)]at hJ;subst hJ;rw[N7 (by decide)]at hres;subst hres;refine X2 ?_;exact Xc
  simp only[BN]at h28;rw[N7 h28]at hc;rw[hc,N8 rfl]at hJ;refine X1 ?_;exact⟨k+1,⟨hk1,hJ⟩,by omega,X4 (fun n=>n) []⟩
 simp only[BN]at h4;have hkl:k=vars.length:=by omega
 rw[hkl,Nw]at hJ;simp only[vcs]at hJ;have hv:=hgood hJ.symm;rw[N8 hJ.symm,<-X7V]at hres;clear hgood hJ hkl hk h4;obtain⟨L,hL⟩:∃L:List Int,L=[1,2,3]:=⟨_,rfl⟩;have hL3:L.length=3:=by rw[hL];rfl
 have hLi:∀k∈L,1<=k/\k<=3:=by rw[hL];decide
 rw[<-hL]at hres;refine(Xi ?_);refine X0<|X0<|X1 ?_;refine X3<|(Xg [0,71,72] (fun(x:Nat)=>[(73,.v (li x))]) (fun x=>[(71,.row 87 1 (X9 L))]) (fun x=>x<=3/\X6S vars (L.drop x)=res) (fun x=>3 - x) (0:Nat) ⟨Nq _,hres⟩ ?_ ?_)
 .exact Xw (fun n=>n) [] rfl (by simp[*,upS,X8]) (by simp[upS,X9,hL]) (by simp[upS])
 rintro k2 ⟨hk2,hJ2⟩;simp only[upS,X8,Xz]
 simp only[KN,Nat.reduceBEq,Nj,Nc,ins,Nat.reduceLT]
 clear hres hL;refine X2 ?_;refine X0<|(X6 rfl (fun h36=>Xe ?_) (fun h36=>?_))
 ·simp only[BN]at h36;have hlt:k2<L.length:=by omega
  obtain⟨kd,he,hd⟩:=Xt hlt;have hw1:=XD hlt (by omega);have hk1:k2+1<=3:=by omega
  have hkd:=hLi kd (N4 he);have hsp:=prV_in hv (vars.filter fun v=>decide (v.kind=kd)) 1 (fun v h=>(NN.1 h).1) (by decide);have hsp':1<=spc vars kd/\spc vars kd<=4097:=hsp;have c:=Xbw vars kd hkd hv hl;rw[hd]at hJ2;simp only[X6S]at hJ2;obtain⟨sv,hsv⟩:∃s,spc vars kd=s:=⟨_,rfl⟩;have hbk:X3k vars kd=(decide (4096<sv)||(decide (kd=3)&&decide (256<sv))):=by unfold X3k;rw[hsv]
  rw[hsv]at c hsp';clear hlt h36 hsp hsv hLi hv;refine X0<|X3<|X0<|X1 ?_;refine Xh [⟨true,.tup [li (if sv<=4096 then sv else 0),li (if sv<=4096 then 0 else 4)],none⟩] ?_ ?_
  .first|exact c _|exact trivial|simpa[*]using c _
  refine X2 ?_;refine(Xb rfl (fun h40=>?_) fun h40=>?_)
  .simp only[BN]at h40
   have hb:X3k vars kd=true:=by
    rw[hbk];by_cases h:sv<=4096
    .simp[h]at h40;simp[h40]
    simp;omega
   rw[N8 hb]at hJ2;subst hJ2;refine X2 ?_;exact Xc
  simp only[BN]at h40
  have hb:X3k vars kd=false:=by
   rw[hbk];by_cases h:sv<=4096
   .simp[h]at h40;simp;omega
   simp[h]at h40
  rw[hb,N7 (by decide)]at hJ2;refine X1 ?_;exact⟨k2+1,⟨hk1,hJ2⟩,by omega,X4 (fun n=>n) []⟩
 simp only[BN]at h36;have hkl:k2=L.length:=by omega
 rw[hkl,Nw]at hJ2;simp only[X6S]at hJ2;subst hJ2;refine(Xi ?_);refine X2 ?_;exact Xc
theorem XcZ (vars:List Vr) (hl:vars.length<=1000000) (d:Nat):Con prog 49 true [lV vars] (.v (li (ZU vars))) none d:=by
 obtain⟨res,hres⟩:∃r,ZU vars=r:=⟨_,rfl⟩;rw[hres];obtain⟨cd,hcd⟩:∃r,vcs [] vars=r:=⟨_,rfl⟩;have hgood:cd=0->X0j vars:=fun h=>X3y vars [] (hcd.trans h);unfold ZU at hres;rw[hcd]at hres;refine X5 Tryz.func49 ?_;simp only[Tryz.f49];refine X2 ?_;refine X0<|X0<|X1 ?_;refine X3<|(Xg [0] (fun(x:Nat)=>[(3,.v (li x))]) (fun x=>[]) (fun x=>x<=vars.length/\vcs (vars.take x) (vars.drop x)=cd) (fun x=>vars.length - x) (0:Nat) ⟨Nq _,hcd⟩ ?_ ?_)
 .exact X4 (fun n=>n) []
 rintro k ⟨hk,hJ⟩;simp only[upS,X8,Xz]
 simp only[KN,Nat.reduceBEq,Nj,Nc,ins,Nat.reduceLT]
 clear hcd;refine X0<|X0<|X1 ?_;refine(X6 rfl (fun h4=>Xe ?_) (fun h4=>?_))
 ·simp only[BN]at h4;have hlt:k<vars.length:=by omega
  obtain⟨v,he,hd⟩:=Xt hlt;have hw1:=XD hlt (by omega);have hk1:k+1<=vars.length:=hlt;have hkl:(vars.take k).length=k:=by rw[NF];omega
  rw[hd]at hJ;simp only[vcs]at hJ;rw[<-ZP he]at hJ;clear hlt h4 hgood hd;refine X0<|X3<|X0<|X1 ?_;refine X0<|X0<|(Xo [⟨true,.v (lb (X06 v.name)),none⟩] ?_ ?_)
  .first|exact X2G _ _|exact trivial|simpa[*]using X2G _ _
  refine(Xb rfl (fun h7=>?_) fun h7=>?_)
  ·simp only[BN]at h7;have hc:Zu (vars.take k) v=7:=by unfold Zu;rw[N8 h7]
   rw[hc,N7 (by decide)]at hJ;subst hJ;rw[N7 (by decide)]at hres;subst hres;refine X2 ?_;exact Xc
  simp only[BN]at h7;refine X0<|X0<|X1 ?_;refine X3<|(Xg [0,3,4] (fun(x:Nat)=>[(5,.v (li x))]) (fun x=>[(4,.box [.c (sC v.name),.c (iC v.kind),.c (iC v.low),.c (iC v.high),.c (iC v.init)])]) (fun x=>x<=k/\∀j:Nat,j<x->∀w,vars[j]? =some w->w.name≠v.name) (fun x=>k - x) (0:Nat) ⟨Nq _,fun j hj=>absurd hj (Dv j)⟩ ?_ ?_)
  .exact X4 (fun n=>n) []
  rintro j ⟨hj,hno⟩;simp only[upS,X8,Xz]
  simp only[KN,Nat.reduceBEq,Nj,Nc,ins,Nat.reduceLT]
  refine X0<|X0<|X1 ?_;refine(X6 rfl (fun h13=>Xe ?_) (fun h13=>?_))
  ·simp only[BN]at h13;have hjk:j<k:=by omega
   obtain⟨w,hw⟩:∃w,vars[j]? =some w:=⟨vars[j],by simp[show j<vars.length by omega]⟩;have hwj:=XD hjk (by omega);have hj1:j+1<=k:=hjk
   have hmemw:w∈vars.take k:=by
    have:(vars.take k)[j]? =some w:=by rw[List.getElem?_take_of_lt hjk];exact hw
    exact N4 this
   clear hjk h13;refine X0<|X3<|X0<|(N0 ?_);refine(Xb rfl (fun h15=>?_) fun h15=>?_)
   .simp only[BN]at h15
    have hany:((vars.take k).any fun w=>decide (w.name=v.name))=true:=by
     rw[List.any_eq_true];exact⟨w,hmemw,by simpa using h15⟩
    have hc:Zu (vars.take k) v=8:=by unfold Zu;rw[N7 (by simp[h7]),N8 hany]
    rw[hc,N7 (by decide)]at hJ;subst hJ;rw[N7 (by decide)]at hres;subst hres;refine X2 ?_;exact Xc
   simp only[BN]at h15;refine X1 ?_
   exact⟨j+1,⟨hj1,fun i hi u hu=>by
    rcases Nat.lt_or_eq_of_le (Nat.le_of_lt_succ hi)with h|h
    .exact hno i h u hu
    subst h;rw[hw]at hu;cases hu
    simpa using h15⟩,by omega,X4 (fun n=>n) []⟩
  simp only[BN]at h13;have hjk:j=k:=by omega
  subst hjk
  have hany:((vars.take j).any fun w=>decide (w.name=v.name))=false:=by
   rw[Df];intro w hw;obtain⟨i,hi⟩:=NK.1 hw;have hij:i<j:=by have:=(N6.1 hi).1;omega
   rw[List.getElem?_take_of_lt hij]at hi;simpa using hno i hij w hi
  clear hno hkl;refine(Xi ?_);refine X0<|X0<|X1 ?_;refine(Xb rfl (fun h21=>?_) fun h21=>?_)
  ·simp only[BN]at h21;have hc:Zu (vars.take j) v=1:=by unfold Zu;rw[N7 (by simp[h7]),N7 (by simp[hany]),N8 (by omega)]
   rw[hc,N7 (by decide)]at hJ;subst hJ;rw[N7 (by decide)]at hres;subst hres;refine X2 ?_;exact Xc
  simp only[BN]at h21;have hc:Zu (vars.take j) v=if WV v then 3 else 0:=by unfold Zu;rw[N7 (by simp[h7]),N7 (by simp[hany]),N7 (by omega)]
  clear hany;refine X0<|X0<|(Xo [⟨true,.v (lb (QT v.low v.high)),none⟩] ?_ ?_)
  .first|exact X08 _ _ _|exact trivial|simpa[*]using X08 _ _ _
  refine(Xb rfl (fun h25=>?_) fun h25=>?_)
  ·simp only[BN]at h25;rw[N8 (.inl h25)]at hc;rw[hc,N7 (by decide)]at hJ;subst hJ;rw[N7 (by decide)]at hres;subst hres;refine X2 ?_;exact Xc
  simp only[BN]at h25;refine X2 ?_;refine(Xb rfl (fun h29=>?_) fun h29=>?_)
  .simp only[BN]at h29
   have hkb:WV v:=by
    unfold WV;omega
   rw[N8 hkb]at hc;rw[hc,N7 (by decide)]at hJ;subst hJ;rw[N7 (by decide)]at hres;subst hres;refine X2 ?_;exact Xc
  simp only[BN]at h29
  have hkb:¬WV v:=by
   unfold WV;rw[h25];rintro(h|h|h)
   .cases h
   .omega
   omega
  rw[N7 hkb]at hc;rw[hc,N8 rfl]at hJ;refine X1 ?_;exact⟨j+1,⟨hk1,hJ⟩,by omega,X4 (fun n=>n) []⟩
 simp only[BN]at h4;have hkl:k=vars.length:=by omega
 rw[hkl,Nw]at hJ;simp only[vcs]at hJ;have hv:=hgood hJ.symm;rw[N8 hJ.symm]at hres;clear hgood hJ hkl hk h4;have c1:=X39 vars 1 hv (by omega);have c2:=X39 vars 2 hv (by omega);have c3:=X39 vars 3 hv (by omega);have hb1:X3k vars 1=decide (4096<spc vars 1):=by simp[X3k]
 have hb2:X3k vars 2=decide (4096<spc vars 2):=by simp[X3k]
 have hb3:X3k vars 3=(decide (4096<spc vars 3)||decide (256<spc vars 3)):=by simp[X3k]
 simp only[List.any_cons,List.any_nil,Bool.or_false,hb1,hb2,hb3]at hres;clear hb1 hb2 hb3;generalize spc vars 1=s1 at*;generalize spc vars 2=s2 at*;generalize spc vars 3=s3 at*;refine(Xi ?_);refine X0<|X0<|(Xo [⟨true,.v (li s1),none⟩,⟨true,.v (li s2),none⟩,⟨true,.v (li s3),none⟩] ?_ ?_)
 .first|exact⟨c1 _,c2 _,c3 _⟩|exact trivial|(repeat' first|exact trivial|exact c1 _|exact c2 _|exact c3 _|apply And.intro)
 refine(Xb rfl (fun h35=>?_) fun h35=>?_)
 .simp only[BN]at h35
  have hz:(decide (4096<s1)||(decide (4096<s2)||(decide (4096<s3)||decide (256<s3))))=true:=by
   simp only[Nf,N5];omega
  rw[N8 hz]at hres;subst hres;refine X2 ?_;exact Xc
 simp only[BN]at h35
 have hz:(decide (4096<s1)||(decide (4096<s2)||(decide (4096<s3)||decide (256<s3))))=false:=by
  simp only[NR,Nh];omega
 rw[hz,N7 (by decide)]at hres;subst hres;refine X2 ?_;exact Xc
theorem X59 (l:List Int) (i:Nat) (d:Nat):Con prog 69 true [lI l,li i] (.tup [li ((l[i]?).getD 0),lb (decide (i<l.length))]) none d:=by
 obtain⟨A,hA⟩:∃x,(l[i]?).getD 0=x:=⟨_,rfl⟩;obtain⟨B,hB⟩:∃x,decide (i<l.length)=x:=⟨_,rfl⟩;rw[hA,hB];refine X5 Tryz.func69 ?_;simp only[Tryz.f69];refine X2 ?_;refine X0<|X0<|X1 ?_;refine(Xb rfl (fun h2=>?_) fun h2=>?_)
 ·simp only[BN]at h2;have h3:¬i<l.length:=by omega
  rw[Ny (by omega)]at hA;rw[decide_eq_false h3]at hB;simp only[Option.getD_none]at hA;subst hA hB;refine X2 ?_;exact Xc
 simp only[BN]at h2;have h3:i<l.length:=by omega
 obtain⟨x,hx⟩:=X6Y h3;rw[hx]at hA;rw[D7 h3]at hB;simp only[Option.getD_some]at hA;subst hA hB;clear h3;refine X2 ?_;exact Xc
def X0p:List Int->Int->Int->Bool->Int
 |[],_,best,_=>best
 |b::l,t,best,found=>if t<=b/\(found=false\/b<best)then X0p l t b true else X0p l t best found
theorem X99 (bs:List Int) (t:Int) (hl:bs.length<=1000000000) (d:Nat):Con prog 135 true [lI bs,li t] (.v (li (X0p bs t t false))) none d:=by
 obtain⟨res,hres⟩:∃r,X0p bs t t false=r:=⟨_,rfl⟩;rw[hres];refine X5 Tryz.func135 ?_;simp only[Tryz.f135];refine X2 ?_;refine X2 ?_;refine X0<|X0<|X1 ?_;refine X3<|(Xg [0,1] (fun(x:Nat×Int×Bool)=>[(5,.v (li x.2.1)),(6,.v (lb x.2.2)),(7,.v (li x.1))]) (fun x=>[]) (fun x=>x.1<=bs.length/\X0p (bs.drop x.1) t x.2.1 x.2.2=res) (fun x=>bs.length - x.1) (0,t,false) ⟨Nq _,hres⟩ ?_ ?_)
 .exact X4 (fun n=>n) []
 rintro⟨k,best,found⟩ ⟨hk,hJ⟩;simp only[upS,X8,Xz]
 simp only[KN,Nat.reduceBEq,Nj,Nc,ins,Nat.reduceLT]
 simp only at hk hJ;clear hres;refine X0<|X0<|X1 ?_;refine(X6 rfl (fun h5=>Xe ?_) (fun h5=>?_))
 ·simp only[BN]at h5;have hlt:k<bs.length:=by omega
  obtain⟨b,he,hd⟩:=Xt hlt;have hw1:=XD hlt (by omega);have hk1:k+1<=bs.length:=hlt;rw[hd]at hJ;simp only[X0p]at hJ;clear hlt h5 hd;refine X0<|X3<|X0<|X1 ?_;refine(Xb rfl (fun h7=>?_) fun h7=>?_)
  ·simp only[BN]at h7;rw[N8 (by simpa using h7)]at hJ;refine X1 ?_;refine X1 ?_;exact⟨(k+1,b,true),⟨hk1,hJ⟩,by simp only;omega,X4 (fun n=>n) []⟩
  simp only[BN]at h7;have h7':b<t\/found=true/\best<=b:=by simpa using h7
  rw [N7 (by
      rintro⟨ha,hb⟩;rcases h7' with h|h
      .omega
      rcases hb with hb|hb
      .rw[hb]at h;exact absurd h.1 (by decide)
      omega)]at hJ
  clear h7';refine X1 ?_;exact⟨(k+1,best,found),⟨hk1,hJ⟩,by simp only;omega,X4 (fun n=>n) []⟩
 simp only[BN]at h5;have hkl:k=bs.length:=by omega
 rw[hkl,Nw]at hJ;simp only[X0p]at hJ;subst hJ;refine(Xi ?_);refine X2 ?_;exact Xc
def QY (vs:List Int) (l:List Ht):List Int:=l.map fun h=>Qg (vT vs h.term) h.low h.high
theorem XdE (f:Fl) (vs:List Int) (hvs:vs.length=f.vars.length) (hh:f.hats.length<=1000000) (hf:∀h∈f.hats,Qu f.vars true h.term=true) (d:Nat):
  Con prog 71 false [aF f,lI vs] (.v (lI (QY vs f.hats))) none d:=by
 obtain⟨vars,hats,body⟩:=f;simp only at hvs hh hf⊢;have hv0:QY vs []=[]:=rfl;refine X5 Tryz.func71 ?_;simp only[Tryz.f71];simp only[aF,Fl.enc,Nk,Nr];refine X2 ?_;refine X2 ?_;refine X0<|X0<|X1 ?_;refine X3<|(Xg [1,2] (fun(x:Nat)=>[(5,.v (.one (.own 1005))),(6,.v (li x))]) (fun x=>[(2,.box [.c (.sl 5 (Xk vars)),.c (.sl 6 (Xn hats)),.c (.sl 10 (X7 body))]),(1005,.row 3 1 (X9 (QY vs (hats.take x))))]) (fun x=>x<=hats.length) (fun x=>hats.length - x) (0:Nat) (Nq _) ?_ ?_)
 .exact X4 (fun n=>if n=1005 then 8 else n) []
 rintro k hk;simp only[upS,X8,Xz]
 simp only[KN,Nat.reduceBEq,Nj,Nc,ins,Nat.reduceLT]
 refine X0<|X0<|X1 ?_;refine(X6 rfl (fun h5=>Xe ?_) (fun h5=>?_))
 ·simp only[BN]at h5;have hlt:k<hats.length:=by omega
  obtain⟨h,he,hd⟩:=Xt hlt;have hw1:=XD hlt (by omega);have hk1:k+1<=hats.length:=hlt;have htl:(QY vs (hats.take k)).length=k:=by unfold QY;rw[NW,NF];omega
  have hroom:W5 (k+1) 8:=Qc (by omega) (by omega);have cv:=X7h vars true vs hvs h.term (hf h (N4 he))
  have hsn:X9 (QY vs (hats.take (k+1)))=X9 (QY vs (hats.take k))++[[iC (Qg (vT vs h.term) h.low h.high)]]:=by
   rw[ZP he];simp[QY,X9]
  obtain⟨nm,lo,hi,⟨o,tn,ks⟩⟩:=h;simp only at cv hsn;obtain⟨A,hA⟩:∃x,vT vs (.mk o tn ks)=x:=⟨_,rfl⟩;have ch:=X9D A lo hi;obtain⟨H,hH⟩:∃x,Qg A lo hi=x:=⟨_,rfl⟩;rw[hA,hH]at hsn;rw[hA]at cv;rw[hH]at ch;simp only[aT,Tm.enc,Nk,Nr]at cv;clear hlt h5 hd hA hH;refine X0<|X3<|X0<|X1 ?_;refine(XU [⟨true,.v (li A),none⟩,⟨true,.v (li H),none⟩] (by kernel_rfl) (by kernel_rfl) (by rfl) (by simp[*];first|exact⟨rfl,Iff.rfl⟩|exact⟨rfl,trivial⟩|rfl) ?_ ?_)
  .first|exact⟨cv _,ch _⟩|exact trivial|(repeat' first|exact trivial|exact cv _|exact ch _|apply And.intro)
  refine X1 ?_;exact⟨k+1,hk1,by omega,X4 (fun n=>if n=1005 then 32 else n) []⟩
 simp only[BN]at h5;have hkl:k=hats.length:=by omega
 subst hkl;simp only[List.take_length];refine(Xi ?_);refine X2 ?_;exact XZ ⟨.inr rfl,_,Qy 1005 rfl,⟨⟨_,by simp;rfl,by simp[XG]⟩,by simp,fun h=>by cases h⟩⟩
theorem Xah (l:List Int) (i:Nat) (x:Int):X9 (l.set i x)=(X9 l).set i [iC x]:=by simp[X9,List.map_set]
@[simp] theorem encI_app (a b:List Int):X9 (a++b)=X9 a++X9 b:=by simp[X9]
@[simp] theorem encI_one (x:Int):X9 [x]=[[iC x]]:=rfl
structure Inp where
 s:List Int
 p:List Int
 r:List Int
abbrev aI (i:Inp):TV:=.agg [.c (.sl 1 (X9 i.s)),.c (.sl 1 (X9 i.p)),.c (.sl 1 (X9 i.r))]
structure Pk where
 n:Int
 is_:Bool
 a:Nat
 b:Nat
 c:Nat
def X3J (v:Vr) (i:Inp) (a b c:Nat):Pk:=
 if v.kind=1 then⟨(i.s[a]?).getD 0,decide (a<i.s.length),a+1,b,c⟩
 else if v.kind=2 then⟨(i.p[b]?).getD 0,decide (b<i.p.length),a,b+1,c⟩
 else if v.kind=3 then⟨(i.r[c]?).getD 0,decide (c<i.r.length),a,b,c+1⟩
 else⟨v.init,true,a,b,c⟩
def stL (i:Inp):List Vr->Nat->Nat->Nat->List Int->Bool->List Int×Int
 |[],a,b,c,vals,fits=>if a=i.s.length/\b=i.p.length/\c=i.r.length then(if fits=true then(vals,0)else([],3))else([],1)
 | v::l,a,b,c,vals,fits=>
   if(X3J v i a b c).is_=true then stL i l (X3J v i a b c).a (X3J v i a b c).b (X3J v i a b c).c (vals++[(X3J v i a b c).n]) (fits&&(decide (v.low<=(X3J v i a b c).n)&&decide ((X3J v i a b c).n<=v.high)))
   else([],1)
theorem X2Q (vars:List Vr) (i:Inp) (hl:vars.length<=1000000) (d:Nat):Con prog 26 false [lV vars,aI i] (.tup [lI (stL i vars 0 0 0 [] true).1,li (stL i vars 0 0 0 [] true).2]) none d:=by
 obtain⟨res,hres⟩:∃r,stL i vars 0 0 0 [] true=r:=⟨_,rfl⟩;rw[hres];obtain⟨is,ip,ir⟩:=i;refine X5 Tryz.func26 ?_;simp only[Tryz.f26];simp only[aI];refine X2 ?_;refine X2 ?_;refine X2 ?_;refine X2 ?_;refine X0<|X0<|X1 ?_;refine X3<|(Xg [0,3] (fun(x:Nat×Nat×Nat×Nat×List Int×Bool)=>[(6,.v (li x.2.1)),(7,.v (li x.2.2.1)),(8,.v (li x.2.2.2.1)),(9,.v (.one (.own 1009))),(10,.v (lb x.2.2.2.2.2)),(11,.v (li x.1))]) (fun x=>[(3,.box [.c (.sl 1 (X9 is)),.c (.sl 1 (X9 ip)),.c (.sl 1 (X9 ir))]),(1009,.row 3 1 (X9 x.2.2.2.2.1))]) (fun x=>x.1<=vars.length/\stL ⟨is,ip,ir⟩ (vars.drop x.1) x.2.1 x.2.2.1 x.2.2.2.1 x.2.2.2.2.1 x.2.2.2.2.2=res/\x.2.2.2.2.1.length=x.1/\x.2.1<=x.1/\x.2.2.1<=x.1/\x.2.2.2.1<=x.1) (fun x=>vars.length - x.1) (0,0,0,0,[],true) ⟨Nq _,hres,rfl,NI _,NI _,NI _⟩ ?_ ?_)
 .exact X4 (fun n=>if n=1009 then 15 else n) []
 rintro⟨k,a,b,c,vals,fits⟩ ⟨hk,hJ,hvl,ha,hb,hc⟩;simp only[upS,X8,Xz]
 simp only[KN,Nat.reduceBEq,Nj,Nc,ins,Nat.reduceLT]
 simp only at hk hJ hvl ha hb hc;clear hres;refine X0<|X0<|X1 ?_;refine(X6 rfl (fun h7=>Xe ?_) (fun h7=>?_))
 ·simp only[BN]at h7;have hlt:k<vars.length:=by omega
  obtain⟨v,he,hd⟩:=Xt hlt;have hw1:=XD hlt (by omega);have hwa:IntKind.i64.wrap ((a:Int)+1)=(a:Int)+1:=Xa;have hwb:IntKind.i64.wrap ((b:Int)+1)=(b:Int)+1:=Xa;have hwc:IntKind.i64.wrap ((c:Int)+1)=(c:Int)+1:=Xa;have hk1:k+1<=vars.length:=hlt;have hroom:W5 (k+1) 8:=Qc (by omega) (by omega);rw[hd]at hJ;simp only[stL]at hJ;obtain⟨nm,kd,lo,hi,ini⟩:=v;obtain⟨Q,hQ⟩:∃q,X3J ⟨nm,kd,lo,hi,ini⟩ ⟨is,ip,ir⟩ a b c=q:=⟨_,rfl⟩;rw[hQ]at hJ;unfold X3J at hQ;simp only at hQ;clear hlt h7 hd;refine X0<|X3<|X0<|X1 ?_;refine X2 ?_;refine(XT [0,3,9,10,11,12] (fun(z:Pk)=>[(6,.v (li z.a)),(7,.v (li z.b)),(8,.v (li z.c)),(13,.v (li z.n)),(14,.v (lb z.is_))]) (fun(z:Pk)=>[(3,.box [.c (.sl 1 (X9 is)),.c (.sl 1 (X9 ip)),.c (.sl 1 (X9 ir))]),(12,.box [.c (sC nm),.c (iC kd),.c (iC lo),.c (iC hi),.c (iC ini)]),(1009,.row 3 1 (X9 vals))]) (fun(z:Pk)=>z=Q/\z.a<=k+1/\z.b<=k+1/\z.c<=k+1) ?_ ?_)
  ·
   refine X2 ?_;refine X3<|X0<|X1 ?_;refine(X6 rfl (fun h13=>?_) (fun h13=>?_))
   ·simp only[BN]at h13;rw[N8 h13]at hQ;refine Xh [⟨true,.tup [li ((is[a]?).getD 0),lb (decide (a<is.length))],none⟩] ?_ ?_
    .first|exact X59 _ _ _|exact trivial|simpa[*]using X59 _ _ _
    refine X1 ?_;exact⟨⟨(is[a]?).getD 0,decide (a<is.length),a+1,b,c⟩,⟨hQ,by simp only;omega,by simp only;omega,by simp only;omega⟩,X4 (fun n=>n) []⟩
   simp only[BN]at h13;rw[N7 h13]at hQ;refine X2 ?_;refine(X6 rfl (fun h18=>?_) (fun h18=>?_))
   ·simp only[BN]at h18;rw[N8 h18]at hQ;refine Xh [⟨true,.tup [li ((ip[b]?).getD 0),lb (decide (b<ip.length))],none⟩] ?_ ?_
    .first|exact X59 _ _ _|exact trivial|simpa[*]using X59 _ _ _
    refine X1 ?_;exact⟨⟨(ip[b]?).getD 0,decide (b<ip.length),a,b+1,c⟩,⟨hQ,by simp only;omega,by simp only;omega,by simp only;omega⟩,X4 (fun n=>n) []⟩
   simp only[BN]at h18;rw[N7 h18]at hQ;refine X2 ?_;refine(Xb rfl (fun h23=>?_) fun h23=>?_)
   ·simp only[BN]at h23;rw[N8 h23]at hQ;refine Xh [⟨true,.tup [li ((ir[c]?).getD 0),lb (decide (c<ir.length))],none⟩] ?_ ?_
    .first|exact X59 _ _ _|exact trivial|simpa[*]using X59 _ _ _
    refine X1 ?_;exact⟨⟨(ir[c]?).getD 0,decide (c<ir.length),a,b,c+1⟩,⟨hQ,by simp only;omega,by simp only;omega,by simp only;omega⟩,X4 (fun n=>n) []⟩
   simp only[BN]at h23;rw[N7 h23]at hQ;exact⟨⟨ini,true,a,b,c⟩,⟨hQ,by simp only;omega,by simp only;omega,by simp only;omega⟩,X4 (fun n=>n) []⟩
  rintro⟨zn,zi,za,zb,zc⟩ ⟨hz,h1,h2,h3⟩;simp only[upS,X8,Xz]
  simp only[KN,Nat.reduceBEq,Nj,Nc,ins,Nat.reduceLT]
  clear hQ;subst hz;simp only at h1 h2 h3 hJ;refine X0<|X0<|X1 ?_;refine(Xb rfl (fun h29=>?_) fun h29=>?_)
  ·simp only[BN]at h29;rw[N7 (by simp[h29])]at hJ;subst hJ;refine X2 ?_;exact XZ ⟨.inr rfl,_,X8a 4 1 rfl,⟨⟨_,by simp;rfl,by simp[XG]⟩,by simp,fun h=>by cases h⟩⟩
  simp only[BN]at h29;rw[N8 (by simpa using h29)]at hJ;refine X0<|X0<|X1 ?_;refine(Xb rfl (fun h33=>?_) fun h33=>?_)
  .simp only[BN]at h33
   have hz:(decide (lo<=zn)&&decide (zn<=hi))=false:=by
    simp only[NA,Nh];omega
   rw[hz,Bool.and_false]at hJ;refine X1 ?_;refine X1 ?_;refine X1 ?_;exact⟨(k+1,za,zb,zc,vals++[zn],false),⟨hk1,hJ,by simp[hvl],h1,h2,h3⟩,by simp only;omega,X4 (fun n=>if n=1009 then 78 else n) []⟩
  simp only[BN]at h33
  have hz:(decide (lo<=zn)&&decide (zn<=hi))=true:=by
   simp only[N3,N5];omega
  rw[hz,Bool.and_true]at hJ;refine X1 ?_;refine X1 ?_;exact⟨(k+1,za,zb,zc,vals++[zn],fits),⟨hk1,hJ,by simp[hvl],h1,h2,h3⟩,by simp only;omega,X4 (fun n=>if n=1009 then 78 else n) []⟩
 simp only[BN]at h7;have hkl:k=vars.length:=by omega
 rw[hkl,Nw]at hJ;simp only[stL]at hJ;refine(Xi ?_);refine X0<|X0<|X1 ?_;refine(Xb rfl (fun h42=>?_) fun h42=>?_)
 ·simp only[BN]at h42;rw[N7 (by omega)]at hJ;subst hJ;refine X2 ?_;exact XZ ⟨.inr rfl,_,X8a 4 1 rfl,⟨⟨_,by simp;rfl,by simp[XG]⟩,by simp,fun h=>by cases h⟩⟩
 simp only[BN]at h42;rw[N8 (by omega)]at hJ;refine X0<|X0<|X1 ?_;refine(Xb rfl (fun h46=>?_) fun h46=>?_)
 ·simp only[BN]at h46;rw[N7 (by simp[h46])]at hJ;subst hJ;refine X2 ?_;exact XZ ⟨.inr rfl,_,X8a 4 1 rfl,⟨⟨_,by simp;rfl,by simp[XG]⟩,by simp,fun h=>by cases h⟩⟩
 simp only[BN]at h46;rw[N8 (by simpa using h46)]at hJ;subst hJ;refine X2 ?_;exact XZ ⟨.inr rfl,_,Qy 1009 rfl,⟨⟨_,by simp;rfl,by simp[XG]⟩,by simp,fun h=>by cases h⟩⟩
theorem eqG2 (a b:List Int) (h:a.length=b.length) (hall:∀k:Nat,k<a.length->a[k]? =b[k]?):a=b:=by
 apply NX;intro k;by_cases hk:k<a.length
 .exact hall k hk
 rw[Ny (by omega),Ny (by omega)]
theorem Xa4 (a b:List Int) (ha:a.length<=1000000000) (hb:b.length<=1000000000) (d:Nat):Con prog 19 true [lI a,lI b] (.v (lb (decide (a=b)))) none d:=by
 obtain⟨res,hres⟩:∃r,decide (a=b)=r:=⟨_,rfl⟩;rw[hres];refine X5 Tryz.func19 ?_;simp only[Tryz.f19];refine X2 ?_;refine X0<|X0<|X1 ?_;refine(Xb rfl (fun h2=>?_) fun h2=>?_)
 .simp only[BN]at h2
  have hz:res=false:=by
   rw[<-hres,Nh];intro h;subst h;simp at h2
  subst hz;refine X2 ?_;exact Xc
 simp only[BN]at h2;have hle:a.length=b.length:=by omega
 clear h2;refine X0<|X0<|X1 ?_;refine X3<|(Xg [0,1,12] (fun(z:Nat)=>[(13,.v (li z))]) (fun z=>[]) (fun z=>z<=a.length/\∀k:Nat,k<z->a[k]? =b[k]?) (fun z=>a.length - z) (0:Nat) ⟨Nq _,fun k hk=>absurd hk (Dv k)⟩ ?_ ?_)
 .exact X4 (fun n=>n) []
 rintro k ⟨hk,hall⟩;simp only[upS,X8,Xz]
 simp only[KN,Nat.reduceBEq,Nj,Nc,ins,Nat.reduceLT]
 refine X2 ?_;refine X0<|(X6 rfl (fun h8=>Xe ?_) (fun h8=>?_))
 ·simp only[BN]at h8;have hlt:k<a.length:=by omega
  obtain⟨x,he,_⟩:=Xt hlt;obtain⟨y,hey,_⟩:=Xt (show k<b.length by omega);have hw1:=XD hlt (by omega);have hk1:k+1<=a.length:=hlt;clear hlt h8;refine X0<|X3<|X0<|X1 ?_;refine X0<|(N0 ?_);refine(Xb rfl (fun h11=>?_) fun h11=>?_)
  .simp only[BN]at h11
   have hz:res=false:=by
    rw[<-hres,Nh];intro h;subst h;rw[he]at hey;cases hey;simp at h11
   subst hz;refine X2 ?_;exact Xc
  simp only[BN]at h11;refine X1 ?_
  exact⟨k+1,⟨hk1,fun j hj=>by
   rcases Nat.lt_or_eq_of_le (Nat.le_of_lt_succ hj)with h|h
   .exact hall j h
   rw[h,he,hey];have:x=y:=by simpa using h11
   rw[this]⟩,by omega,X4 (fun n=>n) []⟩
 simp only[BN]at h8
 have hz:res=true:=by
  rw[<-hres,N5];exact eqG2 a b hle fun j hj=>hall j (by omega)
 subst hz;refine(Xi ?_);refine X2 ?_;exact Xc
end Go.Proofs.YtdajceakaakdoaaGreat
