/- Part 2: contracts of functions of the program and of the reference, and plain facts about what they compute; used by the proof of the claimed statement. Conditions: as each theorem states. -/
import Derived.Test.YtdajceakaakdoaaGreatK1
set_option linter.unusedSimpArgs false
set_option linter.unusedVariables false
set_option linter.unnecessarySimpa false
set_option maxRecDepth 100000
set_option maxHeartbeats 2000000
namespace Go.Proofs.YtdajceakaakdoaaGreat
open Go Go.Hl
theorem takeM {α β:Type} (f:α→β) (l:List α):(l.map f).take l.length=l.map f:=by
 rw[List.take_of_length_le (by simp)]
def modL (b:Int×Int):Int:=if b.1<0 then mn (b.1+1) 0 else 0
def modH (b:Int×Int):Int:=if 0<b.2 then mx (b.2 - 1) 0 else 0
@[simp] def g2 (k:List (Int×Int)) (i:Nat):Int×Int:=k[i]?.getD ((0:Int),(0:Int))
def Qw (vars:List Vr) (o n:Int) (k:List (Int×Int)):Int×Int:=
 if o=0 then(n,n)else if o=24 then(match vars[n.toNat]? with|some v=>(v.low,v.high)|none=>(0,0))
 else if o=6 then(-(g2 k 0).2,-(g2 k 0).1)
 else if o=8 then((g2 k 0).1+(g2 k 1).1,(g2 k 0).2+(g2 k 1).2)
 else if o=9 then((g2 k 0).1 - (g2 k 1).2,(g2 k 0).2 - (g2 k 1).1)
 else if o=10 then mulP (g2 k 0) (g2 k 1)
 else if o=11 then(if 0≤(g2 k 0).1∧0≤(g2 k 1).1 then(0,mx (g2 k 0).2 (-(g2 k 0).1))else(-(mx (g2 k 0).2 (-(g2 k 0).1)),mx (g2 k 0).2 (-(g2 k 0).1)))
 else if o=12 then(modL (g2 k 1),modH (g2 k 1))
 else if o=21 then(mn (g2 k 0).1 (g2 k 1).1,mn (g2 k 0).2 (g2 k 1).2)
 else if o=22 then(mx (g2 k 0).1 (g2 k 1).1,mx (g2 k 0).2 (g2 k 1).2)
 else if o=23∨o=25 then X4Z (k.drop 2) (g2 k 1)else(0,1)
theorem kid {k:List (Int×Int)} (hk:∀p∈k,bnd p) {i:Nat} (h:i+1≤k.length):∃a1 a2,k[i]? =some (a1,a2)∧-1048576≤a1∧a1≤a2∧a2≤1048576:=by
 have:k[i]? =some k[i]:=by simp[show i<k.length from h]
 have h2:=hk k[i] (List.getElem_mem _);exact⟨k[i].1,k[i].2,this,h2⟩
theorem X6n {vars:List Vr} {inp:Bool} {o n:Int} {len:Nat} (h:QT vars inp o n len=true):0≤(Qu o).1∧(Qu o).1≤len∧(len:Int)≤(Qu o).2:=by
 unfold QT at h;simp only[Bool.and_eq_true,Bool.not_eq_true',decide_eq_false_iff_not]at h;omega
theorem X8s {vars:List Vr} {inp:Bool} {n:Int} {len:Nat} (h:QT vars inp 24 n len=true):0≤n∧∃v,vars[n.toNat]? =some v∧(inp=true→v.kind≠0):=by
 unfold QT X3k at h;simp only[Bool.and_eq_true,Int.reduceEq,if_false,if_true,decide_eq_true_eq]at h;obtain⟨_,h0,h⟩:=h;refine⟨h0,?_⟩;split at h
 · rename_i v hv;refine⟨v,hv,fun hi hk=>?_⟩;simp[hi,hk]at h
 cases h
theorem kids1 {o:Int} (h:o=6∨o=7):Qu o=(1,1):=by
 unfold Qu;rw[if_neg (by omega),if_pos h]
theorem kids2 {o:Int} (h:8≤o∧o≤22):Qu o=(2,2):=by
 unfold Qu;rw[if_neg (by omega),if_neg (by omega),if_pos h]
theorem kids3:Qu 23=(3,3):=by decide
theorem kids4:Qu 25=(2,33):=by decide
theorem X7x (vars:List Vr) (inp:Bool) (o n:Int) (K:CD) (k:List (Int×Int)) (hf:QT vars inp o n k.length=true) (hk:∀p∈k,bnd p) (d:Nat):
  Con Tryz.prog 249 true [lV vars,.agg [.c (iC o),.c (iC n),.c K],.one (.c (.sl 2 (X0S k)))] (.v (aP (Qw vars o n k))) none d:=by
 have har:=X6n hf;have hrf:o=24→0≤n∧∃v,vars[n.toNat]? =some v∧(inp=true→v.kind≠0):=fun h=>X8s (by rw[←h];exact hf);clear hf;have ar1:o=6→0+1≤k.length:=fun h=>by have:=kids1 (.inl h);rw[this]at har;simp only at har;omega
 have ar2:8≤o∧o≤22→0+1≤k.length∧1+1≤k.length:=fun h=>by have:=kids2 h;rw[this]at har;simp only at har;omega
 have ar3:o=23∨o=25→2≤k.length∧k.length≤33:=fun h=>by
  rcases h with h|h
  · have:=kids3;rw[h,this]at har;simp only at har;omega
  have:=kids4;rw[h,this]at har;simp only at har;omega
 clear har;refine X4 Tryz.func249 ?_;simp only[Tryz.f249];refine X2 ?_;refine X0<|X0<|X1 ?_;refine X3<|X0<|X1 ?_;refine(X9 rfl (fun h3=>?_) (fun h3=>?_))
 · (try simp only[BN]at h3);refine X2 ?_;exact(XE (fun h=>⟨.inr rfl,h⟩) _ (by simp[*];rfl) (by first|rfl|(simp[*,Qw];done)|(simp only[XY,Qw];(repeat' split)<;>first|rfl|(exfalso;omega)|simp_all)) (by simp))
 (try simp only[BN]at h3);refine X2 ?_;refine(X9 rfl (fun h7=>?_) (fun h7=>?_))
 · (try simp only[BN]at h7);obtain⟨hn0,v,hv,_⟩:=hrf h7;clear hrf;refine X0<|(QH (by kernel_rfl) (by kernel_rfl) (by rfl) (by simp[*];rfl) ?_);exact(XE (fun h=>⟨.inr rfl,h⟩) _ (by simp[*];rfl) (by first|rfl|(simp[*,Qw];done)|(simp only[XY,Qw];(repeat' split)<;>first|rfl|(exfalso;omega)|simp_all)) (by simp))
 (try simp only[BN]at h7);refine X2 ?_;refine(X9 rfl (fun h11=>?_) (fun h11=>?_))
 · (try simp only[BN]at h11);obtain⟨a1,a2,ha,hb1,hb2,hb3⟩:=kid hk (ar1 h11);have hw1:IntKind.i64.wrap (-a1)=-a1:=Xc (by omega) (by omega);have hw2:IntKind.i64.wrap (-a2)=-a2:=Xc (by omega) (by omega);clear ar1 ar2 ar3;refine X0<|(QH (by kernel_rfl) (by kernel_rfl) (by rfl) (by simp[*];rfl) ?_);exact(XE (fun h=>⟨.inr rfl,h⟩) _ (by simp[*];rfl) (by first|rfl|(simp[*,Qw];done)|(simp only[XY,Qw];(repeat' split)<;>first|rfl|(exfalso;omega)|simp_all)) (by simp))
 (try simp only[BN]at h11);refine X2 ?_;refine(X9 rfl (fun h15=>?_) (fun h15=>?_))
 · (try simp only[BN]at h15);obtain⟨a1,a2,ha,hb1,hb2,hb3⟩:=kid hk (ar2 (by omega)).1;obtain⟨c1,c2,hc,hc1,hc2,hc3⟩:=kid hk (ar2 (by omega)).2;have hw1:IntKind.i64.wrap (a1+c1)=a1+c1:=Xc (by omega) (by omega);have hw2:IntKind.i64.wrap (a2+c2)=a2+c2:=Xc (by omega) (by omega);clear ar1 ar2 ar3;refine X0<|(QH (by kernel_rfl) (by kernel_rfl) (by rfl) (by simp[*];rfl) ?_);exact(XE (fun h=>⟨.inr rfl,h⟩) _ (by simp[*];rfl) (by first|rfl|(simp[*,Qw];done)|(simp only[XY,Qw];(repeat' split)<;>first|rfl|(exfalso;omega)|simp_all)) (by simp))
 (try simp only[BN]at h15);refine X2 ?_;refine(X9 rfl (fun h19=>?_) (fun h19=>?_))
 · (try simp only[BN]at h19);obtain⟨a1,a2,ha,hb1,hb2,hb3⟩:=kid hk (ar2 (by omega)).1;obtain⟨c1,c2,hc,hc1,hc2,hc3⟩:=kid hk (ar2 (by omega)).2;have hw1:IntKind.i64.wrap (a1 - c2)=a1 - c2:=Xc (by omega) (by omega);have hw2:IntKind.i64.wrap (a2 - c1)=a2 - c1:=Xc (by omega) (by omega);clear ar1 ar2 ar3;refine X0<|(QH (by kernel_rfl) (by kernel_rfl) (by rfl) (by simp[*];rfl) ?_);exact(XE (fun h=>⟨.inr rfl,h⟩) _ (by simp[*];rfl) (by first|rfl|(simp[*,Qw];done)|(simp only[XY,Qw];(repeat' split)<;>first|rfl|(exfalso;omega)|simp_all)) (by simp))
 (try simp only[BN]at h19);refine X2 ?_;refine(X9 rfl (fun h23=>?_) (fun h23=>?_))
 · (try simp only[BN]at h23);obtain⟨a1,a2,ha,hb1,hb2,hb3⟩:=kid hk (ar2 (by omega)).1;obtain⟨c1,c2,hc,hc1,hc2,hc3⟩:=kid hk (ar2 (by omega)).2;clear ar1 ar2 ar3;refine X0<|(Z2 [⟨true,.v (aP (mulP (a1,a2) (c1,c2))),none⟩] (by kernel_rfl) (by kernel_rfl) (by rfl) (by simp[*];first|exact⟨rfl,Iff.rfl⟩|exact⟨rfl,trivial⟩|rfl) ?_ ?_)
   · first|exact X3O (a1,a2) (c1,c2) ⟨hb1,hb2,hb3⟩ ⟨hc1,hc2,hc3⟩ _|exact trivial|simpa[*]using X3O (a1,a2) (c1,c2) ⟨hb1,hb2,hb3⟩ ⟨hc1,hc2,hc3⟩ _
   exact(XE (fun h=>⟨.inr rfl,h⟩) _ (by simp[*];rfl) (by first|rfl|(simp[*,Qw];done)|(simp only[XY,Qw];(repeat' split)<;>first|rfl|(exfalso;omega)|simp_all)) (by simp))
 (try simp only[BN]at h23);refine X2 ?_;refine(X9 rfl (fun h27=>?_) (fun h27=>?_))
 · (try simp only[BN]at h27);obtain⟨a1,a2,ha,hb1,hb2,hb3⟩:=kid hk (ar2 (by omega)).1;obtain⟨c1,c2,hc,hc1,hc2,hc3⟩:=kid hk (ar2 (by omega)).2;have hw1:IntKind.i64.wrap (-a1)=-a1:=Xc (by omega) (by omega);have hm:-1048576≤mx a2 (-a1)∧mx a2 (-a1)≤1048576:=by unfold mx;split<;>omega
   have hw2:IntKind.i64.wrap (-(mx a2 (-a1)))=-(mx a2 (-a1)):=Xc (by omega) (by omega);have hmx:(if a2< -a1 then -a1 else a2)=mx a2 (-a1):=rfl;clear ar1 ar2 ar3;refine X0<|(QH (by kernel_rfl) (by kernel_rfl) (by rfl) (by simp[*];rfl) ?_);refine X0<|X0<|X1 ?_;refine(Xb rfl (fun h30=>?_) fun h30=>?_)
   · (try simp only[BN]at h30);refine X2 ?_;exact(XE (fun h=>⟨.inr rfl,h⟩) _ (by simp[*];rfl) (by first|rfl|(simp[*,Qw];done)|(simp only[XY,Qw];(repeat' split)<;>first|rfl|(exfalso;omega)|simp_all)) (by simp))
   (try simp only[BN]at h30);have hng:¬(0≤a1∧0≤c1):=by omega
   refine X2 ?_;exact(XE (fun h=>⟨.inr rfl,h⟩) _ (by simp[*];rfl) (by first|rfl|(simp[*,Qw];done)|(simp only[XY,Qw];(repeat' split)<;>first|rfl|(exfalso;omega)|simp_all)) (by simp))
 (try simp only[BN]at h27);refine X2 ?_;refine(X9 rfl (fun h36=>?_) (fun h36=>?_))
 · (try simp only[BN]at h36);obtain⟨c1,c2,hc,hc1,hc2,hc3⟩:=kid hk (ar2 (by omega)).2;have hw1:IntKind.i64.wrap (c1+1)=c1+1:=Xc (by omega) (by omega);have hw2:IntKind.i64.wrap (c2 - 1)=c2 - 1:=Xc (by omega) (by omega);have hmn:(if 0<c1+1 then 0 else c1+1)=mn (c1+1) 0:=rfl;have hmx:(if c2 - 1<0 then 0 else c2 - 1)=mx (c2 - 1) 0:=rfl;clear ar1 ar2 ar3;refine X2 ?_;refine(Qe [2,6,8] (fun(z:Int)=>[]) (fun(z:Int)=>[(6,.box [.c (iC 0),.c (iC 0)]),(8,.box [.c (iC z),.c (iC 0)])]) (fun(z:Int)=>z=modL (c1,c2)) ?_ ?_)
   ·
    refine X2 ?_;refine(Xb rfl (fun h40=>?_) fun h40=>?_)
    · (try simp only[BN]at h40);have hml:mn (c1+1) 0=modL (c1,c2):=by simp only[modL];rw[if_pos h40]
      refine X1 ?_;exact⟨modL (c1,c2),rfl,X5 (fun n=>n) []⟩
    (try simp only[BN]at h40);have hml:(0:Int)=modL (c1,c2):=by simp only[modL];rw[if_neg h40]
    exact⟨modL (c1,c2),rfl,X5 (fun n=>n) []⟩
   rintro _ rfl;simp only[upS,X6,XL]
   try simp only[X6,KN,Nat.reduceBEq,if_true,if_false,ins,Nat.reduceLT]
   refine X0<|X0<|X1 ?_;refine(Xb rfl (fun h45=>?_) fun h45=>?_)
   · (try simp only[BN]at h45);have hmh:mx (c2 - 1) 0=modH (c1,c2):=by simp only[modH];rw[if_pos h45]
     refine X1 ?_;refine X2 ?_;exact(XE (fun h=>⟨.inr rfl,h⟩) _ (by simp[*];rfl) (by first|rfl|(simp[*,Qw];done)|(simp only[XY,Qw];(repeat' split)<;>first|rfl|(exfalso;omega)|simp_all)) (by simp))
   (try simp only[BN]at h45);have hmh:modH (c1,c2)=0:=by simp only[modH];rw[if_neg h45]
   refine X2 ?_;exact(XE (fun h=>⟨.inr rfl,h⟩) _ (by simp[*];rfl) (by first|rfl|(simp[*,Qw];done)|(simp only[XY,Qw];(repeat' split)<;>first|rfl|(exfalso;omega)|simp_all)) (by simp))
 (try simp only[BN]at h36);refine X2 ?_;refine(X9 rfl (fun h52=>?_) (fun h52=>?_))
 · (try simp only[BN]at h52);obtain⟨a1,a2,ha,hb1,hb2,hb3⟩:=kid hk (ar2 (by omega)).1;obtain⟨c1,c2,hc,hc1,hc2,hc3⟩:=kid hk (ar2 (by omega)).2;clear ar1 ar2 ar3;refine X0<|(QH (by kernel_rfl) (by kernel_rfl) (by rfl) (by simp[*];rfl) ?_);exact(XE (fun h=>⟨.inr rfl,h⟩) _ (by simp[*];rfl) (by simp[*,Qw,XY,mn]) (by simp))
 (try simp only[BN]at h52);refine X2 ?_;refine(X9 rfl (fun h56=>?_) (fun h56=>?_))
 · (try simp only[BN]at h56);obtain⟨a1,a2,ha,hb1,hb2,hb3⟩:=kid hk (ar2 (by omega)).1;obtain⟨c1,c2,hc,hc1,hc2,hc3⟩:=kid hk (ar2 (by omega)).2;clear ar1 ar2 ar3;refine X0<|(QH (by kernel_rfl) (by kernel_rfl) (by rfl) (by simp[*];rfl) ?_);exact(XE (fun h=>⟨.inr rfl,h⟩) _ (by simp[*];rfl) (by simp[*,Qw,XY,mx]) (by simp))
 (try simp only[BN]at h56);refine(Qe [2,6] (fun(z:Bool)=>[(200,.v (lb z))]) (fun(z:Bool)=>[(6,.box [.c (iC 0),.c (iC 0)])]) (fun(z:Bool)=>z=decide (o=23∨o=25)) ?_ ?_)
 ·
  refine X2 ?_;refine(X9 rfl (fun h61=>Xd ?_) (fun h61=>?_))
  · (try simp only[BN]at h61);exact⟨true,by simp[h61],X5 (fun n=>n) []⟩
  (try simp only[BN]at h61);refine X1 ?_;exact⟨decide (o=25),by simp[h61],X5 (fun n=>n) []⟩
 rintro z hz;simp only[upS,X6,XL]
 try simp only[X6,KN,Nat.reduceBEq,if_true,if_false,ins,Nat.reduceLT]
 subst hz;obtain⟨res,hres⟩:∃r,Qw vars o n k=r:=⟨_,rfl⟩;rw[hres];simp only[Qw,h3,h7,h11,h15,h19,h23,h27,h36,h52,h56,if_false]at hres;refine(Xb rfl (fun h65=>?_) fun h65=>?_)
 · (try simp only[BN]at h65);have h2:=ar3 h65;rw[if_pos h65]at hres;clear ar1 ar2 ar3 h65;rcases k with _|⟨a,_|⟨c,r⟩⟩
   · simp at h2
   · simp at h2
   have hr33:r.length≤31:=by simp only[List.length_cons]at h2;omega
   clear h2;simp at hres;refine X0<|(Xq (by simp[*,X0S];rfl) ?_);refine X0<|X0<|(Xq (by simp[*,X0S,takeM];rfl) ?_);refine X3<|(Xe [6,9,207,208] (fun(x:Nat×Int×Int)=>[(209,.v (li x.1))]) (fun x=>[(6,.box [.c (iC 0),.c (iC 0)]),(9,.box [.c (iC x.2.1),.c (iC x.2.2)])]) (fun x=>x.1≤r.length∧X4Z (r.drop x.1) x.2=res) (fun x=>r.length - x.1) (0,c) ⟨Nat.zero_le _,hres⟩ ?_ ?_)
   · exact X5 (fun n=>n) []
   rintro⟨k,m,q⟩ ⟨hk',hJ⟩;simp only[upS,X6,XL]
   try simp only[X6,KN,Nat.reduceBEq,if_true,if_false,ins,Nat.reduceLT]
   simp only at hk' hJ;clear hres;refine X2 ?_;refine X0<|(X9 rfl (fun h70=>Xd ?_) (fun h70=>?_))
   · (try simp only[BN]at h70);have hlt:k<r.length:=by omega
     obtain⟨⟨e1,e2⟩,he,hd⟩:=Xr hlt;have hw1:=XN hlt (by omega);rw[hd]at hJ;simp only[X4Z]at hJ;have hk1:k+1≤r.length:=hlt;clear hlt h70;refine X0<|X3<|X0<|X1 ?_;refine(Xm [⟨true,.v (aP (ZN (m,q) (e1,e2))),none⟩] ?_ ?_)
     · first|exact X2l (m,q) (e1,e2) _|exact trivial|simpa[*]using X2l (m,q) (e1,e2) _
     refine X1 ?_;exact⟨(k+1,ZN (m,q) (e1,e2)),⟨hk1,hJ⟩,by simp only;omega,X5 (fun n=>n) []⟩
   (try simp only[BN]at h70);have hkl:k=r.length:=by omega
   rw[hkl,List.drop_length]at hJ;simp only[X4Z]at hJ;refine(Xi ?_);refine X2 ?_;exact(XE (fun h=>⟨.inr rfl,h⟩) _ (by simp[*];rfl) (by subst hJ;rfl) (by simp))
 (try simp only[BN]at h65);rw[if_neg h65]at hres;subst hres;refine X2 ?_;exact(XE (fun h=>⟨.inr rfl,h⟩) _ (by simp[*];rfl) (by first|rfl|(simp[*,Qw];done)|(simp only[XY,Qw];(repeat' split)<;>first|rfl|(exfalso;omega)|simp_all)) (by simp))
end Go.Proofs.YtdajceakaakdoaaGreat

namespace Go.Proofs.YtdajceakaakdoaaGreat
open Go Go.Hl
end Go.Proofs.YtdajceakaakdoaaGreat

namespace Go.Proofs.YtdajceakaakdoaaGreat
open Go Go.Hl
def lows (k:List (Int×Int)):List (List CD):=k.map fun p=>[iC p.1]
def X3M (k:List (Int×Int)):List (List CD):=k.map fun p=>[iC p.2]
@[simp] theorem lows_nil:lows []=[]:=rfl
@[simp] theorem highs_nil:X3M []=[]:=rfl
@[simp] theorem len_lows (k:List (Int×Int)):(lows k).length=k.length:=by simp[lows]
@[simp] theorem get_lows (k:List (Int×Int)) (i:Nat):(lows k)[i]? =k[i]?.map fun p=>[iC p.1]:=by simp[lows]
@[simp] theorem len_highs (k:List (Int×Int)):(X3M k).length=k.length:=by simp[X3M]
@[simp] theorem get_highs (k:List (Int×Int)) (i:Nat):(X3M k)[i]? =k[i]?.map fun p=>[iC p.2]:=by simp[X3M]
end Go.Proofs.YtdajceakaakdoaaGreat

namespace Go.Proofs.YtdajceakaakdoaaGreat
open Go Go.Hl
def okR (p:Int×Int):Bool:=decide (-1048576≤p.1)&&decide (p.2≤1048576)
def rgV (vars:List Vr) (o n:Int):Option (List (Int×Int))→(Int×Int)×Bool
 |none=>((0,0),false)
 |some k=>(Qw vars o n k,okR (Qw vars o n k))
mutual
def rgP (vars:List Vr):Tm→(Int×Int)×Bool
 | .mk o n ks=>rgV vars o n (X3e vars ks)
def X3e (vars:List Vr):List Tm→Option (List (Int×Int))
 |[]=>some []
 |t::l=>if(rgP vars t).2=true then(X3e vars l).map ((rgP vars t).1:: ·)else none
end
def X1K (vars:List Vr):Prop:=∀v∈vars,v.low≤v.high∧-1048576≤v.low∧v.high≤1048576
theorem X4o {p q:Int×Int} (hp:p.1≤p.2) (hq:q.1≤q.2):(ZN p q).1≤(ZN p q).2:=by
 simp only[ZN,mn,mx]
 (repeat' split)<;>omega
theorem X8x:∀{l:List (Int×Int)} {p:Int×Int},(∀q∈l,bnd q)→p.1≤p.2→(X4Z l p).1≤(X4Z l p).2
 |[],p,_,hp=>hp
 |q::l,p,h,hp=>X8x (l:=l) (p:=ZN p q) (fun r hr=>h r (List.mem_cons_of_mem _ hr)) (X4o hp (h q (by simp)).2.1)
theorem rule_le {vars:List Vr} {inp:Bool} {o n:Int} {k:List (Int×Int)} (hv:X1K vars) (hf:QT vars inp o n k.length=true) (hk:∀p∈k,bnd p):(Qw vars o n k).1≤(Qw vars o n k).2:=by
 have har:=X6n hf;have hrf:o=24→0≤n∧∃v,vars[n.toNat]? =some v∧(inp=true→v.kind≠0):=fun h=>X8s (by rw[←h];exact hf)
 have hg:∀i:Nat,(g2 k i).1≤(g2 k i).2∧-1048576≤(g2 k i).1∧(g2 k i).2≤1048576:=by
  intro i;unfold g2;cases hi:k[i]? with
  |none=>simp
  |some p=>have:=hk p (List.mem_of_getElem? hi);exact⟨this.2.1,this.1,this.2.2⟩
 have h0:=hg 0;have h1:=hg 1;unfold Qw;generalize g2 k 0=a at*;generalize g2 k 1=b at*;split
 · exact Int.le_refl _
 split
 · rename_i h24;obtain⟨_,v,hv1,_⟩:=hrf h24;rw[hv1];exact(hv v (List.mem_of_getElem? hv1)).1
 split
 · simp only;omega
 split
 · simp only;omega
 split
 · simp only;omega
 split
 · unfold mulP;exact X4o (X4o (X4o (Int.le_refl _) (Int.le_refl _)) (Int.le_refl _)) (Int.le_refl _)
 split
 · simp only[mx]
   (repeat' split)<;>simp only<;>omega
 split
 · simp only[modL,modH,mn,mx]
   (repeat' split)<;>omega
 split
 · simp only[mn]
   (repeat' split)<;>omega
 split
 · simp only[mx]
   (repeat' split)<;>omega
 split
 · exact X8x (fun q hq=>hk q (List.mem_of_mem_drop hq)) h1.1
 simp
theorem X7C {vars:List Vr}:∀{l:List Tm} {k:List (Int×Int)},X3e vars l=some k→k.length=l.length
 |[],k,h=>by simp only[X3e]at h;cases h;rfl
 | t::l,k,h=>by
   simp only[X3e]at h;split at h
   · simp only[Option.map_eq_some_iff]at h;obtain⟨k',h',rfl⟩:=h;simp[X7C h']
   cases h
mutual
theorem X9S {vars:List Vr} {inp:Bool} (hv:X1K vars):∀(t:Tm),Wq vars inp t=true→(rgP vars t).2=true→bnd (rgP vars t).1
 | .mk o n ks,hf,h=>by
   simp only[Wq,Bool.and_eq_true]at hf;simp only[rgP]at h⊢;cases hk:X3e vars ks with
   |none=>rw[hk]at h;cases h
   | some k=>
     rw[hk]at h;simp only[rgV,okR,Bool.and_eq_true,decide_eq_true_eq]at h⊢;have hb:=X7D hv ks hf.2 k hk;have hl:=X7C hk;have:=rule_le hv (by rw[hl];exact hf.1) hb;exact⟨h.1,this,h.2⟩
theorem X7D {vars:List Vr} {inp:Bool} (hv:X1K vars):∀(l:List Tm),Zj vars inp l=true→∀k,X3e vars l=some k→∀p∈k,bnd p
 |[],_,k,h,p,hp=>by simp only[X3e]at h;cases h;cases hp
 | t ::l,hf,k,h,p,hp=>by
   simp only[Zj,Bool.and_eq_true]at hf;simp only[X3e]at h;split at h
   · rename_i hok;simp only[Option.map_eq_some_iff]at h;obtain⟨k',h',rfl⟩:=h;rcases List.mem_cons.1 hp with rfl|hp
     · exact X9S hv t hf.1 hok
     exact X7D hv l hf.2 k' h' p hp
   cases h
end
@[simp] theorem encP_snoc (a:List (Int×Int)) (r:Int×Int):X0S (a++[r])=X0S a++[[iC r.1,iC r.2]]:=by simp[X0S]
@[simp] theorem lows_snoc (a:List (Int×Int)) (r:Int×Int):lows (a++[r])=lows a++[[iC r.1]]:=by simp[lows]
@[simp] theorem highs_snoc (a:List (Int×Int)) (r:Int×Int):X3M (a++[r])=X3M a++[[iC r.2]]:=by simp[X3M]
theorem X8S (vars:List Vr) (inp:Bool) (hv:X1K vars) (t:Tm):Wq vars inp t=true→∀d:Nat,
  Con Tryz.prog 221 true [lV vars,aT t] (.tup [aP (rgP vars t).1,lb (rgP vars t).2]) none d:=by
 induction t using Tm.ind with
 |h o n ks ih=>
 intro hf d;simp only[Wq,Bool.and_eq_true]at hf;have har:=X6n hf.1
 have hlen:ks.length≤33:=by
  have:(Qu o).2≤33:=by unfold Qu;(repeat' split)<;>simp
  omega
 clear har;obtain⟨res,hres⟩:∃r,rgP vars (.mk o n ks)=r:=⟨_,rfl⟩;rw[hres];simp only[rgP]at hres;have ih':∀t∈ks,∀d,Con Tryz.prog 221 true [lV vars,aT t] (.tup [aP (rgP vars t).1,lb (rgP vars t).2]) none d:=fun t ht d=>ih t ht (X28 hf.2 t ht) d;clear ih;refine X4 Tryz.func221 ?_;simp only[Tryz.f221];simp only[aT,Tm.enc];refine X2 ?_;refine X2 ?_;refine X0<|X0<|X1 ?_;refine X3<|(Xe [0,3,4,13,14] (fun(x:Nat×List (Int×Int))=>[(6,.v (.one (.own 1006))),(15,.v (li x.1))]) (fun(x:Nat×List (Int×Int))=>[(3,.box [.c (iC o),.c (iC n),.c (.sl 3 (XS ks))]),(4,.box [.c (iC 0),.c (iC 0)]),(1006,.row 287 2 (X0S x.2))]) (fun(x:Nat×List (Int×Int))=>x.1≤ks.length∧x.2.length=x.1∧X3e vars ks=(X3e vars (ks.drop x.1)).map (x.2++ ·)∧∀p∈x.2,bnd p) (fun(x:Nat×List (Int×Int))=>ks.length - x.1) (0,[]) ⟨Nat.zero_le _,rfl,by simp,by simp⟩ ?_ ?_)
 · exact X5 (fun n=>n) [1006]
 rintro⟨k,acc⟩ ⟨hk,hal,hJ,hb⟩;simp only[upS,X6,XL]
 try simp only[X6,KN,Nat.reduceBEq,if_true,if_false,ins,Nat.reduceLT]
 simp only at hk hal hJ hb;refine X2 ?_;refine X0<|(X9 rfl (fun h5=>Xd ?_) (fun h5=>?_))
 · (try simp only[BN]at h5);have hlt:k<ks.length:=by omega
   obtain⟨⟨eo,en,ek⟩,he,hd⟩:=Xr hlt;have he':=X14 he;simp only[Tm.enc]at he';have hw1:=XN hlt (by omega);rw[hd]at hJ;simp only[X3e]at hJ;have hk1:k+1≤ks.length:=hlt;have hmem:Tm.mk eo en ek∈ks:=List.mem_of_getElem? he;have hpb:=X9S hv _ (X28 hf.2 _ hmem);have hroom:QV (k+1) 16:=Qa (by omega) (by omega);clear hlt h5;refine X0<|X3<|X0<|X1 ?_;refine Xp [⟨true,.tup [aP (rgP vars (.mk eo en ek)).1,lb (rgP vars (.mk eo en ek)).2],none⟩] ?_ ?_
   · first|exact ih' _ hmem _|exact trivial|simpa[*]using ih' _ hmem _
   refine X0<|X0<|X1 ?_;refine(Xb rfl (fun h9=>?_) fun h9=>?_)
   · (try simp only[BN]at h9);rw[h9]at hJ;simp only[Bool.false_eq_true,if_false,Option.map_none]at hJ;rw[hJ]at hres;subst hres;refine X2 ?_;exact Xf
   (try simp only[BN]at h9);rw[if_pos h9]at hJ;refine X1 ?_;refine X1 ?_
   exact⟨(k+1,acc++[(rgP vars (.mk eo en ek)).1]),⟨hk1,by simp[hal],by rw[hJ,Option.map_map];congr 1;funext z;simp,fun p hp=>by
    rcases List.mem_append.1 hp with h|h
    · exact hb p h
    simp only[List.mem_cons,List.not_mem_nil,or_false]at h;rw[h]
    exact hpb h9⟩,by simp only;omega,X5 (fun n=>if n=1006 then 31 else n) []⟩
 (try simp only[BN]at h5);have hkl:k=ks.length:=by omega
 rw[hkl,List.drop_length]at hJ;simp only[X3e,Option.map_some,List.append_nil]at hJ;rw[hJ]at hres;subst hres;have hf1:QT vars inp o n acc.length=true:=by rw[hal,hkl];exact hf.1
 refine(Xi ?_);refine Xp [⟨true,.v (aP (Qw vars o n acc)),none⟩] ?_ ?_
 · first|exact X7x vars inp o n _ acc hf1 hb _|exact trivial|simpa[*]using X7x vars inp o n _ acc hf1 hb _
 refine X0<|(X7u [(11,11),(38,11),(42,11),(4,4)] (by kernel_rfl) (by kernel_rfl) (by rfl) (by simp[evsH,hokB,Qs, *];rfl) ?_);exact(XE (fun h=>⟨.inr rfl,h⟩) _ (by simp[*];rfl) (by simp[XY,rgV,okR]) (by simp))
def X2X (vars:List Vr) (inp:Bool) (t:Tm):Int:=if Wq vars inp t=true then(if(rgP vars t).2=true then 0 else 3)else 1
theorem X5I (vars:List Vr) (inp:Bool) (hv:X1K vars) (hl:vars.length≤1000000000) (t:Tm) (hn:t.nodes≤1000000000) (d:Nat):
  Con Tryz.prog 185 true [lV vars,aT t,lb inp] (.v (li (X2X vars inp t))) none d:=by
 have c1:=Xan vars inp hl t hn;have c2:=X8S vars inp hv t;obtain⟨o,n,ks⟩:=t;obtain⟨F,hF⟩:∃F,Wq vars inp (.mk o n ks)=F:=⟨_,rfl⟩;obtain⟨R,hR⟩:∃R,rgP vars (.mk o n ks)=R:=⟨_,rfl⟩;simp only[X2X,hF,hR]at c1 c2⊢;clear hF hR;refine X4 Tryz.func185 ?_;simp only[Tryz.f185];simp only[aT,Tm.enc]at c1 c2⊢;refine X2 ?_;refine X0<|X0<|(Xm [⟨true,.v (lb F),none⟩] ?_ ?_)
 · first|exact c1 _|exact trivial|simpa[*]using c1 _
 refine(Xb rfl (fun h2=>?_) fun h2=>?_)
 · (try simp only[BN]at h2);refine X2 ?_;exact Xf
 (try simp only[BN]at h2);refine X0<|X0<|(Xm [⟨true,.tup [aP R.1,lb R.2],none⟩] ?_ ?_)
 · first|exact c2 h2 _|exact trivial|simpa[*]using c2 h2 _
 refine X2 ?_;refine(Xb rfl (fun h7=>?_) fun h7=>?_)
 · (try simp only[BN]at h7);refine X2 ?_;exact Xf
 (try simp only[BN]at h7);refine X2 ?_;exact Xf
end Go.Proofs.YtdajceakaakdoaaGreat

namespace Go.Proofs.YtdajceakaakdoaaGreat
open Go Go.Hl
theorem X8l {ks:List Tm} {t:Tm} (ht:t∈ks):t.nodes≤QA ks:=X5P ht
mutual
def tdT:Tm→Nat
 | .mk _ _ ks=>tdTs ks+1
def tdTs:List Tm→Nat
 |[]=>0
 |t::l=>max (tdT t) (tdTs l)
end
def sdL:List St→Nat
 |[]=>0
 | .mk _ _ _ _ _ a b _::l=>max (max (sdL a+1) (sdL b+1)) (sdL l)
def ZX:List St→Bool
 |[]=>false
 | .mk _ _ _ _ t a b _::l=>((decide (12<tdT t)||ZX a)||ZX b)||ZX l
end Go.Proofs.YtdajceakaakdoaaGreat

namespace Go.Proofs.YtdajceakaakdoaaGreat
open Go Go.Hl
abbrev wr (x:Int):Int:=IntKind.i64.wrap x
def X2H (b:Bool):Int:=if b=true then 1 else 0
def divI (a b:Int):Int:=
 if b=0 then 0 else if(!decide (a.tmod b=0)&&(decide (a<0)!=decide (b<0)))=true then wr (wr (a.tdiv b) - 1)else wr (a.tdiv b)
def modI (a b:Int):Int:=if b=0 then 0 else wr (a - wr (b*divI a b))
def binI (o a b:Int):Int:=
 if o=8 then wr (a+b)else if o=9 then wr (a - b)else if o=10 then wr (a*b)else if o=11 then divI a b else if o=12 then modI a b
 else if o=13 then X2H (decide (a=b))else if o=14 then X2H (!decide (a=b))else if o=15 then X2H (decide (a<b))else if o=16 then X2H (decide (a≤b))
 else if o=17 then X2H (decide (b<a))else if o=18 then X2H (decide (b≤a))else if o=19 then X2H (!decide (a=0)&& !decide (b=0))
 else if o=20 then X2H (!decide (a=0)|| !decide (b=0))else if o=21 then mn a b else mx a b
end Go.Proofs.YtdajceakaakdoaaGreat

namespace Go.Proofs.YtdajceakaakdoaaGreat
open Go Go.Hl
def selI (k0:Int) (len:Nat):Int:=wr (1+QO k0 0 (wr ((len:Int) - 2)))
def valN (vs:List Int) (o n:Int) (k:List Int):Int:=
 if o=0 then n else if o=24 then(vs[n.toNat]?).getD 0 else if o=6 then wr (-((k[0]?).getD 0))else if o=7 then X2H (decide ((k[0]?).getD 0=0))
 else if o=23 then(if(k[0]?).getD 0=0 then(k[2]?).getD 0 else(k[1]?).getD 0)
 else if o=25 then(k[(selI ((k[0]?).getD 0) k.length).toNat]?).getD 0
 else binI o ((k[0]?).getD 0) ((k[1]?).getD 0)
mutual
def vT (vs:List Int):Tm→Int
 | .mk o n ks=>valN vs o n (vTs vs ks)
def vTs (vs:List Int):List Tm→List Int
 |[]=>[]
 |t::l=>vT vs t::vTs vs l
end
end Go.Proofs.YtdajceakaakdoaaGreat

namespace Go.Proofs.YtdajceakaakdoaaGreat
open Go Go.Hl
end Go.Proofs.YtdajceakaakdoaaGreat
