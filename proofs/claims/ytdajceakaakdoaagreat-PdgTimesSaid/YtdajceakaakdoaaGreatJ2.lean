/- Contracts of functions and plain facts about what they compute. Conditions: as each theorem states. -/
import Derived.Test.YtdajceakaakdoaaGreatJ1
import Derived.Test.YtdajceakaakdoaaGreatH6
set_option linter.unusedSimpArgs false
set_option linter.unusedVariables false
set_option linter.unnecessarySimpa false
set_option maxRecDepth 100000
set_option maxHeartbeats 2000000
namespace Go.Proofs.YtdajceakaakdoaaGreat
open Go Go.Hl
open Tryz(prog)
theorem takeM {T Y:Type} (f:T->Y) (l:List T):(l.map f).take l.length=l.map f:=by
 rw[List.take_of_length_le (by simp)]
def X1Q (b:Int×Int):Int:=if b.1<0 then mn (b.1+1) 0 else 0
def X5u (b:Int×Int):Int:=if 0<b.2 then mx (b.2 - 1) 0 else 0
@[simp] def g2 (k:List (Int×Int)) (i:Nat):Int×Int:=k[i]?.getD ((0:Int),(0:Int))
def QL (vars:List Vr) (o n:Int) (k:List (Int×Int)):Int×Int:=
 if o=0 then(n,n)else if o=24 then(match vars[n.toNat]? with|some v=>(v.low,v.high)|none=>(0,0))
 else if o=6 then(-(g2 k 0).2,-(g2 k 0).1)
 else if o=8 then((g2 k 0).1+(g2 k 1).1,(g2 k 0).2+(g2 k 1).2)
 else if o=9 then((g2 k 0).1 - (g2 k 1).2,(g2 k 0).2 - (g2 k 1).1)
 else if o=10 then mulP (g2 k 0) (g2 k 1)
 else if o=11 then(if 0<=(g2 k 0).1/\0<=(g2 k 1).1 then(0,mx (g2 k 0).2 (-(g2 k 0).1))else(-(mx (g2 k 0).2 (-(g2 k 0).1)),mx (g2 k 0).2 (-(g2 k 0).1)))
 else if o=12 then(X1Q (g2 k 1),X5u (g2 k 1))
 else if o=21 then(mn (g2 k 0).1 (g2 k 1).1,mn (g2 k 0).2 (g2 k 1).2)
 else if o=22 then(mx (g2 k 0).1 (g2 k 1).1,mx (g2 k 0).2 (g2 k 1).2)
 else if o=23\/o=25 then X2U (k.drop 2) (g2 k 1)else(0,1)
theorem kid {k:List (Int×Int)} (hk:∀p∈k,bnd p) {i:Nat} (h:i+1<=k.length):∃a1 a2,k[i]? =some (a1,a2)∧-1048576<=a1/\a1<=a2/\a2<=1048576:=by
 have:k[i]? =some k[i]:=by simp[show i<k.length from h]
 have h2:=hk k[i] (DC _);exact⟨k[i].1,k[i].2,this,h2⟩
theorem X07 {vars:List Vr} {inp:Bool} {o n:Int} {len:Nat} (h:Q3 vars inp o n len=true):0<=(Q5 o).1/\(Q5 o).1<=len/\(len:Int)<=(Q5 o).2:=by
 unfold Q3 at h;simp only[N3,Nu,Nh]at h;omega
theorem X3Q {vars:List Vr} {inp:Bool} {n:Int} {len:Nat} (h:Q3 vars inp 24 n len=true):0<=n/\∃v,vars[n.toNat]? =some v/\(inp=true->v.kind≠0):=by
 unfold Q3 X0a at h;simp only[N3,Int.reduceEq,Nc,Nj,N5]at h;obtain⟨_,h0,h⟩:=h;refine⟨h0,?_⟩;split at h
 .rename_i v hv;refine⟨v,hv,fun hi hk=>?_⟩;simp[hi,hk]at h
 cases h
theorem kids1 {o:Int} (h:o=6\/o=7):Q5 o=(1,1):=by
 unfold Q5;rw[N7 (by omega),N8 h]
theorem kids2 {o:Int} (h:8<=o/\o<=22):Q5 o=(2,2):=by
 unfold Q5;rw[N7 (by omega),N7 (by omega),N8 h]
theorem kids3:Q5 23=(3,3):=by decide
theorem kids4:Q5 25=(2,33):=by decide
theorem X9f (vars:List Vr) (inp:Bool) (o n:Int) (K:CD) (k:List (Int×Int)) (hf:Q3 vars inp o n k.length=true) (hk:∀p∈k,bnd p) (d:Nat):
  Con prog 249 true [lV vars,.agg [.c (iC o),.c (iC n),.c K],.one (.c (.sl 2 (X1K k)))] (.v (aP (QL vars o n k))) none d:=by
 have har:=X07 hf;have hrf:o=24->0<=n/\∃v,vars[n.toNat]? =some v/\(inp=true->v.kind≠0):=fun h=>X3Q (by rw[<-h];exact hf);clear hf;have ar1:o=6->0+1<=k.length:=fun h=>by have:=kids1 (.inl h);rw[this]at har;simp only at har;omega
 have ar2:8<=o/\o<=22->0+1<=k.length/\1+1<=k.length:=fun h=>by have:=kids2 h;rw[this]at har;simp only at har;omega
 have ar3:o=23\/o=25->2<=k.length/\k.length<=33:=fun h=>by
  rcases h with h|h
  .have:=kids3;rw[h,this]at har;simp only at har;omega
  have:=kids4;rw[h,this]at har;simp only at har;omega
 clear har;refine X5 Tryz.func249 ?_;simp only[Tryz.f249];refine X2 ?_;refine X0<|X0<|X1 ?_;refine X3<|X0<|X1 ?_;refine(X6 rfl (fun h3=>?_) (fun h3=>?_))
 ·simp only[BN]at h3;refine X2 ?_;exact(Xc (he:=by first|rfl|(simp[*,QL];done)|(simp only[XG,QL];(repeat' split)<;>first|rfl|(exfalso;omega)|simp_all)))
 simp only[BN]at h3;refine X2 ?_;refine(X6 rfl (fun h7=>?_) (fun h7=>?_))
 ·simp only[BN]at h7;obtain⟨hn0,v,hv,_⟩:=hrf h7;clear hrf;refine X0<|(N0 ?_);exact(Xc (he:=by first|rfl|(simp[*,QL];done)|(simp only[XG,QL];(repeat' split)<;>first|rfl|(exfalso;omega)|simp_all)))
 simp only[BN]at h7;refine X2 ?_;refine(X6 rfl (fun h11=>?_) (fun h11=>?_))
 ·simp only[BN]at h11;obtain⟨a1,a2,ha,hb1,hb2,hb3⟩:=kid hk (ar1 h11);have hw1:IntKind.i64.wrap (-a1)=-a1:=Xa;have hw2:IntKind.i64.wrap (-a2)=-a2:=Xa;clear ar1 ar2 ar3;refine X0<|(N0 ?_);exact(Xc (he:=by first|rfl|(simp[*,QL];done)|(simp only[XG,QL];(repeat' split)<;>first|rfl|(exfalso;omega)|simp_all)))
 simp only[BN]at h11;refine X2 ?_;refine(X6 rfl (fun h15=>?_) (fun h15=>?_))
 ·simp only[BN]at h15;obtain⟨a1,a2,ha,hb1,hb2,hb3⟩:=kid hk (ar2 (by omega)).1;obtain⟨c1,c2,hc,hc1,hc2,hc3⟩:=kid hk (ar2 (by omega)).2;have hw1:IntKind.i64.wrap (a1+c1)=a1+c1:=Xa;have hw2:IntKind.i64.wrap (a2+c2)=a2+c2:=Xa;clear ar1 ar2 ar3;refine X0<|(N0 ?_);exact(Xc (he:=by first|rfl|(simp[*,QL];done)|(simp only[XG,QL];(repeat' split)<;>first|rfl|(exfalso;omega)|simp_all)))
 simp only[BN]at h15;refine X2 ?_;refine(X6 rfl (fun h19=>?_) (fun h19=>?_))
 ·simp only[BN]at h19;obtain⟨a1,a2,ha,hb1,hb2,hb3⟩:=kid hk (ar2 (by omega)).1;obtain⟨c1,c2,hc,hc1,hc2,hc3⟩:=kid hk (ar2 (by omega)).2;have hw1:IntKind.i64.wrap (a1 - c2)=a1 - c2:=Xa;have hw2:IntKind.i64.wrap (a2 - c1)=a2 - c1:=Xa;clear ar1 ar2 ar3;refine X0<|(N0 ?_);exact(Xc (he:=by first|rfl|(simp[*,QL];done)|(simp only[XG,QL];(repeat' split)<;>first|rfl|(exfalso;omega)|simp_all)))
 simp only[BN]at h19;refine X2 ?_;refine(X6 rfl (fun h23=>?_) (fun h23=>?_))
 ·simp only[BN]at h23;obtain⟨a1,a2,ha,hb1,hb2,hb3⟩:=kid hk (ar2 (by omega)).1;obtain⟨c1,c2,hc,hc1,hc2,hc3⟩:=kid hk (ar2 (by omega)).2;clear ar1 ar2 ar3;refine X0<|(XU [⟨true,.v (aP (mulP (a1,a2) (c1,c2))),none⟩] (by kernel_rfl) (by kernel_rfl) (by rfl) (by simp[*];first|exact⟨rfl,Iff.rfl⟩|exact⟨rfl,trivial⟩|rfl) ?_ ?_)
  .first|exact X5g (a1,a2) (c1,c2) ⟨hb1,hb2,hb3⟩ ⟨hc1,hc2,hc3⟩ _|exact trivial|simpa[*]using X5g (a1,a2) (c1,c2) ⟨hb1,hb2,hb3⟩ ⟨hc1,hc2,hc3⟩ _
  exact(Xc (he:=by first|rfl|(simp[*,QL];done)|(simp only[XG,QL];(repeat' split)<;>first|rfl|(exfalso;omega)|simp_all)))
 simp only[BN]at h23;refine X2 ?_;refine(X6 rfl (fun h27=>?_) (fun h27=>?_))
 ·simp only[BN]at h27;obtain⟨a1,a2,ha,hb1,hb2,hb3⟩:=kid hk (ar2 (by omega)).1;obtain⟨c1,c2,hc,hc1,hc2,hc3⟩:=kid hk (ar2 (by omega)).2;have hw1:IntKind.i64.wrap (-a1)=-a1:=Xa;have hm:-1048576<=mx a2 (-a1)/\mx a2 (-a1)<=1048576:=by unfold mx;split<;>omega
  have hw2:IntKind.i64.wrap (-(mx a2 (-a1)))=-(mx a2 (-a1)):=Xa;have hmx:(if a2< -a1 then -a1 else a2)=mx a2 (-a1):=rfl;clear ar1 ar2 ar3;refine X0<|(N0 ?_);refine X0<|X0<|X1 ?_;refine(Xb rfl (fun h30=>?_) fun h30=>?_)
  ·simp only[BN]at h30;refine X2 ?_;exact(Xc (he:=by first|rfl|(simp[*,QL];done)|(simp only[XG,QL];(repeat' split)<;>first|rfl|(exfalso;omega)|simp_all)))
  simp only[BN]at h30;have hng:¬(0<=a1/\0<=c1):=by omega
  refine X2 ?_;exact(Xc (he:=by first|rfl|(simp[*,QL];done)|(simp only[XG,QL];(repeat' split)<;>first|rfl|(exfalso;omega)|simp_all)))
 simp only[BN]at h27;refine X2 ?_;refine(X6 rfl (fun h36=>?_) (fun h36=>?_))
 ·simp only[BN]at h36;obtain⟨c1,c2,hc,hc1,hc2,hc3⟩:=kid hk (ar2 (by omega)).2;have hw1:IntKind.i64.wrap (c1+1)=c1+1:=Xa;have hw2:IntKind.i64.wrap (c2 - 1)=c2 - 1:=Xa;have hmn:(if 0<c1+1 then 0 else c1+1)=mn (c1+1) 0:=rfl;have hmx:(if c2 - 1<0 then 0 else c2 - 1)=mx (c2 - 1) 0:=rfl;clear ar1 ar2 ar3;refine X2 ?_;refine(XT [2,6,8] (fun(z:Int)=>[]) (fun(z:Int)=>[(6,.box [.c (iC 0),.c (iC 0)]),(8,.box [.c (iC z),.c (iC 0)])]) (fun(z:Int)=>z=X1Q (c1,c2)) ?_ ?_)
  ·
   refine X2 ?_;refine(Xb rfl (fun h40=>?_) fun h40=>?_)
   ·simp only[BN]at h40;have hml:mn (c1+1) 0=X1Q (c1,c2):=by simp only[X1Q];rw[N8 h40]
    refine X1 ?_;exact⟨X1Q (c1,c2),rfl,X4 (fun n=>n) []⟩
   simp only[BN]at h40;have hml:(0:Int)=X1Q (c1,c2):=by simp only[X1Q];rw[N7 h40]
   exact⟨X1Q (c1,c2),rfl,X4 (fun n=>n) []⟩
  rintro _ rfl;simp only[upS,Xz]
  simp only[Nj,Nc,ins,Nat.reduceLT]
  refine X0<|X0<|X1 ?_;refine(Xb rfl (fun h45=>?_) fun h45=>?_)
  ·simp only[BN]at h45;have hmh:mx (c2 - 1) 0=X5u (c1,c2):=by simp only[X5u];rw[N8 h45]
   refine X1 ?_;refine X2 ?_;exact(Xc (he:=by first|rfl|(simp[*,QL];done)|(simp only[XG,QL];(repeat' split)<;>first|rfl|(exfalso;omega)|simp_all)))
  simp only[BN]at h45;have hmh:X5u (c1,c2)=0:=by simp only[X5u];rw[N7 h45]
  refine X2 ?_;exact(Xc (he:=by first|rfl|(simp[*,QL];done)|(simp only[XG,QL];(repeat' split)<;>first|rfl|(exfalso;omega)|simp_all)))
 simp only[BN]at h36;refine X2 ?_;refine(X6 rfl (fun h52=>?_) (fun h52=>?_))
 ·simp only[BN]at h52;obtain⟨a1,a2,ha,hb1,hb2,hb3⟩:=kid hk (ar2 (by omega)).1;obtain⟨c1,c2,hc,hc1,hc2,hc3⟩:=kid hk (ar2 (by omega)).2;clear ar1 ar2 ar3;refine X0<|(N0 ?_);exact(Xc (he:=by simp[*,QL,XG,mn]))
 simp only[BN]at h52;refine X2 ?_;refine(X6 rfl (fun h56=>?_) (fun h56=>?_))
 ·simp only[BN]at h56;obtain⟨a1,a2,ha,hb1,hb2,hb3⟩:=kid hk (ar2 (by omega)).1;obtain⟨c1,c2,hc,hc1,hc2,hc3⟩:=kid hk (ar2 (by omega)).2;clear ar1 ar2 ar3;refine X0<|(N0 ?_);exact(Xc (he:=by simp[*,QL,XG,mx]))
 simp only[BN]at h56;refine(XT [2,6] (fun(z:Bool)=>[(200,.v (lb z))]) (fun(z:Bool)=>[(6,.box [.c (iC 0),.c (iC 0)])]) (fun(z:Bool)=>z=decide (o=23\/o=25)) ?_ ?_)
 ·
  refine X2 ?_;refine(X6 rfl (fun h61=>Xe ?_) (fun h61=>?_))
  ·simp only[BN]at h61;exact⟨true,by simp[h61],X4 (fun n=>n) []⟩
  simp only[BN]at h61;refine X1 ?_;exact⟨decide (o=25),by simp[h61],X4 (fun n=>n) []⟩
 rintro z hz;simp only[upS,X8,Xz]
 simp only[KN,Nat.reduceBEq,Nj,Nc,ins,Nat.reduceLT]
 subst hz;obtain⟨res,hres⟩:∃r,QL vars o n k=r:=⟨_,rfl⟩;rw[hres];simp only[QL,h3,h7,h11,h15,h19,h23,h27,h36,h52,h56,Nc]at hres;refine(Xb rfl (fun h65=>?_) fun h65=>?_)
 ·simp only[BN]at h65;have h2:=ar3 h65;rw[N8 h65]at hres;clear ar1 ar2 ar3 h65;rcases k with _|⟨a,_|⟨c,r⟩⟩
  .simp at h2
  .simp at h2
  have hr33:r.length<=31:=by simp only[List.length_cons]at h2;omega
  clear h2;simp at hres;refine X0<|(Xs (by simp[*,X1K];rfl) ?_);refine X0<|X0<|(Xs (by simp[*,takeM];rfl) ?_);refine X3<|(Xg [6,9,207,208] (fun(x:Nat×Int×Int)=>[(209,.v (li x.1))]) (fun x=>[(6,.box [.c (iC 0),.c (iC 0)]),(9,.box [.c (iC x.2.1),.c (iC x.2.2)])]) (fun x=>x.1<=r.length/\X2U (r.drop x.1) x.2=res) (fun x=>r.length - x.1) (0,c) ⟨Nq _,hres⟩ ?_ ?_)
  .exact X4 (fun n=>n) []
  rintro⟨k,m,q⟩ ⟨hk',hJ⟩;simp only[upS,X8,Xz]
  simp only[KN,Nat.reduceBEq,Nj,Nc,ins,Nat.reduceLT]
  simp only at hk' hJ;clear hres;refine X2 ?_;refine X0<|(X6 rfl (fun h70=>Xe ?_) (fun h70=>?_))
  ·simp only[BN]at h70;have hlt:k<r.length:=by omega
   obtain⟨⟨e1,e2⟩,he,hd⟩:=Xt hlt;have hw1:=XD hlt (by omega);rw[hd]at hJ;simp only[X2U]at hJ;have hk1:k+1<=r.length:=hlt;clear hlt h70;refine X0<|X3<|X0<|X1 ?_;refine(Xo [⟨true,.v (aP (ZC (m,q) (e1,e2))),none⟩] ?_ ?_)
   .first|exact X44 (m,q) (e1,e2) _|exact trivial|simpa[*]using X44 (m,q) (e1,e2) _
   refine X1 ?_;exact⟨(k+1,ZC (m,q) (e1,e2)),⟨hk1,hJ⟩,by simp only;omega,X4 (fun n=>n) []⟩
  simp only[BN]at h70;have hkl:k=r.length:=by omega
  rw[hkl,Nw]at hJ;simp only[X2U]at hJ;refine(Xi ?_);refine X2 ?_;exact(Xc (he:=by subst hJ;rfl))
 simp only[BN]at h65;rw[N7 h65]at hres;subst hres;refine X2 ?_;exact(Xc (he:=by first|rfl|(simp[*,QL];done)|(simp only[XG,QL];(repeat' split)<;>first|rfl|(exfalso;omega)|simp_all)))
theorem XaL (b:Int×Int) (hb:-1048576<=b.1/\b.1<=b.2/\b.2<=1048576) (d:Nat):Con prog 213 true [li b.1,li b.2] (.tup [li (X1Q b),li (X5u b)]) none d:=by
 obtain⟨c1,c2⟩:=b;simp only at hb;have hw1:IntKind.i64.wrap (c1+1)=c1+1:=Xa;have hw2:IntKind.i64.wrap (c2 - 1)=c2 - 1:=Xa;refine X5 Tryz.func213 ?_;simp only[Tryz.f213];refine X2 ?_;refine X2 ?_;refine(XT [1,7] (fun(z:Int)=>[(6,.v (li z))]) (fun(z:Int)=>[]) (fun(z:Int)=>z=X1Q (c1,c2)) ?_ ?_)
 ·
  refine X2 ?_;refine(Xb rfl (fun h4=>?_) fun h4=>?_)
  ·simp only[BN]at h4;have hml:mn 0 (c1+1)=X1Q (c1,c2):=by simp only[X1Q];rw[N8 h4];unfold mn;(repeat' split)<;>omega
   refine(Xo [⟨true,.v (li (mn 0 (c1+1))),none⟩] ?_ ?_)
   .first|exact Ql 0 (c1+1) _|exact trivial|simpa[*]using Ql 0 (c1+1) _
   exact⟨X1Q (c1,c2),rfl,X4 (fun n=>n) []⟩
  simp only[BN]at h4;have hml:(0:Int)=X1Q (c1,c2):=by simp only[X1Q];rw[N7 h4]
  exact⟨X1Q (c1,c2),rfl,X4 (fun n=>n) []⟩
 rintro _ rfl;simp only[upS,X8,Xz]
 simp only[KN,Nat.reduceBEq,Nj,Nc,ins,Nat.reduceLT]
 refine X0<|X0<|X1 ?_;refine(Xb rfl (fun h9=>?_) fun h9=>?_)
 ·simp only[BN]at h9;have hmh:mx 0 (c2 - 1)=X5u (c1,c2):=by simp only[X5u];rw[N8 h9];unfold mx;(repeat' split)<;>omega
  refine(Xo [⟨true,.v (li (mx 0 (c2 - 1))),none⟩] ?_ ?_)
  .first|exact Qx 0 (c2 - 1) _|exact trivial|simpa[*]using Qx 0 (c2 - 1) _
  refine X2 ?_;exact Xc
 simp only[BN]at h9;have hmh:X5u (c1,c2)=0:=by simp only[X5u];rw[N7 h9]
 refine X2 ?_;exact Xc
def X5z (k:List (Int×Int)):N1:=k.map fun p=>[iC p.1]
def X1N (k:List (Int×Int)):N1:=k.map fun p=>[iC p.2]
@[simp] theorem lows_nil:X5z []=[]:=rfl
@[simp] theorem highs_nil:X1N []=[]:=rfl
@[simp] theorem len_lows (k:List (Int×Int)):(X5z k).length=k.length:=by simp[X5z]
@[simp] theorem get_lows (k:List (Int×Int)) (i:Nat):(X5z k)[i]? =k[i]?.map fun p=>[iC p.1]:=by simp[X5z]
@[simp] theorem len_highs (k:List (Int×Int)):(X1N k).length=k.length:=by simp[X1N]
@[simp] theorem get_highs (k:List (Int×Int)) (i:Nat):(X1N k)[i]? =k[i]?.map fun p=>[iC p.2]:=by simp[X1N]
def X4l (vars:List Vr) (o n:Int) (k:List (Int×Int)):Int×Int:=
 if o=0 then(if n< -1048576\/1048576<n then(-1048577,1048577)else(n,n))else QL vars o n k
theorem Xal (vars:List Vr) (inp:Bool) (o n:Int) (K:CD) (k:List (Int×Int)) (hf:Q3 vars inp o n k.length=true) (hk:∀p∈k,bnd p) (d:Nat):
  Con prog 162 true [lV vars,.agg [.c (iC o),.c (iC n),.c K],.one (.c (.sl 1 (X5z k))),.one (.c (.sl 1 (X1N k)))] (.tup [li (X4l vars o n k).1,li (X4l vars o n k).2]) none d:=by
 have har:=X07 hf;have hrf:o=24->0<=n/\∃v,vars[n.toNat]? =some v/\(inp=true->v.kind≠0):=fun h=>X3Q (by rw[<-h];exact hf);clear hf;have ar1:o=6->0+1<=k.length:=fun h=>by have:=kids1 (.inl h);rw[this]at har;simp only at har;omega
 have ar2:8<=o/\o<=22->0+1<=k.length/\1+1<=k.length:=fun h=>by have:=kids2 h;rw[this]at har;simp only at har;omega
 have ar3:o=23\/o=25->2<=k.length/\k.length<=33:=fun h=>by
  rcases h with h|h
  .have:=kids3;rw[h,this]at har;simp only at har;omega
  have:=kids4;rw[h,this]at har;simp only at har;omega
 clear har;obtain⟨res,hres⟩:∃r,X4l vars o n k=r:=⟨_,rfl⟩;rw[hres];simp only[X4l,QL]at hres;refine X5 Tryz.func162 ?_;simp only[Tryz.f162];refine X2 ?_;refine X0<|X0<|X1 ?_;refine X3<|X0<|X1 ?_;refine(X6 rfl (fun h3=>?_) (fun h3=>?_))
 ·simp only[BN]at h3;rw[N8 h3]at hres;refine X0<|X0<|X1 ?_;refine(Xb rfl (fun h5=>?_) fun h5=>?_)
  ·simp only[BN]at h5;rw[N8 h5]at hres;subst hres;refine X2 ?_;exact Xc
  simp only[BN]at h5;rw[N7 (by omega)]at hres;subst hres;refine X0<|(N0 ?_);exact Xc
 simp only[BN]at h3;rw[N7 h3,N7 h3]at hres;refine X2 ?_;refine(X6 rfl (fun h11=>?_) (fun h11=>?_))
 ·simp only[BN]at h11;obtain⟨hn0,v,hv,_⟩:=hrf h11;rw[N8 h11,hv]at hres;subst hres;clear hrf;refine X0<|(N0 ?_);exact Xc
 simp only[BN]at h11;rw[N7 h11]at hres;refine X2 ?_;refine(X6 rfl (fun h15=>?_) (fun h15=>?_))
 ·simp only[BN]at h15;obtain⟨a1,a2,ha,hb1,hb2,hb3⟩:=kid hk (ar1 h15);have hw1:IntKind.i64.wrap (-a1)=-a1:=Xa;have hw2:IntKind.i64.wrap (-a2)=-a2:=Xa;rw[N8 h15]at hres;simp only[g2,ha,Option.getD_some]at hres;subst hres;clear ar1 ar2 ar3;refine X0<|(N0 ?_);exact Xc
 simp only[BN]at h15;rw[N7 h15]at hres;refine X2 ?_;refine(X6 rfl (fun h19=>?_) (fun h19=>?_))
 ·simp only[BN]at h19;obtain⟨a1,a2,ha,hb1,hb2,hb3⟩:=kid hk (ar2 (by omega)).1;obtain⟨c1,c2,hc,hc1,hc2,hc3⟩:=kid hk (ar2 (by omega)).2;have hw1:IntKind.i64.wrap (a1+c1)=a1+c1:=Xa;have hw2:IntKind.i64.wrap (a2+c2)=a2+c2:=Xa;rw[N8 h19]at hres;simp only[g2,ha,hc,Option.getD_some]at hres;subst hres;clear ar1 ar2 ar3;refine X0<|(N0 ?_);exact Xc
 simp only[BN]at h19;rw[N7 h19]at hres;refine X2 ?_;refine(X6 rfl (fun h23=>?_) (fun h23=>?_))
 ·simp only[BN]at h23;obtain⟨a1,a2,ha,hb1,hb2,hb3⟩:=kid hk (ar2 (by omega)).1;obtain⟨c1,c2,hc,hc1,hc2,hc3⟩:=kid hk (ar2 (by omega)).2;have hw1:IntKind.i64.wrap (a1 - c2)=a1 - c2:=Xa;have hw2:IntKind.i64.wrap (a2 - c1)=a2 - c1:=Xa;rw[N8 h23]at hres;simp only[g2,ha,hc,Option.getD_some]at hres;subst hres;clear ar1 ar2 ar3;refine X0<|(N0 ?_);exact Xc
 simp only[BN]at h23;rw[N7 h23]at hres;refine X2 ?_;refine(X6 rfl (fun h27=>?_) (fun h27=>?_))
 ·simp only[BN]at h27;obtain⟨a1,a2,ha,hb1,hb2,hb3⟩:=kid hk (ar2 (by omega)).1;obtain⟨c1,c2,hc,hc1,hc2,hc3⟩:=kid hk (ar2 (by omega)).2;rw[N8 h27]at hres;simp only[g2,ha,hc,Option.getD_some]at hres;clear ar1 ar2 ar3;have hm1:=X60 ⟨hb1,by omega⟩ ⟨hc1,by omega⟩ (x:=a1) (y:=c1);have hm2:=X60 ⟨hb1,by omega⟩ ⟨by omega,hc3⟩ (x:=a1) (y:=c2);have hm3:=X60 ⟨by omega,hb3⟩ ⟨hc1,by omega⟩ (x:=a2) (y:=c1);have hm4:=X60 ⟨by omega,hb3⟩ ⟨by omega,hc3⟩ (x:=a2) (y:=c2);have hw1:IntKind.i64.wrap (a1*c1)=a1*c1:=Xa;have hw2:IntKind.i64.wrap (a1*c2)=a1*c2:=Xa;have hw3:IntKind.i64.wrap (a2*c1)=a2*c1:=Xa;have hw4:IntKind.i64.wrap (a2*c2)=a2*c2:=Xa
  have he1:mn (mn (a1*c1) (a1*c2)) (mn (a2*c1) (a2*c2))=res.1:=by
   rw[<-hres];simp only[mulP,ZC,mn];generalize a1*c1=p at*;generalize a1*c2=q at*;generalize a2*c1=r at*;generalize a2*c2=s at*
   (repeat' split)<;>omega
  have he2:mx (mx (a1*c1) (a1*c2)) (mx (a2*c1) (a2*c2))=res.2:=by
   rw[<-hres];simp only[mulP,ZC,mx];generalize a1*c1=p at*;generalize a1*c2=q at*;generalize a2*c1=r at*;generalize a2*c2=s at*
   (repeat' split)<;>omega
  clear hres hm1 hm2 hm3 hm4;refine X0<|(N0 ?_);refine Xh [⟨true,.v (li (mn (a1*c1) (a1*c2))),none⟩,⟨true,.v (li (mn (a2*c1) (a2*c2))),none⟩,⟨true,.v (li (mn (mn (a1*c1) (a1*c2)) (mn (a2*c1) (a2*c2)))),none⟩,⟨true,.v (li (mx (a1*c1) (a1*c2))),none⟩,⟨true,.v (li (mx (a2*c1) (a2*c2))),none⟩,⟨true,.v (li (mx (mx (a1*c1) (a1*c2)) (mx (a2*c1) (a2*c2)))),none⟩] ?_ ?_
  .first|exact trivial|exact trivial|(repeat' first|exact trivial|exact Ql _ _ _|exact Ql _ _ _|(simpa[he1]using Ql (mn (a1*c1) (a1*c2)) (mn (a2*c1) (a2*c2)) _)|exact Qx _ _ _|exact Qx _ _ _|(simpa[he2]using Qx (mx (a1*c1) (a1*c2)) (mx (a2*c1) (a2*c2)) _)|apply And.intro)
  exact Xc
 simp only[BN]at h27;rw[N7 h27]at hres;refine X2 ?_;refine(X6 rfl (fun h32=>?_) (fun h32=>?_))
 ·simp only[BN]at h32;obtain⟨a1,a2,ha,hb1,hb2,hb3⟩:=kid hk (ar2 (by omega)).1;obtain⟨c1,c2,hc,hc1,hc2,hc3⟩:=kid hk (ar2 (by omega)).2;rw[N8 h32]at hres;simp only[g2,ha,hc,Option.getD_some]at hres
  have hmm:mx (X3D a1) (X3D a2)=mx a2 (-a1):=by
   unfold mx X3D
   (repeat' split)<;>omega
  have hm:-1048576<=mx a2 (-a1)/\mx a2 (-a1)<=1048576:=by unfold mx;split<;>omega
  have hw2:IntKind.i64.wrap (-(mx a2 (-a1)))=-(mx a2 (-a1)):=Xa;clear ar1 ar2 ar3;refine X0<|(XU [⟨true,.v (li (X3D a1)),none⟩,⟨true,.v (li (X3D a2)),none⟩,⟨true,.v (li (mx (X3D a1) (X3D a2))),none⟩] (by kernel_rfl) (by kernel_rfl) (by rfl) (by simp[*];first|exact⟨rfl,Iff.rfl⟩|exact⟨rfl,trivial⟩|rfl) ?_ ?_)
  .first|exact trivial|exact trivial|(repeat' first|exact trivial|exact X9x a1 (by omega) _|exact X9x a2 (by omega) _|(simpa[hmm]using Qx (X3D a1) (X3D a2) _)|apply And.intro)
  refine X0<|X0<|X1 ?_;refine(Xb rfl (fun h35=>?_) fun h35=>?_)
  ·simp only[BN]at h35;rw[N8 h35]at hres;subst hres;refine X2 ?_;exact Xc
  simp only[BN]at h35;rw[N7 (by omega)]at hres;subst hres;refine X2 ?_;exact Xc
 simp only[BN]at h32;rw[N7 h32]at hres;refine X2 ?_;refine(X6 rfl (fun h41=>?_) (fun h41=>?_))
 ·simp only[BN]at h41;obtain⟨c1,c2,hc,hc1,hc2,hc3⟩:=kid hk (ar2 (by omega)).2;rw[N8 h41]at hres;simp only[g2,hc,Option.getD_some]at hres;subst hres;clear ar1 ar2 ar3;refine X0<|(XU [⟨true,.tup [li (X1Q (c1,c2)),li (X5u (c1,c2))],none⟩] (by kernel_rfl) (by kernel_rfl) (by rfl) (by simp[*];first|exact⟨rfl,Iff.rfl⟩|exact⟨rfl,trivial⟩|rfl) ?_ ?_)
  .first|exact XaL (c1,c2) ⟨hc1,hc2,hc3⟩ _|exact trivial|simpa[*]using XaL (c1,c2) ⟨hc1,hc2,hc3⟩ _
  exact Xc
 simp only[BN]at h41;rw[N7 h41]at hres;refine X2 ?_;refine(X6 rfl (fun h45=>?_) (fun h45=>?_))
 ·simp only[BN]at h45;obtain⟨a1,a2,ha,hb1,hb2,hb3⟩:=kid hk (ar2 (by omega)).1;obtain⟨c1,c2,hc,hc1,hc2,hc3⟩:=kid hk (ar2 (by omega)).2;rw[N8 h45]at hres;simp only[g2,ha,hc,Option.getD_some]at hres;subst hres;clear ar1 ar2 ar3;refine X0<|(XU [⟨true,.v (li (mn a1 c1)),none⟩,⟨true,.v (li (mn a2 c2)),none⟩] (by kernel_rfl) (by kernel_rfl) (by rfl) (by simp[*];first|exact⟨rfl,Iff.rfl⟩|exact⟨rfl,trivial⟩|rfl) ?_ ?_)
  .first|exact⟨Ql _ _ _,Ql _ _ _⟩|exact trivial|(repeat' first|exact trivial|exact Ql _ _ _|exact Ql _ _ _|apply And.intro)
  exact Xc
 simp only[BN]at h45;rw[N7 h45]at hres;refine X2 ?_;refine(X6 rfl (fun h49=>?_) (fun h49=>?_))
 ·simp only[BN]at h49;obtain⟨a1,a2,ha,hb1,hb2,hb3⟩:=kid hk (ar2 (by omega)).1;obtain⟨c1,c2,hc,hc1,hc2,hc3⟩:=kid hk (ar2 (by omega)).2;rw[N8 h49]at hres;simp only[g2,ha,hc,Option.getD_some]at hres;subst hres;clear ar1 ar2 ar3;refine X0<|(XU [⟨true,.v (li (mx a1 c1)),none⟩,⟨true,.v (li (mx a2 c2)),none⟩] (by kernel_rfl) (by kernel_rfl) (by rfl) (by simp[*];first|exact⟨rfl,Iff.rfl⟩|exact⟨rfl,trivial⟩|rfl) ?_ ?_)
  .first|exact⟨Qx _ _ _,Qx _ _ _⟩|exact trivial|(repeat' first|exact trivial|exact Qx _ _ _|exact Qx _ _ _|apply And.intro)
  exact Xc
 simp only[BN]at h49;rw[N7 h49]at hres;refine(XT [2,3] (fun(z:Bool)=>[(202,.v (lb z))]) (fun(z:Bool)=>[]) (fun(z:Bool)=>z=decide (o=23\/o=25)) ?_ ?_)
 ·
  refine X2 ?_;refine(X6 rfl (fun h54=>Xe ?_) (fun h54=>?_))
  ·simp only[BN]at h54;exact⟨true,by simp[h54],X4 (fun n=>n) []⟩
  simp only[BN]at h54;refine X1 ?_;exact⟨decide (o=25),by simp[h54],X4 (fun n=>n) []⟩
 rintro z hz;simp only[upS,X8,Xz]
 simp only[KN,Nat.reduceBEq,Nj,Nc,ins,Nat.reduceLT]
 subst hz;refine(Xb rfl (fun h58=>?_) fun h58=>?_)
 ·simp only[BN]at h58;have h2:=ar3 h58;rw[N8 h58]at hres;clear ar1 ar2 ar3 h58;rcases k with _|⟨⟨a1,a2⟩,_|⟨⟨c1,c2⟩,r⟩⟩
  .simp at h2
  .simp at h2
  have hr33:r.length<=31:=by simp only[List.length_cons]at h2;omega
  clear h2;simp at hres;refine X0<|(XY (by kernel_rfl) (by kernel_rfl) (by rfl) (by simp[*,X5z,X1N];rfl) ?_);refine X0<|X0<|X1 ?_;refine X3<|(Xg [2,3] (fun(x:Nat×Int×Int)=>[(15,.v (li x.2.1)),(16,.v (li x.2.2)),(17,.v (li ((x.1+2:Nat):Int)))]) (fun x=>[]) (fun x=>x.1<=r.length/\X2U (r.drop x.1) x.2=res) (fun x=>r.length - x.1) (0,c1,c2) ⟨Nq _,hres⟩ ?_ ?_)
  .exact X4 (fun n=>n) []
  rintro⟨k,m,q⟩ ⟨hk',hJ⟩;simp only[upS,X8,Xz]
  simp only[KN,Nat.reduceBEq,Nj,Nc,ins,Nat.reduceLT]
  simp only at hk' hJ;clear hres;have hdec:decide (((k+2:Nat):Int)<((r.length+1+1:Nat):Int))=decide (k<r.length):=by rw[decide_eq_decide];omega
  refine X0<|X0<|(Xs (by simp[*];rfl) ?_);refine(X6 rfl (fun h63=>Xe ?_) (fun h63=>?_))
  ·simp only[BN]at h63;have hlt:k<r.length:=by omega
   obtain⟨⟨e1,e2⟩,he,hd⟩:=Xt hlt;have hw1:IntKind.i64.wrap ((k:Int)+2+1)=(k:Int)+1+2:=by rw[Xa (by omega) (by omega)];omega
   have htn:((k:Int)+2).toNat=k+2:=by omega
   have h02:0<=(k:Int)+2:=by omega
   rw[hd]at hJ;simp only[X2U,ZC]at hJ;have hk1:k+1<=r.length:=hlt;clear hlt h63;refine X0<|X3<|(XU [⟨true,.v (li (mn m e1)),none⟩,⟨true,.v (li (mx q e2)),none⟩] (by kernel_rfl) (by kernel_rfl) (by rfl) (by simp[*];first|exact⟨rfl,Iff.rfl⟩|exact⟨rfl,trivial⟩|rfl) ?_ ?_)
   .first|exact⟨Ql _ _ _,Qx _ _ _⟩|exact trivial|(repeat' first|exact trivial|exact Ql _ _ _|exact Qx _ _ _|apply And.intro)
   refine X1 ?_;exact⟨(k+1,mn m e1,mx q e2),⟨hk1,hJ⟩,by simp only;omega,X4 (fun n=>n) []⟩
  simp only[BN]at h63;have hkl:k=r.length:=by omega
  rw[hkl,Nw]at hJ;simp only[X2U]at hJ;refine(Xi ?_);refine X2 ?_;exact(Xc (he:=by subst hJ;rfl))
 simp only[BN]at h58;rw[N7 h58]at hres;subst hres;refine X2 ?_;exact Xc
abbrev Wy (rows:N1) (d:Int):N2:=[(900001,.row 195 4 rows),(1000000,.box [.own 900001,.c (iC d)])]
theorem X1w {rows:N1} {d:Int}:∀n cs,lkp (Wy rows d) n=some (.box cs)->1000000<=n:=by
 intro n cs h;simp only[lkp]at h;split at h
 .cases h
 split at h
 .omega
 cases h
theorem X8M {rows:N1} {d:Int} {pv:Option Value}:∀v,pv=some v->∃cs,lkp (Wy rows d) 1000000=some (.box cs):=fun _ _=>⟨_,rfl⟩
abbrev atB:RV:=.v (.one (.at_ 1000000 0))
def nxB (v:Value) (rows rows':N1) (d k:Int) (m c:Nat) (x:RV) (R:List Nat):HS:=
 {trS ⟨⟨12,some v⟩,QS 0 [.one (.c (iC k)),.one (.c (.ptr [.lit v])),.one (.c (.ptr [iC m]))],[]⟩ [(0,4,x),(1,5,atB),(2,6,atB),(3,7,.v (.one (.own 900001))),(4,8,lit (.int .i64 m)),(5,9,lit (.int .i64 k)),(6,10,.v (.one (.el 900001 4 m 0))),(7,11,.v (.one (.el 900001 4 m c)))] R with objs:=if R.isEmpty then Wy rows' d else Wy rows d}
def stpB:List (List Nat×Nat):=[([0,1,2,3,4,5,6,7,8],0),([0,1,2,3,4,5,6,7,8],4),([0,1,2,3,4,5,6,7,8],5),([1,2,3,4,5,6,7,8],1),([1,2,3,4,5,6,7,8],4),([1,2,3,4,5,6,7,8],5),([0,1,2,3,5,6,7,8],0),([0,1,2,3,5,6,7,8],5),([0,1,2,3,4,6,7,8],0),([0,1,2,3,4,6,7,8],4),([2,3,4,5,6,7,8],2),([2,3,4,5,6,7,8],4),([2,3,4,5,6,7,8],5),([1,2,3,5,6,7,8],1),([1,2,3,5,6,7,8],5),([1,2,3,4,6,7,8],1),([1,2,3,4,6,7,8],4),([0,1,2,3,6,7,8],0),([3,4,5,6,7,8],3),([3,4,5,6,7,8],4),([3,4,5,6,7,8],5),([2,3,5,6,7,8],2),([2,3,5,6,7,8],5),([2,3,4,6,7,8],2),([2,3,4,6,7,8],4),([1,2,3,6,7,8],1),([4,5,6,7,8],4),([4,5,6,7,8],5),([3,5,6,7,8],3),([3,5,6,7,8],5),([3,4,6,7,8],3),([3,4,6,7,8],4),([2,3,6,7,8],2),([5,6,7,8],5),([4,6,7,8],4),([3,6,7,8],3),([6,7,8],6),([7,8],7),([8],8)]
theorem XdS (v:Value) (rows:N1) (d k:Int) (m:Nat) (r:List CD) (hr:rows[m]? =some r) (hl:r.length=4):
  X0V prog 228 (some v) (Wy rows d) [.one (.c (iC k)),.one (.c (.ptr [.lit v])),.one (.c (.ptr [iC m]))] (fun _:Unit=>True) (fun _=>.tup []) (fun _=>Wy (setRow rows m 2 [iC k]) d):=by
 have hin:inR rows m=true:=by simp[inR,(N6.1 hr).1]
 have hlen:m<rows.length:=(N6.1 hr).1;refine Qn Tryz.func228 rfl (by kernel_rfl) (NL rfl) ?_ ?_ ?_
 .exact X1w
 .intro v' h;exact⟨_,rfl⟩
 simp only[Tryz.f228];refine X7T (nxB v rows (setRow rows m 2 [iC k]) d k m 2 atB) stpB rfl (by kernel_rfl) (by kernel_rfl) (by kernel_rfl) rfl ?_ ?_
 .simp only[stpB,List.forall_mem_cons,Dk,false_implies,implies_true,and_true];refine⟨?_,?_,?_,?_,?_,?_,?_,?_,?_,?_,?_,?_,?_,?_,?_,?_,?_,?_,?_,?_,?_,?_,?_,?_,?_,?_,?_,?_,?_,?_,?_,?_,?_,?_,?_,?_,?_,?_,?_⟩
  all_goals first
   |(refine XP.evE rfl ?_;simp[evc,nxB,trS,QS,ins,Qw,hlen];done)
   | (refine XP.evN (nxB v rows (setRow rows m 2 [iC k]) d k m 2 (.v (.one (.c (.lit v))))) rfl ?_ ?_
      .simp[evc,nxB,trS,QS,ins,Qw]
      refine XbO (v:=v) (cs:=[.own 900001,.c (iC d)]) rfl rfl rfl ?_ ?_<;>simp[nxB,trS,QS,ins,Qw,Zs,pnR,pnC,pnO,pnL,lkp])
 refine⟨.inl rfl,(),trivial,_,le_refl _,⟨[],rfl,rfl⟩,?_⟩;intro n o h;simpa[nxB]using h
theorem Xbz (v:Value) (rows:N1) (d k:Int) (m:Nat) (r:List CD) (hr:rows[m]? =some r) (hl:r.length=4):
  X0V prog 265 (some v) (Wy rows d) [.one (.c (iC k)),.one (.c (.ptr [.lit v])),.one (.c (.ptr [iC m]))] (fun _:Unit=>True) (fun _=>.tup []) (fun _=>Wy (setRow rows m 3 [iC k]) d):=by
 have hin:inR rows m=true:=by simp[inR,(N6.1 hr).1]
 have hlen:m<rows.length:=(N6.1 hr).1;refine Qn Tryz.func265 rfl (by kernel_rfl) (NL rfl) ?_ ?_ ?_
 .exact X1w
 .intro v' h;exact⟨_,rfl⟩
 simp only[Tryz.f265];refine X7T (nxB v rows (setRow rows m 3 [iC k]) d k m 3 atB) stpB rfl (by kernel_rfl) (by kernel_rfl) (by kernel_rfl) rfl ?_ ?_
 .simp only[stpB,List.forall_mem_cons,Dk,false_implies,implies_true,and_true];refine⟨?_,?_,?_,?_,?_,?_,?_,?_,?_,?_,?_,?_,?_,?_,?_,?_,?_,?_,?_,?_,?_,?_,?_,?_,?_,?_,?_,?_,?_,?_,?_,?_,?_,?_,?_,?_,?_,?_,?_⟩
  all_goals first
   |(refine XP.evE rfl ?_;simp[evc,nxB,trS,QS,ins,Qw,hlen];done)
   | (refine XP.evN (nxB v rows (setRow rows m 3 [iC k]) d k m 3 (.v (.one (.c (.lit v))))) rfl ?_ ?_
      .simp[evc,nxB,trS,QS,ins,Qw]
      refine XbO (v:=v) (cs:=[.own 900001,.c (iC d)]) rfl rfl rfl ?_ ?_<;>simp[nxB,trS,QS,ins,Qw,Zs,pnR,pnC,pnO,pnL,lkp])
 refine⟨.inl rfl,(),trivial,_,le_refl _,⟨[],rfl,rfl⟩,?_⟩;intro n o h;simpa[nxB]using h
abbrev pV (b:Nat):Value:=.pointer (some ⟨b,0,none⟩)
abbrev nxC (b m:Nat):CD:=.fn 228 [.ptr [.lit (pV b)],.ptr [iC m]]
abbrev otC (b m:Nat):CD:=.fn 265 [.ptr [.lit (pV b)],.ptr [iC m]]
theorem X2f (b m:Nat) (d:Nat):Con prog 189 false [.one (.c (.lit (pV b))),.one (.c (iC m))] (.v (.one (.c (nxC b m)))) none d:=by
 refine X5 Tryz.func189 ?_;simp only[Tryz.f189];refine X2 ?_;refine X2 ?_;exact XcA (fun h=>⟨.inr rfl,h⟩) (regs:=[(4,.v (.one (.c (nxC b m))))]) (Xc9 (by simp[Zs,X26,X1Y,ZB,lkp])) (by simp;rfl) rfl
theorem X4J (b m:Nat) (d:Nat):Con prog 251 false [.one (.c (.lit (pV b))),.one (.c (iC m))] (.v (.one (.c (otC b m)))) none d:=by
 refine X5 Tryz.func251 ?_;simp only[Tryz.f251];refine X2 ?_;refine X2 ?_;exact XcA (fun h=>⟨.inr rfl,h⟩) (regs:=[(4,.v (.one (.c (otC b m))))]) (Xc9 (by simp[Zs,X26,X1Y,ZB,lkp])) (by simp;rfl) rfl
abbrev XQ (k d:Int):List CD:=[iC k,iC d,iC (-1),iC (-1)]
theorem Zb (b:Nat) (rows:N1) (d k:Int) (hr:rows.length<=2000000):
  X0V prog 250 (some (pV b)) (Wy rows d) [.one (.c (.lit (pV b))),.one (.c (iC k))] (fun _:Unit=>True) (fun _=>.tup []) (fun _=>Wy (rows++[XQ k d]) d):=by
 have hroom:W5 (rows.length+1) 32:=Qc (by omega) (by decide);refine Qn Tryz.func250 rfl (by kernel_rfl) (NL rfl) X1w X8M ?_;simp only[Tryz.f250];refine XC (s':=⟨⟨19,some (pV b)⟩,[(0,atB),(1,lit (.int .i64 k))],Wy rows d⟩) (XbO (v:=pV b) (cs:=[.own 900001,.c (iC d)]) rfl rfl rfl (by simp[QS,Zs,pnR,pnC,lkp]) (by simp[Zs,pnO,pnL,pnC,lkp])) ?_;refine X9t [(7,1000000),(12,1000000),(18,1000000)] (by kernel_rfl) (by kernel_rfl) (by rfl) (by simp[evsH,hokB,QQ,hroom,XL,QH,Q1,cellsOf,W4,Z2,Z3,Wr,Zw,lkp,ins,del];rfl) ?_;refine⟨.inl rfl,(),trivial,⟨⟨19,some (pV b)⟩,[],Wy (rows++[XQ k d]) d⟩,Xw (fun n=>if n=900001 then 16 else n) [] rfl ?_ ?_ ?_,⟨[],rfl,rfl⟩,fun n o h=>h⟩
 .trivial
 .simp[Zs,X1f,Ob.okNil,Ob.ren,lkp,CV.ren,CV.okNil]
 simp[Zs,X1f]
abbrev Ww:=Bool×Nat
abbrev Ww.c (b:Nat) (s:Ww):CD:=.fn (if s.1=true then 265 else 228) [.ptr [.lit (pV b)],.ptr [iC s.2]]
def X0M (rows:N1) (s:Ww) (k:Nat):N1:=setRow rows s.2 (if s.1=true then 3 else 2) [iC k]
def XB (k:Nat):List Ww->N1->N1
 |[],rows=>rows
 |s::l,rows=>XB k l (X0M rows s k)
abbrev Bst:=N1×Int
mutual
def Zf:St->Nat->Bst->Bst×List Ww
 | .mk o _ _ _ _ a b _,k,st=>
   if o=3 then
    let x:=Qb a [(false,k)] (st.1++[XQ 3 st.2],st.2+1)
    let y:=Qb b [(true,k)] x.1
    (y.1,x.2++y.2)
   else if o=4 then
    let x:=Qb a [(false,k+1)] (setRow (st.1++[XQ 4 st.2]++[XQ 5 st.2]) k 2 [iC ((k:Int)+1)],st.2+1)
    ((XB (k+1) x.2 x.1.1,x.1.2),[(true,k+1)])
   else((st.1++[XQ 2 st.2],st.2+1),[(false,k)])
def Qb:List St->List Ww->Bst->Bst×List Ww
 |[],sl,st=>(st,sl)
 | s::l,sl,st=>
   let x:=Zf s st.1.length (XB st.1.length sl st.1,st.2)
   Qb l x.2 x.1
end
mutual
def szN:St->Nat
 | .mk _ _ _ _ _ a b _=>2+X0l a+X0l b
def X0l:List St->Nat
 |[]=>0
 |s::l=>szN s+X0l l
end
structure okB (sl:List Ww) (rows:N1):Prop where
 four:∀r∈rows,r.length=4
 lt:∀s∈sl,s.2<rows.length
theorem WM (rows:N1) (i off:Nat) (ds:List CD):(setRow rows i off ds).length=rows.length:=by
 unfold setRow;split<;>simp
theorem X0K {rows:N1} {i off:Nat} {x:CD} (h:∀r∈rows,r.length=4) (ho:off<4):∀r∈setRow rows i off [x],r.length=4:=by
 intro r hr;unfold setRow at hr;split at hr
 .rename_i r0 h0;rcases Dy hr with hr|rfl
  .exact h r hr
  have:=h r0 (N4 h0);simp[this];omega
 exact h r hr
theorem X2o (rows:N1) (s:Ww) (k:Nat):(X0M rows s k).length=rows.length:=WM ..
theorem Q8 (k:Nat):∀(sl:List Ww) (rows:N1),(XB k sl rows).length=rows.length
 |[],_=>rfl
 |s::l,rows=>by rw[XB,Q8 k l,X2o]
theorem X0d {rows:N1} {s:Ww} {k:Nat} (h:∀r∈rows,r.length=4):∀r∈X0M rows s k,r.length=4:=
 X0K h (by split<;>omega)
theorem ZV (k:Nat):∀(sl:List Ww) (rows:N1),(∀r∈rows,r.length=4)->∀r∈XB k sl rows,r.length=4
 |[],_,h=>h
 |s::l,rows,h=>ZV k l _ (X0d h)
theorem Wv {rows:N1} {k d:Int} (h:∀r∈rows,r.length=4):∀r∈rows++[XQ k d],r.length=4:=by
 intro r hr;rcases Ni.1 hr with hr|hr
 .exact h r hr
 simp only[Nl]at hr;rw[hr];rfl
mutual
theorem X5N:∀(s:St) (k:Nat) (st:Bst),(∀r∈st.1,r.length=4)->k=st.1.length->
  okB (Zf s k st).2 (Zf s k st).1.1/\st.1.length<=(Zf s k st).1.1.length/\(Zf s k st).1.1.length<=st.1.length+szN s/\st.2<=(Zf s k st).1.2/\(Zf s k st).1.2<=st.2+szN s
 | .mk o c v n t a b bs,k,st,h4,hk=>by
   unfold Zf szN;split
   .have ha:=Wt a [(false,k)] (st.1++[XQ 3 st.2],st.2+1) ⟨Wv h4,by simp[hk]⟩;obtain⟨a1,a2,a3,a4,a5⟩:=ha;obtain⟨x,hx⟩:∃x,Qb a [(false,k)] (st.1++[XQ 3 st.2],st.2+1)=x:=⟨_,rfl⟩;simp only[hx]at a1 a2 a3 a4 a5⊢;simp only[Na,List.length_singleton]at a2 a3;have hb:=Wt b [(true,k)] x.1 ⟨a1.four,by simp;omega⟩;obtain⟨b1,b2,b3,b4,b5⟩:=hb;refine⟨⟨b1.four,fun s hs=>?_⟩,by omega,by omega,by omega,by omega⟩;rcases Ni.1 hs with hs|hs
    .exact NJ (a1.lt s hs) b2
    exact b1.lt s hs
   split
   .have ha:=Wt a [(false,k+1)] (setRow (st.1++[XQ 4 st.2]++[XQ 5 st.2]) k 2 [iC ((k:Int)+1)],st.2+1) ⟨X0K (Wv (Wv h4)) (by omega),by simp[hk]⟩;obtain⟨a1,a2,a3,a4,a5⟩:=ha;obtain⟨x,hx⟩:∃x,Qb a [(false,k+1)] (setRow (st.1++[XQ 4 st.2]++[XQ 5 st.2]) k 2 [iC ((k:Int)+1)],st.2+1)=x:=⟨_,rfl⟩;simp only[hx]at a1 a2 a3 a4 a5⊢;simp only[WM,Na,List.length_singleton]at a2 a3;refine⟨⟨ZV _ _ _ a1.four,fun s hs=>?_⟩,by rw[Q8];omega,by rw[Q8];omega,by omega,by omega⟩;simp only[Nl]at hs;rw[hs,Q8];show k+1<_;omega
   refine⟨⟨Wv h4,fun s hs=>?_⟩,by simp,by simp;omega,by show st.2<=st.2+1;omega,by show st.2+1<=_;omega⟩;simp only[Nl]at hs;rw[hs];simp[hk]
theorem Wt:∀(l:List St) (sl:List Ww) (st:Bst),okB sl st.1->
  okB (Qb l sl st).2 (Qb l sl st).1.1/\st.1.length<=(Qb l sl st).1.1.length/\(Qb l sl st).1.1.length<=st.1.length+X0l l/\st.2<=(Qb l sl st).1.2/\(Qb l sl st).1.2<=st.2+X0l l
 | [],sl,st,h=>by
   unfold Qb X0l;exact⟨h,NI _,NI _,NP _,by simp⟩
 | s::l,sl,st,h=>by
   unfold Qb X0l;have ha:=X5N s st.1.length (XB st.1.length sl st.1,st.2) (ZV _ _ _ h.four) (Q8 ..).symm;obtain⟨a1,a2,a3,a4,a5⟩:=ha;obtain⟨x,hx⟩:∃x,Zf s st.1.length (XB st.1.length sl st.1,st.2)=x:=⟨_,rfl⟩;simp only[hx,Q8]at a1 a2 a3 a4 a5⊢;obtain⟨b1,b2,b3,b4,b5⟩:=Wt l x.2 x.1 a1;exact⟨b1,by omega,by omega,by omega,by omega⟩
end
mutual
theorem X9Y:∀(s:St) (k:Nat) (st:Bst),(Zf s k st).2.length<=szN s
 | .mk o c v n t a b bs,k,st=>by
   unfold Zf szN;split
   .have h1:=ZN a [(false,k)] (st.1++[XQ 3 st.2],st.2+1);have h2:=ZN b [(true,k)] (Qb a [(false,k)] (st.1++[XQ 3 st.2],st.2+1)).1;simp only[List.length_singleton]at h1 h2;simp only[Na];omega
   split<;>simp only[List.length_singleton]<;>omega
theorem ZN:∀(l:List St) (sl:List Ww) (st:Bst),(Qb l sl st).2.length<=max sl.length (X0l l)
 | [],sl,st=>by
   unfold Qb X0l;exact Nat.le_max_left ..
 | s::l,sl,st=>by
   unfold Qb X0l;have h1:=X9Y s st.1.length (XB st.1.length sl st.1,st.2);have h2:=ZN l (Zf s st.1.length (XB st.1.length sl st.1,st.2)).2 (Zf s st.1.length (XB st.1.length sl st.1,st.2)).1;simp only at h1 h2⊢;omega
end
def QR (b:Nat) (sl:List Ww):N1:=sl.map fun s=>[s.c b]
@[simp] theorem len_encSl (b:Nat) (sl:List Ww):(QR b sl).length=sl.length:=by simp[QR]
theorem X57 {b:Nat} {sl:List Ww} {i:Nat} {s:Ww} (h:sl[i]? =some s):(QR b sl)[i]? =some [s.c b]:=by simp[QR,h]
def oneC (b:Nat) (s:St):Prop:=∀(k:Nat) (rows:N1) (d:Int),(∀r∈rows,r.length=4)->k=rows.length->rows.length+szN s<=1000000->0<=d->d+szN s<=1000000->
 X0V prog 227 (some (pV b)) (Wy rows d) [.one (.c (.lit (pV b))),aS s,.one (.c (iC k))] (fun _:Unit=>True) (fun _=>.v (.one (.own 1))) (fun _=>(1,.row 250 1 (QR b (Zf s k (rows,d)).2))::Wy (Zf s k (rows,d)).1.1 (Zf s k (rows,d)).1.2)
theorem X6Z (b:Nat) (rows:N1) (d:Int) (k:Nat) (s:Ww) (h4:∀r∈rows,r.length=4) (hs:s.2<rows.length):
  X0V prog (if s.1=true then 265 else 228) (some (pV b)) (Wy rows d) [.one (.c (iC k)),.one (.c (.ptr [.lit (pV b)])),.one (.c (.ptr [iC s.2]))] (fun _:Unit=>True) (fun _=>.tup []) (fun _=>Wy (X0M rows s k) d):=by
 obtain⟨o,m⟩:=s;have hr:rows[m]? =some rows[m]:=Nz hs;unfold X0M;cases o with
 |true=>exact Xbz (pV b) rows d k m _ hr (h4 _ (DC _))
 |false=>exact XdS (pV b) rows d k m _ hr (h4 _ (DC _))
theorem bldS_pin {x:Ob} {rows:N1} {d:Int} (hx:∀cs,x≠ .box cs):∀n cs,lkp ((1,x)::Wy rows d) n=some (.box cs)->1000000<=n:=by
 intro n cs h;simp only[lkp]at h;split at h
 .exact absurd (Option.some.inj h) (hx cs)
 exact X1w n cs h
set_option maxHeartbeats 4000000 in
theorem list_con (b:Nat) (l:List St) (hone:∀s∈l,oneC b s) (sl:List Ww) (rows:N1) (d:Int) (hok:okB sl rows) (hn:rows.length+X0l l<=1000000) (hd:0<=d) (hd2:d+X0l l<=1000000) (hl:l.length<=1000000) (hsl:sl.length<=1000000):
  X0V prog 188 (some (pV b)) ((1,.row 250 1 (QR b sl))::Wy rows d) [.one (.c (.lit (pV b))),lS l,.one (.own 1)] (fun _:Unit=>True) (fun _=>.v (.one (.own 1))) (fun _=>(1,.row 250 1 (QR b (Qb l sl (rows,d)).2))::Wy (Qb l sl (rows,d)).1.1 (Qb l sl (rows,d)).1.2):=by
 obtain⟨RES,hR⟩:∃x,Qb l sl (rows,d)=x:=⟨_,rfl⟩;rw[hR];refine Qn Tryz.func188 rfl (by kernel_rfl) (NL rfl) (bldS_pin (by intro cs;simp)) (fun _ _=>⟨_,rfl⟩) ?_;simp only[Tryz.f188];refine X0<|(Xs (by simp[*,Qa];rfl) ?_);refine X0<|X0<|(Xs (by simp[*,Qa];rfl) ?_);refine X3<|(Xg [0,12,13] (fun(x:Nat×List Ww×N1×Int)=>[(2,.v (.one (.own 1))),(14,lit (.int .i64 x.1))]) (fun(x:Nat×List Ww×N1×Int)=>(1,.row 250 1 (QR b x.2.1))::Wy x.2.2.1 x.2.2.2) (fun(x:Nat×List Ww×N1×Int)=>okB x.2.1 x.2.2.1/\x.2.1.length<=1000000/\x.1<=l.length/\Qb (l.drop x.1) x.2.1 (x.2.2.1,x.2.2.2)=RES/\x.2.2.1.length+X0l (l.drop x.1)<=1000000/\0<=x.2.2.2/\x.2.2.2+X0l (l.drop x.1)<=1000000) (fun(x:Nat×List Ww×N1×Int)=>l.length - x.1) (0,sl,rows,d) ⟨hok,hsl,Nq _,hR,hn,hd,hd2⟩ ?_ ?_)
 .exact Xw (fun n=>n) [] rfl (by simp[*,upS,X8,Qa]) (by simp[*,upS]) (by simp[upS])
 rintro⟨j,sl1,rows1,d1⟩ ⟨e1,e7,e2,e3,e4,e5,e6⟩;simp only[upS,X8,Xz]
 try simp only[X8,KN,Nat.reduceBEq,Nj,Nc,ins,Nat.reduceLT]
 simp only at e1 e7 e2 e3 e4 e5 e6;clear hR hok hn hd hd2 hsl;refine X0<|(Xs (by simp[*,Qa];rfl) ?_);refine X0<|(X6 rfl (fun h4=>Xe ?_) (fun h4=>?_))
 ·(try simp only[BN]at h4);have hj:j<l.length:=by simpa using h4
  obtain⟨s,hs,hdr⟩:=Xt hj;have hse:=Q4 hs;rw[hdr]at e3 e4 e6;simp only[Qb,X0l]at e3 e4 e6;have ho:=hone s (N4 hs);clear hone;obtain⟨o,c,v,n,⟨tq,tn,tk⟩,sa,sb,bs⟩:=s;simp only[St.enc,Tm.enc,List.cons_append,List.nil_append]at hse;have hjn:j+1<=l.length:=hj;clear hj hs h4 hdr;refine X0<|X3<|X0<|(Xs (by simp[*,Qa];rfl) ?_);refine XC (X4M (v:=pV b) 0 rfl rfl rfl) ?_;simp only[ins,Nat.reduceLT,Nat.reduceEqDiff,Nj,Nc];refine X0<|(Xs (by simp[*,Qa];rfl) ?_);refine XC (X4L (v:=pV b) 0 rfl rfl rfl) ?_;simp only[ins,Nat.reduceLT,Nat.reduceEqDiff,Nj,Nc];refine X0<|X0<|(Xs (by simp[*,Qa];rfl) ?_);refine X3<|(Xg [0,8,9,12,13,14,23,24] (fun(x:Nat×N1)=>[(25,lit (.int .i64 x.1))]) (fun(x:Nat×N1)=>(1,.row 250 1 (QR b sl1))::(8,.box [.c (iC o),.c (iC c),.c (iC v),.c (iC n),.c (iC tq),.c (iC tn),.c (.sl 3 (Xx tk)),.c (.sl 10 (X7 sa)),.c (.sl 10 (X7 sb)),.c (.sl 1 (X9 bs))])::Wy x.2 d1) (fun(x:Nat×N1)=>x.1<=sl1.length/\XB rows1.length (sl1.drop x.1) x.2=XB rows1.length sl1 rows1/\(∀r∈x.2,r.length=4)/\x.2.length=rows1.length) (fun(x:Nat×N1)=>sl1.length - x.1) (0,rows1) ⟨Nq _,rfl,e1.four,rfl⟩ ?_ ?_)
  .exact Xw (fun n=>n) [] rfl (by simp[*,upS,X8,Qa]) (by simp[*,upS]) (by simp[upS])
  rintro⟨i,rows2⟩ ⟨g1,g2,g3,g4⟩;simp only[upS,X8,Xz]
  try simp only[X8,KN,Nat.reduceBEq,Nj,Nc,ins,Nat.reduceLT]
  simp only at g1 g2 g3 g4;refine X0<|(Xs (by simp[*,Qa];rfl) ?_);refine X0<|(X6 rfl (fun h10=>Xe ?_) (fun h10=>?_))
  ·(try simp only[BN]at h10);have hi:i<sl1.length:=by simpa using h10
   obtain⟨q,hq,hqd⟩:=Xt hi;have hqe:=X57 (b:=b) hq;rw[hqd]at g2;simp only[XB]at g2;have cq:=X6Z b rows2 d1 rows1.length q g3 (by have:=e1.lt q (N4 hq);omega);have hw:=XD hi (by omega:sl1.length<=1000000000);have hin:i+1<=sl1.length:=hi;clear hi hq h10 hqd;refine X0<|X3<|X0<|(Xs (by simp[*,Qa];rfl) ?_);refine(XJ ?_);refine RunsN.cutE 2 [] (by simp;rfl) trivial (le_refl _) ?_;refine RunsN.call (fun n=>n) (fun n=>if n=900001 then 40 else n) (by simp[gOfN,X3t,X21,catT,TV.ren,CV.ren];rfl) (.inr ⟨rfl,rfl⟩) (QP (by simp[rbB,Wl,Qz,CV.ren]) (by simp) (by simp) (by simp[rbB,Wl,Qz,CV.ren]) (by simp[rbB,Wl,Qz,CV.ren])) (fun _ _=>QP (by simp[rbB,Wl,Qz,CV.ren]) (by simp) (by simp) (by simp[rbB,Wl,Qz,CV.ren]) (by simp[rbB,Wl,Qz,CV.ren])) cq (fun _ _=>rfl) fun _ _=>?_;refine RunsN.doneE [] (by simp;rfl) trivial ?_;refine(Xs (by simp[*,Qa];rfl) ?_);exact⟨(i+1,X0M rows2 q rows1.length),⟨hin,g2,X0d g3,(X2o ..).trans g4⟩,by simp only;omega,Xw (fun n=>if n=900001 then 40 else n) [] rfl (by simp[upS,X8, *,Qa]) (by simp[*,upS,Qa]) (by simp[upS])⟩
  try simp only[BN]at h10
  have hi:i=sl1.length:=by
   have:¬i<sl1.length:=by simpa using h10
   omega
  subst hi;rw[Nw]at g2;simp only[XB]at g2;subst g2;clear h10 g1;have hb1:=X5N (.mk o c v n (.mk tq tn tk) sa sb bs) rows1.length (XB rows1.length sl1 rows1,d1) g3 g4.symm;have hb2:=X9Y (.mk o c v n (.mk tq tn tk) sa sb bs) rows1.length (XB rows1.length sl1 rows1,d1);have cq:=ho rows1.length (XB rows1.length sl1 rows1) d1 g3 g4.symm (by omega) e5 (by omega);obtain⟨⟨⟨rows3,d3⟩,sl3⟩,hx⟩:∃x,Zf (.mk o c v n (.mk tq tn tk) sa sb bs) rows1.length (XB rows1.length sl1 rows1,d1)=x:=⟨_,rfl⟩;simp only[hx]at e3 hb1 hb2 cq;obtain⟨b1,b2,b3,b4,b5⟩:=hb1;rw[g4]at b2 b3;have hw:=XD (show j<l.length by omega) (by omega:l.length<=1000000000);clear ho hx e1 hse g3 g4;refine(Xi ?_);refine(XJ ?_);refine RunsN.cutE 3 [] (by simp;rfl) trivial (le_refl _) ?_;refine RunsN.call (fun n=>n) (fun n=>if n=900001 then 40 else if n=1 then 41 else n) (by simp[gOfN,X3t,X21,catT,TV.ren,CV.ren];rfl) (.inr ⟨rfl,rfl⟩) (QP (by simp[rbB,Wl,Qz,CV.ren]) (by simp) (by simp) (by simp[rbB,Wl,Qz,CV.ren]) (by simp[rbB,Wl,Qz,CV.ren])) (fun _ _=>QP (by simp[rbB,Wl,Qz,CV.ren]) (by simp) (by simp) (by simp[rbB,Wl,Qz,CV.ren]) (by simp[rbB,Wl,Qz,CV.ren])) cq (fun _ _=>rfl) fun _ _=>?_;refine RunsN.doneE [] (by simp;rfl) trivial ?_;refine(Xs (by simp[*,Qa];rfl) ?_);exact⟨(j+1,sl3,rows3,d3),⟨b1,by simp only;omega,hjn,e3,by simp only;omega,by simp only at b4⊢;omega,by simp only at b5⊢;omega⟩,by simp only;omega,Xw (fun n=>if n=900001 then 40 else if n=1 then 41 else n) [] rfl (by simp[upS,X8, *,Qa]) (by simp[*,upS,Qa]) (by simp[upS])⟩
 try simp only[BN]at h4
 have hj:j=l.length:=by
  have:¬j<l.length:=by simpa using h4
  omega
 subst hj;rw[Nw]at e3;simp only[Qb]at e3;subst e3;clear h4 hone;refine(Xi ?_);refine X0<|(Xs (by simp[*,Qa];rfl) ?_);exact XZ ⟨.inr rfl,(),trivial,_,le_refl _,⟨[.one (.own 1)],by simp,rfl⟩,fun n o h=>h⟩
end Go.Proofs.YtdajceakaakdoaaGreat
