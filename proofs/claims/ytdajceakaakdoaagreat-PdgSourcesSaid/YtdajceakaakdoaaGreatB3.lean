/- Contracts of functions and plain facts about what they compute. Conditions: as each theorem states. -/
import Derived.Test.YtdajceakaakdoaaGreatB1
set_option linter.unusedSimpArgs false
set_option linter.unusedVariables false
set_option linter.unnecessarySimpa false
set_option maxRecDepth 100000
set_option maxHeartbeats 2000000
namespace Go.Proofs.YtdajceakaakdoaaGreat
open Go Go.Hl
open Tryz(prog)
theorem takeM {T Y:Type} (f:T->Y) (l:List T):(l.map f).take l.length=l.map f:=by
 rw[List.take_of_length_le (by simp)]
def X1t (b:Int×Int):Int:=if b.1<0 then mn (b.1+1) 0 else 0
def X5c (b:Int×Int):Int:=if 0<b.2 then mx (b.2 - 1) 0 else 0
@[simp] def g2 (k:List (Int×Int)) (i:Nat):Int×Int:=k[i]?.getD ((0:Int),(0:Int))
def QM (vars:List Vr) (o n:Int) (k:List (Int×Int)):Int×Int:=
 if o=0 then(n,n)else if o=24 then(match vars[n.toNat]? with|some v=>(v.low,v.high)|none=>(0,0))
 else if o=6 then(-(g2 k 0).2,-(g2 k 0).1)
 else if o=8 then((g2 k 0).1+(g2 k 1).1,(g2 k 0).2+(g2 k 1).2)
 else if o=9 then((g2 k 0).1 - (g2 k 1).2,(g2 k 0).2 - (g2 k 1).1)
 else if o=10 then mulP (g2 k 0) (g2 k 1)
 else if o=11 then(if 0<=(g2 k 0).1/\0<=(g2 k 1).1 then(0,mx (g2 k 0).2 (-(g2 k 0).1))else(-(mx (g2 k 0).2 (-(g2 k 0).1)),mx (g2 k 0).2 (-(g2 k 0).1)))
 else if o=12 then(X1t (g2 k 1),X5c (g2 k 1))
 else if o=21 then(mn (g2 k 0).1 (g2 k 1).1,mn (g2 k 0).2 (g2 k 1).2)
 else if o=22 then(mx (g2 k 0).1 (g2 k 1).1,mx (g2 k 0).2 (g2 k 1).2)
 else if o=23\/o=25 then X2s (k.drop 2) (g2 k 1)else(0,1)
theorem kid {k:List (Int×Int)} (hk:∀p∈k,bnd p) {i:Nat} (h:i+1<=k.length):∃a1 a2,k[i]? =some (a1,a2)∧-1048576<=a1/\a1<=a2/\a2<=1048576:=by
 have:k[i]? =some k[i]:=by simp[show i<k.length from h]
 have h2:=hk k[i] (DA _);exact⟨k[i].1,k[i].2,this,h2⟩
theorem X3d {vars:List Vr} {inp:Bool} {o n:Int} {len:Nat} (h:Qi vars inp o n len=true):0<=(Qp o).1/\(Qp o).1<=len/\(len:Int)<=(Qp o).2:=by
 unfold Qi at h;simp only[N4,Nw,Nj]at h;omega
theorem X5N {vars:List Vr} {inp:Bool} {n:Int} {len:Nat} (h:Qi vars inp 24 n len=true):0<=n/\∃v,vars[n.toNat]? =some v/\(inp=true->v.kind≠0):=by
 unfold Qi ZX at h;simp only[N4,Int.reduceEq,Nc,Nf,N6]at h;obtain⟨_,h0,h⟩:=h;refine⟨h0,?_⟩;split at h
 .rename_i v hv;refine⟨v,hv,fun hi hk=>?_⟩;simp[hi,hk]at h
 cases h
theorem kids1 {o:Int} (h:o=6\/o=7):Qp o=(1,1):=by
 unfold Qp;rw[N7 (by omega),Na h]
theorem kids2 {o:Int} (h:8<=o/\o<=22):Qp o=(2,2):=by
 unfold Qp;rw[N7 (by omega),N7 (by omega),Na h]
theorem kids3:Qp 23=(3,3):=by decide
theorem kids4:Qp 25=(2,33):=by decide
theorem X8K (vars:List Vr) (inp:Bool) (o n:Int) (K:CD) (k:List (Int×Int)) (hf:Qi vars inp o n k.length=true) (hk:∀p∈k,bnd p) (d:Nat):
  Con prog 249 true [lV vars,.agg [.c (iC o),.c (iC n),.c K],.one (.c (.sl 2 (X1r k)))] (.v (aP (QM vars o n k))) none d:=by
 have har:=X3d hf;have hrf:o=24->0<=n/\∃v,vars[n.toNat]? =some v/\(inp=true->v.kind≠0):=fun h=>X5N (by rw[<-h];exact hf);clear hf;have ar1:o=6->0+1<=k.length:=fun h=>by have:=kids1 (.inl h);rw[this]at har;simp only at har;omega
 have ar2:8<=o/\o<=22->0+1<=k.length/\1+1<=k.length:=fun h=>by have:=kids2 h;rw[this]at har;simp only at har;omega
 have ar3:o=23\/o=25->2<=k.length/\k.length<=33:=fun h=>by
  rcases h with h|h
  .have:=kids3;rw[h,this]at har;simp only at har;omega
  have:=kids4;rw[h,this]at har;simp only at har;omega
 clear har;refine X6 Tryz.func249 ?_;simp only[Tryz.f249];refine X1 ?_;refine X0<|X0<|X2 ?_;refine X3<|X0<|X2 ?_;refine(X8 rfl (fun h3=>?_) (fun h3=>?_))
 ·(try simp only[BN]at h3);refine X1 ?_;exact(Xf (he:=by first|rfl|(simp[*,QM];done)|(simp only[XL,QM];(repeat' split)<;>first|rfl|(exfalso;omega)|simp_all)))
 (try simp only[BN]at h3);refine X1 ?_;refine(X8 rfl (fun h7=>?_) (fun h7=>?_))
 ·(try simp only[BN]at h7);obtain⟨hn0,v,hv,_⟩:=hrf h7;clear hrf;refine X0<|(N0 ?_);exact(Xf (he:=by first|rfl|(simp[*,QM];done)|(simp only[XL,QM];(repeat' split)<;>first|rfl|(exfalso;omega)|simp_all)))
 (try simp only[BN]at h7);refine X1 ?_;refine(X8 rfl (fun h11=>?_) (fun h11=>?_))
 ·(try simp only[BN]at h11);obtain⟨a1,a2,ha,hb1,hb2,hb3⟩:=kid hk (ar1 h11);have hw1:IntKind.i64.wrap (-a1)=-a1:=X9;have hw2:IntKind.i64.wrap (-a2)=-a2:=X9;clear ar1 ar2 ar3;refine X0<|(N0 ?_);exact(Xf (he:=by first|rfl|(simp[*,QM];done)|(simp only[XL,QM];(repeat' split)<;>first|rfl|(exfalso;omega)|simp_all)))
 (try simp only[BN]at h11);refine X1 ?_;refine(X8 rfl (fun h15=>?_) (fun h15=>?_))
 ·(try simp only[BN]at h15);obtain⟨a1,a2,ha,hb1,hb2,hb3⟩:=kid hk (ar2 (by omega)).1;obtain⟨c1,c2,hc,hc1,hc2,hc3⟩:=kid hk (ar2 (by omega)).2;have hw1:IntKind.i64.wrap (a1+c1)=a1+c1:=X9;have hw2:IntKind.i64.wrap (a2+c2)=a2+c2:=X9;clear ar1 ar2 ar3;refine X0<|(N0 ?_);exact(Xf (he:=by first|rfl|(simp[*,QM];done)|(simp only[XL,QM];(repeat' split)<;>first|rfl|(exfalso;omega)|simp_all)))
 (try simp only[BN]at h15);refine X1 ?_;refine(X8 rfl (fun h19=>?_) (fun h19=>?_))
 ·(try simp only[BN]at h19);obtain⟨a1,a2,ha,hb1,hb2,hb3⟩:=kid hk (ar2 (by omega)).1;obtain⟨c1,c2,hc,hc1,hc2,hc3⟩:=kid hk (ar2 (by omega)).2;have hw1:IntKind.i64.wrap (a1 - c2)=a1 - c2:=X9;have hw2:IntKind.i64.wrap (a2 - c1)=a2 - c1:=X9;clear ar1 ar2 ar3;refine X0<|(N0 ?_);exact(Xf (he:=by first|rfl|(simp[*,QM];done)|(simp only[XL,QM];(repeat' split)<;>first|rfl|(exfalso;omega)|simp_all)))
 (try simp only[BN]at h19);refine X1 ?_;refine(X8 rfl (fun h23=>?_) (fun h23=>?_))
 ·(try simp only[BN]at h23);obtain⟨a1,a2,ha,hb1,hb2,hb3⟩:=kid hk (ar2 (by omega)).1;obtain⟨c1,c2,hc,hc1,hc2,hc3⟩:=kid hk (ar2 (by omega)).2;clear ar1 ar2 ar3;refine X0<|(QC [⟨true,.v (aP (mulP (a1,a2) (c1,c2))),none⟩] (by kernel_rfl) (by kernel_rfl) (by rfl) (by simp[*];first|exact⟨rfl,Iff.rfl⟩|exact⟨rfl,trivial⟩|rfl) ?_ ?_)
  .first|exact X4S (a1,a2) (c1,c2) ⟨hb1,hb2,hb3⟩ ⟨hc1,hc2,hc3⟩ _|exact trivial|simpa[*]using X4S (a1,a2) (c1,c2) ⟨hb1,hb2,hb3⟩ ⟨hc1,hc2,hc3⟩ _
  exact(Xf (he:=by first|rfl|(simp[*,QM];done)|(simp only[XL,QM];(repeat' split)<;>first|rfl|(exfalso;omega)|simp_all)))
 (try simp only[BN]at h23);refine X1 ?_;refine(X8 rfl (fun h27=>?_) (fun h27=>?_))
 ·(try simp only[BN]at h27);obtain⟨a1,a2,ha,hb1,hb2,hb3⟩:=kid hk (ar2 (by omega)).1;obtain⟨c1,c2,hc,hc1,hc2,hc3⟩:=kid hk (ar2 (by omega)).2;have hw1:IntKind.i64.wrap (-a1)=-a1:=X9;have hm:-1048576<=mx a2 (-a1)/\mx a2 (-a1)<=1048576:=by unfold mx;split<;>omega
  have hw2:IntKind.i64.wrap (-(mx a2 (-a1)))=-(mx a2 (-a1)):=X9;have hmx:(if a2< -a1 then -a1 else a2)=mx a2 (-a1):=rfl;clear ar1 ar2 ar3;refine X0<|(N0 ?_);refine X0<|X0<|X2 ?_;refine(Xc rfl (fun h30=>?_) fun h30=>?_)
  ·(try simp only[BN]at h30);refine X1 ?_;exact(Xf (he:=by first|rfl|(simp[*,QM];done)|(simp only[XL,QM];(repeat' split)<;>first|rfl|(exfalso;omega)|simp_all)))
  (try simp only[BN]at h30);have hng:¬(0<=a1/\0<=c1):=by omega
  refine X1 ?_;exact(Xf (he:=by first|rfl|(simp[*,QM];done)|(simp only[XL,QM];(repeat' split)<;>first|rfl|(exfalso;omega)|simp_all)))
 (try simp only[BN]at h27);refine X1 ?_;refine(X8 rfl (fun h36=>?_) (fun h36=>?_))
 ·(try simp only[BN]at h36);obtain⟨c1,c2,hc,hc1,hc2,hc3⟩:=kid hk (ar2 (by omega)).2;have hw1:IntKind.i64.wrap (c1+1)=c1+1:=X9;have hw2:IntKind.i64.wrap (c2 - 1)=c2 - 1:=X9;have hmn:(if 0<c1+1 then 0 else c1+1)=mn (c1+1) 0:=rfl;have hmx:(if c2 - 1<0 then 0 else c2 - 1)=mx (c2 - 1) 0:=rfl;clear ar1 ar2 ar3;refine X1 ?_;refine(XM [2,6,8] (fun(z:Int)=>[]) (fun(z:Int)=>[(6,.box [.c (iC 0),.c (iC 0)]),(8,.box [.c (iC z),.c (iC 0)])]) (fun(z:Int)=>z=X1t (c1,c2)) ?_ ?_)
  ·
   refine X1 ?_;refine(Xc rfl (fun h40=>?_) fun h40=>?_)
   ·(try simp only[BN]at h40);have hml:mn (c1+1) 0=X1t (c1,c2):=by simp only[X1t];rw[Na h40]
    refine X2 ?_;exact⟨X1t (c1,c2),rfl,X4 (fun n=>n) []⟩
   (try simp only[BN]at h40);have hml:(0:Int)=X1t (c1,c2):=by simp only[X1t];rw[N7 h40]
   exact⟨X1t (c1,c2),rfl,X4 (fun n=>n) []⟩
  rintro _ rfl;simp only[upS,X5,Xy]
  try simp only[X5,KN,Nat.reduceBEq,Nf,Nc,ins,Nat.reduceLT]
  refine X0<|X0<|X2 ?_;refine(Xc rfl (fun h45=>?_) fun h45=>?_)
  ·(try simp only[BN]at h45);have hmh:mx (c2 - 1) 0=X5c (c1,c2):=by simp only[X5c];rw[Na h45]
   refine X2 ?_;refine X1 ?_;exact(Xf (he:=by first|rfl|(simp[*,QM];done)|(simp only[XL,QM];(repeat' split)<;>first|rfl|(exfalso;omega)|simp_all)))
  (try simp only[BN]at h45);have hmh:X5c (c1,c2)=0:=by simp only[X5c];rw[N7 h45]
  refine X1 ?_;exact(Xf (he:=by first|rfl|(simp[*,QM];done)|(simp only[XL,QM];(repeat' split)<;>first|rfl|(exfalso;omega)|simp_all)))
 (try simp only[BN]at h36);refine X1 ?_;refine(X8 rfl (fun h52=>?_) (fun h52=>?_))
 ·(try simp only[BN]at h52);obtain⟨a1,a2,ha,hb1,hb2,hb3⟩:=kid hk (ar2 (by omega)).1;obtain⟨c1,c2,hc,hc1,hc2,hc3⟩:=kid hk (ar2 (by omega)).2;clear ar1 ar2 ar3;refine X0<|(N0 ?_);exact(Xf (he:=by simp[*,QM,XL,mn]))
 (try simp only[BN]at h52);refine X1 ?_;refine(X8 rfl (fun h56=>?_) (fun h56=>?_))
 ·(try simp only[BN]at h56);obtain⟨a1,a2,ha,hb1,hb2,hb3⟩:=kid hk (ar2 (by omega)).1;obtain⟨c1,c2,hc,hc1,hc2,hc3⟩:=kid hk (ar2 (by omega)).2;clear ar1 ar2 ar3;refine X0<|(N0 ?_);exact(Xf (he:=by simp[*,QM,XL,mx]))
 (try simp only[BN]at h56);refine(XM [2,6] (fun(z:Bool)=>[(200,.v (lb z))]) (fun(z:Bool)=>[(6,.box [.c (iC 0),.c (iC 0)])]) (fun(z:Bool)=>z=decide (o=23\/o=25)) ?_ ?_)
 ·
  refine X1 ?_;refine(X8 rfl (fun h61=>Xb ?_) (fun h61=>?_))
  ·(try simp only[BN]at h61);exact⟨true,by simp[h61],X4 (fun n=>n) []⟩
  (try simp only[BN]at h61);refine X2 ?_;exact⟨decide (o=25),by simp[h61],X4 (fun n=>n) []⟩
 rintro z hz;simp only[upS,X5,Xy]
 try simp only[X5,KN,Nat.reduceBEq,Nf,Nc,ins,Nat.reduceLT]
 subst hz;obtain⟨res,hres⟩:∃r,QM vars o n k=r:=⟨_,rfl⟩;rw[hres];simp only[QM,h3,h7,h11,h15,h19,h23,h27,h36,h52,h56,Nc]at hres;refine(Xc rfl (fun h65=>?_) fun h65=>?_)
 ·(try simp only[BN]at h65);have h2:=ar3 h65;rw[Na h65]at hres;clear ar1 ar2 ar3 h65;rcases k with _|⟨a,_|⟨c,r⟩⟩
  .simp at h2
  .simp at h2
  have hr33:r.length<=31:=by simp only[List.length_cons]at h2;omega
  clear h2;simp at hres;refine X0<|(Xp (by simp[*,X1r];rfl) ?_);refine X0<|X0<|(Xp (by simp[*,X1r,takeM];rfl) ?_);refine X3<|(Xd [6,9,207,208] (fun(x:Nat×Int×Int)=>[(209,.v (li x.1))]) (fun x=>[(6,.box [.c (iC 0),.c (iC 0)]),(9,.box [.c (iC x.2.1),.c (iC x.2.2)])]) (fun x=>x.1<=r.length/\X2s (r.drop x.1) x.2=res) (fun x=>r.length - x.1) (0,c) ⟨Nq _,hres⟩ ?_ ?_)
  .exact X4 (fun n=>n) []
  rintro⟨k,m,q⟩ ⟨hk',hJ⟩;simp only[upS,X5,Xy]
  try simp only[X5,KN,Nat.reduceBEq,Nf,Nc,ins,Nat.reduceLT]
  simp only at hk' hJ;clear hres;refine X1 ?_;refine X0<|(X8 rfl (fun h70=>Xb ?_) (fun h70=>?_))
  ·(try simp only[BN]at h70);have hlt:k<r.length:=by omega
   obtain⟨⟨e1,e2⟩,he,hd⟩:=Xu hlt;have hw1:=XE hlt (by omega);rw[hd]at hJ;simp only[X2s]at hJ;have hk1:k+1<=r.length:=hlt;clear hlt h70;refine X0<|X3<|X0<|X2 ?_;refine(Xo [⟨true,.v (aP (Zu (m,q) (e1,e2))),none⟩] ?_ ?_)
   .first|exact X3Q (m,q) (e1,e2) _|exact trivial|simpa[*]using X3Q (m,q) (e1,e2) _
   refine X2 ?_;exact⟨(k+1,Zu (m,q) (e1,e2)),⟨hk1,hJ⟩,by simp only;omega,X4 (fun n=>n) []⟩
  (try simp only[BN]at h70);have hkl:k=r.length:=by omega
  rw[hkl,Nt]at hJ;simp only[X2s]at hJ;refine(Xg ?_);refine X1 ?_;exact(Xf (he:=by subst hJ;rfl))
 (try simp only[BN]at h65);rw[N7 h65]at hres;subst hres;refine X1 ?_;exact(Xf (he:=by first|rfl|(simp[*,QM];done)|(simp only[XL,QM];(repeat' split)<;>first|rfl|(exfalso;omega)|simp_all)))
theorem X9f (b:Int×Int) (hb:-1048576<=b.1/\b.1<=b.2/\b.2<=1048576) (d:Nat):Con prog 213 true [li b.1,li b.2] (.tup [li (X1t b),li (X5c b)]) none d:=by
 obtain⟨c1,c2⟩:=b;simp only at hb;have hw1:IntKind.i64.wrap (c1+1)=c1+1:=X9;have hw2:IntKind.i64.wrap (c2 - 1)=c2 - 1:=X9;refine X6 Tryz.func213 ?_;simp only[Tryz.f213];refine X1 ?_;refine X1 ?_;refine(XM [1,7] (fun(z:Int)=>[(6,.v (li z))]) (fun(z:Int)=>[]) (fun(z:Int)=>z=X1t (c1,c2)) ?_ ?_)
 ·
  refine X1 ?_;refine(Xc rfl (fun h4=>?_) fun h4=>?_)
  ·(try simp only[BN]at h4);have hml:mn 0 (c1+1)=X1t (c1,c2):=by simp only[X1t];rw[Na h4];unfold mn;(repeat' split)<;>omega
   refine(Xo [⟨true,.v (li (mn 0 (c1+1))),none⟩] ?_ ?_)
   .first|exact Q1 0 (c1+1) _|exact trivial|simpa[*]using Q1 0 (c1+1) _
   exact⟨X1t (c1,c2),rfl,X4 (fun n=>n) []⟩
  (try simp only[BN]at h4);have hml:(0:Int)=X1t (c1,c2):=by simp only[X1t];rw[N7 h4]
  exact⟨X1t (c1,c2),rfl,X4 (fun n=>n) []⟩
 rintro _ rfl;simp only[upS,X5,Xy]
 try simp only[X5,KN,Nat.reduceBEq,Nf,Nc,ins,Nat.reduceLT]
 refine X0<|X0<|X2 ?_;refine(Xc rfl (fun h9=>?_) fun h9=>?_)
 ·(try simp only[BN]at h9);have hmh:mx 0 (c2 - 1)=X5c (c1,c2):=by simp only[X5c];rw[Na h9];unfold mx;(repeat' split)<;>omega
  refine(Xo [⟨true,.v (li (mx 0 (c2 - 1))),none⟩] ?_ ?_)
  .first|exact Qw 0 (c2 - 1) _|exact trivial|simpa[*]using Qw 0 (c2 - 1) _
  refine X1 ?_;exact Xf
 (try simp only[BN]at h9);have hmh:X5c (c1,c2)=0:=by simp only[X5c];rw[N7 h9]
 refine X1 ?_;exact Xf
def X5b (k:List (Int×Int)):List (List CD):=k.map fun p=>[iC p.1]
def X1o (k:List (Int×Int)):List (List CD):=k.map fun p=>[iC p.2]
@[simp] theorem lows_nil:X5b []=[]:=rfl
@[simp] theorem highs_nil:X1o []=[]:=rfl
@[simp] theorem len_lows (k:List (Int×Int)):(X5b k).length=k.length:=by simp[X5b]
@[simp] theorem get_lows (k:List (Int×Int)) (i:Nat):(X5b k)[i]? =k[i]?.map fun p=>[iC p.1]:=by simp[X5b]
@[simp] theorem len_highs (k:List (Int×Int)):(X1o k).length=k.length:=by simp[X1o]
@[simp] theorem get_highs (k:List (Int×Int)) (i:Nat):(X1o k)[i]? =k[i]?.map fun p=>[iC p.2]:=by simp[X1o]
def X3H (vars:List Vr) (o n:Int) (k:List (Int×Int)):Int×Int:=
 if o=0 then(if n< -1048576\/1048576<n then(-1048577,1048577)else(n,n))else QM vars o n k
theorem X8Q (vars:List Vr) (inp:Bool) (o n:Int) (K:CD) (k:List (Int×Int)) (hf:Qi vars inp o n k.length=true) (hk:∀p∈k,bnd p) (d:Nat):
  Con prog 162 true [lV vars,.agg [.c (iC o),.c (iC n),.c K],.one (.c (.sl 1 (X5b k))),.one (.c (.sl 1 (X1o k)))] (.tup [li (X3H vars o n k).1,li (X3H vars o n k).2]) none d:=by
 have har:=X3d hf;have hrf:o=24->0<=n/\∃v,vars[n.toNat]? =some v/\(inp=true->v.kind≠0):=fun h=>X5N (by rw[<-h];exact hf);clear hf;have ar1:o=6->0+1<=k.length:=fun h=>by have:=kids1 (.inl h);rw[this]at har;simp only at har;omega
 have ar2:8<=o/\o<=22->0+1<=k.length/\1+1<=k.length:=fun h=>by have:=kids2 h;rw[this]at har;simp only at har;omega
 have ar3:o=23\/o=25->2<=k.length/\k.length<=33:=fun h=>by
  rcases h with h|h
  .have:=kids3;rw[h,this]at har;simp only at har;omega
  have:=kids4;rw[h,this]at har;simp only at har;omega
 clear har;obtain⟨res,hres⟩:∃r,X3H vars o n k=r:=⟨_,rfl⟩;rw[hres];simp only[X3H,QM]at hres;refine X6 Tryz.func162 ?_;simp only[Tryz.f162];refine X1 ?_;refine X0<|X0<|X2 ?_;refine X3<|X0<|X2 ?_;refine(X8 rfl (fun h3=>?_) (fun h3=>?_))
 ·(try simp only[BN]at h3);rw[Na h3]at hres;refine X0<|X0<|X2 ?_;refine(Xc rfl (fun h5=>?_) fun h5=>?_)
  ·(try simp only[BN]at h5);rw[Na h5]at hres;subst hres;refine X1 ?_;exact Xf
  (try simp only[BN]at h5);rw[N7 (by omega)]at hres;subst hres;refine X0<|(N0 ?_);exact Xf
 (try simp only[BN]at h3);rw[N7 h3,N7 h3]at hres;refine X1 ?_;refine(X8 rfl (fun h11=>?_) (fun h11=>?_))
 ·(try simp only[BN]at h11);obtain⟨hn0,v,hv,_⟩:=hrf h11;rw[Na h11,hv]at hres;subst hres;clear hrf;refine X0<|(N0 ?_);exact Xf
 (try simp only[BN]at h11);rw[N7 h11]at hres;refine X1 ?_;refine(X8 rfl (fun h15=>?_) (fun h15=>?_))
 ·(try simp only[BN]at h15);obtain⟨a1,a2,ha,hb1,hb2,hb3⟩:=kid hk (ar1 h15);have hw1:IntKind.i64.wrap (-a1)=-a1:=X9;have hw2:IntKind.i64.wrap (-a2)=-a2:=X9;rw[Na h15]at hres;simp only[g2,ha,Option.getD_some]at hres;subst hres;clear ar1 ar2 ar3;refine X0<|(N0 ?_);exact Xf
 (try simp only[BN]at h15);rw[N7 h15]at hres;refine X1 ?_;refine(X8 rfl (fun h19=>?_) (fun h19=>?_))
 ·(try simp only[BN]at h19);obtain⟨a1,a2,ha,hb1,hb2,hb3⟩:=kid hk (ar2 (by omega)).1;obtain⟨c1,c2,hc,hc1,hc2,hc3⟩:=kid hk (ar2 (by omega)).2;have hw1:IntKind.i64.wrap (a1+c1)=a1+c1:=X9;have hw2:IntKind.i64.wrap (a2+c2)=a2+c2:=X9;rw[Na h19]at hres;simp only[g2,ha,hc,Option.getD_some]at hres;subst hres;clear ar1 ar2 ar3;refine X0<|(N0 ?_);exact Xf
 (try simp only[BN]at h19);rw[N7 h19]at hres;refine X1 ?_;refine(X8 rfl (fun h23=>?_) (fun h23=>?_))
 ·(try simp only[BN]at h23);obtain⟨a1,a2,ha,hb1,hb2,hb3⟩:=kid hk (ar2 (by omega)).1;obtain⟨c1,c2,hc,hc1,hc2,hc3⟩:=kid hk (ar2 (by omega)).2;have hw1:IntKind.i64.wrap (a1 - c2)=a1 - c2:=X9;have hw2:IntKind.i64.wrap (a2 - c1)=a2 - c1:=X9;rw[Na h23]at hres;simp only[g2,ha,hc,Option.getD_some]at hres;subst hres;clear ar1 ar2 ar3;refine X0<|(N0 ?_);exact Xf
 (try simp only[BN]at h23);rw[N7 h23]at hres;refine X1 ?_;refine(X8 rfl (fun h27=>?_) (fun h27=>?_))
 ·(try simp only[BN]at h27);obtain⟨a1,a2,ha,hb1,hb2,hb3⟩:=kid hk (ar2 (by omega)).1;obtain⟨c1,c2,hc,hc1,hc2,hc3⟩:=kid hk (ar2 (by omega)).2;rw[Na h27]at hres;simp only[g2,ha,hc,Option.getD_some]at hres;clear ar1 ar2 ar3;have hm1:=X5I ⟨hb1,by omega⟩ ⟨hc1,by omega⟩ (x:=a1) (y:=c1);have hm2:=X5I ⟨hb1,by omega⟩ ⟨by omega,hc3⟩ (x:=a1) (y:=c2);have hm3:=X5I ⟨by omega,hb3⟩ ⟨hc1,by omega⟩ (x:=a2) (y:=c1);have hm4:=X5I ⟨by omega,hb3⟩ ⟨by omega,hc3⟩ (x:=a2) (y:=c2);have hw1:IntKind.i64.wrap (a1*c1)=a1*c1:=X9;have hw2:IntKind.i64.wrap (a1*c2)=a1*c2:=X9;have hw3:IntKind.i64.wrap (a2*c1)=a2*c1:=X9;have hw4:IntKind.i64.wrap (a2*c2)=a2*c2:=X9
  have he1:mn (mn (a1*c1) (a1*c2)) (mn (a2*c1) (a2*c2))=res.1:=by
   rw[<-hres];simp only[mulP,Zu,mn];generalize a1*c1=p at*;generalize a1*c2=q at*;generalize a2*c1=r at*;generalize a2*c2=s at*
   (repeat' split)<;>omega
  have he2:mx (mx (a1*c1) (a1*c2)) (mx (a2*c1) (a2*c2))=res.2:=by
   rw[<-hres];simp only[mulP,Zu,mx];generalize a1*c1=p at*;generalize a1*c2=q at*;generalize a2*c1=r at*;generalize a2*c2=s at*
   (repeat' split)<;>omega
  clear hres hm1 hm2 hm3 hm4;refine X0<|(N0 ?_);refine Xk [⟨true,.v (li (mn (a1*c1) (a1*c2))),none⟩,⟨true,.v (li (mn (a2*c1) (a2*c2))),none⟩,⟨true,.v (li (mn (mn (a1*c1) (a1*c2)) (mn (a2*c1) (a2*c2)))),none⟩,⟨true,.v (li (mx (a1*c1) (a1*c2))),none⟩,⟨true,.v (li (mx (a2*c1) (a2*c2))),none⟩,⟨true,.v (li (mx (mx (a1*c1) (a1*c2)) (mx (a2*c1) (a2*c2)))),none⟩] ?_ ?_
  .first|exact trivial|exact trivial|(repeat' first|exact trivial|exact Q1 _ _ _|exact Q1 _ _ _|(simpa[he1]using Q1 (mn (a1*c1) (a1*c2)) (mn (a2*c1) (a2*c2)) _)|exact Qw _ _ _|exact Qw _ _ _|(simpa[he2]using Qw (mx (a1*c1) (a1*c2)) (mx (a2*c1) (a2*c2)) _)|apply And.intro)
  exact Xf
 (try simp only[BN]at h27);rw[N7 h27]at hres;refine X1 ?_;refine(X8 rfl (fun h32=>?_) (fun h32=>?_))
 ·(try simp only[BN]at h32);obtain⟨a1,a2,ha,hb1,hb2,hb3⟩:=kid hk (ar2 (by omega)).1;obtain⟨c1,c2,hc,hc1,hc2,hc3⟩:=kid hk (ar2 (by omega)).2;rw[Na h32]at hres;simp only[g2,ha,hc,Option.getD_some]at hres
  have hmm:mx (X3C a1) (X3C a2)=mx a2 (-a1):=by
   unfold mx X3C
   (repeat' split)<;>omega
  have hm:-1048576<=mx a2 (-a1)/\mx a2 (-a1)<=1048576:=by unfold mx;split<;>omega
  have hw2:IntKind.i64.wrap (-(mx a2 (-a1)))=-(mx a2 (-a1)):=X9;clear ar1 ar2 ar3;refine X0<|(QC [⟨true,.v (li (X3C a1)),none⟩,⟨true,.v (li (X3C a2)),none⟩,⟨true,.v (li (mx (X3C a1) (X3C a2))),none⟩] (by kernel_rfl) (by kernel_rfl) (by rfl) (by simp[*];first|exact⟨rfl,Iff.rfl⟩|exact⟨rfl,trivial⟩|rfl) ?_ ?_)
  .first|exact trivial|exact trivial|(repeat' first|exact trivial|exact X99 a1 (by omega) _|exact X99 a2 (by omega) _|(simpa[hmm]using Qw (X3C a1) (X3C a2) _)|apply And.intro)
  refine X0<|X0<|X2 ?_;refine(Xc rfl (fun h35=>?_) fun h35=>?_)
  ·(try simp only[BN]at h35);rw[Na h35]at hres;subst hres;refine X1 ?_;exact Xf
  (try simp only[BN]at h35);rw[N7 (by omega)]at hres;subst hres;refine X1 ?_;exact Xf
 (try simp only[BN]at h32);rw[N7 h32]at hres;refine X1 ?_;refine(X8 rfl (fun h41=>?_) (fun h41=>?_))
 ·(try simp only[BN]at h41);obtain⟨c1,c2,hc,hc1,hc2,hc3⟩:=kid hk (ar2 (by omega)).2;rw[Na h41]at hres;simp only[g2,hc,Option.getD_some]at hres;subst hres;clear ar1 ar2 ar3;refine X0<|(QC [⟨true,.tup [li (X1t (c1,c2)),li (X5c (c1,c2))],none⟩] (by kernel_rfl) (by kernel_rfl) (by rfl) (by simp[*];first|exact⟨rfl,Iff.rfl⟩|exact⟨rfl,trivial⟩|rfl) ?_ ?_)
  .first|exact X9f (c1,c2) ⟨hc1,hc2,hc3⟩ _|exact trivial|simpa[*]using X9f (c1,c2) ⟨hc1,hc2,hc3⟩ _
  exact Xf
 (try simp only[BN]at h41);rw[N7 h41]at hres;refine X1 ?_;refine(X8 rfl (fun h45=>?_) (fun h45=>?_))
 ·(try simp only[BN]at h45);obtain⟨a1,a2,ha,hb1,hb2,hb3⟩:=kid hk (ar2 (by omega)).1;obtain⟨c1,c2,hc,hc1,hc2,hc3⟩:=kid hk (ar2 (by omega)).2;rw[Na h45]at hres;simp only[g2,ha,hc,Option.getD_some]at hres;subst hres;clear ar1 ar2 ar3;refine X0<|(QC [⟨true,.v (li (mn a1 c1)),none⟩,⟨true,.v (li (mn a2 c2)),none⟩] (by kernel_rfl) (by kernel_rfl) (by rfl) (by simp[*];first|exact⟨rfl,Iff.rfl⟩|exact⟨rfl,trivial⟩|rfl) ?_ ?_)
  .first|exact⟨Q1 _ _ _,Q1 _ _ _⟩|exact trivial|(repeat' first|exact trivial|exact Q1 _ _ _|exact Q1 _ _ _|apply And.intro)
  exact Xf
 (try simp only[BN]at h45);rw[N7 h45]at hres;refine X1 ?_;refine(X8 rfl (fun h49=>?_) (fun h49=>?_))
 ·(try simp only[BN]at h49);obtain⟨a1,a2,ha,hb1,hb2,hb3⟩:=kid hk (ar2 (by omega)).1;obtain⟨c1,c2,hc,hc1,hc2,hc3⟩:=kid hk (ar2 (by omega)).2;rw[Na h49]at hres;simp only[g2,ha,hc,Option.getD_some]at hres;subst hres;clear ar1 ar2 ar3;refine X0<|(QC [⟨true,.v (li (mx a1 c1)),none⟩,⟨true,.v (li (mx a2 c2)),none⟩] (by kernel_rfl) (by kernel_rfl) (by rfl) (by simp[*];first|exact⟨rfl,Iff.rfl⟩|exact⟨rfl,trivial⟩|rfl) ?_ ?_)
  .first|exact⟨Qw _ _ _,Qw _ _ _⟩|exact trivial|(repeat' first|exact trivial|exact Qw _ _ _|exact Qw _ _ _|apply And.intro)
  exact Xf
 (try simp only[BN]at h49);rw[N7 h49]at hres;refine(XM [2,3] (fun(z:Bool)=>[(202,.v (lb z))]) (fun(z:Bool)=>[]) (fun(z:Bool)=>z=decide (o=23\/o=25)) ?_ ?_)
 ·
  refine X1 ?_;refine(X8 rfl (fun h54=>Xb ?_) (fun h54=>?_))
  ·(try simp only[BN]at h54);exact⟨true,by simp[h54],X4 (fun n=>n) []⟩
  (try simp only[BN]at h54);refine X2 ?_;exact⟨decide (o=25),by simp[h54],X4 (fun n=>n) []⟩
 rintro z hz;simp only[upS,X5,Xy]
 try simp only[X5,KN,Nat.reduceBEq,Nf,Nc,ins,Nat.reduceLT]
 subst hz;refine(Xc rfl (fun h58=>?_) fun h58=>?_)
 ·(try simp only[BN]at h58);have h2:=ar3 h58;rw[Na h58]at hres;clear ar1 ar2 ar3 h58;rcases k with _|⟨⟨a1,a2⟩,_|⟨⟨c1,c2⟩,r⟩⟩
  .simp at h2
  .simp at h2
  have hr33:r.length<=31:=by simp only[List.length_cons]at h2;omega
  clear h2;simp at hres;refine X0<|(Q7 (by kernel_rfl) (by kernel_rfl) (by rfl) (by simp[*,X5b,X1o];rfl) ?_);refine X0<|X0<|X2 ?_;refine X3<|(Xd [2,3] (fun(x:Nat×Int×Int)=>[(15,.v (li x.2.1)),(16,.v (li x.2.2)),(17,.v (li ((x.1+2:Nat):Int)))]) (fun x=>[]) (fun x=>x.1<=r.length/\X2s (r.drop x.1) x.2=res) (fun x=>r.length - x.1) (0,c1,c2) ⟨Nq _,hres⟩ ?_ ?_)
  .exact X4 (fun n=>n) []
  rintro⟨k,m,q⟩ ⟨hk',hJ⟩;simp only[upS,X5,Xy]
  try simp only[X5,KN,Nat.reduceBEq,Nf,Nc,ins,Nat.reduceLT]
  simp only at hk' hJ;clear hres;have hdec:decide (((k+2:Nat):Int)<((r.length+1+1:Nat):Int))=decide (k<r.length):=by rw[decide_eq_decide];omega
  refine X0<|X0<|(Xp (by simp[*,X5b,X1o];rfl) ?_);refine(X8 rfl (fun h63=>Xb ?_) (fun h63=>?_))
  ·(try simp only[BN]at h63);have hlt:k<r.length:=by omega
   obtain⟨⟨e1,e2⟩,he,hd⟩:=Xu hlt;have hw1:IntKind.i64.wrap ((k:Int)+2+1)=(k:Int)+1+2:=by rw[X9 (by omega) (by omega)];omega
   have htn:((k:Int)+2).toNat=k+2:=by omega
   have h02:0<=(k:Int)+2:=by omega
   rw[hd]at hJ;simp only[X2s,Zu]at hJ;have hk1:k+1<=r.length:=hlt;clear hlt h63;refine X0<|X3<|(QC [⟨true,.v (li (mn m e1)),none⟩,⟨true,.v (li (mx q e2)),none⟩] (by kernel_rfl) (by kernel_rfl) (by rfl) (by simp[*];first|exact⟨rfl,Iff.rfl⟩|exact⟨rfl,trivial⟩|rfl) ?_ ?_)
   .first|exact⟨Q1 _ _ _,Qw _ _ _⟩|exact trivial|(repeat' first|exact trivial|exact Q1 _ _ _|exact Qw _ _ _|apply And.intro)
   refine X2 ?_;exact⟨(k+1,mn m e1,mx q e2),⟨hk1,hJ⟩,by simp only;omega,X4 (fun n=>n) []⟩
  (try simp only[BN]at h63);have hkl:k=r.length:=by omega
  rw[hkl,Nt]at hJ;simp only[X2s]at hJ;refine(Xg ?_);refine X1 ?_;exact(Xf (he:=by subst hJ;rfl))
 (try simp only[BN]at h58);rw[N7 h58]at hres;subst hres;refine X1 ?_;exact Xf
end Go.Proofs.YtdajceakaakdoaaGreat
