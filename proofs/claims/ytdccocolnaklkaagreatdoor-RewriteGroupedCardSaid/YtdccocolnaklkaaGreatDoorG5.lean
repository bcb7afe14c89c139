/- Contracts of functions and plain facts about what they compute. Conditions: as each theorem states. -/
import Derived.Test.YtdccocolnaklkaaGreatDoorG3
import Derived.Test.YtdccocolnaklkaaGreatDoorG1
import Derived.Test.YtdccocolnaklkaaGreatDoorG2
set_option linter.unusedSimpArgs false
set_option linter.unusedVariables false
set_option linter.unnecessarySimpa false
set_option maxRecDepth 100000
set_option maxHeartbeats 2000000
namespace Go.Proofs.YtdccocolnaklkaaGreatDoor
open Go Go.Hl
open Tryz(prog)
theorem X6M (b:Int×Int) (hb:-1048576<=b.1/\b.1<=b.2/\b.2<=1048576) (d:Nat):Con prog 146 true [li b.1,li b.2] (.tup [li (X0r b),li (X2R b)]) none d:=by
 obtain⟨c1,c2⟩:=b;simp only at hb;have hw1:IntKind.i64.wrap (c1+1)=c1+1:=X8;have hw2:IntKind.i64.wrap (c2 - 1)=c2 - 1:=X8;refine X3 Tryz.func146 ?_;simp only[Tryz.f146];refine X1 ?_;refine X1 ?_;refine(Q0 [1,7] (fun(z:Int)=>[(6,.v (li z))]) (fun(z:Int)=>[]) (fun(z:Int)=>z=X0r (c1,c2)) ?_ ?_)
 ·
  refine X1 ?_;refine(X9 rfl (fun h4=>?_) fun h4=>?_)
  ·(try simp only[BN]at h4);have hml:mn 0 (c1+1)=X0r (c1,c2):=by simp only[X0r];rw[N9 h4];unfold mn;(repeat' split)<;>omega
   refine(Xl [⟨true,.v (li (mn 0 (c1+1))),none⟩] ?_ ?_)
   .first|exact Q3 0 (c1+1) _|exact trivial|simpa[*]using Q3 0 (c1+1) _
   exact⟨X0r (c1,c2),rfl,X5 (fun n=>n) []⟩
  (try simp only[BN]at h4);have hml:(0:Int)=X0r (c1,c2):=by simp only[X0r];rw[N6 h4]
  exact⟨X0r (c1,c2),rfl,X5 (fun n=>n) []⟩
 rintro _ rfl;simp only[upS,X7,Xy]
 try simp only[X7,KN,Nat.reduceBEq,Nd,Nb,ins,Nat.reduceLT]
 refine X0<|X0<|X2 ?_;refine(X9 rfl (fun h9=>?_) fun h9=>?_)
 ·(try simp only[BN]at h9);have hmh:mx 0 (c2 - 1)=X2R (c1,c2):=by simp only[X2R];rw[N9 h9];unfold mx;(repeat' split)<;>omega
  refine(Xl [⟨true,.v (li (mx 0 (c2 - 1))),none⟩] ?_ ?_)
  .first|exact Q8 0 (c2 - 1) _|exact trivial|simpa[*]using Q8 0 (c2 - 1) _
  refine X1 ?_;exact Xb
 (try simp only[BN]at h9);have hmh:X2R (c1,c2)=0:=by simp only[X2R];rw[N6 h9]
 refine X1 ?_;exact Xb
def X3p (k:List (Int×Int)):List (List CD):=k.map fun p=>[iC p.1]
def X0B (k:List (Int×Int)):List (List CD):=k.map fun p=>[iC p.2]
@[simp] theorem lows_nil:X3p []=[]:=rfl
@[simp] theorem highs_nil:X0B []=[]:=rfl
@[simp] theorem len_lows (k:List (Int×Int)):(X3p k).length=k.length:=by simp[X3p]
@[simp] theorem get_lows (k:List (Int×Int)) (i:Nat):(X3p k)[i]? =k[i]?.map fun p=>[iC p.1]:=by simp[X3p]
@[simp] theorem len_highs (k:List (Int×Int)):(X0B k).length=k.length:=by simp[X0B]
@[simp] theorem get_highs (k:List (Int×Int)) (i:Nat):(X0B k)[i]? =k[i]?.map fun p=>[iC p.2]:=by simp[X0B]
def X2j (vars:List Vr) (o n:Int) (k:List (Int×Int)):Int×Int:=
 if o=0 then(if n< -1048576\/1048576<n then(-1048577,1048577)else(n,n))else Qd vars o n k
theorem X78 (vars:List Vr) (inp:Bool) (o n:Int) (K:CD) (k:List (Int×Int)) (hf:XU vars inp o n k.length=true) (hk:∀p∈k,bnd p) (d:Nat):
  Con prog 122 true [lV vars,.agg [.c (iC o),.c (iC n),.c K],.one (.c (.sl 1 (X3p k))),.one (.c (.sl 1 (X0B k)))] (.tup [li (X2j vars o n k).1,li (X2j vars o n k).2]) none d:=by
 have har:=WU hf;have hrf:o=24->0<=n/\∃v,vars[n.toNat]? =some v/\(inp=true->v.kind≠0):=fun h=>X08 (by rw[<-h];exact hf);clear hf;have ar1:o=6->0+1<=k.length:=fun h=>by have:=kids1 (.inl h);rw[this]at har;simp only at har;omega
 have ar2:8<=o/\o<=22->0+1<=k.length/\1+1<=k.length:=fun h=>by have:=kids2 h;rw[this]at har;simp only at har;omega
 have ar3:o=23\/o=25->2<=k.length/\k.length<=33:=fun h=>by
  rcases h with h|h
  .have:=kids3;rw[h,this]at har;simp only at har;omega
  have:=kids4;rw[h,this]at har;simp only at har;omega
 clear har;obtain⟨res,hres⟩:∃r,X2j vars o n k=r:=⟨_,rfl⟩;rw[hres];simp only[X2j,Qd]at hres;refine X3 Tryz.func122 ?_;simp only[Tryz.f122];refine X1 ?_;refine X0<|X0<|X2 ?_;refine X4<|X0<|X2 ?_;refine(X6 rfl (fun h3=>?_) (fun h3=>?_))
 ·(try simp only[BN]at h3);rw[N9 h3]at hres;refine X0<|X0<|X2 ?_;refine(X9 rfl (fun h5=>?_) fun h5=>?_)
  ·(try simp only[BN]at h5);rw[N9 h5]at hres;subst hres;refine X1 ?_;exact Xb
  (try simp only[BN]at h5);rw[N6 (by omega)]at hres;subst hres;refine X0<|(N0 ?_);exact Xb
 (try simp only[BN]at h3);rw[N6 h3,N6 h3]at hres;refine X1 ?_;refine(X6 rfl (fun h11=>?_) (fun h11=>?_))
 ·(try simp only[BN]at h11);obtain⟨hn0,v,hv,_⟩:=hrf h11;rw[N9 h11,hv]at hres;subst hres;clear hrf;refine X0<|(N0 ?_);exact Xb
 (try simp only[BN]at h11);rw[N6 h11]at hres;refine X1 ?_;refine(X6 rfl (fun h15=>?_) (fun h15=>?_))
 ·(try simp only[BN]at h15);obtain⟨a1,a2,ha,hb1,hb2,hb3⟩:=kid hk (ar1 h15);have hw1:IntKind.i64.wrap (-a1)=-a1:=X8;have hw2:IntKind.i64.wrap (-a2)=-a2:=X8;rw[N9 h15]at hres;simp only[g2,ha,Option.getD_some]at hres;subst hres;clear ar1 ar2 ar3;refine X0<|(N0 ?_);exact Xb
 (try simp only[BN]at h15);rw[N6 h15]at hres;refine X1 ?_;refine(X6 rfl (fun h19=>?_) (fun h19=>?_))
 ·(try simp only[BN]at h19);obtain⟨a1,a2,ha,hb1,hb2,hb3⟩:=kid hk (ar2 (by omega)).1;obtain⟨c1,c2,hc,hc1,hc2,hc3⟩:=kid hk (ar2 (by omega)).2;have hw1:IntKind.i64.wrap (a1+c1)=a1+c1:=X8;have hw2:IntKind.i64.wrap (a2+c2)=a2+c2:=X8;rw[N9 h19]at hres;simp only[g2,ha,hc,Option.getD_some]at hres;subst hres;clear ar1 ar2 ar3;refine X0<|(N0 ?_);exact Xb
 (try simp only[BN]at h19);rw[N6 h19]at hres;refine X1 ?_;refine(X6 rfl (fun h23=>?_) (fun h23=>?_))
 ·(try simp only[BN]at h23);obtain⟨a1,a2,ha,hb1,hb2,hb3⟩:=kid hk (ar2 (by omega)).1;obtain⟨c1,c2,hc,hc1,hc2,hc3⟩:=kid hk (ar2 (by omega)).2;have hw1:IntKind.i64.wrap (a1 - c2)=a1 - c2:=X8;have hw2:IntKind.i64.wrap (a2 - c1)=a2 - c1:=X8;rw[N9 h23]at hres;simp only[g2,ha,hc,Option.getD_some]at hres;subst hres;clear ar1 ar2 ar3;refine X0<|(N0 ?_);exact Xb
 (try simp only[BN]at h23);rw[N6 h23]at hres;refine X1 ?_;refine(X6 rfl (fun h27=>?_) (fun h27=>?_))
 ·(try simp only[BN]at h27);obtain⟨a1,a2,ha,hb1,hb2,hb3⟩:=kid hk (ar2 (by omega)).1;obtain⟨c1,c2,hc,hc1,hc2,hc3⟩:=kid hk (ar2 (by omega)).2;rw[N9 h27]at hres;simp only[g2,ha,hc,Option.getD_some]at hres;clear ar1 ar2 ar3;have hm1:=X1x ⟨hb1,by omega⟩ ⟨hc1,by omega⟩ (x:=a1) (y:=c1);have hm2:=X1x ⟨hb1,by omega⟩ ⟨by omega,hc3⟩ (x:=a1) (y:=c2);have hm3:=X1x ⟨by omega,hb3⟩ ⟨hc1,by omega⟩ (x:=a2) (y:=c1);have hm4:=X1x ⟨by omega,hb3⟩ ⟨by omega,hc3⟩ (x:=a2) (y:=c2);have hw1:IntKind.i64.wrap (a1*c1)=a1*c1:=X8;have hw2:IntKind.i64.wrap (a1*c2)=a1*c2:=X8;have hw3:IntKind.i64.wrap (a2*c1)=a2*c1:=X8;have hw4:IntKind.i64.wrap (a2*c2)=a2*c2:=X8
  have he1:mn (mn (a1*c1) (a1*c2)) (mn (a2*c1) (a2*c2))=res.1:=by
   rw[<-hres];simp only[mulP,W3,mn];generalize a1*c1=p at*;generalize a1*c2=q at*;generalize a2*c1=r at*;generalize a2*c2=s at*
   (repeat' split)<;>omega
  have he2:mx (mx (a1*c1) (a1*c2)) (mx (a2*c1) (a2*c2))=res.2:=by
   rw[<-hres];simp only[mulP,W3,mx];generalize a1*c1=p at*;generalize a1*c2=q at*;generalize a2*c1=r at*;generalize a2*c2=s at*
   (repeat' split)<;>omega
  clear hres hm1 hm2 hm3 hm4;refine X0<|(N0 ?_);refine Xd [⟨true,.v (li (mn (a1*c1) (a1*c2))),none⟩,⟨true,.v (li (mn (a2*c1) (a2*c2))),none⟩,⟨true,.v (li (mn (mn (a1*c1) (a1*c2)) (mn (a2*c1) (a2*c2)))),none⟩,⟨true,.v (li (mx (a1*c1) (a1*c2))),none⟩,⟨true,.v (li (mx (a2*c1) (a2*c2))),none⟩,⟨true,.v (li (mx (mx (a1*c1) (a1*c2)) (mx (a2*c1) (a2*c2)))),none⟩] ?_ ?_
  .first|exact trivial|exact trivial|(repeat' first|exact trivial|exact Q3 _ _ _|exact Q3 _ _ _|(simpa[he1]using Q3 (mn (a1*c1) (a1*c2)) (mn (a2*c1) (a2*c2)) _)|exact Q8 _ _ _|exact Q8 _ _ _|(simpa[he2]using Q8 (mx (a1*c1) (a1*c2)) (mx (a2*c1) (a2*c2)) _)|apply And.intro)
  exact Xb
 (try simp only[BN]at h27);rw[N6 h27]at hres;refine X1 ?_;refine(X6 rfl (fun h32=>?_) (fun h32=>?_))
 ·(try simp only[BN]at h32);obtain⟨a1,a2,ha,hb1,hb2,hb3⟩:=kid hk (ar2 (by omega)).1;obtain⟨c1,c2,hc,hc1,hc2,hc3⟩:=kid hk (ar2 (by omega)).2;rw[N9 h32]at hres;simp only[g2,ha,hc,Option.getD_some]at hres
  have hmm:mx (X2p a1) (X2p a2)=mx a2 (-a1):=by
   unfold mx X2p
   (repeat' split)<;>omega
  have hm:-1048576<=mx a2 (-a1)/\mx a2 (-a1)<=1048576:=by unfold mx;split<;>omega
  have hw2:IntKind.i64.wrap (-(mx a2 (-a1)))=-(mx a2 (-a1)):=X8;clear ar1 ar2 ar3;refine X0<|(Xv [⟨true,.v (li (X2p a1)),none⟩,⟨true,.v (li (X2p a2)),none⟩,⟨true,.v (li (mx (X2p a1) (X2p a2))),none⟩] (by kernel_rfl) (by kernel_rfl) (by rfl) (by simp[*];first|exact⟨rfl,Iff.rfl⟩|exact⟨rfl,trivial⟩|rfl) ?_ ?_)
  .first|exact trivial|exact trivial|(repeat' first|exact trivial|exact X6Q a1 (by omega) _|exact X6Q a2 (by omega) _|(simpa[hmm]using Q8 (X2p a1) (X2p a2) _)|apply And.intro)
  refine X0<|X0<|X2 ?_;refine(X9 rfl (fun h35=>?_) fun h35=>?_)
  ·(try simp only[BN]at h35);rw[N9 h35]at hres;subst hres;refine X1 ?_;exact Xb
  (try simp only[BN]at h35);rw[N6 (by omega)]at hres;subst hres;refine X1 ?_;exact Xb
 (try simp only[BN]at h32);rw[N6 h32]at hres;refine X1 ?_;refine(X6 rfl (fun h41=>?_) (fun h41=>?_))
 ·(try simp only[BN]at h41);obtain⟨c1,c2,hc,hc1,hc2,hc3⟩:=kid hk (ar2 (by omega)).2;rw[N9 h41]at hres;simp only[g2,hc,Option.getD_some]at hres;subst hres;clear ar1 ar2 ar3;refine X0<|(Xv [⟨true,.tup [li (X0r (c1,c2)),li (X2R (c1,c2))],none⟩] (by kernel_rfl) (by kernel_rfl) (by rfl) (by simp[*];first|exact⟨rfl,Iff.rfl⟩|exact⟨rfl,trivial⟩|rfl) ?_ ?_)
  .first|exact X6M (c1,c2) ⟨hc1,hc2,hc3⟩ _|exact trivial|simpa[*]using X6M (c1,c2) ⟨hc1,hc2,hc3⟩ _
  exact Xb
 (try simp only[BN]at h41);rw[N6 h41]at hres;refine X1 ?_;refine(X6 rfl (fun h45=>?_) (fun h45=>?_))
 ·(try simp only[BN]at h45);obtain⟨a1,a2,ha,hb1,hb2,hb3⟩:=kid hk (ar2 (by omega)).1;obtain⟨c1,c2,hc,hc1,hc2,hc3⟩:=kid hk (ar2 (by omega)).2;rw[N9 h45]at hres;simp only[g2,ha,hc,Option.getD_some]at hres;subst hres;clear ar1 ar2 ar3;refine X0<|(Xv [⟨true,.v (li (mn a1 c1)),none⟩,⟨true,.v (li (mn a2 c2)),none⟩] (by kernel_rfl) (by kernel_rfl) (by rfl) (by simp[*];first|exact⟨rfl,Iff.rfl⟩|exact⟨rfl,trivial⟩|rfl) ?_ ?_)
  .first|exact⟨Q3 _ _ _,Q3 _ _ _⟩|exact trivial|(repeat' first|exact trivial|exact Q3 _ _ _|exact Q3 _ _ _|apply And.intro)
  exact Xb
 (try simp only[BN]at h45);rw[N6 h45]at hres;refine X1 ?_;refine(X6 rfl (fun h49=>?_) (fun h49=>?_))
 ·(try simp only[BN]at h49);obtain⟨a1,a2,ha,hb1,hb2,hb3⟩:=kid hk (ar2 (by omega)).1;obtain⟨c1,c2,hc,hc1,hc2,hc3⟩:=kid hk (ar2 (by omega)).2;rw[N9 h49]at hres;simp only[g2,ha,hc,Option.getD_some]at hres;subst hres;clear ar1 ar2 ar3;refine X0<|(Xv [⟨true,.v (li (mx a1 c1)),none⟩,⟨true,.v (li (mx a2 c2)),none⟩] (by kernel_rfl) (by kernel_rfl) (by rfl) (by simp[*];first|exact⟨rfl,Iff.rfl⟩|exact⟨rfl,trivial⟩|rfl) ?_ ?_)
  .first|exact⟨Q8 _ _ _,Q8 _ _ _⟩|exact trivial|(repeat' first|exact trivial|exact Q8 _ _ _|exact Q8 _ _ _|apply And.intro)
  exact Xb
 (try simp only[BN]at h49);rw[N6 h49]at hres;refine(Q0 [2,3] (fun(z:Bool)=>[(202,.v (lb z))]) (fun(z:Bool)=>[]) (fun(z:Bool)=>z=decide (o=23\/o=25)) ?_ ?_)
 ·
  refine X1 ?_;refine(X6 rfl (fun h54=>Xc ?_) (fun h54=>?_))
  ·(try simp only[BN]at h54);exact⟨true,by simp[h54],X5 (fun n=>n) []⟩
  (try simp only[BN]at h54);refine X2 ?_;exact⟨decide (o=25),by simp[h54],X5 (fun n=>n) []⟩
 rintro z hz;simp only[upS,X7,Xy]
 try simp only[X7,KN,Nat.reduceBEq,Nd,Nb,ins,Nat.reduceLT]
 subst hz;refine(X9 rfl (fun h58=>?_) fun h58=>?_)
 ·(try simp only[BN]at h58);have h2:=ar3 h58;rw[N9 h58]at hres;clear ar1 ar2 ar3 h58;rcases k with _|⟨⟨a1,a2⟩,_|⟨⟨c1,c2⟩,r⟩⟩
  .simp at h2
  .simp at h2
  have hr33:r.length<=31:=by simp only[List.length_cons]at h2;omega
  clear h2;simp at hres;refine X0<|(XQ (by kernel_rfl) (by kernel_rfl) (by rfl) (by simp[*,X3p,X0B];rfl) ?_);refine X0<|X0<|X2 ?_;refine X4<|(Xf [2,3] (fun(x:Nat×Int×Int)=>[(15,.v (li x.2.1)),(16,.v (li x.2.2)),(17,.v (li ((x.1+2:Nat):Int)))]) (fun x=>[]) (fun x=>x.1<=r.length/\WE (r.drop x.1) x.2=res) (fun x=>r.length - x.1) (0,c1,c2) ⟨Nf _,hres⟩ ?_ ?_)
  .exact X5 (fun n=>n) []
  rintro⟨k,m,q⟩ ⟨hk',hJ⟩;simp only[upS,X7,Xy]
  try simp only[X7,KN,Nat.reduceBEq,Nd,Nb,ins,Nat.reduceLT]
  simp only at hk' hJ;clear hres;have hdec:decide (((k+2:Nat):Int)<((r.length+1+1:Nat):Int))=decide (k<r.length):=by rw[decide_eq_decide];omega
  refine X0<|X0<|(XI (by simp[*,X3p,X0B];rfl) ?_);refine(X6 rfl (fun h63=>Xc ?_) (fun h63=>?_))
  ·(try simp only[BN]at h63);have hlt:k<r.length:=by omega
   obtain⟨⟨e1,e2⟩,he,hd⟩:=XF hlt;have hw1:IntKind.i64.wrap ((k:Int)+2+1)=(k:Int)+1+2:=by rw[X8 (by omega) (by omega)];omega
   have htn:((k:Int)+2).toNat=k+2:=by omega
   have h02:0<=(k:Int)+2:=by omega
   rw[hd]at hJ;simp only[WE,W3]at hJ;have hk1:k+1<=r.length:=hlt;clear hlt h63;refine X0<|X4<|(Xv [⟨true,.v (li (mn m e1)),none⟩,⟨true,.v (li (mx q e2)),none⟩] (by kernel_rfl) (by kernel_rfl) (by rfl) (by simp[*];first|exact⟨rfl,Iff.rfl⟩|exact⟨rfl,trivial⟩|rfl) ?_ ?_)
   .first|exact⟨Q3 _ _ _,Q8 _ _ _⟩|exact trivial|(repeat' first|exact trivial|exact Q3 _ _ _|exact Q8 _ _ _|apply And.intro)
   refine X2 ?_;exact⟨(k+1,mn m e1,mx q e2),⟨hk1,hJ⟩,by simp only;omega,X5 (fun n=>n) []⟩
  (try simp only[BN]at h63);have hkl:k=r.length:=by omega
  rw[hkl,Nq]at hJ;simp only[WE]at hJ;refine(Xj ?_);refine X1 ?_;exact(Xb (he:=by subst hJ;rfl))
 (try simp only[BN]at h58);rw[N6 h58]at hres;subst hres;refine X1 ?_;exact Xb
def okR (p:Int×Int):Bool:=decide (-1048576<=p.1)&&decide (p.2<=1048576)
def rgV (vars:List Vr) (o n:Int):Option (List (Int×Int))->(Int×Int)×Bool
 |none=>((0,0),false)
 |some k=>(Qd vars o n k,okR (Qd vars o n k))
def rgW (vars:List Vr) (o n:Int):Option (List (Int×Int))->(Int×Int)×Bool
 |none=>((0,0),false)
 |some k=>(X2j vars o n k,okR (X2j vars o n k))
mutual
def rgP (vars:List Vr):Tm->(Int×Int)×Bool
 | .mk o n ks=>rgV vars o n (Zg vars ks)
def Zg (vars:List Vr):List Tm->Option (List (Int×Int))
 |[]=>some []
 |t::l=>if(rgP vars t).2=true then(Zg vars l).map ((rgP vars t).1:: ·)else none
end
def rgQ (vars:List Vr):Tm->(Int×Int)×Bool
 | .mk o n ks=>rgW vars o n (Zg vars ks)
theorem X5v (vars:List Vr) (t:Tm):(rgQ vars t).2=(rgP vars t).2/\((rgP vars t).2=true->(rgQ vars t).1=(rgP vars t).1):=by
 obtain⟨o,n,ks⟩:=t;simp only[rgQ,rgP];cases Zg vars ks with
 |none=>simp[rgV,rgW]
 | some k=>
   simp only[rgV,rgW,X2j];by_cases h:o=0
   .subst h;simp only[Nd,Qd];by_cases h2:n< -1048576\/1048576<n
    .rw[N9 h2];have:okR (n,n)=false:=by simp only[okR,No,Nc];omega
     rw[this];exact⟨by decide,fun h=>by cases h⟩
    rw[N6 h2];exact⟨rfl,fun _=>rfl⟩
   simp only[N6 h];exact⟨trivial,fun _=>trivial⟩
def WX (vars:List Vr):Prop:=∀v∈vars,v.low<=v.high∧-1048576<=v.low/\v.high<=1048576
theorem X3s {p q:Int×Int} (hp:p.1<=p.2) (hq:q.1<=q.2):(W3 p q).1<=(W3 p q).2:=by
 simp only[W3,mn,mx]
 (repeat' split)<;>omega
theorem X66:∀{l:List (Int×Int)} {p:Int×Int},(∀q∈l,bnd q)->p.1<=p.2->(WE l p).1<=(WE l p).2
 |[],p,_,hp=>hp
 |q::l,p,h,hp=>X66 (l:=l) (p:=W3 p q) (fun r hr=>h r (Nu _ hr)) (X3s hp (h q (by simp)).2.1)
theorem rule_le {vars:List Vr} {inp:Bool} {o n:Int} {k:List (Int×Int)} (hv:WX vars) (hf:XU vars inp o n k.length=true) (hk:∀p∈k,bnd p):(Qd vars o n k).1<=(Qd vars o n k).2:=by
 have har:=WU hf;have hrf:o=24->0<=n/\∃v,vars[n.toNat]? =some v/\(inp=true->v.kind≠0):=fun h=>X08 (by rw[<-h];exact hf)
 have hg:∀i:Nat,(g2 k i).1<=(g2 k i).2∧-1048576<=(g2 k i).1/\(g2 k i).2<=1048576:=by
  intro i;unfold g2;cases hi:k[i]? with
  |none=>simp
  |some p=>have:=hk p (N3 hi);exact⟨this.2.1,this.1,this.2.2⟩
 have h0:=hg 0;have h1:=hg 1;unfold Qd;generalize g2 k 0=a at*;generalize g2 k 1=b at*;split
 .exact NW _
 split
 .rename_i h24;obtain⟨_,v,hv1,_⟩:=hrf h24;rw[hv1];exact(hv v (N3 hv1)).1
 split
 .simp only;omega
 split
 .simp only;omega
 split
 .simp only;omega
 split
 .unfold mulP;exact X3s (X3s (X3s (NW _) (NW _)) (NW _)) (NW _)
 split
 .simp only[mx]
  (repeat' split)<;>simp only<;>omega
 split
 .simp only[X0r,X2R,mn,mx]
  (repeat' split)<;>omega
 split
 .simp only[mn]
  (repeat' split)<;>omega
 split
 .simp only[mx]
  (repeat' split)<;>omega
 split
 .exact X66 (fun q hq=>hk q (D5 hq)) h1.1
 simp
theorem X79 {vars:List Vr}:∀{l:List Tm} {k:List (Int×Int)},Zg vars l=some k->k.length=l.length
 |[],k,h=>by simp only[Zg]at h;cases h;rfl
 | t::l,k,h=>by
   simp only[Zg]at h;split at h
   .simp only[N7]at h;obtain⟨k',h',rfl⟩:=h;simp[X79 h']
   cases h
mutual
theorem X5F {vars:List Vr} {inp:Bool} (hv:WX vars):∀(t:Tm),Qb vars inp t=true->(rgP vars t).2=true->bnd (rgP vars t).1
 | .mk o n ks,hf,h=>by
   simp only[Qb,N4]at hf;simp only[rgP]at h⊢;cases hk:Zg vars ks with
   |none=>rw[hk]at h;cases h
   | some k=>
     rw[hk]at h;simp only[rgV,okR,N4,N5]at h⊢;have hb:=X6q hv ks hf.2 k hk;have hl:=X79 hk;have:=rule_le hv (by rw[hl];exact hf.1) hb;exact⟨h.1,this,h.2⟩
theorem X6q {vars:List Vr} {inp:Bool} (hv:WX vars):∀(l:List Tm),Wb vars inp l=true->∀k,Zg vars l=some k->∀p∈k,bnd p
 |[],_,k,h,p,hp=>by simp only[Zg]at h;cases h;cases hp
 | t ::l,hf,k,h,p,hp=>by
   simp only[Wb,N4]at hf;simp only[Zg]at h;split at h
   .rename_i hok;simp only[N7]at h;obtain⟨k',h',rfl⟩:=h;rcases Np.1 hp with rfl|hp
    .exact X5F hv t hf.1 hok
    exact X6q hv l hf.2 k' h' p hp
   cases h
end
@[simp] theorem encP_snoc (a:List (Int×Int)) (r:Int×Int):X0x (a++[r])=X0x a++[[iC r.1,iC r.2]]:=by simp[X0x]
@[simp] theorem lows_snoc (a:List (Int×Int)) (r:Int×Int):X3p (a++[r])=X3p a++[[iC r.1]]:=by simp[X3p]
@[simp] theorem highs_snoc (a:List (Int×Int)) (r:Int×Int):X0B (a++[r])=X0B a++[[iC r.2]]:=by simp[X0B]
theorem X7t (vars:List Vr) (inp:Bool) (hv:WX vars) (t:Tm):Qb vars inp t=true->∀d:Nat,
  Con prog 136 true [lV vars,aT t] (.tup [aP (rgP vars t).1,lb (rgP vars t).2]) none d:=by
 induction t using Tm.ind with
 |h o n ks ih=>
 intro hf d;simp only[Qb,N4]at hf;have har:=WU hf.1
 have hlen:ks.length<=33:=by
  have:(XK o).2<=33:=by unfold XK;(repeat' split)<;>simp
  omega
 clear har;obtain⟨res,hres⟩:∃r,rgP vars (.mk o n ks)=r:=⟨_,rfl⟩;rw[hres];simp only[rgP]at hres;have ih':∀t∈ks,∀d,Con prog 136 true [lV vars,aT t] (.tup [aP (rgP vars t).1,lb (rgP vars t).2]) none d:=fun t ht d=>ih t ht (WQ hf.2 t ht) d;clear ih;refine X3 Tryz.func136 ?_;simp only[Tryz.f136];simp only[aT,Tm.enc];refine X1 ?_;refine X1 ?_;refine X0<|X0<|X2 ?_;refine X4<|(Xf [0,3,4,13,14] (fun(x:Nat×List (Int×Int))=>[(6,.v (.one (.own 1006))),(15,.v (li x.1))]) (fun(x:Nat×List (Int×Int))=>[(3,.box [.c (iC o),.c (iC n),.c (.sl 3 (XH ks))]),(4,.box [.c (iC 0),.c (iC 0)]),(1006,.row 164 2 (X0x x.2))]) (fun(x:Nat×List (Int×Int))=>x.1<=ks.length/\x.2.length=x.1/\Zg vars ks=(Zg vars (ks.drop x.1)).map (x.2++ ·)/\∀p∈x.2,bnd p) (fun(x:Nat×List (Int×Int))=>ks.length - x.1) (0,[]) ⟨Nf _,rfl,by simp,by simp⟩ ?_ ?_)
 .exact X5 (fun n=>n) [1006]
 rintro⟨k,acc⟩ ⟨hk,hal,hJ,hb⟩;simp only[upS,X7,Xy]
 try simp only[X7,KN,Nat.reduceBEq,Nd,Nb,ins,Nat.reduceLT]
 simp only at hk hal hJ hb;refine X1 ?_;refine X0<|(X6 rfl (fun h5=>Xc ?_) (fun h5=>?_))
 ·(try simp only[BN]at h5);have hlt:k<ks.length:=by omega
  obtain⟨⟨eo,en,ek⟩,he,hd⟩:=XF hlt;have he':=QP he;simp only[Tm.enc]at he';have hw1:=XB hlt (by omega);rw[hd]at hJ;simp only[Zg]at hJ;have hk1:k+1<=ks.length:=hlt;have hmem:Tm.mk eo en ek∈ks:=N3 he;have hpb:=X5F hv _ (WQ hf.2 _ hmem);have hroom:Qy (k+1) 16:=XC (by omega) (by omega);clear hlt h5;refine X0<|X4<|X0<|X2 ?_;refine Xd [⟨true,.tup [aP (rgP vars (.mk eo en ek)).1,lb (rgP vars (.mk eo en ek)).2],none⟩] ?_ ?_
  .first|exact ih' _ hmem _|exact trivial|simpa[*]using ih' _ hmem _
  refine X0<|X0<|X2 ?_;refine(X9 rfl (fun h9=>?_) fun h9=>?_)
  ·(try simp only[BN]at h9);rw[h9]at hJ;simp only[NA,Nb,Option.map_none]at hJ;rw[hJ]at hres;subst hres;refine X1 ?_;exact Xb
  (try simp only[BN]at h9);rw[N9 h9]at hJ;refine X2 ?_;refine X2 ?_
  exact⟨(k+1,acc++[(rgP vars (.mk eo en ek)).1]),⟨hk1,by simp[hal],by rw[hJ,Option.map_map];congr 1;funext z;simp,fun p hp=>by
   rcases NI.1 hp with h|h
   .exact hb p h
   simp only[Np,De,or_false]at h;rw[h]
   exact hpb h9⟩,by simp only;omega,X5 (fun n=>if n=1006 then 31 else n) []⟩
 (try simp only[BN]at h5);have hkl:k=ks.length:=by omega
 rw[hkl,Nq]at hJ;simp only[Zg,Option.map_some,Ds]at hJ;rw[hJ]at hres;subst hres;have hf1:XU vars inp o n acc.length=true:=by rw[hal,hkl];exact hf.1
 refine(Xj ?_);refine Xd [⟨true,.v (aP (Qd vars o n acc)),none⟩] ?_ ?_
 .first|exact X7l vars inp o n _ acc hf1 hb _|exact trivial|simpa[*]using X7l vars inp o n _ acc hf1 hb _
 refine X0<|(X0K [(11,11),(38,11),(42,11),(4,4)] (by kernel_rfl) (by kernel_rfl) (by rfl) (by simp[evsH,X3k,Qg, *];rfl) ?_);exact(Xb (he:=by simp[Xp,rgV,okR]))
theorem X9I (vars:List Vr) (inp:Bool) (hv:WX vars) (t:Tm):Qb vars inp t=true->∀d:Nat,
  Con prog 92 true [lV vars,aT t] (.tup [li (rgQ vars t).1.1,li (rgQ vars t).1.2,lb (rgQ vars t).2]) none d:=by
 induction t using Tm.ind with
 |h o n ks ih=>
 intro hf d;simp only[Qb,N4]at hf;have har:=WU hf.1
 have hlen:ks.length<=33:=by
  have:(XK o).2<=33:=by unfold XK;(repeat' split)<;>simp
  omega
 clear har;obtain⟨res,hres⟩:∃r,rgQ vars (.mk o n ks)=r:=⟨_,rfl⟩;rw[hres];simp only[rgQ]at hres;have ih':∀t∈ks,∀d,Con prog 92 true [lV vars,aT t] (.tup [li (rgQ vars t).1.1,li (rgQ vars t).1.2,lb (rgQ vars t).2]) none d:=fun t ht d=>ih t ht (WQ hf.2 t ht) d;clear ih;refine X3 Tryz.func92 ?_;simp only[Tryz.f92];simp only[aT,Tm.enc];refine X1 ?_;refine X1 ?_;refine X1 ?_;refine X0<|X0<|X2 ?_;refine X4<|(Xf [0,3] (fun(x:Nat×List (Int×Int))=>[(7,.v (.one (.own 1007))),(8,.v (.one (.own 1008))),(9,.v (li x.1))]) (fun(x:Nat×List (Int×Int))=>[(3,.box [.c (iC o),.c (iC n),.c (.sl 3 (XH ks))]),(1007,.row 3 1 (X3p x.2)),(1008,.row 3 1 (X0B x.2))]) (fun(x:Nat×List (Int×Int))=>x.1<=ks.length/\x.2.length=x.1/\Zg vars ks=(Zg vars (ks.drop x.1)).map (x.2++ ·)/\∀p∈x.2,bnd p) (fun(x:Nat×List (Int×Int))=>ks.length - x.1) (0,[]) ⟨Nf _,rfl,by simp,by simp⟩ ?_ ?_)
 .exact X5 (fun n=>if n=1007 then 15 else if n=1008 then 16 else n) []
 rintro⟨k,acc⟩ ⟨hk,hal,hJ,hb⟩;simp only[upS,X7,Xy]
 try simp only[X7,KN,Nat.reduceBEq,Nd,Nb,ins,Nat.reduceLT]
 simp only at hk hal hJ hb;refine X0<|X0<|X2 ?_;refine(X6 rfl (fun h6=>Xc ?_) (fun h6=>?_))
 ·(try simp only[BN]at h6);have hlt:k<ks.length:=by omega
  obtain⟨⟨eo,en,ek⟩,he,hd⟩:=XF hlt;have he':=QP he;simp only[Tm.enc]at he';have hw1:=XB hlt (by omega);rw[hd]at hJ;simp only[Zg]at hJ;have hk1:k+1<=ks.length:=hlt;have hmem:Tm.mk eo en ek∈ks:=N3 he;have hpb:=X5F hv _ (WQ hf.2 _ hmem);have hroom:Qy (k+1) 8:=XC (by omega) (by omega);rw[<-(X5v vars (.mk eo en ek)).1]at hJ hpb;clear hlt h6;refine X0<|X4<|X0<|(Xl [⟨true,.tup [li (rgQ vars (.mk eo en ek)).1.1,li (rgQ vars (.mk eo en ek)).1.2,lb (rgQ vars (.mk eo en ek)).2],none⟩] ?_ ?_)
  .first|exact ih' _ hmem _|exact trivial|simpa[*]using ih' _ hmem _
  refine X0<|X0<|X2 ?_;refine(X9 rfl (fun h9=>?_) fun h9=>?_)
  ·(try simp only[BN]at h9);rw[h9]at hJ;simp only[NA,Nb,Option.map_none]at hJ;rw[hJ]at hres;subst hres;refine X1 ?_;exact Xb
  (try simp only[BN]at h9);rw[N9 h9]at hJ;have hq2:=(X5v vars (.mk eo en ek)).2 (by rw[<-(X5v vars (.mk eo en ek)).1];exact h9);refine X1 ?_;refine X2 ?_;refine X2 ?_
  exact⟨(k+1,acc++[(rgP vars (.mk eo en ek)).1]),⟨hk1,by simp[hal],by rw[hJ,Option.map_map];congr 1;funext z;simp,fun p hp=>by
   rcases NI.1 hp with h|h
   .exact hb p h
   simp only[Np,De,or_false]at h;rw[h]
   exact hpb h9⟩,by simp only;omega,X5 (fun n=>if n=1007 then 40 else if n=1008 then 44 else n) []⟩
 (try simp only[BN]at h6);have hkl:k=ks.length:=by omega
 rw[hkl,Nq]at hJ;simp only[Zg,Option.map_some,Ds]at hJ;rw[hJ]at hres;subst hres;have hf1:XU vars inp o n acc.length=true:=by rw[hal,hkl];exact hf.1
 refine(Xj ?_);refine Xd [⟨true,.tup [li (X2j vars o n acc).1,li (X2j vars o n acc).2],none⟩] ?_ ?_
 .first|exact X78 vars inp o n _ acc hf1 hb _|exact trivial|simpa[*]using X78 vars inp o n _ acc hf1 hb _
 refine X1 ?_;exact(Xb (he:=by simp[Xp,rgW,okR]))
def ZD (vars:List Vr) (inp:Bool) (t:Tm):Int:=if Qb vars inp t=true then(if(rgP vars t).2=true then 0 else 3)else 1
theorem X4Y (vars:List Vr) (inp:Bool) (hv:WX vars) (hl:vars.length<=1000000000) (t:Tm) (hn:t.nodes<=1000000000) (d:Nat):
  Con prog 110 true [lV vars,aT t,lb inp] (.v (li (ZD vars inp t))) none d:=by
 have c1:=X9D vars inp hl t hn;have c2:=X7t vars inp hv t;obtain⟨o,n,ks⟩:=t;obtain⟨F,hF⟩:∃F,Qb vars inp (.mk o n ks)=F:=⟨_,rfl⟩;obtain⟨R,hR⟩:∃R,rgP vars (.mk o n ks)=R:=⟨_,rfl⟩;simp only[ZD,hF,hR]at c1 c2⊢;clear hF hR;refine X3 Tryz.func110 ?_;simp only[Tryz.f110];simp only[aT,Tm.enc]at c1 c2⊢;refine X1 ?_;refine X0<|X0<|(Xl [⟨true,.v (lb F),none⟩] ?_ ?_)
 .first|exact c1 _|exact trivial|simpa[*]using c1 _
 refine(X9 rfl (fun h2=>?_) fun h2=>?_)
 ·(try simp only[BN]at h2);refine X1 ?_;exact Xb
 (try simp only[BN]at h2);refine X0<|X0<|(Xl [⟨true,.tup [aP R.1,lb R.2],none⟩] ?_ ?_)
 .first|exact c2 h2 _|exact trivial|simpa[*]using c2 h2 _
 refine X1 ?_;refine(X9 rfl (fun h7=>?_) fun h7=>?_)
 ·(try simp only[BN]at h7);refine X1 ?_;exact Xb
 (try simp only[BN]at h7);refine X1 ?_;exact Xb
theorem X4v (vars:List Vr) (inp:Bool) (hv:WX vars) (hl:vars.length<=1000000000) (t:Tm) (hn:t.nodes<=1000000000) (d:Nat):
  Con prog 101 true [lV vars,aT t,lb inp] (.v (li (ZD vars inp t))) none d:=by
 have c1:=X97 vars inp hl t hn;have c2:=X9I vars inp hv t;rw[(X5v vars t).1]at c2;obtain⟨o,n,ks⟩:=t;obtain⟨F,hF⟩:∃F,Qb vars inp (.mk o n ks)=F:=⟨_,rfl⟩;obtain⟨R,hR⟩:∃R,(rgP vars (.mk o n ks)).2=R:=⟨_,rfl⟩;obtain⟨S,hS⟩:∃S,(rgQ vars (.mk o n ks)).1=S:=⟨_,rfl⟩;simp only[ZD,hF,hR,hS]at c1 c2⊢;clear hF hR hS;refine X3 Tryz.func101 ?_;simp only[Tryz.f101];simp only[aT,Tm.enc]at c1 c2⊢;refine X1 ?_;refine X0<|X0<|(Xl [⟨true,.v (lb F),none⟩] ?_ ?_)
 .first|exact c1 _|exact trivial|simpa[*]using c1 _
 refine(X9 rfl (fun h2=>?_) fun h2=>?_)
 ·(try simp only[BN]at h2);refine X1 ?_;exact Xb
 (try simp only[BN]at h2);refine Xd [⟨true,.tup [li S.1,li S.2,lb R],none⟩] ?_ ?_
 .first|exact c2 h2 _|exact trivial|simpa[*]using c2 h2 _
 refine X0<|X0<|X2 ?_;refine(X9 rfl (fun h7=>?_) fun h7=>?_)
 ·(try simp only[BN]at h7);refine X1 ?_;exact Xb
 (try simp only[BN]at h7);refine X1 ?_;exact Xb
def stC (vars:List Vr) (nh:Nat) (d c v n:Int) (t:Tm) (la lc:Nat) (bs:List Int) (last:Bool):Int:=
 if shB vars nh d v n t la lc bs last=false then 1 else if X1r d c n bs=false then 3 else ZD vars false t
def ssC (vars:List Vr) (nh:Nat):List St->Bool->Int
 |[],_=>0
 | .mk d c v n t a b bs::l,top=>
   if stC vars nh d c v n t a.length b.length bs (top&&l.isEmpty)=0 then
    (if ssC vars nh a false=0 then(if ssC vars nh b false=0 then ssC vars nh l top else ssC vars nh b false)else ssC vars nh a false)
   else stC vars nh d c v n t a.length b.length bs (top&&l.isEmpty)
mutual
def ZK:St->Bool
 | .mk _ _ _ _ _ a b bs=>decide (bs.length<=1000000000)&&(Qi a&&Qi b)
def Qi:List St->Bool
 |[]=>true
 |s::l=>ZK s&&Qi l
end
theorem X2k {l:List St} (h:Qi l=true) {s:St} (hs:s∈l):ZK s=true:=by
 induction l with
 |nil=>cases hs
 | cons x l ih=>
   simp only[Qi,N4]at h;rcases Np.1 hs with rfl|h1
   .exact h.1
   exact ih h.2 h1
theorem X54 {vars:List Vr} {nh:Nat} {d v n:Int} {t:Tm} {la lc:Nat} {bs:List Int} {last:Bool} (h:shB vars nh d v n t la lc bs last=true):(d=6->bs≠[])/\(d≠6->bs=[])/\(n<0->d=4):=by
 have hr:Z7 bs=true->1<=bs.length:=by
  intro h;unfold Z7 at h;simp only[N4,N5]at h;omega
 have hb:bs≠[]↔1<=bs.length:=by cases bs<;>simp
 have hb2:bs=[]↔bs.length=0:=by cases bs<;>simp
 rw[hb,hb2];unfold shB at h;generalize Z7 bs=R at*;generalize bs.length=nb at*
 (repeat' split at h)<;>(try simp only[N4,N5]at h)<;>(try have:=hr h.2)<;>(try cases h)<;>refine⟨fun h=>?_,fun h=>?_,fun h=>?_⟩<;>omega
theorem X5a {l:List St} {k:Nat} (h:k+1<=l.length):(l.drop (k+1)).isEmpty=decide ((k:Int)=(l.length:Int) - 1):=by
 rw[D6,Dh,List.drop_eq_nil_iff,N5];omega
def fnz (vars:List Vr) (nh:Nat):List (List St)->Int
 |[]=>0
 |x::r=>if ssC vars nh x false=0 then fnz vars nh r else ssC vars nh x false
theorem X7u (f:Fl) (hv:WX f.vars) (hl:f.vars.length<=1000000) (l:List St):Xh l<=1000000000->Qi l=true->∀(top:Bool) (d:Nat),
  Con prog 71 true [aF f,lS l,lb top] (.v (li (ssC f.vars f.hats.length l top))) none d:=by
 revert l
 apply St.lists;intro l ih hn hbn top d;have hlen:=XW l;obtain⟨res,hres⟩:∃r,ssC f.vars f.hats.length l top=r:=⟨_,rfl⟩;rw[hres];have csh:=fun s last hb=>X6c f s last (by omega) hb;obtain⟨vars,hats,body⟩:=f;simp only at hv hl hres ih csh;refine X3 Tryz.func71 ?_;simp only[Tryz.f71];simp only[aF,Fl.enc,Na,Ng];refine X1 ?_;refine X0<|X0<|X2 ?_;refine X4<|(Xf [1,2,3,13,14] (fun(x:Nat)=>[(15,.v (li x))]) (fun x=>[(3,.box [.c (.sl 5 (Xt vars)),.c (.sl 6 (Xz hats)),.c (.sl 10 (Xe body))])]) (fun x=>x<=l.length/\ssC vars hats.length (l.drop x) top=res) (fun x=>l.length - x) (0:Nat) ⟨Nf _,hres⟩ ?_ ?_)
 .exact X5 (fun n=>n) []
 rintro k ⟨hk,hJ⟩;simp only[upS,X7,Xy]
 try simp only[X7,KN,Nat.reduceBEq,Nd,Nb,ins,Nat.reduceLT]
 clear hres;refine X1 ?_;refine X0<|(X6 rfl (fun h4=>Xc ?_) (fun h4=>?_))
 ·(try simp only[BN]at h4);have hlt:k<l.length:=by omega
  obtain⟨s,he,hd⟩:=XF hlt;have hmem:s∈l:=N3 he;have hnm:=Qe hmem;have hbm:=X2k hbn hmem;have iha:=fun h h2=>(ih s hmem).1 h h2;have ihb:=fun h h2=>(ih s hmem).2 h h2;have hw1:=XB hlt (by omega);have hw2:IntKind.i64.wrap ((l.length:Int) - 1)=(l.length:Int) - 1:=X8;have hk1:k+1<=l.length:=hlt;have hla:=X5a hk1;rw[hd]at hJ;have ct:=X4Y vars false hv (by omega) s.term;have csh1:=csh s (top&&decide ((k:Int)=(l.length:Int) - 1));have cnu:=numP_con s;obtain⟨sd,sc,sv,sn,⟨so,stn,sks⟩,sa,sb,sbs⟩:=s;simp only[St.then_,St.else_,St.term,St.bounds,St.do_,St.var,St.n,St.cost]at iha ihb hnm ct csh1 cnu;simp only[ZK,N4,N5]at hbm;simp only[ssC,hla]at hJ;have ca:=iha (by omega) hbm.2.1;have cb:=ihb (by omega) hbm.2.2;have ct:=ct (by omega);have csh1:=csh1 hbm.1;have cnu:=cnu hbm.1;have he':=Qo he;simp only[St.enc,Tm.enc,List.cons_append,List.nil_append]at he';simp only[aF,Fl.enc,aS,St.enc,Tm.enc,Na,Ng,List.cons_append,List.nil_append]at csh1 ca cb cnu;have hshb:=@X54 vars hats.length sd sv sn (.mk so stn sks) sa.length sb.length sbs (top&&decide ((k:Int)=(l.length:Int) - 1));obtain⟨SH,hSH⟩:∃x,shB vars hats.length sd sv sn (.mk so stn sks) sa.length sb.length sbs (top&&decide ((k:Int)=(l.length:Int) - 1))=x:=⟨_,rfl⟩;obtain⟨NU,hNU⟩:∃x,X1r sd sc sn sbs=x:=⟨_,rfl⟩;obtain⟨TC,hTC⟩:∃x,ZD vars false (.mk so stn sks)=x:=⟨_,rfl⟩;obtain⟨SC,hSC⟩:∃x,stC vars hats.length sd sc sv sn (.mk so stn sks) sa.length sb.length sbs (top&&decide ((k:Int)=(l.length:Int) - 1))=x:=⟨_,rfl⟩;rw[hSC]at hJ;unfold stC at hSC;rw[hSH]at csh1 hshb hSC;rw[hNU]at cnu hSC;rw[hTC]at ct hSC
  have hlc2:∀x∈[sa,sb],∀d,Con prog 71 true [.agg [.c (.sl 5 (Xt vars)),.c (.sl 6 (Xz hats)),.c (.sl 10 (Xe body))],lS x,lb false] (.v (li (ssC vars hats.length x false))) none d:=by
   intro x hx;simp only[Np,De,or_false]at hx;rcases hx with rfl|rfl
   .exact ca false
   exact cb false
  have hfn:(if ssC vars hats.length sa false=0 then(if ssC vars hats.length sb false=0 then ssC vars hats.length (l.drop (k+1)) top else ssC vars hats.length sb false)else ssC vars hats.length sa false)=(if fnz vars hats.length [sa,sb]=0 then ssC vars hats.length (l.drop (k+1)) top else fnz vars hats.length [sa,sb]):=by
   simp only[fnz];by_cases h1:ssC vars hats.length sa false=0<;>by_cases h2:ssC vars hats.length sb false=0<;>simp[h1,h2]
  rw[hfn]at hJ;obtain⟨LL,hLL⟩:∃x,x=[sa,sb]:=⟨_,rfl⟩;rw[<-hLL]at hJ hlc2;obtain⟨FN,hFN⟩:∃x,fnz vars hats.length LL=x:=⟨_,rfl⟩;rw[hFN]at hJ;have hrows:LL.map (fun x=>[CD.sl 10 (Xe x)])=[[.sl 10 (Xe sa)],[.sl 10 (Xe sb)]]:=by rw[hLL];rfl
  have hL2:LL.length=2:=by rw[hLL];rfl
  clear hlt h4 iha ihb ih hmem hnm hd he hbm hSH hNU hTC ca cb hfn hLL csh hla;refine X0<|X4<|X0<|X2 ?_;refine X0<|X0<|(Xl [⟨true,.v (lb SH),none⟩] ?_ ?_)
  .first|exact csh1 _|exact trivial|simpa[*]using csh1 _
  refine(X9 rfl (fun h7=>?_) fun h7=>?_)
  ·(try simp only[BN]at h7);rw[N9 h7]at hSC;subst hSC;rw[N6 (by decide)]at hJ;subst hJ;refine X1 ?_;exact Xb
  (try simp only[BN]at h7);rw[N6 (by simp[h7])]at hSC;have hsb:=hshb h7;have cnu2:=cnu hsb.1 hsb.2.1;clear cnu hshb csh1;refine X0<|X0<|(Xl [⟨true,.v (lb NU),none⟩] ?_ ?_)
  .first|exact cnu2 _|exact trivial|simpa[*]using cnu2 _
  refine(X9 rfl (fun h11=>?_) fun h11=>?_)
  ·(try simp only[BN]at h11);rw[N9 h11]at hSC;subst hSC;rw[N6 (by decide)]at hJ;subst hJ;refine X1 ?_;exact Xb
  (try simp only[BN]at h11);rw[N6 (by simp[h11])]at hSC;subst hSC;clear cnu2 hsb;refine X0<|X0<|(Xl [⟨true,.v (li TC),none⟩] ?_ ?_)
  .first|exact ct _|exact trivial|simpa[*]using ct _
  refine X1 ?_;refine(X9 rfl (fun h16=>?_) fun h16=>?_)
  ·(try simp only[BN]at h16);rw[N6 h16]at hJ;subst hJ;refine X1 ?_;exact Xb
  (try simp only[BN]at h16);rw[N9 (by simpa using h16)]at hJ;clear ct;refine X1 ?_;refine X4<|(Xf [1,2,3,13,14,15,47,48] (fun(x:Nat)=>[(49,.v (li x))]) (fun x=>[(3,.box [.c (.sl 5 (Xt vars)),.c (.sl 6 (Xz hats)),.c (.sl 10 (Xe body))]),(47,.row 24 1 (LL.map fun x=>[CD.sl 10 (Xe x)]))]) (fun x=>x<=2/\fnz vars hats.length (LL.drop x)=FN) (fun x=>2 - x) (0:Nat) ⟨Nf _,hFN⟩ ?_ ?_)
  .exact X5 (fun n=>n) []
  rintro q ⟨hq,hJ2⟩;simp only[upS,X7,Xy]
  try simp only[X7,KN,Nat.reduceBEq,Nd,Nb,ins,Nat.reduceLT]
  clear hFN hrows;refine X1 ?_;refine X0<|(X6 rfl (fun h22=>Xc ?_) (fun h22=>?_))
  ·(try simp only[BN]at h22);have hlt2:q<LL.length:=by omega
   obtain⟨y,hy,hdy⟩:=XF hlt2;have hwq:=XB hlt2 (by omega);have hq1:q+1<=2:=by omega
   have cy:=hlc2 y (N3 hy);rw[hdy]at hJ2;simp only[fnz]at hJ2;generalize ssC vars hats.length y false=SY at*;clear hlt2 h22 hdy hlc2;refine X0<|X4<|X0<|X2 ?_;refine Xd [⟨true,.v (li SY),none⟩] ?_ ?_
   .first|exact cy _|exact trivial|simpa[*]using cy _
   refine X1 ?_;refine(X9 rfl (fun h26=>?_) fun h26=>?_)
   ·(try simp only[BN]at h26);rw[N6 h26]at hJ2;subst hJ2;rw[N6 h26]at hJ;subst hJ;refine X1 ?_;exact Xb
   (try simp only[BN]at h26);rw[N9 (by simpa using h26)]at hJ2;refine X2 ?_;exact⟨q+1,⟨hq1,hJ2⟩,by omega,X5 (fun n=>n) []⟩
  (try simp only[BN]at h22);have hq2:q=LL.length:=by omega
  rw[hq2,Nq]at hJ2;simp only[fnz]at hJ2;rw[N9 hJ2.symm]at hJ;refine(Xj ?_);refine X2 ?_;exact⟨k+1,⟨hk1,hJ⟩,by omega,X5 (fun n=>n) []⟩
 (try simp only[BN]at h4);have hkl:k=l.length:=by omega
 rw[hkl,Nq]at hJ;simp only[ssC]at hJ;subst hJ;refine(Xj ?_);refine X1 ?_;exact Xb
def QW (v:Vr):Prop:=Qp v.low v.high=false\/(v.kind≠0/\v.init≠0)\/(v.kind=0/\(v.init<v.low\/v.high<v.init))
instance (v:Vr):Decidable (QW v):=by unfold QW;exact inferInstance
def Ws (seen:List Vr) (v:Vr):Int:=
 if Zb v.name=false then 7 else if(seen.any fun w=>decide (w.name=v.name))=true then 8 else if v.kind<0\/3<v.kind then 1 else if QW v then 3 else 0
def vcs:List Vr->List Vr->Int
 |_,[]=>0
 |seen,v::l=>if Ws seen v=0 then vcs (seen++[v]) l else Ws seen v
def X1n (vars:List Vr) (kind:Int):Bool:=decide (4096<spc vars kind)||(decide (kind=3)&&decide (256<spc vars kind))
def Wy (vars:List Vr):Int:=if vcs [] vars=0 then(if([1,2,3].any (X1n vars))=true then 4 else 0)else vcs [] vars
theorem X2g:∀(l seen:List Vr),vcs seen l=0->WX l
 |[],_,_,v,hv=>by cases hv
 | w :: l,seen,h,v,hv=>by
   simp only[vcs]at h;split at h
   .rename_i h0;rcases Np.1 hv with rfl|hv
    .unfold Ws at h0;split at h0
     .cases h0
     split at h0
     .cases h0
     split at h0
     .cases h0
     split at h0
     .cases h0
     rename_i hk;unfold QW at hk
     have hb:Qp v.low v.high=true:=by
      cases hb:Qp v.low v.high with
      |true=>rfl
      |false=>exact absurd (.inl hb) hk
     simp only[Qp,N4,N5]at hb;omega
    exact X2g l _ h v hv
   rename_i h0;exact absurd h h0
def X3T (vars:List Vr):List Int->Int
 |[]=>0
 |k::l=>if X1n vars k=true then 4 else X3T vars l
theorem X4t (vars:List Vr):∀l:List Int,X3T vars l=if l.any (X1n vars)=true then 4 else 0
 |[]=>by simp[X3T]
 | k::l=>by
   simp only[X3T,List.any_cons,X4t vars l];by_cases hb:X1n vars k=true
   .simp[hb]
   simp only[Bool.not_eq_true]at hb;simp[hb]
theorem X9K (vars:List Vr) (hl:vars.length<=1000000) (d:Nat):Con prog 69 true [lV vars] (.v (li (Wy vars))) none d:=by
 obtain⟨res,hres⟩:∃r,Wy vars=r:=⟨_,rfl⟩;rw[hres];obtain⟨cd,hcd⟩:∃r,vcs [] vars=r:=⟨_,rfl⟩;have hgood:cd=0->QH vars:=fun h=>X2g vars [] (hcd.trans h);unfold Wy at hres;rw[hcd]at hres;refine X3 Tryz.func69 ?_;simp only[Tryz.f69];refine X1 ?_;refine X0<|X0<|X2 ?_;refine X4<|(Xf [0,10,11] (fun(x:Nat)=>[(12,.v (li x))]) (fun x=>[]) (fun x=>x<=vars.length/\vcs (vars.take x) (vars.drop x)=cd) (fun x=>vars.length - x) (0:Nat) ⟨Nf _,hcd⟩ ?_ ?_)
 .exact X5 (fun n=>n) []
 rintro k ⟨hk,hJ⟩;simp only[upS,X7,Xy]
 try simp only[X7,KN,Nat.reduceBEq,Nd,Nb,ins,Nat.reduceLT]
 clear hcd;refine X1 ?_;refine X0<|(X6 rfl (fun h4=>Xc ?_) (fun h4=>?_))
 ·(try simp only[BN]at h4);have hlt:k<vars.length:=by omega
  obtain⟨v,he,hd⟩:=XF hlt;have hw1:=XB hlt (by omega);have hk1:k+1<=vars.length:=hlt;have hkl:(vars.take k).length<=1000000000:=by rw[Nt];omega
  rw[hd]at hJ;simp only[vcs]at hJ;rw[<-WN he]at hJ;clear hlt h4 hgood;refine X0<|X4<|X0<|X2 ?_;refine X1 ?_;refine X4<|X0<|(Xl [⟨true,.v (lb (Zb v.name)),none⟩] ?_ ?_)
  .first|exact X1a _ _|exact trivial|simpa[*]using X1a _ _
  refine(X6 rfl (fun h8=>?_) (fun h8=>?_))
  ·(try simp only[BN]at h8);have hc:Ws (vars.take k) v=7:=by unfold Ws;rw[N9 h8]
   rw[hc,N6 (by decide)]at hJ;subst hJ;rw[N6 (by decide)]at hres;subst hres;refine X1 ?_;exact Xb
  (try simp only[BN]at h8);refine Xd [⟨true,.v (lb ((vars.take k).any fun w=>decide (w.name=v.name))),none⟩] ?_ ?_
  .first|exact X2b (vars.take k) 105 [.ptr v.enc] (fun w=>decide (w.name=v.name)) hkl (fun w _ d=>X4R w v d) _|exact trivial|simpa[*]using X2b (vars.take k) 105 [.ptr v.enc] (fun w=>decide (w.name=v.name)) hkl (fun w _ d=>X4R w v d) _
  refine(X6 rfl (fun h12=>?_) (fun h12=>?_))
  ·(try simp only[BN]at h12);have hc:Ws (vars.take k) v=8:=by unfold Ws;rw[N6 (by simp[h8]),N9 h12]
   rw[hc,N6 (by decide)]at hJ;subst hJ;rw[N6 (by decide)]at hres;subst hres;refine X1 ?_;exact Xb
  (try simp only[BN]at h12);refine X1 ?_;refine(X6 rfl (fun h16=>?_) (fun h16=>?_))
  ·(try simp only[BN]at h16);have hc:Ws (vars.take k) v=1:=by unfold Ws;rw[N6 (by simp[h8]),N6 (by simp[h12]),N9 h16]
   rw[hc,N6 (by decide)]at hJ;subst hJ;rw[N6 (by decide)]at hres;subst hres;refine X1 ?_;exact Xb
  (try simp only[BN]at h16);have hc:Ws (vars.take k) v=if QW v then 3 else 0:=by unfold Ws;rw[N6 (by simp[h8]),N6 (by simp[h12]),N6 (by omega)]
  refine(Q0 [0,10,11,12] (fun(z:Bool)=>[(38,.v (lb z))]) (fun(z:Bool)=>[]) (fun(z:Bool)=>z=decide (QW v)) ?_ ?_)
  ·
   refine Xd [⟨true,.v (lb (Qp v.low v.high)),none⟩] ?_ ?_
   .first|exact Zf _ _ _|exact trivial|simpa[*]using Zf _ _ _
   refine(X6 rfl (fun h21=>Xc ?_) (fun h21=>?_))
   ·(try simp only[BN]at h21);exact⟨true,(Nv (.inl (by simpa using h21))).symm,X5 (fun n=>n) []⟩
   (try simp only[BN]at h21);refine X1 ?_;refine(X6 rfl (fun h24=>Xc ?_) (fun h24=>?_))
   ·(try simp only[BN]at h24);exact⟨true,(Nv (.inr (.inl (by simpa using h24)))).symm,X5 (fun n=>n) []⟩
   try simp only[BN]at h24
   have hz:decide (QW v)=(decide (v.kind=0)&&(decide (v.init<v.low)||decide (v.high<v.init))):=by
    rw[D6,N5];unfold QW;simp only[N5,N4,Ni];have h21':Qp v.low v.high=true:=by simpa using h21
    rw[h21'];constructor
    .rintro(h|h|h)
     .cases h
     .exfalso;omega
     exact h
    exact fun h=>.inr (.inr h)
   clear h21 h24;refine X2 ?_;exact⟨(decide (v.kind=0)&&(decide (v.init<v.low)||decide (v.high<v.init))),hz.symm,X5 (fun n=>n) []⟩
  rintro _ rfl;simp only[upS,X7,Xy]
  try simp only[X7,KN,Nat.reduceBEq,Nd,Nb,ins,Nat.reduceLT]
  refine(X9 rfl (fun h28=>?_) fun h28=>?_)
  ·(try simp only[BN]at h28);rw[N9 h28]at hc;rw[hc,N6 (by decide)]at hJ;subst hJ;rw[N6 (by decide)]at hres;subst hres;refine X1 ?_;exact Xb
  (try simp only[BN]at h28);rw[N6 h28]at hc;rw[hc,N9 rfl]at hJ;refine X2 ?_;exact⟨k+1,⟨hk1,hJ⟩,by omega,X5 (fun n=>n) []⟩
 (try simp only[BN]at h4);have hkl:k=vars.length:=by omega
 rw[hkl,Nq]at hJ;simp only[vcs]at hJ;have hv:=hgood hJ.symm;rw[N9 hJ.symm,<-X4t]at hres;clear hgood hJ hkl hk h4;obtain⟨L,hL⟩:∃L:List Int,L=[1,2,3]:=⟨_,rfl⟩;have hL3:L.length=3:=by rw[hL];rfl
 have hLi:∀k∈L,1<=k/\k<=3:=by rw[hL];decide
 rw[<-hL]at hres;refine(Xj ?_);refine X0<|X0<|X2 ?_;refine X4<|(Xf [0,71,72] (fun(x:Nat)=>[(73,.v (li x))]) (fun x=>[(71,.row 58 1 (Xg L))]) (fun x=>x<=3/\X3T vars (L.drop x)=res) (fun x=>3 - x) (0:Nat) ⟨Nf _,hres⟩ ?_ ?_)
 .exact Qs (fun n=>n) [] rfl (by simp[*,upS,X7]) (by simp[upS,Xg,hL]) (by simp[upS])
 rintro k2 ⟨hk2,hJ2⟩;simp only[upS,X7,Xy]
 try simp only[X7,KN,Nat.reduceBEq,Nd,Nb,ins,Nat.reduceLT]
 clear hres hL;refine X1 ?_;refine X0<|(X6 rfl (fun h36=>Xc ?_) (fun h36=>?_))
 ·(try simp only[BN]at h36);have hlt:k2<L.length:=by omega
  obtain⟨kd,he,hd⟩:=XF hlt;have hw1:=XB hlt (by omega);have hk1:k2+1<=3:=by omega
  have hkd:=hLi kd (N3 he);have hsp:=X7G hv (vars.filter fun v=>decide (v.kind=kd)) 1 (fun v h=>(Dr.1 h).1) (by decide);have hsp':1<=spc vars kd/\spc vars kd<=4097:=hsp;have c:=X7B vars kd hkd hv hl;rw[hd]at hJ2;simp only[X3T]at hJ2;obtain⟨sv,hsv⟩:∃s,spc vars kd=s:=⟨_,rfl⟩;have hbk:X1n vars kd=(decide (4096<sv)||(decide (kd=3)&&decide (256<sv))):=by unfold X1n;rw[hsv]
  rw[hsv]at c hsp';clear hlt h36 hsp hsv hLi hv;refine X0<|X4<|X0<|X2 ?_;refine Xd [⟨true,.tup [li (if sv<=4096 then sv else 0),li (if sv<=4096 then 0 else 4)],none⟩] ?_ ?_
  .first|exact c _|exact trivial|simpa[*]using c _
  refine X1 ?_;refine(X9 rfl (fun h40=>?_) fun h40=>?_)
  .try simp only[BN]at h40
   have hb:X1n vars kd=true:=by
    rw[hbk];by_cases h:sv<=4096
    .simp[h]at h40;simp[h40]
    simp;omega
   rw[N9 hb]at hJ2;subst hJ2;refine X1 ?_;exact Xb
  try simp only[BN]at h40
  have hb:X1n vars kd=false:=by
   rw[hbk];by_cases h:sv<=4096
   .simp[h]at h40;simp;omega
   simp[h]at h40
  rw[hb,N6 (by decide)]at hJ2;refine X2 ?_;exact⟨k2+1,⟨hk1,hJ2⟩,by omega,X5 (fun n=>n) []⟩
 (try simp only[BN]at h36);have hkl:k2=L.length:=by omega
 rw[hkl,Nq]at hJ2;simp only[X3T]at hJ2;subst hJ2;refine(Xj ?_);refine X1 ?_;exact Xb
theorem X8x {l:List St} (h:okL l=true) {s:St} (hs:s∈l):okS s=true:=by
 induction l with
 |nil=>cases hs
 | cons x l ih=>
   simp only[okL,N4]at h;rcases Np.1 hs with rfl|h1
   .exact h.1
   exact ih h.2 h1
abbrev aB (p:B3):TV:=.agg [.c (iC p.s),.c (iC p.o),.c (iC p.t)]
theorem X8Y (l:List St):Xh l<=1000000000->okL l=true->∀d:Nat,Con prog 72 true [lS l] (.v (aB (bdL CP l ⟨0,0,0⟩))) none d:=by
 revert l
 apply St.lists;intro l ih hn hok d;have hlen:=XW l;obtain⟨res,hres⟩:∃r,bdL CP l ⟨0,0,0⟩=r:=⟨_,rfl⟩;rw[hres];refine X3 Tryz.func72 ?_;simp only[Tryz.f72];refine X0<|(XI (by simp[*,Q4,CP];rfl) ?_);refine X0<|(XI (by simp[*,Q4,CP];rfl) ?_);refine X0<|X0<|(XI (by simp[*,Q4,CP];rfl) ?_);refine X4<|(Xf [2,3,9,10] (fun(x:Nat×B3)=>[(11,.v (li x.1))]) (fun x=>[(2,.box [.c (iC 0),.c (iC 0),.c (iC 0)]),(3,.box [.c (iC x.2.s),.c (iC x.2.o),.c (iC x.2.t)])]) (fun x=>x.1<=l.length/\bdL CP (l.drop x.1) x.2=res/\in3 CP x.2) (fun x=>l.length - x.1) (0,⟨0,0,0⟩) ⟨Nf _,hres,Wq nnCP⟩ ?_ ?_)
 .exact Qs (fun n=>n) [] rfl (by simp[*,upS,X7,Q4,CP]) (by simp[*,upS]) (by simp[upS])
 rintro⟨k,⟨m1,m2,m3⟩⟩ ⟨hk,hJ,hin⟩;simp only[upS,X7,Xy]
 try simp only[X7,KN,Nat.reduceBEq,Nd,Nb,ins,Nat.reduceLT]
 simp only at hk hJ;unfold in3 CP at hin;simp only at hin;clear hres;refine X0<|(XI (by simp[*,Q4,CP];rfl) ?_);refine X0<|(X6 rfl (fun h5=>Xc ?_) (fun h5=>?_))
 ·(try simp only[BN]at h5);have hlt:k<l.length:=by omega
  obtain⟨s,he,hd⟩:=XF hlt;have hmem:s∈l:=N3 he;have hnm:=Qe hmem;have hos:=X8x hok hmem;have iha:=fun h=>(ih s hmem).1 h;have ihb:=fun h=>(ih s hmem).2 h;have hw1:=XB hlt (by omega);have hk1:k+1<=l.length:=hlt;rw[hd]at hJ;simp only[bdL]at hJ;have hsin:=X1q nnCP s hos;obtain⟨pq,hpq⟩:∃pq,bdS CP s=pq:=⟨_,rfl⟩;rw[hpq]at hJ hsin;obtain⟨sd,sc,sv,sn,⟨so,stn,sks⟩,sa,sb,sbs⟩:=s;simp only[St.then_,St.else_,St.term]at iha ihb hnm;simp only[okS,N4,Ni,N5]at hos;have ca:=iha (by omega) hos.2.2.1;have cb:=ihb (by omega) hos.2.2.2;have he':=Qo he;simp only[St.enc,Tm.enc,List.cons_append,List.nil_append]at he';simp only[bdS]at hpq;have hxa:=WR nnCP sa ⟨0,0,0⟩ hos.2.2.1 (Wq nnCP);have hxb:=WR nnCP sb ⟨0,0,0⟩ hos.2.2.2 (Wq nnCP);obtain⟨xa,hxa'⟩:∃x,bdL CP sa ⟨0,0,0⟩=x:=⟨_,rfl⟩;obtain⟨xb,hxb'⟩:∃x,bdL CP sb ⟨0,0,0⟩=x:=⟨_,rfl⟩;rw[hxa']at ca hxa hpq;rw[hxb']at cb hxb hpq;unfold in3 CP at hxa hxb;unfold nn3 at hsin;simp only at hxa hxb;obtain⟨a1,a2,a3⟩:=xa;obtain⟨b1,b2,b3⟩:=xb;obtain⟨q1,q2,q3⟩:=pq;simp only at hxa hxb hsin;have hcost:=hos.1;unfold bd1 at hpq;simp only[mx]at hpq;clear hlt h5 iha ihb ih hxa' hxb' hmem hnm hd he hos;refine X0<|X4<|X0<|(XI (by simp[*,Q4,CP];rfl) ?_);refine X0<|(XI (by simp[*,Q4,CP];rfl) ?_);refine X0<|(Xv [⟨true,.v (aB ⟨a1,a2,a3⟩),none⟩,⟨true,.v (aB ⟨b1,b2,b3⟩),none⟩] (by kernel_rfl) (by kernel_rfl) (by rfl) (by simp[*,Q4,CP];first|exact⟨rfl,Iff.rfl⟩|exact⟨rfl,trivial⟩|rfl) ?_ ?_)
  .first|exact⟨ca _,cb _⟩|exact trivial|(repeat' first|exact trivial|exact ca _|exact cb _|apply And.intro)
  refine(Q0 [2,3,6,9,10,11] (fun(z:Unit)=>[]) (fun(z:Unit)=>[(2,.box [.c (iC 0),.c (iC 0),.c (iC 0)]),(3,.box [.c (iC m1),.c (iC m2),.c (iC m3)]),(6,.box [.c (iC q1),.c (iC q2),.c (iC q3)])]) (fun(z:Unit)=>q1<=4503874505281537/\q2<=4503874505281537/\q3<=4503874505281537) ?_ ?_)
  ·
   refine X0<|(XI (by simp[*,Q4,CP];rfl) ?_);refine X4<|X0<|(XI (by simp[*,Q4,CP];rfl) ?_);refine(X6 rfl (fun h12=>?_) (fun h12=>?_))
   ·(try simp only[BN]at h12);rw[N6 (by omega),N6 (by omega),N9 h12]at hpq;simp only[B3.mk.injEq]at hpq;obtain⟨p1,p2,p3⟩:=hpq;subst p1 p2 p3;refine(XI (by simp[*,Q4,CP];rfl) ?_);exact⟨(),⟨by omega,by omega,by omega⟩,X5 (fun n=>n) []⟩
   (try simp only[BN]at h12);refine X0<|(XI (by simp[*,Q4,CP];rfl) ?_);refine(X6 rfl (fun h16=>?_) (fun h16=>?_))
   ·(try simp only[BN]at h16);rw[N6 (by omega),N9 h16]at hpq;simp only[B3.mk.injEq]at hpq;obtain⟨p1,p2,p3⟩:=hpq;have hw2:IntKind.i64.wrap (1+(if a1<b1 then b1 else a1))=q1:=by rw[<-p1];exact X8 (by split<;>omega) (by split<;>omega)
    have hw3:IntKind.i64.wrap (sc+(if a3<b3 then b3 else a3))=q3:=by rw[<-p3];exact X8 (by split<;>omega) (by split<;>omega)
    have hq:q1<=4503874505281537/\q2<=4503874505281537/\q3<=4503874505281537:=by
     rw[<-p1,<-p2,<-p3];refine⟨?_,?_,?_⟩<;>split<;>omega
    clear p1 p3;refine X0<|(XI (by simp[*,Q4,CP];rfl) ?_);refine X0<|(XI (by simp[*,Q4,CP];rfl) ?_);refine(XI (by simp[*,Q4,CP];rfl) ?_);exact⟨(),hq,X5 (fun n=>n) []⟩
   (try simp only[BN]at h16);refine X0<|(XI (by simp[*,Q4,CP];rfl) ?_);refine(X9 rfl (fun h22=>?_) fun h22=>?_)
   ·(try simp only[BN]at h22);rw[N9 h22]at hpq;simp only[B3.mk.injEq]at hpq;obtain⟨p1,p2,p3⟩:=hpq;have hnn:0<=sn/\sn<=4096:=by omega
    have m4:=mulN hnn (z:=1+a1) (by omega);have m5:=mulN hnn (z:=a2) (by omega);have m6:=mulN hnn (z:=sc+a3) (by omega);have hw2:IntKind.i64.wrap (1+a1)=1+a1:=X8;have hw3:IntKind.i64.wrap (sn*(1+a1))=sn*(1+a1):=X8;have hw4:IntKind.i64.wrap (1+sn*(1+a1))=q1:=by rw[<-p1];exact X8
    have hw5:IntKind.i64.wrap (sn*a2)=q2:=by rw[<-p2];exact X8
    have hw6:IntKind.i64.wrap (sc+a3)=sc+a3:=X8;have hw7:IntKind.i64.wrap (sn*(sc+a3))=q3:=by rw[<-p3];exact X8
    have hq:q1<=4503874505281537/\q2<=4503874505281537/\q3<=4503874505281537:=by omega
    clear p1 p2 p3 m4 m5 m6;refine X0<|(XI (by simp[*,Q4,CP];rfl) ?_);refine X0<|(XI (by simp[*,Q4,CP];rfl) ?_);refine(XI (by simp[*,Q4,CP];rfl) ?_);exact⟨(),hq,X5 (fun n=>n) []⟩
   (try simp only[BN]at h22);rw[N6 h22,N6 h16,N6 h12]at hpq;simp only[B3.mk.injEq]at hpq;obtain⟨p1,p2,p3⟩:=hpq;subst p1 p2 p3;exact⟨(),⟨by omega,by omega,by omega⟩,X5 (fun n=>n) []⟩
  rintro _ ⟨hq1,hq2,hq3⟩;simp only[upS,X7,Xy]
  try simp only[X7,KN,Nat.reduceBEq,Nd,Nb,ins,Nat.reduceLT]
  clear hpq ca cb hxa hxb;have hw2:IntKind.i64.wrap (m1+q1)=m1+q1:=X8;have hw3:IntKind.i64.wrap (m2+q2)=m2+q2:=X8;have hw4:IntKind.i64.wrap (m3+q3)=m3+q3:=X8;have hmn1:(if 1099511627776<m1+q1 then 1099511627776 else m1+q1)=mn (m1+q1) 1099511627776:=rfl;have hmn2:(if 1099511627776<m2+q2 then 1099511627776 else m2+q2)=mn (m2+q2) 1099511627776:=rfl;have hmn3:(if 1099511627776<m3+q3 then 1099511627776 else m3+q3)=mn (m3+q3) 1099511627776:=rfl;have hin2:in3 CP (Q4 CP ⟨m1,m2,m3⟩ ⟨q1,q2,q3⟩):=X2u nnCP ⟨hin.1,hin.2.2.1,hin.2.2.2.2.1⟩ ⟨hsin.1,hsin.2.1,hsin.2.2⟩;refine X0<|(XI (by simp[*,Q4,CP];rfl) ?_);refine X0<|(XI (by simp[*,Q4,CP];rfl) ?_);refine(XI (by simp[*,Q4,CP];rfl) ?_);refine(XI (by simp[*,Q4,CP];rfl) ?_);exact⟨(k+1,Q4 CP ⟨m1,m2,m3⟩ ⟨q1,q2,q3⟩),⟨hk1,hJ,hin2⟩,by simp only;omega,Qs (fun n=>n) [] rfl (by simp[upS,X7, *,Q4,CP]) (by simp[*,upS,Q4,CP]) (by simp[upS])⟩
 (try simp only[BN]at h5);have hkl:k=l.length:=by omega
 rw[hkl,Nq]at hJ;simp only[bdL]at hJ;subst hJ;refine(Xj ?_);refine X0<|(XI (by simp[*,Q4,CP];rfl) ?_);exact(Xi (fun h=>⟨.inr rfl,h⟩) _ (by simp[*,Q4,CP];rfl) (by first|rfl|(simp[*];done)|(simp only[Xp];(repeat' split)<;>first|rfl|(exfalso;omega)|simp_all)) (by simp))
theorem X38 (l:List St):Xh l<=1000000000->okL l=true->∀d:Nat,Con prog 65 true [lS l] (.tup [li (bdL CR l ⟨0,0,0⟩).s,li (bdL CR l ⟨0,0,0⟩).o,li (bdL CR l ⟨0,0,0⟩).t]) none d:=by
 revert l
 apply St.lists;intro l ih hn hok d;have hlen:=XW l;obtain⟨res,hres⟩:∃r,bdL CR l ⟨0,0,0⟩=r:=⟨_,rfl⟩;rw[hres];refine X3 Tryz.func65 ?_;simp only[Tryz.f65];refine X0<|(XI (by simp[*,Q4,CR];rfl) ?_);refine X0<|(XI (by simp[*,Q4,CR];rfl) ?_);refine X0<|X0<|(XI (by simp[*,Q4,CR];rfl) ?_);refine X4<|(Xf [0] (fun(x:Nat×B3)=>[(5,.v (li x.2.s)),(6,.v (li x.2.o)),(7,.v (li x.2.t)),(8,.v (li x.1))]) (fun x=>[]) (fun x=>x.1<=l.length/\bdL CR (l.drop x.1) x.2=res/\in3 CR x.2) (fun x=>l.length - x.1) (0,⟨0,0,0⟩) ⟨Nf _,hres,Wq X2H⟩ ?_ ?_)
 .exact Qs (fun n=>n) [] rfl (by simp[*,upS,X7,Q4,CR]) (by simp[*,upS]) (by simp[upS])
 rintro⟨k,⟨m1,m2,m3⟩⟩ ⟨hk,hJ,hin⟩;simp only[upS,X7,Xy]
 try simp only[X7,KN,Nat.reduceBEq,Nd,Nb,ins,Nat.reduceLT]
 simp only at hk hJ;unfold in3 CR at hin;simp only at hin;clear hres;refine X0<|X0<|(XI (by simp[*,Q4,CR];rfl) ?_);refine(X6 rfl (fun h5=>Xc ?_) (fun h5=>?_))
 ·(try simp only[BN]at h5);have hlt:k<l.length:=by omega
  obtain⟨s,he,hd⟩:=XF hlt;have hmem:s∈l:=N3 he;have hnm:=Qe hmem;have hos:=X8x hok hmem;have iha:=fun h=>(ih s hmem).1 h;have ihb:=fun h=>(ih s hmem).2 h;have hw1:=XB hlt (by omega);have hk1:k+1<=l.length:=hlt;rw[hd]at hJ;simp only[bdL]at hJ;have hsin:=X1q X2H s hos;obtain⟨pq,hpq⟩:∃pq,bdS CR s=pq:=⟨_,rfl⟩;rw[hpq]at hJ hsin;obtain⟨sd,sc,sv,sn,⟨so,stn,sks⟩,sa,sb,sbs⟩:=s;simp only[St.then_,St.else_,St.term]at iha ihb hnm;simp only[okS,N4,Ni,N5,Dh]at hos;have ca:=iha (by omega) hos.2.2.1;have cb:=ihb (by omega) hos.2.2.2;have he':=Qo he;simp only[St.enc,Tm.enc,List.cons_append,List.nil_append]at he';simp only[bdS]at hpq;have hxa:=WR X2H sa ⟨0,0,0⟩ hos.2.2.1 (Wq X2H);have hxb:=WR X2H sb ⟨0,0,0⟩ hos.2.2.2 (Wq X2H);obtain⟨xa,hxa'⟩:∃x,bdL CR sa ⟨0,0,0⟩=x:=⟨_,rfl⟩;obtain⟨xb,hxb'⟩:∃x,bdL CR sb ⟨0,0,0⟩=x:=⟨_,rfl⟩
  have hz:sd≠3->sd≠4->xa=⟨0,0,0⟩/\xb=⟨0,0,0⟩:=by
   intro h3 h4;rcases hos.2.1 with h|h|h
   .exact absurd h h3
   .exact absurd h h4
   rw[<-hxa',<-hxb',h.1,h.2];exact⟨rfl,rfl⟩
  rw[hxa']at ca hxa hpq;rw[hxb']at cb hxb hpq;unfold in3 CR at hxa hxb;unfold nn3 at hsin;simp only at hxa hxb;obtain⟨a1,a2,a3⟩:=xa;obtain⟨b1,b2,b3⟩:=xb;obtain⟨q1,q2,q3⟩:=pq;simp only[B3.mk.injEq]at hz;simp only at hxa hxb hsin;have hcost:=hos.1;unfold bd1 at hpq;simp only at hpq;have hmx1:0<=mx a1 b1/\mx a1 b1<=4097:=by unfold mx;split<;>omega
  have hmx2:0<=mx a2 b2/\mx a2 b2<=9:=by unfold mx;split<;>omega
  have hmx3:0<=mx a3 b3/\mx a3 b3<=67108865:=by unfold mx;split<;>omega
  have hw2:IntKind.i64.wrap (1+mx a1 b1)=1+mx a1 b1:=X8;have hw3:IntKind.i64.wrap (sc+mx a3 b3)=sc+mx a3 b3:=X8;clear hlt h5 iha ihb ih hxa' hxb' hmem hnm hd he hos;refine X0<|X4<|X0<|(XI (by simp[*,Q4,CR];rfl) ?_);refine X0<|(Wv [⟨true,.tup [li a1,li a2,li a3],none⟩] (by simp[*,Q4,CR];first|exact⟨rfl,Iff.rfl⟩|exact⟨rfl,trivial⟩|rfl) ?_ ?_)
  .first|exact ca _|exact trivial|simpa[*,Q4,CR]using ca _
  refine X0<|(Wv [⟨true,.tup [li b1,li b2,li b3],none⟩] (by simp[*,Q4,CR];first|exact⟨rfl,Iff.rfl⟩|exact⟨rfl,trivial⟩|rfl) ?_ ?_)
  .first|exact cb _|exact trivial|simpa[*,Q4,CR]using cb _
  refine X0<|(Xv [⟨true,.v (li (mx a1 b1)),none⟩,⟨true,.v (li (mx a2 b2)),none⟩,⟨true,.v (li (mx a3 b3)),none⟩] (by kernel_rfl) (by kernel_rfl) (by rfl) (by simp[*,Q4,CR];first|exact⟨rfl,Iff.rfl⟩|exact⟨rfl,trivial⟩|rfl) ?_ ?_)
  .first|exact⟨Q8 _ _ _,Q8 _ _ _,Q8 _ _ _⟩|exact trivial|(repeat' first|exact trivial|exact Q8 _ _ _|exact Q8 _ _ _|exact Q8 _ _ _|apply And.intro)
  refine(Q0 [0,5,6,7,8,9] (fun(z:Int)=>[(16,.v (li q1)),(17,.v (li z)),(18,.v (li q3))]) (fun(z:Int)=>[(9,.box [.c (iC sd),.c (iC sc),.c (iC sv),.c (iC sn),.c (iC so),.c (iC stn),.c (.sl 3 (XH sks)),.c (.sl 10 (Xe sa)),.c (.sl 10 (Xe sb)),.c (.sl 1 (Xg sbs))])]) (fun(z:Int)=>(sd≠1->z=q2)/\(sd=1->q2=1)/\q1<=4503874505281537/\q2<=4503874505281537/\q3<=4503874505281537) ?_ ?_)
  ·
   refine X0<|(XI (by simp[*,Q4,CR];rfl) ?_);refine(X9 rfl (fun h12=>?_) fun h12=>?_)
   ·(try simp only[BN]at h12);rw[N9 h12]at hpq;simp only[B3.mk.injEq]at hpq;obtain⟨p1,p2,p3⟩:=hpq;have hnn:0<=sn/\sn<=4096:=by omega
    have m4:=mulN hnn (z:=1+a1) (by omega);have m5:=mulN hnn (z:=a2) (by omega);have m6:=mulN hnn (z:=sc+a3) (by omega);have hw2:IntKind.i64.wrap (1+a1)=1+a1:=X8;have hw3:IntKind.i64.wrap (sn*(1+a1))=sn*(1+a1):=X8;have hw4:IntKind.i64.wrap (1+sn*(1+a1))=q1:=by rw[<-p1];exact X8
    have hw5:IntKind.i64.wrap (sn*a2)=q2:=by rw[<-p2];exact X8
    have hw6:IntKind.i64.wrap (sc+a3)=sc+a3:=X8;have hw7:IntKind.i64.wrap (sn*(sc+a3))=q3:=by rw[<-p3];exact X8
    have hq:q1<=4503874505281537/\q2<=4503874505281537/\q3<=4503874505281537:=by omega
    clear p1 p2 p3 m4 m5 m6 hz;refine(XQ (by kernel_rfl) (by kernel_rfl) (by rfl) (by simp[*,Q4,CR];rfl) ?_);exact⟨q2,⟨fun _=>rfl,fun h=>absurd h (by omega),hq⟩,X5 (fun n=>n) []⟩
   try simp only[BN]at h12
   have hfin:q1=1+mx a1 b1/\q3=sc+mx a3 b3/\(sd≠1->mx a2 b2=q2)/\(sd=1->q2=1):=by
    rw[N6 h12]at hpq;by_cases h3:sd=3
    .rw[N9 h3]at hpq;simp only[B3.mk.injEq]at hpq;exact⟨hpq.1.symm,hpq.2.2.symm,fun _=>hpq.2.1,fun h=>absurd h (by omega)⟩
    rw[N6 h3]at hpq;obtain⟨⟨e1,e2,e3⟩,e4,e5,e6⟩:=hz h3 h12;subst e1 e2 e3 e4 e5 e6;by_cases h1:sd=1
    .rw[N9 h1]at hpq;simp only[B3.mk.injEq]at hpq;exact⟨by rw[<-hpq.1];rfl,by rw[<-hpq.2.2];simp[mx],fun h=>absurd h1 h,fun _=>hpq.2.1.symm⟩
    rw[N6 h1]at hpq;simp only[B3.mk.injEq]at hpq;exact⟨by rw[<-hpq.1];rfl,by rw[<-hpq.2.2];simp[mx],fun _=>by rw[<-hpq.2.1];rfl,fun h=>absurd h h1⟩
   obtain⟨f1,f2,f3,f4⟩:=hfin;have hq1:q1<=4503874505281537:=by omega
   have hq3:q3<=4503874505281537:=by omega
   have hq2:q2<=4503874505281537:=by
    by_cases h:sd=1
    .have:=f4 h;omega
    have:=f3 h;omega
   clear hpq hz;exact⟨mx a2 b2,⟨f3,f4,hq1,hq2,hq3⟩,X5 (fun n=>n) []⟩
  rintro z2 ⟨hz2,hz3,hq⟩;simp only[upS,X7,Xy]
  try simp only[X7,KN,Nat.reduceBEq,Nd,Nb,ins,Nat.reduceLT]
  clear hpq hz hw2 hw3 ca cb;refine(Q0 [0,5,6,7,8,16,18] (fun(z:Unit)=>[(17,.v (li q2))]) (fun(z:Unit)=>[]) (fun(z:Unit)=>True) ?_ ?_)
  ·
   refine X0<|(XI (by simp[*,Q4,CR];rfl) ?_);refine(X9 rfl (fun h18=>?_) fun h18=>?_)
   ·(try simp only[BN]at h18);have hq21:=hz3 h18;refine(XI (by simp[*,Q4,CR];rfl) ?_);exact⟨(),trivial,X5 (fun n=>n) []⟩
   (try simp only[BN]at h18);have hq21:=hz2 h18;exact⟨(),trivial,X5 (fun n=>n) []⟩
  rintro _ _;simp only[upS,X7,Xy]
  try simp only[X7,KN,Nat.reduceBEq,Nd,Nb,ins,Nat.reduceLT]
  clear hz2 hz3;obtain⟨hq1,hq2,hq3⟩:=hq;have hw2:IntKind.i64.wrap (m1+q1)=m1+q1:=X8;have hw3:IntKind.i64.wrap (m2+q2)=m2+q2:=X8;have hw4:IntKind.i64.wrap (m3+q3)=m3+q3:=X8;have hin2:in3 CR (Q4 CR ⟨m1,m2,m3⟩ ⟨q1,q2,q3⟩):=X2u X2H ⟨hin.1,hin.2.2.1,hin.2.2.2.2.1⟩ ⟨hsin.1,hsin.2.1,hsin.2.2⟩;refine X0<|(Wv [⟨true,.v (li (mn (m1+q1) 4097)),none⟩] (by simp[*,Q4,CR];first|exact⟨rfl,Iff.rfl⟩|exact⟨rfl,trivial⟩|rfl) ?_ ?_)
  .first|exact Q3 _ _ _|exact trivial|simpa[*,Q4,CR]using Q3 _ _ _
  refine X0<|(Wv [⟨true,.v (li (mn (m2+q2) 9)),none⟩] (by simp[*,Q4,CR];first|exact⟨rfl,Iff.rfl⟩|exact⟨rfl,trivial⟩|rfl) ?_ ?_)
  .first|exact Q3 _ _ _|exact trivial|simpa[*,Q4,CR]using Q3 _ _ _
  refine(Wv [⟨true,.v (li (mn (m3+q3) 67108865)),none⟩] (by simp[*,Q4,CR];first|exact⟨rfl,Iff.rfl⟩|exact⟨rfl,trivial⟩|rfl) ?_ ?_)
  .first|exact Q3 _ _ _|exact trivial|simpa[*,Q4,CR]using Q3 _ _ _
  refine(XI (by simp[*,Q4,CR];rfl) ?_);exact⟨(k+1,Q4 CR ⟨m1,m2,m3⟩ ⟨q1,q2,q3⟩),⟨hk1,hJ,hin2⟩,by simp only;omega,Qs (fun n=>n) [] rfl (by simp[upS,X7, *,Q4,CR]) (by simp[*,upS,Q4,CR]) (by simp[upS])⟩
 (try simp only[BN]at h5);have hkl:k=l.length:=by omega
 rw[hkl,Nq]at hJ;simp only[bdL]at hJ;subst hJ;refine(Xj ?_);refine X0<|(XI (by simp[*,Q4,CR];rfl) ?_);exact(Xi (fun h=>⟨.inr rfl,h⟩) _ (by simp[*,Q4,CR];rfl) (by first|rfl|(simp[*];done)|(simp only[Xp];(repeat' split)<;>first|rfl|(exfalso;omega)|simp_all)) (by simp))
theorem X9c (vars:List Vr) (hl:vars.length<=1000000) (d:Nat):Con prog 98 true [lV vars] (.v (li (Wy vars))) none d:=by
 obtain⟨res,hres⟩:∃r,Wy vars=r:=⟨_,rfl⟩;rw[hres];obtain⟨cd,hcd⟩:∃r,vcs [] vars=r:=⟨_,rfl⟩;have hgood:cd=0->QH vars:=fun h=>X2g vars [] (hcd.trans h);unfold Wy at hres;rw[hcd]at hres;refine X3 Tryz.func98 ?_;simp only[Tryz.f98];refine X1 ?_;refine X0<|X0<|X2 ?_;refine X4<|(Xf [0] (fun(x:Nat)=>[(3,.v (li x))]) (fun x=>[]) (fun x=>x<=vars.length/\vcs (vars.take x) (vars.drop x)=cd) (fun x=>vars.length - x) (0:Nat) ⟨Nf _,hcd⟩ ?_ ?_)
 .exact X5 (fun n=>n) []
 rintro k ⟨hk,hJ⟩;simp only[upS,X7,Xy]
 try simp only[X7,KN,Nat.reduceBEq,Nd,Nb,ins,Nat.reduceLT]
 clear hcd;refine X0<|X0<|X2 ?_;refine(X6 rfl (fun h4=>Xc ?_) (fun h4=>?_))
 ·(try simp only[BN]at h4);have hlt:k<vars.length:=by omega
  obtain⟨v,he,hd⟩:=XF hlt;have hw1:=XB hlt (by omega);have hk1:k+1<=vars.length:=hlt;have hkl:(vars.take k).length=k:=by rw[Nt];omega
  rw[hd]at hJ;simp only[vcs]at hJ;rw[<-WN he]at hJ;clear hlt h4 hgood hd;refine X0<|X4<|X0<|X2 ?_;refine X0<|X0<|(Xl [⟨true,.v (lb (Zb v.name)),none⟩] ?_ ?_)
  .first|exact X17 _ _|exact trivial|simpa[*]using X17 _ _
  refine(X9 rfl (fun h7=>?_) fun h7=>?_)
  ·(try simp only[BN]at h7);have hc:Ws (vars.take k) v=7:=by unfold Ws;rw[N9 h7]
   rw[hc,N6 (by decide)]at hJ;subst hJ;rw[N6 (by decide)]at hres;subst hres;refine X1 ?_;exact Xb
  (try simp only[BN]at h7);refine X0<|X0<|X2 ?_;refine X4<|(Xf [0,3,4] (fun(x:Nat)=>[(5,.v (li x))]) (fun x=>[(4,.box [.c (sC v.name),.c (iC v.kind),.c (iC v.low),.c (iC v.high),.c (iC v.init)])]) (fun x=>x<=k/\∀j:Nat,j<x->∀w,vars[j]? =some w->w.name≠v.name) (fun x=>k - x) (0:Nat) ⟨Nf _,fun j hj=>absurd hj (Dd j)⟩ ?_ ?_)
  .exact X5 (fun n=>n) []
  rintro j ⟨hj,hno⟩;simp only[upS,X7,Xy]
  try simp only[X7,KN,Nat.reduceBEq,Nd,Nb,ins,Nat.reduceLT]
  refine X0<|X0<|X2 ?_;refine(X6 rfl (fun h13=>Xc ?_) (fun h13=>?_))
  ·(try simp only[BN]at h13);have hjk:j<k:=by omega
   obtain⟨w,hw⟩:∃w,vars[j]? =some w:=⟨vars[j],by simp[show j<vars.length by omega]⟩;have hwj:=XB hjk (by omega);have hj1:j+1<=k:=hjk
   have hmemw:w∈vars.take k:=by
    have:(vars.take k)[j]? =some w:=by rw[List.getElem?_take_of_lt hjk];exact hw
    exact N3 this
   clear hjk h13;refine X0<|X4<|X0<|(N0 ?_);refine(X9 rfl (fun h15=>?_) fun h15=>?_)
   .try simp only[BN]at h15
    have hany:((vars.take k).any fun w=>decide (w.name=v.name))=true:=by
     rw[List.any_eq_true];exact⟨w,hmemw,by simpa using h15⟩
    have hc:Ws (vars.take k) v=8:=by unfold Ws;rw[N6 (by simp[h7]),N9 hany]
    rw[hc,N6 (by decide)]at hJ;subst hJ;rw[N6 (by decide)]at hres;subst hres;refine X1 ?_;exact Xb
   (try simp only[BN]at h15);refine X2 ?_
   exact⟨j+1,⟨hj1,fun i hi u hu=>by
    rcases Nat.lt_or_eq_of_le (Nat.le_of_lt_succ hi)with h|h
    .exact hno i h u hu
    subst h;rw[hw]at hu;cases hu
    simpa using h15⟩,by omega,X5 (fun n=>n) []⟩
  (try simp only[BN]at h13);have hjk:j=k:=by omega
  subst hjk
  have hany:((vars.take j).any fun w=>decide (w.name=v.name))=false:=by
   rw[Dm];intro w hw;obtain⟨i,hi⟩:=NH.1 hw;have hij:i<j:=by have:=(N8.1 hi).1;omega
   rw[List.getElem?_take_of_lt hij]at hi;simpa using hno i hij w hi
  clear hno hkl;refine(Xj ?_);refine X0<|X0<|X2 ?_;refine(X9 rfl (fun h21=>?_) fun h21=>?_)
  ·(try simp only[BN]at h21);have hc:Ws (vars.take j) v=1:=by unfold Ws;rw[N6 (by simp[h7]),N6 (by simp[hany]),N9 (by omega)]
   rw[hc,N6 (by decide)]at hJ;subst hJ;rw[N6 (by decide)]at hres;subst hres;refine X1 ?_;exact Xb
  (try simp only[BN]at h21);have hc:Ws (vars.take j) v=if QW v then 3 else 0:=by unfold Ws;rw[N6 (by simp[h7]),N6 (by simp[hany]),N6 (by omega)]
  clear hany;refine X0<|X0<|(Xl [⟨true,.v (lb (Qp v.low v.high)),none⟩] ?_ ?_)
  .first|exact Zi _ _ _|exact trivial|simpa[*]using Zi _ _ _
  refine(X9 rfl (fun h25=>?_) fun h25=>?_)
  ·(try simp only[BN]at h25);rw[N9 (.inl h25)]at hc;rw[hc,N6 (by decide)]at hJ;subst hJ;rw[N6 (by decide)]at hres;subst hres;refine X1 ?_;exact Xb
  (try simp only[BN]at h25);refine X1 ?_;refine(X9 rfl (fun h29=>?_) fun h29=>?_)
  .try simp only[BN]at h29
   have hkb:QW v:=by
    unfold QW;omega
   rw[N9 hkb]at hc;rw[hc,N6 (by decide)]at hJ;subst hJ;rw[N6 (by decide)]at hres;subst hres;refine X1 ?_;exact Xb
  try simp only[BN]at h29
  have hkb:¬QW v:=by
   unfold QW;rw[h25];rintro(h|h|h)
   .cases h
   .omega
   omega
  rw[N6 hkb]at hc;rw[hc,N9 rfl]at hJ;refine X2 ?_;exact⟨j+1,⟨hk1,hJ⟩,by omega,X5 (fun n=>n) []⟩
 (try simp only[BN]at h4);have hkl:k=vars.length:=by omega
 rw[hkl,Nq]at hJ;simp only[vcs]at hJ;have hv:=hgood hJ.symm;rw[N9 hJ.symm]at hres;clear hgood hJ hkl hk h4;have c1:=X1w vars 1 hv (by omega);have c2:=X1w vars 2 hv (by omega);have c3:=X1w vars 3 hv (by omega);have hb1:X1n vars 1=decide (4096<spc vars 1):=by simp[X1n]
 have hb2:X1n vars 2=decide (4096<spc vars 2):=by simp[X1n]
 have hb3:X1n vars 3=(decide (4096<spc vars 3)||decide (256<spc vars 3)):=by simp[X1n]
 simp only[List.any_cons,List.any_nil,Bool.or_false,hb1,hb2,hb3]at hres;clear hb1 hb2 hb3;generalize spc vars 1=s1 at*;generalize spc vars 2=s2 at*;generalize spc vars 3=s3 at*;refine(Xj ?_);refine X0<|X0<|(Xl [⟨true,.v (li s1),none⟩,⟨true,.v (li s2),none⟩,⟨true,.v (li s3),none⟩] ?_ ?_)
 .first|exact⟨c1 _,c2 _,c3 _⟩|exact trivial|(repeat' first|exact trivial|exact c1 _|exact c2 _|exact c3 _|apply And.intro)
 refine(X9 rfl (fun h35=>?_) fun h35=>?_)
 .try simp only[BN]at h35
  have hz:(decide (4096<s1)||(decide (4096<s2)||(decide (4096<s3)||decide (256<s3))))=true:=by
   simp only[Ni,N5];omega
  rw[N9 hz]at hres;subst hres;refine X1 ?_;exact Xb
 try simp only[BN]at h35
 have hz:(decide (4096<s1)||(decide (4096<s2)||(decide (4096<s3)||decide (256<s3))))=false:=by
  simp only[NC,Nc];omega
 rw[hz,N6 (by decide)]at hres;subst hres;refine X1 ?_;exact Xb
@[simp] theorem take_encH (l:List Ht) (i:Nat):(Xz l).take i=Xz (l.take i):=by simp[Xz]
theorem idxH_con (l:List Ht) (g:FuncId) (cap:List CD) (p:Ht->Bool) (hl:l.length<=1000000000) (hp:∀v∈l,∀d,Con prog g true (aH v::cap.map fun c=>.one (.c c)) (.v (lb (p v))) none d) (d:Nat):
  ∃r:Int,(∀d,Con prog 88 true [.one (.c (.sl 6 (Xz l))),.one (.c (.fn g cap))] (.v (li r)) none d)/\(0<=r↔l.any p=true):=by
 refine⟨(match l.findIdx? p with|some i=>(i:Int)|none=>-1),fun d=>?_,?_⟩
 .have hstep:∀k:Nat,(∀j:Nat,j<k->∀v,l[j]? =some v->p v=false)->∀v,l[k]? =some v->p v=true->l.findIdx? p=some k:=by
   intro k hno v hv hpv;rw[List.findIdx?_eq_some_iff_getElem];have hk:k<l.length:=(N8.1 hv).1;refine⟨hk,?_,fun j hj=>?_⟩
   .simp only[Ny hk,Option.some.injEq]at hv;rw[hv];exact hpv
   have:=hno j hj l[j] (by simp);simp[this]
  have hnone:(∀j:Nat,j<l.length->∀v,l[j]? =some v->p v=false)->l.findIdx? p=none:=by
   intro hno;rw[List.findIdx?_eq_none_iff];intro v hv;obtain⟨j,hj⟩:=NH.1 hv;exact hno j (N8.1 hj).1 v hj
  refine X3 Tryz.func88 ?_;simp only[Tryz.f88];refine X1 ?_;refine X0<|X0<|X2 ?_;refine X4<|(Xf [0,1,7] (fun(x:Nat)=>[(8,.v (li x))]) (fun x=>[]) (fun x=>x<=l.length/\∀j:Nat,j<x->∀v,l[j]? =some v->p v=false) (fun x=>l.length - x) (0:Nat) ⟨Nf _,fun j hj=>absurd hj (Dd j)⟩ ?_ ?_)
  .exact X5 (fun n=>n) []
  rintro k ⟨hk,hJ⟩;simp only[upS,X7,Xy]
  try simp only[X7,KN,Nat.reduceBEq,Nd,Nb,ins,Nat.reduceLT]
  refine X1 ?_;refine X0<|(X6 rfl (fun h4=>Xc ?_) (fun h4=>?_))
  ·(try simp only[BN]at h4);have hlt:k<l.length:=by omega
   obtain⟨⟨nm,lo,hi,⟨o,tn,ks⟩⟩,he,hd⟩:=XF hlt;have hw1:=XB hlt (by omega);have hk1:k+1<=l.length:=hlt;have hpv:=hp _ (N3 he);have hs:=hstep k hJ _ he;clear hlt h4 hstep hnone hp;refine X0<|X4<|X0<|X2 ?_;refine Xd [⟨true,.v (lb (p ⟨nm,lo,hi,.mk o tn ks⟩)),none⟩] ?_ ?_
   .first|exact hpv _|exact trivial|simpa[*]using hpv _
   refine(X9 rfl (fun h7=>?_) fun h7=>?_)
   ·(try simp only[BN]at h7);rw[hs h7];refine X1 ?_;exact Xb
   (try simp only[BN]at h7);refine X2 ?_;exact⟨k+1,⟨hk1,fun j hj w hw=>(Nat.lt_succ_iff_lt_or_eq.1 hj).elim (fun h=>hJ j h w hw) (fun e=>by subst e;rw[he]at hw;cases hw;exact h7)⟩,by omega,X5 (fun n=>n) []⟩
  (try simp only[BN]at h4);rw[hnone fun j hj=>hJ j (by omega)];refine(Xj ?_);refine X1 ?_;exact Xb
 rw[List.any_eq];cases h:l.findIdx? p with
 | none=>
   rw[List.findIdx?_eq_none_iff]at h;simp only[N5];constructor
   .intro h;omega
   rintro⟨v,hv,hpv⟩;have:=h v hv;rw[hpv]at this;cases this
 | some i=>
   rw[List.findIdx?_eq_some_iff_getElem]at h;obtain⟨hi,hpi,_⟩:=h;simp only[N5];exact⟨fun _=>⟨l[i],Df _,hpi⟩,fun _=>by omega⟩
theorem conH_con (l:List Ht) (g:FuncId) (cap:List CD) (p:Ht->Bool) (hl:l.length<=1000000000) (hp:∀v∈l,∀d,Con prog g true (aH v::cap.map fun c=>.one (.c c)) (.v (lb (p v))) none d) (d:Nat):
  Con prog 53 true [.one (.c (.sl 6 (Xz l))),.one (.c (.fn g cap))] (.v (lb (l.any p))) none d:=by
 obtain⟨r,hr,hi⟩:=idxH_con l g cap p hl hp 0;have hd:decide (0<=r)=l.any p:=by rw[D6,N5];exact hi
 clear hi hp;refine X3 Tryz.func53 ?_;simp only[Tryz.f53];refine X1 ?_;refine Xd [⟨true,.v (li r),none⟩] ?_ ?_
 .first|exact hr _|exact trivial|simpa[*]using hr _
 exact Xb
theorem X9z (w v:Ht) (d:Nat):Con prog 109 true [aH w,.one (.c (.ptr v.enc))] (.v (lb (decide (w.name=v.name)))) none d:=by
 obtain⟨n1,l1,h1,⟨o1,t1,k1⟩⟩:=w;obtain⟨n2,l2,h2,⟨o2,t2,k2⟩⟩:=v;refine X3 Tryz.func109 ?_;simp only[Tryz.f109];simp only[aH,Ht.enc,Tm.enc,List.cons_append,List.nil_append];refine X1 ?_;refine X1 ?_;exact Xb
def X07 (vars:List Vr) (seen:List Ht) (h:Ht):Int:=
 if Zb h.name=false then 7 else if(seen.any fun w=>decide (w.name=h.name))=true then 8 else if Qp h.low h.high=false then 3 else ZD vars true h.term
def hcs (vars:List Vr):List Ht->List Ht->Int
 |_,[]=>0
 |seen,h::l=>if X07 vars seen h=0 then hcs vars (seen++[h]) l else X07 vars seen h
theorem X9B (f:Fl) (hv:WX f.vars) (hl:f.vars.length<=1000000) (hh:f.hats.length<=1000000) (hn:∀h∈f.hats,h.term.nodes<=1000000000) (d:Nat):
  Con prog 70 true [aF f] (.v (li (hcs f.vars [] f.hats))) none d:=by
 obtain⟨vars,hats,body⟩:=f;simp only at hv hl hh hn⊢;obtain⟨res,hres⟩:∃r,hcs vars [] hats=r:=⟨_,rfl⟩;rw[hres];refine X3 Tryz.func70 ?_;simp only[Tryz.f70];simp only[aF,Fl.enc,Na,Ng];refine X1 ?_;refine X0<|X0<|X2 ?_;refine X4<|(Xf [1,8,9] (fun(x:Nat)=>[(10,.v (li x))]) (fun x=>[(1,.box [.c (.sl 5 (Xt vars)),.c (.sl 6 (Xz hats)),.c (.sl 10 (Xe body))])]) (fun x=>x<=hats.length/\hcs vars (hats.take x) (hats.drop x)=res) (fun x=>hats.length - x) (0:Nat) ⟨Nf _,hres⟩ ?_ ?_)
 .exact X5 (fun n=>n) []
 rintro k ⟨hk,hJ⟩;simp only[upS,X7,Xy]
 try simp only[X7,KN,Nat.reduceBEq,Nd,Nb,ins,Nat.reduceLT]
 clear hres;refine X1 ?_;refine X0<|(X6 rfl (fun h4=>Xc ?_) (fun h4=>?_))
 ·(try simp only[BN]at h4);have hlt:k<hats.length:=by omega
  obtain⟨h,he,hd⟩:=XF hlt;have hw1:=XB hlt (by omega);have hk1:k+1<=hats.length:=hlt;have hkl:(hats.take k).length<=1000000000:=by rw[Nt];omega
  rw[hd]at hJ;simp only[hcs]at hJ;rw[<-WN he]at hJ;have ct:=X4Y vars true hv (by omega) h.term (hn h (N3 he));have cc:=conH_con (hats.take k) 109 [.ptr h.enc] (fun w=>decide (w.name=h.name)) hkl (fun w _ d=>X9z w h d);obtain⟨nm,lo,hi,⟨o,tn,ks⟩⟩:=h;obtain⟨HC,hHC⟩:∃x,X07 vars (hats.take k) ⟨nm,lo,hi,.mk o tn ks⟩=x:=⟨_,rfl⟩;rw[hHC]at hJ;simp only[X07]at hHC;simp only[Ht.enc,Tm.enc,List.cons_append,List.nil_append]at cc;simp only at ct;obtain⟨TC,hTC⟩:∃r,ZD vars true (.mk o tn ks)=r:=⟨_,rfl⟩;rw[hTC]at ct hHC;clear hlt h4 hd hn hTC;refine X0<|X4<|X0<|X2 ?_;refine X1 ?_;refine X0<|X4<|X0<|(Xl [⟨true,.v (lb (Zb nm)),none⟩] ?_ ?_)
  .first|exact X1a _ _|exact trivial|simpa[*]using X1a _ _
  refine(X6 rfl (fun h8=>?_) (fun h8=>?_))
  ·(try simp only[BN]at h8);rw[N9 h8]at hHC;subst hHC;rw[N6 (by decide)]at hJ;subst hJ;refine X1 ?_;exact Xb
  (try simp only[BN]at h8);refine Xd [⟨true,.v (lb ((hats.take k).any fun w=>decide (w.name=nm))),none⟩] ?_ ?_
  .first|exact cc _|exact trivial|simpa[*]using cc _
  refine(X6 rfl (fun h12=>?_) (fun h12=>?_))
  ·(try simp only[BN]at h12);rw[N6 (by simp[h8]),N9 h12]at hHC;subst hHC;rw[N6 (by decide)]at hJ;subst hJ;refine X1 ?_;exact Xb
  (try simp only[BN]at h12);refine Xd [⟨true,.v (lb (Qp lo hi)),none⟩] ?_ ?_
  .first|exact Zf _ _ _|exact trivial|simpa[*]using Zf _ _ _
  refine(X9 rfl (fun h16=>?_) fun h16=>?_)
  ·(try simp only[BN]at h16);rw[N6 (by simp[h8]),N6 (by simp[h12]),N9 h16]at hHC;subst hHC;rw[N6 (by decide)]at hJ;subst hJ;refine X1 ?_;exact Xb
  (try simp only[BN]at h16);rw[N6 (by simp[h8]),N6 (by simp[h12]),N6 (by simp[h16])]at hHC;subst hHC;refine Xd [⟨true,.v (li TC),none⟩] ?_ ?_
  .first|exact ct _|exact trivial|simpa[*]using ct _
  refine X1 ?_;refine(X9 rfl (fun h21=>?_) fun h21=>?_)
  ·(try simp only[BN]at h21);rw[N6 h21]at hJ;subst hJ;refine X1 ?_;exact Xb
  (try simp only[BN]at h21);rw[N9 (by simpa using h21)]at hJ;refine X2 ?_;exact⟨k+1,⟨hk1,hJ⟩,by omega,X5 (fun n=>n) []⟩
 (try simp only[BN]at h4);have hkl:k=hats.length:=by omega
 rw[hkl,Nq]at hJ;simp only[hcs]at hJ;subst hJ;refine(Xj ?_);refine X1 ?_;exact Xb
theorem X88 (f:Fl) (hv:WX f.vars) (hl:f.vars.length<=1000000) (l:List St):Xh l<=1000000000->Qi l=true->∀(top:Bool) (d:Nat),
  Con prog 102 true [aF f,lS l,lb top] (.v (li (ssC f.vars f.hats.length l top))) none d:=by
 revert l
 apply St.lists;intro l ih hn hbn top d;have hlen:=XW l;obtain⟨res,hres⟩:∃r,ssC f.vars f.hats.length l top=r:=⟨_,rfl⟩;rw[hres];have csh:=fun s last hb=>X6b f s last (by omega) hb;obtain⟨vars,hats,body⟩:=f;simp only at hv hl hres ih csh;refine X3 Tryz.func102 ?_;simp only[Tryz.f102];simp only[aF,Fl.enc,Na,Ng];refine X1 ?_;refine X0<|X0<|X2 ?_;refine X4<|(Xf [1,2,3] (fun(x:Nat)=>[(7,.v (li x))]) (fun x=>[(3,.box [.c (.sl 5 (Xt vars)),.c (.sl 6 (Xz hats)),.c (.sl 10 (Xe body))])]) (fun x=>x<=l.length/\ssC vars hats.length (l.drop x) top=res) (fun x=>l.length - x) (0:Nat) ⟨Nf _,hres⟩ ?_ ?_)
 .exact X5 (fun n=>n) []
 rintro k ⟨hk,hJ⟩;simp only[upS,X7,Xy]
 try simp only[X7,KN,Nat.reduceBEq,Nd,Nb,ins,Nat.reduceLT]
 clear hres;refine X0<|X0<|X2 ?_;refine(X6 rfl (fun h4=>Xc ?_) (fun h4=>?_))
 ·(try simp only[BN]at h4);have hlt:k<l.length:=by omega
  obtain⟨s,he,hd⟩:=XF hlt;have hmem:s∈l:=N3 he;have hnm:=Qe hmem;have hbm:=X2k hbn hmem;have iha:=fun h h2=>(ih s hmem).1 h h2;have ihb:=fun h h2=>(ih s hmem).2 h h2;have hw1:=XB hlt (by omega);have hw2:IntKind.i64.wrap ((l.length:Int) - 1)=(l.length:Int) - 1:=X8;have hk1:k+1<=l.length:=hlt;have hla:=X5a hk1;rw[hd]at hJ;have ct:=X4v vars false hv (by omega) s.term;have csh1:=csh s (top&&decide ((k:Int)=(l.length:Int) - 1));obtain⟨sd,sc,sv,sn,⟨so,stn,sks⟩,sa,sb,sbs⟩:=s;simp only[St.then_,St.else_,St.term,St.bounds,St.do_,St.var,St.n,St.cost]at iha ihb hnm ct csh1;simp only[ZK,N4,N5]at hbm;simp only[ssC,hla]at hJ;have ca:=iha (by omega) hbm.2.1;have cb:=ihb (by omega) hbm.2.2;have ct:=ct (by omega);have csh1:=csh1 hbm.1;have hbl:=hbm.1;have he':=Qo he;simp only[St.enc,Tm.enc,List.cons_append,List.nil_append]at he';simp only[aF,Fl.enc,aS,St.enc,Tm.enc,Na,Ng,List.cons_append,List.nil_append]at csh1 ca cb;have hshb:=@X54 vars hats.length sd sv sn (.mk so stn sks) sa.length sb.length sbs (top&&decide ((k:Int)=(l.length:Int) - 1));obtain⟨SH,hSH⟩:∃x,shB vars hats.length sd sv sn (.mk so stn sks) sa.length sb.length sbs (top&&decide ((k:Int)=(l.length:Int) - 1))=x:=⟨_,rfl⟩;obtain⟨NU,hNU⟩:∃x,X1r sd sc sn sbs=x:=⟨_,rfl⟩;obtain⟨TC,hTC⟩:∃x,ZD vars false (.mk so stn sks)=x:=⟨_,rfl⟩;obtain⟨SC,hSC⟩:∃x,stC vars hats.length sd sc sv sn (.mk so stn sks) sa.length sb.length sbs (top&&decide ((k:Int)=(l.length:Int) - 1))=x:=⟨_,rfl⟩;rw[hSC]at hJ;unfold stC at hSC;rw[hSH]at csh1 hshb hSC;rw[hNU]at hSC;rw[hTC]at ct hSC;have ca:=fun d=>ca false d;have cb:=fun d=>cb false d;obtain⟨SA,hSA⟩:∃x,ssC vars hats.length sa false=x:=⟨_,rfl⟩;obtain⟨SB,hSB⟩:∃x,ssC vars hats.length sb false=x:=⟨_,rfl⟩;rw[hSA]at ca hJ;rw[hSB]at cb hJ;clear hlt h4 iha ihb ih hmem hnm hd he hbm hSH hTC hSA hSB csh hla;refine X0<|X4<|X0<|X2 ?_;refine X0<|X0<|(Xl [⟨true,.v (lb SH),none⟩] ?_ ?_)
  .first|exact csh1 _|exact trivial|simpa[*]using csh1 _
  refine(X9 rfl (fun h7=>?_) fun h7=>?_)
  ·(try simp only[BN]at h7);rw[N9 h7]at hSC;subst hSC;rw[N6 (by decide)]at hJ;subst hJ;refine X1 ?_;exact Xb
  (try simp only[BN]at h7);rw[N6 (by simp[h7])]at hSC;obtain⟨hs6,hs5,hs4⟩:=hshb h7;clear hshb csh1;refine X1 ?_;refine(Q0 [1,2,3,7,8] (fun(z:Int)=>[(9,.v (li z))]) (fun(z:Int)=>[(3,.box [.c (.sl 5 (Xt vars)),.c (.sl 6 (Xz hats)),.c (.sl 10 (Xe body))]),(8,.box [.c (iC sd),.c (iC sc),.c (iC sv),.c (iC sn),.c (iC so),.c (iC stn),.c (.sl 3 (XH sks)),.c (.sl 10 (Xe sa)),.c (.sl 10 (Xe sb)),.c (.sl 1 (Xg sbs))])]) (fun(z:Int)=>z=X1O sd) ?_ ?_)
  ·
   refine X1 ?_;refine(X9 rfl (fun h13=>?_) fun h13=>?_)
   ·(try simp only[BN]at h13);refine X2 ?_;exact⟨67108864,by simp[X1O,h13],X5 (fun n=>n) []⟩
   (try simp only[BN]at h13);exact⟨10000,by simp[X1O,h13],X5 (fun n=>n) []⟩
  rintro M hM;simp only[upS,X7,Xy]
  try simp only[X7,KN,Nat.reduceBEq,Nd,Nb,ins,Nat.reduceLT]
  refine X0<|X0<|X2 ?_;refine(X9 rfl (fun h18=>?_) fun h18=>?_)
  .try simp only[BN]at h18
   have hz:NU=false:=by
    rw[<-hNU];unfold X1r;rw[<-hM];simp only[No,Ni,N4,Bool.not_eq_false',N5];by_cases hn0:sn<0
    .have:=hs4 hn0;omega
    omega
   rw[N9 hz]at hSC;subst hSC;rw[N6 (by decide)]at hJ;subst hJ;refine X1 ?_;exact Xb
  try simp only[BN]at h18
  have hz:NU=(decide (sd≠6)||X2M sbs):=by
   rw[<-hNU];unfold X1r;rw[<-hM]
   rw[show(!(decide (sc<0)||decide (M<sc)||(decide (sd=4)&&(decide (sn<0)||decide (4096<sn)))))=true by
    simp only[NC,No,Nm,Nc]
    omega]
   rfl
  clear h18 hNU hM hs4;rcases X85 sbs with h0|⟨b0,hb0⟩
  .subst h0;have hd6:sd≠6:=fun h=>hs6 h rfl;have hw3:IntKind.i64.wrap (-1)=-1:=by decide
   have hz2:NU=true:=by rw[hz];simp[hd6]
   rw[N6 (by simp[hz2])]at hSC;clear hs6 hs5 hz;refine X0<|X0<|X2 ?_;refine(X9 rfl (fun h22=>?_) fun h22=>?_)
   .exact absurd h22 (by simp)
   (try simp only[BN]at h22);subst hSC;refine Xd [⟨true,.v (li TC),none⟩] ?_ ?_
   .first|exact ct _|exact trivial|simpa[*]using ct _
   refine X0<|X0<|X2 ?_;refine(X9 rfl (fun h27=>?_) fun h27=>?_)
   ·(try simp only[BN]at h27);rw[N6 h27]at hJ;subst hJ;refine X1 ?_;exact Xb
   (try simp only[BN]at h27);rw[N9 (by simpa using h27)]at hJ;refine Xd [⟨true,.v (li SA),none⟩] ?_ ?_
   .first|exact ca _|exact trivial|simpa[*]using ca _
   refine X0<|X0<|X2 ?_;refine(X9 rfl (fun h32=>?_) fun h32=>?_)
   ·(try simp only[BN]at h32);rw[N6 h32]at hJ;subst hJ;refine X1 ?_;exact Xb
   (try simp only[BN]at h32);rw[N9 (by simpa using h32)]at hJ;refine Xd [⟨true,.v (li SB),none⟩] ?_ ?_
   .first|exact cb _|exact trivial|simpa[*]using cb _
   refine X1 ?_;refine(X9 rfl (fun h37=>?_) fun h37=>?_)
   ·(try simp only[BN]at h37);rw[N6 h37]at hJ;subst hJ;refine X1 ?_;exact Xb
   (try simp only[BN]at h37);rw[N9 (by simpa using h37)]at hJ;refine X2 ?_;exact⟨k+1,⟨hk1,hJ⟩,by omega,X5 (fun n=>n) []⟩
  have hpos:1<=sbs.length:=(N8.1 hb0).1;obtain⟨x,hx⟩:=Zr (show sbs.length - 1<sbs.length by omega);have hd6:sd=6:=Classical.byContradiction fun h=>by rw[hs5 h]at hpos;simp at hpos
  have hw3:IntKind.i64.wrap ((sbs.length:Int) - 1)=(sbs.length:Int) - 1:=X8;have hw4:0<=(sbs.length:Int) - 1:=by omega
  have hw5:((sbs.length:Int) - 1).toNat=sbs.length - 1:=by omega
  have hw6:1<=(sbs.length:Int):=by omega
  have hw7:decide (0<(sbs.length:Int))=true:=Nv (by omega);have hz2:NU=decide (x<=67108864):=by rw[hz];unfold X2M;rw[hx,hd6];simp
  have hne:sbs≠[]:=by intro h;rw[h]at hpos;simp at hpos
  clear hs6 hs5 hz hb0 hpos;refine X0<|X0<|X2 ?_;refine(X9 rfl (fun h22=>?_) fun h22=>?_)
  .try simp only[BN]at h22
   have hx2:67108864<x:=by
    omega
   rw[N9 (by rw[hz2];exact decide_eq_false (by omega))]at hSC;subst hSC;rw[N6 (by decide)]at hJ;subst hJ;refine X1 ?_;exact Xb
  try simp only[BN]at h22
  have hx2:x<=67108864:=by
   first
    |omega
    | (rcases h22 with h|h
       .exact absurd h (by simp[hne])
       omega)
  rw[N6 (by rw[hz2,Nv hx2];decide)]at hSC;subst hSC;refine Xd [⟨true,.v (li TC),none⟩] ?_ ?_
  .first|exact ct _|exact trivial|simpa[*]using ct _
  refine X0<|X0<|X2 ?_;refine(X9 rfl (fun h27=>?_) fun h27=>?_)
  ·(try simp only[BN]at h27);rw[N6 h27]at hJ;subst hJ;refine X1 ?_;exact Xb
  (try simp only[BN]at h27);rw[N9 (by simpa using h27)]at hJ;refine Xd [⟨true,.v (li SA),none⟩] ?_ ?_
  .first|exact ca _|exact trivial|simpa[*]using ca _
  refine X0<|X0<|X2 ?_;refine(X9 rfl (fun h32=>?_) fun h32=>?_)
  ·(try simp only[BN]at h32);rw[N6 h32]at hJ;subst hJ;refine X1 ?_;exact Xb
  (try simp only[BN]at h32);rw[N9 (by simpa using h32)]at hJ;refine Xd [⟨true,.v (li SB),none⟩] ?_ ?_
  .first|exact cb _|exact trivial|simpa[*]using cb _
  refine X1 ?_;refine(X9 rfl (fun h37=>?_) fun h37=>?_)
  ·(try simp only[BN]at h37);rw[N6 h37]at hJ;subst hJ;refine X1 ?_;exact Xb
  (try simp only[BN]at h37);rw[N9 (by simpa using h37)]at hJ;refine X2 ?_;exact⟨k+1,⟨hk1,hJ⟩,by omega,X5 (fun n=>n) []⟩
 (try simp only[BN]at h4);have hkl:k=l.length:=by omega
 rw[hkl,Nq]at hJ;simp only[ssC]at hJ;subst hJ;refine(Xj ?_);refine X1 ?_;exact Xb
end Go.Proofs.YtdccocolnaklkaaGreatDoor
