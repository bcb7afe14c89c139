/- Contracts of functions and plain facts about what they compute. Conditions: as each theorem states. -/
import Derived.Test.YtdccocolnaklkaaGreatDoorK3
import Derived.Test.YtdccocolnaklkaaGreatDoorK1
import Derived.Test.YtdccocolnaklkaaGreatDoorK2
set_option linter.unusedSimpArgs false
set_option linter.unusedVariables false
set_option linter.unnecessarySimpa false
set_option maxRecDepth 100000
set_option maxHeartbeats 2000000
namespace Go.Proofs.YtdccocolnaklkaaGreatDoor
open Go Go.Hl
open Tryz(prog)
theorem X7C (b:Int×Int) (hb:-1048576<=b.1/\b.1<=b.2/\b.2<=1048576) (d:Nat):Con prog 146 true [li b.1,li b.2] (.tup [li (X0n b),li (X2k b)]) none d:=by
 obtain⟨c1,c2⟩:=b;simp only at hb;have hw1:IntKind.i64.wrap (c1+1)=c1+1:=X5;have hw2:IntKind.i64.wrap (c2 - 1)=c2 - 1:=X5;refine X2 Tryz.func146 ?_;simp only[Tryz.f146];refine X4 ?_;refine X4 ?_;refine(XY [1,7] (fun(z:Int)=>[(6,.v (li z))]) (fun(z:Int)=>[]) (fun(z:Int)=>z=X0n (c1,c2)) ?_ ?_)
 .refine(X8 (fun h4=>?_) fun h4=>?_)
  .have hml:mn 0 (c1+1)=X0n (c1,c2):=by simp only[X0n];rw[N9 h4];unfold mn;(repeat' split)<;>omega
   refine(Xa (Qj 0 (c1+1)) ?_);exact Xv (X0n (c1,c2)) (rfl)
  have hml:(0:Int)=X0n (c1,c2):=by simp only[X0n];rw[N6 h4]
  exact Xv (X0n (c1,c2)) (rfl)
 rintro _ rfl;simp only[LN,Nat.reduceBEq,Nat.reduceLT];refine X0<|(X8 (fun h9=>?_) fun h9=>?_)
 .have hmh:mx 0 (c2 - 1)=X2k (c1,c2):=by simp only[X2k];rw[N9 h9];unfold mx;(repeat' split)<;>omega
  refine(Xa (Qt 0 (c2 - 1)) ?_);exact X7
 have hmh:X2k (c1,c2)=0:=by simp only[X2k];rw[N6 h9]
 exact X7
def X3S (k:List (Int×Int)):List (List CD):=k.map fun p=>[iC p.1]
def X0L (k:List (Int×Int)):List (List CD):=k.map fun p=>[iC p.2]
@[simp] theorem lows_nil:X3S []=[]:=rfl
@[simp] theorem highs_nil:X0L []=[]:=rfl
@[simp] theorem len_lows (k:List (Int×Int)):(X3S k).length=k.length:=by simp[X3S]
@[simp] theorem get_lows (k:List (Int×Int)) (i:Nat):(X3S k)[i]? =k[i]?.map fun p=>[iC p.1]:=by simp[X3S]
@[simp] theorem len_highs (k:List (Int×Int)):(X0L k).length=k.length:=by simp[X0L]
@[simp] theorem get_highs (k:List (Int×Int)) (i:Nat):(X0L k)[i]? =k[i]?.map fun p=>[iC p.2]:=by simp[X0L]
def X4N (vars:List Vr) (o n:Int) (k:List (Int×Int)):Int×Int:=
 if o=0 then(if n< -1048576\/1048576<n then(-1048577,1048577)else(n,n))else Q5 vars o n k
theorem span_con (vars:List Vr) (inp:Bool) (o n:Int) (K:CD) (k:List (Int×Int)) (hf:XK vars inp o n k.length=true) (hk:∀p∈k,bnd p) (d:Nat):
  Con prog 122 true [lV vars,.agg [.c (iC o),.c (iC n),.c K],.one (.c (.sl 1 (X3S k))),.one (.c (.sl 1 (X0L k)))] (.tup [li (X4N vars o n k).1,li (X4N vars o n k).2]) none d:=by
 have har:=WJ hf;have hrf:o=24->0<=n/\∃v,vars[n.toNat]? =some v/\(inp=true->v.kind≠0):=fun h=>Wn (by rw[<-h];exact hf);clear hf;have ar1:o=6->0+1<=k.length:=fun h=>by have:=kids1 (.inl h);rw[this]at har;simp only at har;omega
 have ar2:8<=o/\o<=22->0+1<=k.length/\1+1<=k.length:=fun h=>by have:=kids2 h;rw[this]at har;simp only at har;omega
 have ar3:o=23\/o=25->2<=k.length/\k.length<=33:=fun h=>by
  rcases h with h|h
  .have:=kids3;rw[h,this]at har;simp only at har;omega
  have:=kids4;rw[h,this]at har;simp only at har;omega
 clear har;obtain⟨res,hres⟩:∃r,X4N vars o n k=r:=⟨_,rfl⟩;rw[hres];simp only[X4N,Q5]at hres;refine X2 Tryz.func122 ?_;simp only[Tryz.f122];refine X4 ?_;refine X0<|X0<|X1 ?_;refine X3<|(Xc (fun h3=>?_) fun h3=>?_)
 .rw[N9 h3]at hres;refine X0<|(X8 (fun h5=>?_) fun h5=>?_)
  .rw[N9 h5]at hres;subst hres;exact X7
  rw[N6 (by omega)]at hres;subst hres;refine X0<|(N0 ?_);exact Qd
 rw[N6 h3,N6 h3]at hres;refine(Xc (fun h11=>?_) fun h11=>?_)
 .obtain⟨hn0,v,hv,_⟩:=hrf h11;rw[N9 h11,hv]at hres;subst hres;clear hrf;refine X0<|(N0 ?_);exact Qd
 rw[N6 h11]at hres;refine(Xc (fun h15=>?_) fun h15=>?_)
 .obtain⟨a1,a2,ha,hb1,hb2,hb3⟩:=kid hk (ar1 h15);have hw1:IntKind.i64.wrap (-a1)=-a1:=X5;have hw2:IntKind.i64.wrap (-a2)=-a2:=X5;rw[N9 h15]at hres;simp only[g2,ha,Option.getD_some]at hres;subst hres;clear ar1 ar2 ar3;refine X0<|(N0 ?_);exact Qd
 rw[N6 h15]at hres;refine(Xc (fun h19=>?_) fun h19=>?_)
 .obtain⟨a1,a2,ha,hb1,hb2,hb3⟩:=kid hk (ar2 (by omega)).1;obtain⟨c1,c2,hc,hc1,hc2,hc3⟩:=kid hk (ar2 (by omega)).2;have hw1:IntKind.i64.wrap (a1+c1)=a1+c1:=X5;have hw2:IntKind.i64.wrap (a2+c2)=a2+c2:=X5;rw[N9 h19]at hres;simp only[g2,ha,hc,Option.getD_some]at hres;subst hres;clear ar1 ar2 ar3;refine X0<|(N0 ?_);exact Qd
 rw[N6 h19]at hres;refine(Xc (fun h23=>?_) fun h23=>?_)
 .obtain⟨a1,a2,ha,hb1,hb2,hb3⟩:=kid hk (ar2 (by omega)).1;obtain⟨c1,c2,hc,hc1,hc2,hc3⟩:=kid hk (ar2 (by omega)).2;have hw1:IntKind.i64.wrap (a1 - c2)=a1 - c2:=X5;have hw2:IntKind.i64.wrap (a2 - c1)=a2 - c1:=X5;rw[N9 h23]at hres;simp only[g2,ha,hc,Option.getD_some]at hres;subst hres;clear ar1 ar2 ar3;refine X0<|(N0 ?_);exact Qd
 rw[N6 h23]at hres;refine(Xc (fun h27=>?_) fun h27=>?_)
 .obtain⟨a1,a2,ha,hb1,hb2,hb3⟩:=kid hk (ar2 (by omega)).1;obtain⟨c1,c2,hc,hc1,hc2,hc3⟩:=kid hk (ar2 (by omega)).2;rw[N9 h27]at hres;simp only[g2,ha,hc,Option.getD_some]at hres;clear ar1 ar2 ar3;have hm1:=X1L ⟨hb1,by omega⟩ ⟨hc1,by omega⟩ (x:=a1) (y:=c1);have hm2:=X1L ⟨hb1,by omega⟩ ⟨by omega,hc3⟩ (x:=a1) (y:=c2);have hm3:=X1L ⟨by omega,hb3⟩ ⟨hc1,by omega⟩ (x:=a2) (y:=c1);have hm4:=X1L ⟨by omega,hb3⟩ ⟨by omega,hc3⟩ (x:=a2) (y:=c2);have hw1:IntKind.i64.wrap (a1*c1)=a1*c1:=X5;have hw2:IntKind.i64.wrap (a1*c2)=a1*c2:=X5;have hw3:IntKind.i64.wrap (a2*c1)=a2*c1:=X5;have hw4:IntKind.i64.wrap (a2*c2)=a2*c2:=X5
  have he1:mn (mn (a1*c1) (a1*c2)) (mn (a2*c1) (a2*c2))=res.1:=by
   rw[<-hres];simp only[X2s,Wb,mn];generalize a1*c1=p at*;generalize a1*c2=q at*;generalize a2*c1=r at*;generalize a2*c2=s at*
   (repeat' split)<;>omega
  have he2:mx (mx (a1*c1) (a1*c2)) (mx (a2*c1) (a2*c2))=res.2:=by
   rw[<-hres];simp only[X2s,Wb,mx];generalize a1*c1=p at*;generalize a1*c2=q at*;generalize a2*c1=r at*;generalize a2*c2=s at*
   (repeat' split)<;>omega
  clear hres hm1 hm2 hm3 hm4;refine X0<|(N0 ?_);refine ZY [⟨true,.v (li (mn (a1*c1) (a1*c2))),none⟩,⟨true,.v (li (mn (a2*c1) (a2*c2))),none⟩,⟨true,.v (li (mn (mn (a1*c1) (a1*c2)) (mn (a2*c1) (a2*c2)))),none⟩,⟨true,.v (li (mx (a1*c1) (a1*c2))),none⟩,⟨true,.v (li (mx (a2*c1) (a2*c2))),none⟩,⟨true,.v (li (mx (mx (a1*c1) (a1*c2)) (mx (a2*c1) (a2*c2)))),none⟩] ?_ ?_
  .first|exact trivial|exact trivial|(repeat' first|exact trivial|exact Qj _ _ _|exact Qj _ _ _|(simpa[he1]using Qj (mn (a1*c1) (a1*c2)) (mn (a2*c1) (a2*c2)) _)|exact Qt _ _ _|exact Qt _ _ _|(simpa[he2]using Qt (mx (a1*c1) (a1*c2)) (mx (a2*c1) (a2*c2)) _)|apply And.intro)
  exact Qd
 rw[N6 h27]at hres;refine(Xc (fun h32=>?_) fun h32=>?_)
 .obtain⟨a1,a2,ha,hb1,hb2,hb3⟩:=kid hk (ar2 (by omega)).1;obtain⟨c1,c2,hc,hc1,hc2,hc3⟩:=kid hk (ar2 (by omega)).2;rw[N9 h32]at hres;simp only[g2,ha,hc,Option.getD_some]at hres
  have hmm:mx (X2B a1) (X2B a2)=mx a2 (-a1):=by
   unfold mx X2B
   (repeat' split)<;>omega
  have hm:-1048576<=mx a2 (-a1)/\mx a2 (-a1)<=1048576:=by unfold mx;split<;>omega
  have hw2:IntKind.i64.wrap (-(mx a2 (-a1)))=-(mx a2 (-a1)):=X5;clear ar1 ar2 ar3;refine X0<|(Xx [⟨true,.v (li (X2B a1)),none⟩,⟨true,.v (li (X2B a2)),none⟩,⟨true,.v (li (mx (X2B a1) (X2B a2))),none⟩] (by kernel_rfl) (by kernel_rfl) (by rfl) (by simp[*];first|exact⟨rfl,Iff.rfl⟩|exact⟨rfl,trivial⟩|rfl) ?_ ?_)
  .first|exact trivial|exact trivial|(repeat' first|exact trivial|exact X79 a1 (by omega) _|exact X79 a2 (by omega) _|(simpa[hmm]using Qt (X2B a1) (X2B a2) _)|apply And.intro)
  refine X0<|(X8 (fun h35=>?_) fun h35=>?_)
  .rw[N9 h35]at hres;subst hres;exact X7
  rw[N6 (by omega)]at hres;subst hres;exact X7
 rw[N6 h32]at hres;refine(Xc (fun h41=>?_) fun h41=>?_)
 .obtain⟨c1,c2,hc,hc1,hc2,hc3⟩:=kid hk (ar2 (by omega)).2;rw[N9 h41]at hres;simp only[g2,hc,Option.getD_some]at hres;subst hres;clear ar1 ar2 ar3;refine X0<|(Xx [⟨true,.tup [li (X0n (c1,c2)),li (X2k (c1,c2))],none⟩] (by kernel_rfl) (by kernel_rfl) (by rfl) (by simp[*];first|exact⟨rfl,Iff.rfl⟩|exact⟨rfl,trivial⟩|rfl) ?_ ?_)
  .first|exact X7C (c1,c2) ⟨hc1,hc2,hc3⟩ _|exact trivial|simpa[*]using X7C (c1,c2) ⟨hc1,hc2,hc3⟩ _
  exact Qd
 rw[N6 h41]at hres;refine(Xc (fun h45=>?_) fun h45=>?_)
 .obtain⟨a1,a2,ha,hb1,hb2,hb3⟩:=kid hk (ar2 (by omega)).1;obtain⟨c1,c2,hc,hc1,hc2,hc3⟩:=kid hk (ar2 (by omega)).2;rw[N9 h45]at hres;simp only[g2,ha,hc,Option.getD_some]at hres;subst hres;clear ar1 ar2 ar3;refine X0<|(Xx [⟨true,.v (li (mn a1 c1)),none⟩,⟨true,.v (li (mn a2 c2)),none⟩] (by kernel_rfl) (by kernel_rfl) (by rfl) (by simp[*];first|exact⟨rfl,Iff.rfl⟩|exact⟨rfl,trivial⟩|rfl) ?_ ?_)
  .first|exact⟨Qj _ _ _,Qj _ _ _⟩|exact trivial|(repeat' first|exact trivial|exact Qj _ _ _|exact Qj _ _ _|apply And.intro)
  exact Qd
 rw[N6 h45]at hres;refine(Xc (fun h49=>?_) fun h49=>?_)
 .obtain⟨a1,a2,ha,hb1,hb2,hb3⟩:=kid hk (ar2 (by omega)).1;obtain⟨c1,c2,hc,hc1,hc2,hc3⟩:=kid hk (ar2 (by omega)).2;rw[N9 h49]at hres;simp only[g2,ha,hc,Option.getD_some]at hres;subst hres;clear ar1 ar2 ar3;refine X0<|(Xx [⟨true,.v (li (mx a1 c1)),none⟩,⟨true,.v (li (mx a2 c2)),none⟩] (by kernel_rfl) (by kernel_rfl) (by rfl) (by simp[*];first|exact⟨rfl,Iff.rfl⟩|exact⟨rfl,trivial⟩|rfl) ?_ ?_)
  .first|exact⟨Qt _ _ _,Qt _ _ _⟩|exact trivial|(repeat' first|exact trivial|exact Qt _ _ _|exact Qt _ _ _|apply And.intro)
  exact Qd
 rw[N6 h49]at hres;refine(XY [2,3] (fun(z:Bool)=>[(202,.v (lb z))]) (fun(z:Bool)=>[]) (fun(z:Bool)=>z=decide (o=23\/o=25)) ?_ ?_)
 .refine(Xc (fun h54=>X6 ?_) fun h54=>?_)
  .exact Xv (true) (by simp[h54])
  refine X1 ?_;exact Xv (decide (o=25)) (by simp[h54])
 rintro z hz;simp only[LN,Nat.reduceBEq,Nat.reduceLT];subst hz;refine(XM (fun h58=>?_) fun h58=>?_)
 .have h2:=ar3 h58;rw[N9 h58]at hres;clear ar1 ar2 ar3 h58;rcases k with _|⟨⟨a1,a2⟩,_|⟨⟨c1,c2⟩,r⟩⟩
  .simp at h2
  .simp at h2
  have hr33:r.length<=31:=by simp only[List.length_cons]at h2;omega
  clear h2;simp at hres;refine X0<|(Q1 (by kernel_rfl) (by kernel_rfl) (by rfl) (by simp[*,X3S,X0L];rfl) ?_);refine X0<|X0<|X1 ?_;refine X3<|(Xb [2,3] (fun(x:Nat×Int×Int)=>[(15,.v (li x.2.1)),(16,.v (li x.2.2)),(17,.v (li ((x.1+2:Nat):Int)))]) (fun(x:Nat×Int×Int)=>[]) (fun(x:Nat×Int×Int)=>x.1<=r.length/\Wg (r.drop x.1) x.2=res) (fun(x:Nat×Int×Int)=>r.length - x.1) (0,c1,c2) ⟨Nc _,hres⟩ ?_);rintro⟨k,m,q⟩ ⟨hk',hJ⟩;simp only[LN,Nat.reduceBEq,Nat.reduceLT];simp only at hk' hJ;clear hres;have hdec:decide (((k+2:Nat):Int)<((r.length+1+1:Nat):Int))=decide (k<r.length):=by rw[decide_eq_decide];omega
  refine X0<|X0<|(XF (by simp[*,X3S,X0L];rfl) ?_);refine(QR (fun h63=>X6 ?_) fun h63=>?_)
  .have hlt:k<r.length:=by omega
   obtain⟨⟨e1,e2⟩,he,hd⟩:=Xw hlt;have hw1:IntKind.i64.wrap ((k:Int)+2+1)=(k:Int)+1+2:=by rw[X5 (by omega) (by omega)];omega
   have htn:((k:Int)+2).toNat=k+2:=by omega
   have h02:0<=(k:Int)+2:=by omega
   rw[hd]at hJ;simp only[Wg,Wb]at hJ;have hk1:k+1<=r.length:=hlt;clear hlt h63;refine X0<|X3<|(Xx [⟨true,.v (li (mn m e1)),none⟩,⟨true,.v (li (mx q e2)),none⟩] (by kernel_rfl) (by kernel_rfl) (by rfl) (by simp[*];first|exact⟨rfl,Iff.rfl⟩|exact⟨rfl,trivial⟩|rfl) ?_ ?_)
   .first|exact⟨Qj _ _ _,Qt _ _ _⟩|exact trivial|(repeat' first|exact trivial|exact Qj _ _ _|exact Qt _ _ _|apply And.intro)
   refine X1 ?_;exact Xj ((k+1,mn m e1,mx q e2)) (⟨hk1,hJ⟩) (hm:=by simp only;omega)
  have hkl:k=r.length:=by omega
  rw[hkl,Nj]at hJ;simp only[Wg]at hJ;refine(Xd ?_);refine X4 ?_;exact(Qd (he:=by subst hJ;rfl))
 rw[N6 h58]at hres;subst hres;exact X7
def okR (p:Int×Int):Bool:=decide (-1048576<=p.1)&&decide (p.2<=1048576)
def rgV (vars:List Vr) (o n:Int):Option (List (Int×Int))->(Int×Int)×Bool
 |none=>((0,0),false)
 |some k=>(Q5 vars o n k,okR (Q5 vars o n k))
def rgW (vars:List Vr) (o n:Int):Option (List (Int×Int))->(Int×Int)×Bool
 |none=>((0,0),false)
 |some k=>(X4N vars o n k,okR (X4N vars o n k))
mutual
def rgP (vars:List Vr):Tm->(Int×Int)×Bool
 | .mk o n ks=>rgV vars o n (QK vars ks)
def QK (vars:List Vr):List Tm->Option (List (Int×Int))
 |[]=>some []
 |t::l=>if(rgP vars t).2=true then(QK vars l).map ((rgP vars t).1:: ·)else none
end
def rgQ (vars:List Vr):Tm->(Int×Int)×Bool
 | .mk o n ks=>rgW vars o n (QK vars ks)
theorem X44 (vars:List Vr) (t:Tm):(rgQ vars t).2=(rgP vars t).2/\((rgP vars t).2=true->(rgQ vars t).1=(rgP vars t).1):=by
 obtain⟨o,n,ks⟩:=t;simp only[rgQ,rgP];cases QK vars ks with
 |none=>simp[rgV,rgW]
 | some k=>
   simp only[rgV,rgW,X4N];by_cases h:o=0
   .subst h;simp only[NG,Q5];by_cases h2:n< -1048576\/1048576<n
    .rw[N9 h2];have:okR (n,n)=false:=by simp only[okR,Nn,Nd];omega
     rw[this];exact⟨by decide,fun h=>by cases h⟩
    rw[N6 h2];exact⟨rfl,fun _=>rfl⟩
   simp only[N6 h];exact⟨trivial,fun _=>trivial⟩
def WM (vars:List Vr):Prop:=∀v∈vars,v.low<=v.high∧-1048576<=v.low/\v.high<=1048576
theorem X3Z {p q:Int×Int} (hp:p.1<=p.2) (hq:q.1<=q.2):(Wb p q).1<=(Wb p q).2:=by
 simp only[Wb,mn,mx]
 (repeat' split)<;>omega
theorem X7M:∀{l:List (Int×Int)} {p:Int×Int},(∀q∈l,bnd q)->p.1<=p.2->(Wg l p).1<=(Wg l p).2
 |[],p,_,hp=>hp
 |q::l,p,h,hp=>X7M (l:=l) (p:=Wb p q) (fun r hr=>h r (Nx _ hr)) (X3Z hp (h q (by simp)).2.1)
theorem rule_le {vars:List Vr} {inp:Bool} {o n:Int} {k:List (Int×Int)} (hv:WM vars) (hf:XK vars inp o n k.length=true) (hk:∀p∈k,bnd p):(Q5 vars o n k).1<=(Q5 vars o n k).2:=by
 have har:=WJ hf;have hrf:o=24->0<=n/\∃v,vars[n.toNat]? =some v/\(inp=true->v.kind≠0):=fun h=>Wn (by rw[<-h];exact hf)
 have hg:∀i:Nat,(g2 k i).1<=(g2 k i).2∧-1048576<=(g2 k i).1/\(g2 k i).2<=1048576:=by
  intro i;unfold g2;cases hi:k[i]? with
  |none=>simp
  |some p=>have:=hk p (N3 hi);exact⟨this.2.1,this.1,this.2.2⟩
 have h0:=hg 0;have h1:=hg 1;unfold Q5;generalize g2 k 0=a at*;generalize g2 k 1=b at*;split
 .exact NX _
 split
 .rename_i h24;obtain⟨_,v,hv1,_⟩:=hrf h24;rw[hv1];exact(hv v (N3 hv1)).1
 split
 .simp only;omega
 split
 .simp only;omega
 split
 .simp only;omega
 split
 .unfold X2s;exact X3Z (X3Z (X3Z (NX _) (NX _)) (NX _)) (NX _)
 split
 .simp only[mx]
  (repeat' split)<;>simp only<;>omega
 split
 .simp only[X0n,X2k,mn,mx]
  (repeat' split)<;>omega
 split
 .simp only[mn]
  (repeat' split)<;>omega
 split
 .simp only[mx]
  (repeat' split)<;>omega
 split
 .exact X7M (fun q hq=>hk q (D8 hq)) h1.1
 simp
theorem X8g {vars:List Vr}:∀{l:List Tm} {k:List (Int×Int)},QK vars l=some k->k.length=l.length
 |[],k,h=>by simp only[QK]at h;cases h;rfl
 | t::l,k,h=>by
   simp only[QK]at h;split at h
   .simp only[N8]at h;obtain⟨k',h',rfl⟩:=h;simp[X8g h']
   cases h
mutual
theorem X3W {vars:List Vr} {inp:Bool} (hv:WM vars):∀(t:Tm),Xt vars inp t=true->(rgP vars t).2=true->bnd (rgP vars t).1
 | .mk o n ks,hf,h=>by
   simp only[Xt,N4]at hf;simp only[rgP]at h⊢;cases hk:QK vars ks with
   |none=>rw[hk]at h;cases h
   | some k=>
     rw[hk]at h;simp only[rgV,okR,N4,N7]at h⊢;have hb:=X57 hv ks hf.2 k hk;have hl:=X8g hk;have:=rule_le hv (by rw[hl];exact hf.1) hb;exact⟨h.1,this,h.2⟩
theorem X57 {vars:List Vr} {inp:Bool} (hv:WM vars):∀(l:List Tm),Q0 vars inp l=true->∀k,QK vars l=some k->∀p∈k,bnd p
 |[],_,k,h,p,hp=>by simp only[QK]at h;cases h;cases hp
 | t ::l,hf,k,h,p,hp=>by
   simp only[Q0,N4]at hf;simp only[QK]at h;split at h
   .rename_i hok;simp only[N8]at h;obtain⟨k',h',rfl⟩:=h;rcases Ni.1 hp with rfl|hp
    .exact X3W hv t hf.1 hok
    exact X57 hv l hf.2 k' h' p hp
   cases h
end
@[simp] theorem encP_snoc (a:List (Int×Int)) (r:Int×Int):X0N (a++[r])=X0N a++[[iC r.1,iC r.2]]:=by simp[X0N]
@[simp] theorem lows_snoc (a:List (Int×Int)) (r:Int×Int):X3S (a++[r])=X3S a++[[iC r.1]]:=by simp[X3S]
@[simp] theorem highs_snoc (a:List (Int×Int)) (r:Int×Int):X0L (a++[r])=X0L a++[[iC r.2]]:=by simp[X0L]
theorem X58 (vars:List Vr) (inp:Bool) (hv:WM vars) (t:Tm):Xt vars inp t=true->∀d:Nat,
  Con prog 136 true [lV vars,aT t] (.tup [aP (rgP vars t).1,lb (rgP vars t).2]) none d:=by
 induction t using Tm.ind with
 |h o n ks ih=>
 intro hf d;simp only[Xt,N4]at hf;have har:=WJ hf.1
 have hlen:ks.length<=33:=by
  have:(XI o).2<=33:=by unfold XI;(repeat' split)<;>simp
  omega
 clear har;obtain⟨res,hres⟩:∃r,rgP vars (.mk o n ks)=r:=⟨_,rfl⟩;rw[hres];simp only[rgP]at hres;have ih':∀t∈ks,∀d,Con prog 136 true [lV vars,aT t] (.tup [aP (rgP vars t).1,lb (rgP vars t).2]) none d:=fun t ht d=>ih t ht (QB hf.2 t ht) d;clear ih;refine X2 Tryz.func136 ?_;simp only[Tryz.f136];simp only[aT,Tm.enc];refine X4 ?_;refine X4 ?_;refine X0<|X0<|X1 ?_;refine X3<|(Xb [0,3,4,13,14] (fun(x:Nat×List (Int×Int))=>[(6,.v (.one (.own 1006))),(15,.v (li x.1))]) (fun(x:Nat×List (Int×Int))=>[(3,.box [.c (iC o),.c (iC n),.c (.sl 3 (Xg ks))]),(4,.box [.c (iC 0),.c (iC 0)]),(1006,.row 164 2 (X0N x.2))]) (fun(x:Nat×List (Int×Int))=>x.1<=ks.length/\x.2.length=x.1/\QK vars ks=(QK vars (ks.drop x.1)).map (x.2++ ·)/\∀p∈x.2,bnd p) (fun(x:Nat×List (Int×Int))=>ks.length - x.1) (0,[]) ⟨Nc _,rfl,by simp,by simp⟩ ?_);rintro⟨k,acc⟩ ⟨hk,hal,hJ,hb⟩;simp only[LN,Nat.reduceBEq,Nat.reduceLT];simp only at hk hal hJ hb;refine(XS (fun h5=>X6 ?_) fun h5=>?_)
 .have hlt:k<ks.length:=by omega
  obtain⟨⟨eo,en,ek⟩,he,hd⟩:=Xw hlt;have he':=Qc he;simp only[Tm.enc]at he';have hw1:=Xz hlt (by omega);rw[hd]at hJ;simp only[QK]at hJ;have hk1:k+1<=ks.length:=hlt;have hmem:Tm.mk eo en ek∈ks:=N3 he;have hpb:=X3W hv _ (QB hf.2 _ hmem);have hroom:QF (k+1) 16:=XO (by omega) (by omega);clear hlt h5;refine X0<|X3<|X0<|X1 ?_;refine X0<|(Xa (ih' _ hmem) ?_);refine X0<|(X8 (fun h9=>?_) fun h9=>?_)
  .rw[h9]at hJ;simp only[Nz,NW,Option.map_none]at hJ;rw[hJ]at hres;subst hres;exact X7
  rw[N9 h9]at hJ;refine X1 ?_;refine X1 ?_
  exact Xj ((k+1,acc++[(rgP vars (.mk eo en ek)).1])) (⟨hk1,by simp[hal],by rw[hJ,Option.map_map];congr 1;funext z;simp,fun p hp=>by
   rcases NC.1 hp with h|h
   .exact hb p h
   simp only[Ni,Dn,or_false]at h;rw[h]
   exact hpb h9⟩) (hm:=by simp only;omega)
 have hkl:k=ks.length:=by omega
 rw[hkl,Nj]at hJ;simp only[QK,Option.map_some,Db]at hJ;rw[hJ]at hres;subst hres;have hf1:XK vars inp o n acc.length=true:=by rw[hal,hkl];exact hf.1
 refine(Xd ?_);refine X0<|(Xa (rule_con vars inp o n _ acc hf1 hb) ?_);refine X0<|(X2V [(11,11),(38,11),(42,11),(4,4)] (by kernel_rfl) (by kernel_rfl) (by rfl) (by simp[evsH,hokB,Qx, *];rfl) ?_);exact(Qd (he:=by simp[Xl,rgV,okR]))
theorem X5H (vars:List Vr) (inp:Bool) (hv:WM vars) (t:Tm):Xt vars inp t=true->∀d:Nat,
  Con prog 92 true [lV vars,aT t] (.tup [li (rgQ vars t).1.1,li (rgQ vars t).1.2,lb (rgQ vars t).2]) none d:=by
 induction t using Tm.ind with
 |h o n ks ih=>
 intro hf d;simp only[Xt,N4]at hf;have har:=WJ hf.1
 have hlen:ks.length<=33:=by
  have:(XI o).2<=33:=by unfold XI;(repeat' split)<;>simp
  omega
 clear har;obtain⟨res,hres⟩:∃r,rgQ vars (.mk o n ks)=r:=⟨_,rfl⟩;rw[hres];simp only[rgQ]at hres;have ih':∀t∈ks,∀d,Con prog 92 true [lV vars,aT t] (.tup [li (rgQ vars t).1.1,li (rgQ vars t).1.2,lb (rgQ vars t).2]) none d:=fun t ht d=>ih t ht (QB hf.2 t ht) d;clear ih;refine X2 Tryz.func92 ?_;simp only[Tryz.f92];simp only[aT,Tm.enc];refine X4 ?_;refine X4 ?_;refine X4 ?_;refine X0<|X0<|X1 ?_;refine X3<|(Xb [0,3] (fun(x:Nat×List (Int×Int))=>[(7,.v (.one (.own 1007))),(8,.v (.one (.own 1008))),(9,.v (li x.1))]) (fun(x:Nat×List (Int×Int))=>[(3,.box [.c (iC o),.c (iC n),.c (.sl 3 (Xg ks))]),(1007,.row 3 1 (X3S x.2)),(1008,.row 3 1 (X0L x.2))]) (fun(x:Nat×List (Int×Int))=>x.1<=ks.length/\x.2.length=x.1/\QK vars ks=(QK vars (ks.drop x.1)).map (x.2++ ·)/\∀p∈x.2,bnd p) (fun(x:Nat×List (Int×Int))=>ks.length - x.1) (0,[]) ⟨Nc _,rfl,by simp,by simp⟩ ?_);rintro⟨k,acc⟩ ⟨hk,hal,hJ,hb⟩;simp only[LN,Nat.reduceBEq,Nat.reduceLT];simp only at hk hal hJ hb;refine X0<|(Xc (fun h6=>X6 ?_) fun h6=>?_)
 .have hlt:k<ks.length:=by omega
  obtain⟨⟨eo,en,ek⟩,he,hd⟩:=Xw hlt;have he':=Qc he;simp only[Tm.enc]at he';have hw1:=Xz hlt (by omega);rw[hd]at hJ;simp only[QK]at hJ;have hk1:k+1<=ks.length:=hlt;have hmem:Tm.mk eo en ek∈ks:=N3 he;have hpb:=X3W hv _ (QB hf.2 _ hmem);have hroom:QF (k+1) 8:=XO (by omega) (by omega);rw[<-(X44 vars (.mk eo en ek)).1]at hJ hpb;clear hlt h6;refine X0<|X3<|X0<|(Xa (ih' _ hmem) ?_);refine X0<|(X8 (fun h9=>?_) fun h9=>?_)
  .rw[h9]at hJ;simp only[Nz,NW,Option.map_none]at hJ;rw[hJ]at hres;subst hres;exact X7
  rw[N9 h9]at hJ;have hq2:=(X44 vars (.mk eo en ek)).2 (by rw[<-(X44 vars (.mk eo en ek)).1];exact h9);refine X4 ?_;refine X1 ?_;refine X1 ?_
  exact Xj ((k+1,acc++[(rgP vars (.mk eo en ek)).1])) (⟨hk1,by simp[hal],by rw[hJ,Option.map_map];congr 1;funext z;simp,fun p hp=>by
   rcases NC.1 hp with h|h
   .exact hb p h
   simp only[Ni,Dn,or_false]at h;rw[h]
   exact hpb h9⟩) (hm:=by simp only;omega)
 have hkl:k=ks.length:=by omega
 rw[hkl,Nj]at hJ;simp only[QK,Option.map_some,Db]at hJ;rw[hJ]at hres;subst hres;have hf1:XK vars inp o n acc.length=true:=by rw[hal,hkl];exact hf.1
 refine(Xd ?_);refine X0<|(Xa (span_con vars inp o n _ acc hf1 hb) ?_);refine X4 ?_;exact(Qd (he:=by simp[Xl,rgW,okR]))
def QC (vars:List Vr) (inp:Bool) (t:Tm):Int:=if Xt vars inp t=true then(if(rgP vars t).2=true then 0 else 3)else 1
theorem X2W (vars:List Vr) (inp:Bool) (hv:WM vars) (hl:vars.length<=1000000000) (t:Tm) (hn:t.nodes<=1000000000) (d:Nat):
  Con prog 110 true [lV vars,aT t,lb inp] (.v (li (QC vars inp t))) none d:=by
 have c1:=Xb5 vars inp hl t hn;have c2:=X58 vars inp hv t;obtain⟨o,n,ks⟩:=t;obtain⟨F,hF⟩:∃F,Xt vars inp (.mk o n ks)=F:=⟨_,rfl⟩;obtain⟨R,hR⟩:∃R,rgP vars (.mk o n ks)=R:=⟨_,rfl⟩;simp only[QC,hF,hR]at c1 c2⊢;clear hF hR;refine X2 Tryz.func110 ?_;simp only[Tryz.f110];simp only[aT,Tm.enc]at c1 c2⊢;refine X4 ?_;refine X0<|X0<|(Xa c1 ?_);refine(XM (fun h2=>?_) fun h2=>?_)
 .exact X7
 refine X0<|X0<|(Xa (c2 h2) ?_);refine(X8 (fun h7=>?_) fun h7=>?_)
 .exact X7
 exact X7
theorem X62 (vars:List Vr) (inp:Bool) (hv:WM vars) (hl:vars.length<=1000000000) (t:Tm) (hn:t.nodes<=1000000000) (d:Nat):
  Con prog 101 true [lV vars,aT t,lb inp] (.v (li (QC vars inp t))) none d:=by
 have c1:=Xaj vars inp hl t hn;have c2:=X5H vars inp hv t;rw[(X44 vars t).1]at c2;obtain⟨o,n,ks⟩:=t;obtain⟨F,hF⟩:∃F,Xt vars inp (.mk o n ks)=F:=⟨_,rfl⟩;obtain⟨R,hR⟩:∃R,(rgP vars (.mk o n ks)).2=R:=⟨_,rfl⟩;obtain⟨S,hS⟩:∃S,(rgQ vars (.mk o n ks)).1=S:=⟨_,rfl⟩;simp only[QC,hF,hR,hS]at c1 c2⊢;clear hF hR hS;refine X2 Tryz.func101 ?_;simp only[Tryz.f101];simp only[aT,Tm.enc]at c1 c2⊢;refine X4 ?_;refine X0<|X0<|(Xa c1 ?_);refine(XM (fun h2=>?_) fun h2=>?_)
 .exact X7
 refine X0<|(Xa (c2 h2) ?_);refine X0<|(X8 (fun h7=>?_) fun h7=>?_)
 .exact X7
 exact X7
def stC (vars:List Vr) (nh:Nat) (d c v n:Int) (t:Tm) (la lc:Nat) (bs:List Int) (last:Bool):Int:=
 if shB vars nh d v n t la lc bs last=false then 1 else if X1V d c n bs=false then 3 else QC vars false t
def ssC (vars:List Vr) (nh:Nat):List St->Bool->Int
 |[],_=>0
 | .mk d c v n t a b bs::l,top=>
   if stC vars nh d c v n t a.length b.length bs (top&&l.isEmpty)=0 then
    (if ssC vars nh a false=0 then(if ssC vars nh b false=0 then ssC vars nh l top else ssC vars nh b false)else ssC vars nh a false)
   else stC vars nh d c v n t a.length b.length bs (top&&l.isEmpty)
mutual
def X01:St->Bool
 | .mk _ _ _ _ _ a b bs=>decide (bs.length<=1000000000)&&(Qm a&&Qm b)
def Qm:List St->Bool
 |[]=>true
 |s::l=>X01 s&&Qm l
end
theorem X13 {l:List St} (h:Qm l=true) {s:St} (hs:s∈l):X01 s=true:=by
 induction l with
 |nil=>cases hs
 | cons x l ih=>
   simp only[Qm,N4]at h;rcases Ni.1 hs with rfl|h1
   .exact h.1
   exact ih h.2 h1
theorem X5K {vars:List Vr} {nh:Nat} {d v n:Int} {t:Tm} {la lc:Nat} {bs:List Int} {last:Bool} (h:shB vars nh d v n t la lc bs last=true):(d=6->bs≠[])/\(d≠6->bs=[])/\(n<0->d=4):=by
 have hr:Zi bs=true->1<=bs.length:=by
  intro h;unfold Zi at h;simp only[N4,N7]at h;omega
 have hb:bs≠[]↔1<=bs.length:=by cases bs<;>simp
 have hb2:bs=[]↔bs.length=0:=by cases bs<;>simp
 rw[hb,hb2];unfold shB at h;generalize Zi bs=R at*;generalize bs.length=nb at*
 (repeat' split at h)<;>(try simp only[N4,N7]at h)<;>(try have:=hr h.2)<;>(try cases h)<;>refine⟨fun h=>?_,fun h=>?_,fun h=>?_⟩<;>omega
theorem X5u {l:List St} {k:Nat} (h:k+1<=l.length):(l.drop (k+1)).isEmpty=decide ((k:Int)=(l.length:Int) - 1):=by
 rw[D9,Dm,List.drop_eq_nil_iff,N7];omega
def fnz (vars:List Vr) (nh:Nat):List (List St)->Int
 |[]=>0
 |x::r=>if ssC vars nh x false=0 then fnz vars nh r else ssC vars nh x false
theorem X8H (f:Fl) (hv:WM f.vars) (hl:f.vars.length<=1000000) (l:List St):Xe l<=1000000000->Qm l=true->∀(top:Bool) (d:Nat),
  Con prog 71 true [aF f,lS l,lb top] (.v (li (ssC f.vars f.hats.length l top))) none d:=by
 revert l
 apply St.lists;intro l ih hn hbn top d;have hlen:=XB l;obtain⟨res,hres⟩:∃r,ssC f.vars f.hats.length l top=r:=⟨_,rfl⟩;rw[hres];have csh:=fun s last hb=>X87 f s last (by omega) hb;obtain⟨vars,hats,body⟩:=f;simp only at hv hl hres ih csh;refine X2 Tryz.func71 ?_;simp only[Tryz.f71];simp only[aF,Fl.enc,Na,Nb];refine X4 ?_;refine X0<|X0<|X1 ?_;refine X3<|(Xb [1,2,3,13,14] (fun(x:Nat)=>[(15,.v (li x))]) (fun(x:Nat)=>[(3,.box [.c (.sl 5 (Xr vars)),.c (.sl 6 (Xu hats)),.c (.sl 10 (Xf body))])]) (fun(x:Nat)=>x<=l.length/\ssC vars hats.length (l.drop x) top=res) (fun(x:Nat)=>l.length - x) (0:Nat) ⟨Nc _,hres⟩ ?_);rintro k ⟨hk,hJ⟩;simp only[LN,Nat.reduceBEq,Nat.reduceLT];clear hres;refine(XS (fun h4=>X6 ?_) fun h4=>?_)
 .have hlt:k<l.length:=by omega
  obtain⟨s,he,hd⟩:=Xw hlt;have hmem:s∈l:=N3 he;have hnm:=Q2 hmem;have hbm:=X13 hbn hmem;have iha:=fun h h2=>(ih s hmem).1 h h2;have ihb:=fun h h2=>(ih s hmem).2 h h2;have hw1:=Xz hlt (by omega);have hw2:IntKind.i64.wrap ((l.length:Int) - 1)=(l.length:Int) - 1:=X5;have hk1:k+1<=l.length:=hlt;have hla:=X5u hk1;rw[hd]at hJ;have ct:=X2W vars false hv (by omega) s.term;have csh1:=csh s (top&&decide ((k:Int)=(l.length:Int) - 1));have cnu:=numP_con s;obtain⟨sd,sc,sv,sn,⟨so,stn,sks⟩,sa,sb,sbs⟩:=s;simp only[St.then_,St.else_,St.term,St.bounds,St.do_,St.var,St.n,St.cost]at iha ihb hnm ct csh1 cnu;simp only[X01,N4,N7]at hbm;simp only[ssC,hla]at hJ;have ca:=iha (by omega) hbm.2.1;have cb:=ihb (by omega) hbm.2.2;have ct:=ct (by omega);have csh1:=csh1 hbm.1;have cnu:=cnu hbm.1;have he':=Q7 he;simp only[St.enc,Tm.enc,List.cons_append,List.nil_append]at he';simp only[aF,Fl.enc,aS,St.enc,Tm.enc,Na,Nb,List.cons_append,List.nil_append]at csh1 ca cb cnu;have hshb:=@X5K vars hats.length sd sv sn (.mk so stn sks) sa.length sb.length sbs (top&&decide ((k:Int)=(l.length:Int) - 1));obtain⟨SH,hSH⟩:∃x,shB vars hats.length sd sv sn (.mk so stn sks) sa.length sb.length sbs (top&&decide ((k:Int)=(l.length:Int) - 1))=x:=⟨_,rfl⟩;obtain⟨NU,hNU⟩:∃x,X1V sd sc sn sbs=x:=⟨_,rfl⟩;obtain⟨TC,hTC⟩:∃x,QC vars false (.mk so stn sks)=x:=⟨_,rfl⟩;obtain⟨SC,hSC⟩:∃x,stC vars hats.length sd sc sv sn (.mk so stn sks) sa.length sb.length sbs (top&&decide ((k:Int)=(l.length:Int) - 1))=x:=⟨_,rfl⟩;rw[hSC]at hJ;unfold stC at hSC;rw[hSH]at csh1 hshb hSC;rw[hNU]at cnu hSC;rw[hTC]at ct hSC
  have hlc2:∀x∈[sa,sb],∀d,Con prog 71 true [.agg [.c (.sl 5 (Xr vars)),.c (.sl 6 (Xu hats)),.c (.sl 10 (Xf body))],lS x,lb false] (.v (li (ssC vars hats.length x false))) none d:=by
   intro x hx;simp only[Ni,Dn,or_false]at hx;rcases hx with rfl|rfl
   .exact ca false
   exact cb false
  have hfn:(if ssC vars hats.length sa false=0 then(if ssC vars hats.length sb false=0 then ssC vars hats.length (l.drop (k+1)) top else ssC vars hats.length sb false)else ssC vars hats.length sa false)=(if fnz vars hats.length [sa,sb]=0 then ssC vars hats.length (l.drop (k+1)) top else fnz vars hats.length [sa,sb]):=by
   simp only[fnz];by_cases h1:ssC vars hats.length sa false=0<;>by_cases h2:ssC vars hats.length sb false=0<;>simp[h1,h2]
  rw[hfn]at hJ;obtain⟨LL,hLL⟩:∃x,x=[sa,sb]:=⟨_,rfl⟩;rw[<-hLL]at hJ hlc2;obtain⟨FN,hFN⟩:∃x,fnz vars hats.length LL=x:=⟨_,rfl⟩;rw[hFN]at hJ;have hrows:LL.map (fun x=>[CD.sl 10 (Xf x)])=[[.sl 10 (Xf sa)],[.sl 10 (Xf sb)]]:=by rw[hLL];rfl
  have hL2:LL.length=2:=by rw[hLL];rfl
  clear hlt h4 iha ihb ih hmem hnm hd he hbm hSH hNU hTC ca cb hfn hLL csh hla;refine X0<|X3<|X0<|X1 ?_;refine X0<|X0<|(Xa csh1 ?_);refine(XM (fun h7=>?_) fun h7=>?_)
  .rw[N9 h7]at hSC;subst hSC;rw[N6 (by decide)]at hJ;subst hJ;exact X7
  rw[N6 (by simp[h7])]at hSC;have hsb:=hshb h7;have cnu2:=cnu hsb.1 hsb.2.1;clear cnu hshb csh1;refine X0<|X0<|(Xa cnu2 ?_);refine(XM (fun h11=>?_) fun h11=>?_)
  .rw[N9 h11]at hSC;subst hSC;rw[N6 (by decide)]at hJ;subst hJ;exact X7
  rw[N6 (by simp[h11])]at hSC;subst hSC;clear cnu2 hsb;refine X0<|X0<|(Xa ct ?_);refine(X8 (fun h16=>?_) fun h16=>?_)
  .rw[N6 h16]at hJ;subst hJ;exact X7
  rw[N9 (by simpa using h16)]at hJ;clear ct;refine X4 ?_;refine X3<|(Xb [1,2,3,13,14,15,47,48] (fun(x:Nat)=>[(49,.v (li x))]) (fun(x:Nat)=>[(3,.box [.c (.sl 5 (Xr vars)),.c (.sl 6 (Xu hats)),.c (.sl 10 (Xf body))]),(47,.row 24 1 (LL.map fun x=>[CD.sl 10 (Xf x)]))]) (fun(x:Nat)=>x<=2/\fnz vars hats.length (LL.drop x)=FN) (fun(x:Nat)=>2 - x) (0:Nat) ⟨Nc _,hFN⟩ ?_);rintro q ⟨hq,hJ2⟩;simp only[LN,Nat.reduceBEq,Nat.reduceLT];clear hFN hrows;refine(XS (fun h22=>X6 ?_) fun h22=>?_)
  .have hlt2:q<LL.length:=by omega
   obtain⟨y,hy,hdy⟩:=Xw hlt2;have hwq:=Xz hlt2 (by omega);have hq1:q+1<=2:=by omega
   have cy:=hlc2 y (N3 hy);rw[hdy]at hJ2;simp only[fnz]at hJ2;generalize ssC vars hats.length y false=SY at*;clear hlt2 h22 hdy hlc2;refine X0<|X3<|X0<|X1 ?_;refine X0<|(Xa cy ?_);refine(X8 (fun h26=>?_) fun h26=>?_)
   .rw[N6 h26]at hJ2;subst hJ2;rw[N6 h26]at hJ;subst hJ;exact X7
   rw[N9 (by simpa using h26)]at hJ2;refine X1 ?_;exact Xj (q+1) (⟨hq1,hJ2⟩)
  have hq2:q=LL.length:=by omega
  rw[hq2,Nj]at hJ2;simp only[fnz]at hJ2;rw[N9 hJ2.symm]at hJ;refine(Xd ?_);refine X1 ?_;exact Xj (k+1) (⟨hk1,hJ⟩)
 have hkl:k=l.length:=by omega
 rw[hkl,Nj]at hJ;simp only[ssC]at hJ;subst hJ;refine(Xd ?_);exact X7
def QU (v:Vr):Prop:=QY v.low v.high=false\/(v.kind≠0/\v.init≠0)\/(v.kind=0/\(v.init<v.low\/v.high<v.init))
instance (v:Vr):Decidable (QU v):=by unfold QU;exact inferInstance
def Wo (seen:List Vr) (v:Vr):Int:=
 if X0P v.name=false then 7 else if(seen.any fun w=>decide (w.name=v.name))=true then 8 else if v.kind<0\/3<v.kind then 1 else if QU v then 3 else 0
def vcs:List Vr->List Vr->Int
 |_,[]=>0
 |seen,v::l=>if Wo seen v=0 then vcs (seen++[v]) l else Wo seen v
def X1F (vars:List Vr) (kind:Int):Bool:=decide (4096<spc vars kind)||(decide (kind=3)&&decide (256<spc vars kind))
def W8 (vars:List Vr):Int:=if vcs [] vars=0 then(if([1,2,3].any (X1F vars))=true then 4 else 0)else vcs [] vars
theorem X2i:∀(l seen:List Vr),vcs seen l=0->WM l
 |[],_,_,v,hv=>by cases hv
 | w :: l,seen,h,v,hv=>by
   simp only[vcs]at h;split at h
   .rename_i h0;rcases Ni.1 hv with rfl|hv
    .unfold Wo at h0;split at h0
     .cases h0
     split at h0
     .cases h0
     split at h0
     .cases h0
     split at h0
     .cases h0
     rename_i hk;unfold QU at hk
     have hb:QY v.low v.high=true:=by
      cases hb:QY v.low v.high with
      |true=>rfl
      |false=>exact absurd (.inl hb) hk
     simp only[QY,N4,N7]at hb;omega
    exact X2i l _ h v hv
   rename_i h0;exact absurd h h0
def X4n (vars:List Vr):List Int->Int
 |[]=>0
 |k::l=>if X1F vars k=true then 4 else X4n vars l
theorem X5j (vars:List Vr):∀l:List Int,X4n vars l=if l.any (X1F vars)=true then 4 else 0
 |[]=>by simp[X4n]
 | k::l=>by
   simp only[X4n,List.any_cons,X5j vars l];by_cases hb:X1F vars k=true
   .simp[hb]
   simp only[Bool.not_eq_true]at hb;simp[hb]
theorem X5n (vars:List Vr) (hl:vars.length<=1000000) (d:Nat):Con prog 69 true [lV vars] (.v (li (W8 vars))) none d:=by
 obtain⟨res,hres⟩:∃r,W8 vars=r:=⟨_,rfl⟩;rw[hres];obtain⟨cd,hcd⟩:∃r,vcs [] vars=r:=⟨_,rfl⟩;have hgood:cd=0->QO vars:=fun h=>X2i vars [] (hcd.trans h);unfold W8 at hres;rw[hcd]at hres;refine X2 Tryz.func69 ?_;simp only[Tryz.f69];refine X4 ?_;refine X0<|X0<|X1 ?_;refine X3<|(Xb [0,10,11] (fun(x:Nat)=>[(12,.v (li x))]) (fun(x:Nat)=>[]) (fun(x:Nat)=>x<=vars.length/\vcs (vars.take x) (vars.drop x)=cd) (fun(x:Nat)=>vars.length - x) (0:Nat) ⟨Nc _,hcd⟩ ?_);rintro k ⟨hk,hJ⟩;simp only[LN,Nat.reduceBEq,Nat.reduceLT];clear hcd;refine(XS (fun h4=>X6 ?_) fun h4=>?_)
 .have hlt:k<vars.length:=by omega
  obtain⟨v,he,hd⟩:=Xw hlt;have hw1:=Xz hlt (by omega);have hk1:k+1<=vars.length:=hlt;have hkl:(vars.take k).length<=1000000000:=by rw[Ns];omega
  rw[hd]at hJ;simp only[vcs]at hJ;rw[<-Z2 he]at hJ;clear hlt h4 hgood;refine X0<|X3<|X0<|X1 ?_;refine X4 ?_;refine X3<|X0<|(Xa (X5E _) ?_);refine(QR (fun h8=>?_) fun h8=>?_)
  .have hc:Wo (vars.take k) v=7:=by unfold Wo;rw[N9 h8]
   rw[hc,N6 (by decide)]at hJ;subst hJ;rw[N6 (by decide)]at hres;subst hres;exact X7
  refine X0<|(Xa (conV_con (vars.take k) 105 [.ptr v.enc] (fun w=>decide (w.name=v.name)) hkl (fun w _ d=>Xbh w v d)) ?_);refine(QR (fun h12=>?_) fun h12=>?_)
  .have hc:Wo (vars.take k) v=8:=by unfold Wo;rw[N6 (by simp[h8]),N9 h12]
   rw[hc,N6 (by decide)]at hJ;subst hJ;rw[N6 (by decide)]at hres;subst hres;exact X7
  refine(Xc (fun h16=>?_) fun h16=>?_)
  .have hc:Wo (vars.take k) v=1:=by unfold Wo;rw[N6 (by simp[h8]),N6 (by simp[h12]),N9 h16]
   rw[hc,N6 (by decide)]at hJ;subst hJ;rw[N6 (by decide)]at hres;subst hres;exact X7
  have hc:Wo (vars.take k) v=if QU v then 3 else 0:=by unfold Wo;rw[N6 (by simp[h8]),N6 (by simp[h12]),N6 (by omega)]
  refine(XY [0,10,11,12] (fun(z:Bool)=>[(38,.v (lb z))]) (fun(z:Bool)=>[]) (fun(z:Bool)=>z=decide (QU v)) ?_ ?_)
  .refine X0<|(Xa (X2m _ _) ?_);refine(QR (fun h21=>X6 ?_) fun h21=>?_)
   .exact Xv (true) ((Nw (.inl (by simpa using h21))).symm)
   refine(Xc (fun h24=>X6 ?_) fun h24=>?_)
   .exact Xv (true) ((Nw (.inr (.inl (by simpa using h24)))).symm)
   have hz:decide (QU v)=(decide (v.kind=0)&&(decide (v.init<v.low)||decide (v.high<v.init))):=by
    rw[D9,N7];unfold QU;simp only[N7,N4,Ng];have h21':QY v.low v.high=true:=by simpa using h21
    rw[h21'];constructor
    .rintro(h|h|h)
     .cases h
     .exfalso;omega
     exact h
    exact fun h=>.inr (.inr h)
   clear h21 h24;refine X1 ?_;exact Xv ((decide (v.kind=0)&&(decide (v.init<v.low)||decide (v.high<v.init)))) (hz.symm)
  rintro _ rfl;simp only[LN,Nat.reduceBEq,Nat.reduceLT];refine(XM (fun h28=>?_) fun h28=>?_)
  .rw[N9 h28]at hc;rw[hc,N6 (by decide)]at hJ;subst hJ;rw[N6 (by decide)]at hres;subst hres;exact X7
  rw[N6 h28]at hc;rw[hc,N9 rfl]at hJ;refine X1 ?_;exact Xj (k+1) (⟨hk1,hJ⟩)
 have hkl:k=vars.length:=by omega
 rw[hkl,Nj]at hJ;simp only[vcs]at hJ;have hv:=hgood hJ.symm;rw[N9 hJ.symm,<-X5j]at hres;clear hgood hJ hkl hk h4;obtain⟨L,hL⟩:∃L:List Int,L=[1,2,3]:=⟨_,rfl⟩;have hL3:L.length=3:=by rw[hL];rfl
 have hLi:∀k∈L,1<=k/\k<=3:=by rw[hL];decide
 rw[<-hL]at hres;refine(Xd ?_);refine X0<|X0<|X1 ?_;refine X3<|(Xb [0,71,72] (fun(x:Nat)=>[(73,.v (li x))]) (fun(x:Nat)=>[(71,.row 58 1 (Xk L))]) (fun(x:Nat)=>x<=3/\X4n vars (L.drop x)=res) (fun(x:Nat)=>3 - x) (0:Nat) ⟨Nc _,hres⟩ ?_ (QJ (fun n=>n) [] rfl (by simp[*,upS,Ql]) (by simp[upS,Xk,hL]) (by simp[upS])));rintro k2 ⟨hk2,hJ2⟩;simp only[LN,Nat.reduceBEq,Nat.reduceLT];clear hres hL;refine(XS (fun h36=>X6 ?_) fun h36=>?_)
 .have hlt:k2<L.length:=by omega
  obtain⟨kd,he,hd⟩:=Xw hlt;have hw1:=Xz hlt (by omega);have hk1:k2+1<=3:=by omega
  have hkd:=hLi kd (N3 he);have hsp:=X9g hv (vars.filter fun v=>decide (v.kind=kd)) 1 (fun v h=>(Dv.1 h).1) (by decide);have hsp':1<=spc vars kd/\spc vars kd<=4097:=hsp;have c:=X8L vars kd hkd hv hl;rw[hd]at hJ2;simp only[X4n]at hJ2;obtain⟨sv,hsv⟩:∃s,spc vars kd=s:=⟨_,rfl⟩;have hbk:X1F vars kd=(decide (4096<sv)||(decide (kd=3)&&decide (256<sv))):=by unfold X1F;rw[hsv]
  rw[hsv]at c hsp';clear hlt h36 hsp hsv hLi hv;refine X0<|X3<|X0<|X1 ?_;refine X0<|(Xa c ?_);refine(X8 (fun h40=>?_) fun h40=>?_)
  .have hb:X1F vars kd=true:=by
    rw[hbk];by_cases h:sv<=4096
    .simp[h]at h40;simp[h40]
    simp;omega
   rw[N9 hb]at hJ2;subst hJ2;exact X7
  have hb:X1F vars kd=false:=by
   rw[hbk];by_cases h:sv<=4096
   .simp[h]at h40;simp;omega
   simp[h]at h40
  rw[hb,N6 (by decide)]at hJ2;refine X1 ?_;exact Xj (k2+1) (⟨hk1,hJ2⟩)
 have hkl:k2=L.length:=by omega
 rw[hkl,Nj]at hJ2;simp only[X4n]at hJ2;subst hJ2;refine(Xd ?_);exact X7
theorem X9r {l:List St} (h:okL l=true) {s:St} (hs:s∈l):okS s=true:=by
 induction l with
 |nil=>cases hs
 | cons x l ih=>
   simp only[okL,N4]at h;rcases Ni.1 hs with rfl|h1
   .exact h.1
   exact ih h.2 h1
abbrev aB (p:B3):TV:=.agg [.c (iC p.s),.c (iC p.o),.c (iC p.t)]
theorem Xap (l:List St):Xe l<=1000000000->okL l=true->∀d:Nat,Con prog 72 true [lS l] (.v (aB (bdL CP l ⟨0,0,0⟩))) none d:=by
 revert l
 apply St.lists;intro l ih hn hok d;have hlen:=XB l;obtain⟨res,hres⟩:∃r,bdL CP l ⟨0,0,0⟩=r:=⟨_,rfl⟩;rw[hres];refine X2 Tryz.func72 ?_;simp only[Tryz.f72];refine X0<|(XF (by simp[*,Qe,CP];rfl) ?_);refine X0<|(XF (by simp[*,Qe,CP];rfl) ?_);refine X0<|X0<|(XF (by simp[*,Qe,CP];rfl) ?_);refine X3<|(Xb [2,3,9,10] (fun(x:Nat×B3)=>[(11,.v (li x.1))]) (fun(x:Nat×B3)=>[(2,.box [.c (iC 0),.c (iC 0),.c (iC 0)]),(3,.box [.c (iC x.2.s),.c (iC x.2.o),.c (iC x.2.t)])]) (fun(x:Nat×B3)=>x.1<=l.length/\bdL CP (l.drop x.1) x.2=res/\in3 CP x.2) (fun(x:Nat×B3)=>l.length - x.1) (0,⟨0,0,0⟩) ⟨Nc _,hres,WB nnCP⟩ ?_);rintro⟨k,⟨m1,m2,m3⟩⟩ ⟨hk,hJ,hin⟩;simp only[LN,Nat.reduceBEq,Nat.reduceLT];simp only at hk hJ;unfold in3 CP at hin;simp only at hin;clear hres;refine X0<|(XF (by simp[*,Qe,CP];rfl) ?_);refine X0<|(QR (fun h5=>X6 ?_) fun h5=>?_)
 .have hlt:k<l.length:=by omega
  obtain⟨s,he,hd⟩:=Xw hlt;have hmem:s∈l:=N3 he;have hnm:=Q2 hmem;have hos:=X9r hok hmem;have iha:=fun h=>(ih s hmem).1 h;have ihb:=fun h=>(ih s hmem).2 h;have hw1:=Xz hlt (by omega);have hk1:k+1<=l.length:=hlt;rw[hd]at hJ;simp only[bdL]at hJ;have hsin:=X1O nnCP s hos;obtain⟨pq,hpq⟩:∃pq,bdS CP s=pq:=⟨_,rfl⟩;rw[hpq]at hJ hsin;obtain⟨sd,sc,sv,sn,⟨so,stn,sks⟩,sa,sb,sbs⟩:=s;simp only[St.then_,St.else_,St.term]at iha ihb hnm;simp only[okS,N4,Ng,N7]at hos;have ca:=iha (by omega) hos.2.2.1;have cb:=ihb (by omega) hos.2.2.2;have he':=Q7 he;simp only[St.enc,Tm.enc,List.cons_append,List.nil_append]at he';simp only[bdS]at hpq;have hxa:=Z3 nnCP sa ⟨0,0,0⟩ hos.2.2.1 (WB nnCP);have hxb:=Z3 nnCP sb ⟨0,0,0⟩ hos.2.2.2 (WB nnCP);obtain⟨xa,hxa'⟩:∃x,bdL CP sa ⟨0,0,0⟩=x:=⟨_,rfl⟩;obtain⟨xb,hxb'⟩:∃x,bdL CP sb ⟨0,0,0⟩=x:=⟨_,rfl⟩;rw[hxa']at ca hxa hpq;rw[hxb']at cb hxb hpq;unfold in3 CP at hxa hxb;unfold nn3 at hsin;simp only at hxa hxb;obtain⟨a1,a2,a3⟩:=xa;obtain⟨b1,b2,b3⟩:=xb;obtain⟨q1,q2,q3⟩:=pq;simp only at hxa hxb hsin;have hcost:=hos.1;unfold bd1 at hpq;simp only[mx]at hpq;clear hlt h5 iha ihb ih hxa' hxb' hmem hnm hd he hos;refine X0<|X3<|X0<|(XF (by simp[*,Qe,CP];rfl) ?_);refine X0<|(XF (by simp[*,Qe,CP];rfl) ?_);refine X0<|(Xx [⟨true,.v (aB ⟨a1,a2,a3⟩),none⟩,⟨true,.v (aB ⟨b1,b2,b3⟩),none⟩] (by kernel_rfl) (by kernel_rfl) (by rfl) (by simp[*,Qe,CP];first|exact⟨rfl,Iff.rfl⟩|exact⟨rfl,trivial⟩|rfl) ?_ ?_)
  .first|exact⟨ca _,cb _⟩|exact trivial|(repeat' first|exact trivial|exact ca _|exact cb _|apply And.intro)
  refine(XY [2,3,6,9,10,11] (fun(z:Unit)=>[]) (fun(z:Unit)=>[(2,.box [.c (iC 0),.c (iC 0),.c (iC 0)]),(3,.box [.c (iC m1),.c (iC m2),.c (iC m3)]),(6,.box [.c (iC q1),.c (iC q2),.c (iC q3)])]) (fun(z:Unit)=>q1<=4503874505281537/\q2<=4503874505281537/\q3<=4503874505281537) ?_ ?_)
  .refine X0<|(XF (by simp[*,Qe,CP];rfl) ?_);refine X3<|X0<|(XF (by simp[*,Qe,CP];rfl) ?_);refine(QR (fun h12=>?_) fun h12=>?_)
   .rw[N6 (by omega),N6 (by omega),N9 h12]at hpq;simp only[B3.mk.injEq]at hpq;obtain⟨p1,p2,p3⟩:=hpq;subst p1 p2 p3;refine(XF (by simp[*,Qe,CP];rfl) ?_);exact Xv (()) (⟨by omega,by omega,by omega⟩)
   refine X0<|(XF (by simp[*,Qe,CP];rfl) ?_);refine(QR (fun h16=>?_) fun h16=>?_)
   .rw[N6 (by omega),N9 h16]at hpq;simp only[B3.mk.injEq]at hpq;obtain⟨p1,p2,p3⟩:=hpq;have hw2:IntKind.i64.wrap (1+(if a1<b1 then b1 else a1))=q1:=by rw[<-p1];exact X5 (by split<;>omega) (by split<;>omega)
    have hw3:IntKind.i64.wrap (sc+(if a3<b3 then b3 else a3))=q3:=by rw[<-p3];exact X5 (by split<;>omega) (by split<;>omega)
    have hq:q1<=4503874505281537/\q2<=4503874505281537/\q3<=4503874505281537:=by
     rw[<-p1,<-p2,<-p3];refine⟨?_,?_,?_⟩<;>split<;>omega
    clear p1 p3;refine X0<|(XF (by simp[*,Qe,CP];rfl) ?_);refine X0<|(XF (by simp[*,Qe,CP];rfl) ?_);refine(XF (by simp[*,Qe,CP];rfl) ?_);exact Xv (()) (hq)
   refine X0<|(XF (by simp[*,Qe,CP];rfl) ?_);refine(XM (fun h22=>?_) fun h22=>?_)
   .rw[N9 h22]at hpq;simp only[B3.mk.injEq]at hpq;obtain⟨p1,p2,p3⟩:=hpq;have hnn:0<=sn/\sn<=4096:=by omega
    have m4:=mulN hnn (z:=1+a1) (by omega);have m5:=mulN hnn (z:=a2) (by omega);have m6:=mulN hnn (z:=sc+a3) (by omega);have hw2:IntKind.i64.wrap (1+a1)=1+a1:=X5;have hw3:IntKind.i64.wrap (sn*(1+a1))=sn*(1+a1):=X5;have hw4:IntKind.i64.wrap (1+sn*(1+a1))=q1:=by rw[<-p1];exact X5
    have hw5:IntKind.i64.wrap (sn*a2)=q2:=by rw[<-p2];exact X5
    have hw6:IntKind.i64.wrap (sc+a3)=sc+a3:=X5;have hw7:IntKind.i64.wrap (sn*(sc+a3))=q3:=by rw[<-p3];exact X5
    have hq:q1<=4503874505281537/\q2<=4503874505281537/\q3<=4503874505281537:=by omega
    clear p1 p2 p3 m4 m5 m6;refine X0<|(XF (by simp[*,Qe,CP];rfl) ?_);refine X0<|(XF (by simp[*,Qe,CP];rfl) ?_);refine(XF (by simp[*,Qe,CP];rfl) ?_);exact Xv (()) (hq)
   rw[N6 h22,N6 h16,N6 h12]at hpq;simp only[B3.mk.injEq]at hpq;obtain⟨p1,p2,p3⟩:=hpq;subst p1 p2 p3;exact Xv (()) (⟨by omega,by omega,by omega⟩)
  rintro _ ⟨hq1,hq2,hq3⟩;simp only[LN,Nat.reduceBEq,Nat.reduceLT];clear hpq ca cb hxa hxb;have hw2:IntKind.i64.wrap (m1+q1)=m1+q1:=X5;have hw3:IntKind.i64.wrap (m2+q2)=m2+q2:=X5;have hw4:IntKind.i64.wrap (m3+q3)=m3+q3:=X5;have hmn1:(if 1099511627776<m1+q1 then 1099511627776 else m1+q1)=mn (m1+q1) 1099511627776:=rfl;have hmn2:(if 1099511627776<m2+q2 then 1099511627776 else m2+q2)=mn (m2+q2) 1099511627776:=rfl;have hmn3:(if 1099511627776<m3+q3 then 1099511627776 else m3+q3)=mn (m3+q3) 1099511627776:=rfl;have hin2:in3 CP (Qe CP ⟨m1,m2,m3⟩ ⟨q1,q2,q3⟩):=X2l nnCP ⟨hin.1,hin.2.2.1,hin.2.2.2.2.1⟩ ⟨hsin.1,hsin.2.1,hsin.2.2⟩;refine X0<|(XF (by simp[*,Qe,CP];rfl) ?_);refine X0<|(XF (by simp[*,Qe,CP];rfl) ?_);refine(XF (by simp[*,Qe,CP];rfl) ?_);refine(XF (by simp[*,Qe,CP];rfl) ?_);exact⟨(k+1,Qe CP ⟨m1,m2,m3⟩ ⟨q1,q2,q3⟩),⟨hk1,hJ,hin2⟩,by simp only;omega,QJ (fun n=>n) [] rfl (by simp[upS,Ql, *,Qe,CP]) (by simp[*,upS,Qe,CP]) (by simp[upS])⟩
 have hkl:k=l.length:=by omega
 rw[hkl,Nj]at hJ;simp only[bdL]at hJ;subst hJ;refine(Xd ?_);refine X0<|(XF (by simp[*,Qe,CP];rfl) ?_);exact(Xh (fun h=>⟨.inr rfl,h⟩) _ (by simp[*,Qe,CP];rfl) (by first|rfl|(simp[*];done)|(simp only[Xl];(repeat' split)<;>first|rfl|(exfalso;omega)|simp_all)) (by simp))
theorem X3J (l:List St):Xe l<=1000000000->okL l=true->∀d:Nat,Con prog 65 true [lS l] (.tup [li (bdL CR l ⟨0,0,0⟩).s,li (bdL CR l ⟨0,0,0⟩).o,li (bdL CR l ⟨0,0,0⟩).t]) none d:=by
 revert l
 apply St.lists;intro l ih hn hok d;have hlen:=XB l;obtain⟨res,hres⟩:∃r,bdL CR l ⟨0,0,0⟩=r:=⟨_,rfl⟩;rw[hres];refine X2 Tryz.func65 ?_;simp only[Tryz.f65];refine X0<|(XF (by simp[*,Qe,CR];rfl) ?_);refine X0<|(XF (by simp[*,Qe,CR];rfl) ?_);refine X0<|X0<|(XF (by simp[*,Qe,CR];rfl) ?_);refine X3<|(Xb [0] (fun(x:Nat×B3)=>[(5,.v (li x.2.s)),(6,.v (li x.2.o)),(7,.v (li x.2.t)),(8,.v (li x.1))]) (fun(x:Nat×B3)=>[]) (fun(x:Nat×B3)=>x.1<=l.length/\bdL CR (l.drop x.1) x.2=res/\in3 CR x.2) (fun(x:Nat×B3)=>l.length - x.1) (0,⟨0,0,0⟩) ⟨Nc _,hres,WB X36⟩ ?_);rintro⟨k,⟨m1,m2,m3⟩⟩ ⟨hk,hJ,hin⟩;simp only[LN,Nat.reduceBEq,Nat.reduceLT];simp only at hk hJ;unfold in3 CR at hin;simp only at hin;clear hres;refine X0<|X0<|(XF (by simp[*,Qe,CR];rfl) ?_);refine(QR (fun h5=>X6 ?_) fun h5=>?_)
 .have hlt:k<l.length:=by omega
  obtain⟨s,he,hd⟩:=Xw hlt;have hmem:s∈l:=N3 he;have hnm:=Q2 hmem;have hos:=X9r hok hmem;have iha:=fun h=>(ih s hmem).1 h;have ihb:=fun h=>(ih s hmem).2 h;have hw1:=Xz hlt (by omega);have hk1:k+1<=l.length:=hlt;rw[hd]at hJ;simp only[bdL]at hJ;have hsin:=X1O X36 s hos;obtain⟨pq,hpq⟩:∃pq,bdS CR s=pq:=⟨_,rfl⟩;rw[hpq]at hJ hsin;obtain⟨sd,sc,sv,sn,⟨so,stn,sks⟩,sa,sb,sbs⟩:=s;simp only[St.then_,St.else_,St.term]at iha ihb hnm;simp only[okS,N4,Ng,N7,Dm]at hos;have ca:=iha (by omega) hos.2.2.1;have cb:=ihb (by omega) hos.2.2.2;have he':=Q7 he;simp only[St.enc,Tm.enc,List.cons_append,List.nil_append]at he';simp only[bdS]at hpq;have hxa:=Z3 X36 sa ⟨0,0,0⟩ hos.2.2.1 (WB X36);have hxb:=Z3 X36 sb ⟨0,0,0⟩ hos.2.2.2 (WB X36);obtain⟨xa,hxa'⟩:∃x,bdL CR sa ⟨0,0,0⟩=x:=⟨_,rfl⟩;obtain⟨xb,hxb'⟩:∃x,bdL CR sb ⟨0,0,0⟩=x:=⟨_,rfl⟩
  have hz:sd≠3->sd≠4->xa=⟨0,0,0⟩/\xb=⟨0,0,0⟩:=by
   intro h3 h4;rcases hos.2.1 with h|h|h
   .exact absurd h h3
   .exact absurd h h4
   rw[<-hxa',<-hxb',h.1,h.2];exact⟨rfl,rfl⟩
  rw[hxa']at ca hxa hpq;rw[hxb']at cb hxb hpq;unfold in3 CR at hxa hxb;unfold nn3 at hsin;simp only at hxa hxb;obtain⟨a1,a2,a3⟩:=xa;obtain⟨b1,b2,b3⟩:=xb;obtain⟨q1,q2,q3⟩:=pq;simp only[B3.mk.injEq]at hz;simp only at hxa hxb hsin;have hcost:=hos.1;unfold bd1 at hpq;simp only at hpq;have hmx1:0<=mx a1 b1/\mx a1 b1<=4097:=by unfold mx;split<;>omega
  have hmx2:0<=mx a2 b2/\mx a2 b2<=9:=by unfold mx;split<;>omega
  have hmx3:0<=mx a3 b3/\mx a3 b3<=67108865:=by unfold mx;split<;>omega
  have hw2:IntKind.i64.wrap (1+mx a1 b1)=1+mx a1 b1:=X5;have hw3:IntKind.i64.wrap (sc+mx a3 b3)=sc+mx a3 b3:=X5;clear hlt h5 iha ihb ih hxa' hxb' hmem hnm hd he hos;refine X0<|X3<|X0<|(XF (by simp[*,Qe,CR];rfl) ?_);refine X0<|(Wk [⟨true,.tup [li a1,li a2,li a3],none⟩] (by simp[*,Qe,CR];first|exact⟨rfl,Iff.rfl⟩|exact⟨rfl,trivial⟩|rfl) ?_ ?_)
  .first|exact ca _|exact trivial|simpa[*,Qe,CR]using ca _
  refine X0<|(Wk [⟨true,.tup [li b1,li b2,li b3],none⟩] (by simp[*,Qe,CR];first|exact⟨rfl,Iff.rfl⟩|exact⟨rfl,trivial⟩|rfl) ?_ ?_)
  .first|exact cb _|exact trivial|simpa[*,Qe,CR]using cb _
  refine X0<|(Xx [⟨true,.v (li (mx a1 b1)),none⟩,⟨true,.v (li (mx a2 b2)),none⟩,⟨true,.v (li (mx a3 b3)),none⟩] (by kernel_rfl) (by kernel_rfl) (by rfl) (by simp[*,Qe,CR];first|exact⟨rfl,Iff.rfl⟩|exact⟨rfl,trivial⟩|rfl) ?_ ?_)
  .first|exact⟨Qt _ _ _,Qt _ _ _,Qt _ _ _⟩|exact trivial|(repeat' first|exact trivial|exact Qt _ _ _|exact Qt _ _ _|exact Qt _ _ _|apply And.intro)
  refine(XY [0,5,6,7,8,9] (fun(z:Int)=>[(16,.v (li q1)),(17,.v (li z)),(18,.v (li q3))]) (fun(z:Int)=>[(9,.box [.c (iC sd),.c (iC sc),.c (iC sv),.c (iC sn),.c (iC so),.c (iC stn),.c (.sl 3 (Xg sks)),.c (.sl 10 (Xf sa)),.c (.sl 10 (Xf sb)),.c (.sl 1 (Xk sbs))])]) (fun(z:Int)=>(sd≠1->z=q2)/\(sd=1->q2=1)/\q1<=4503874505281537/\q2<=4503874505281537/\q3<=4503874505281537) ?_ ?_)
  .refine X0<|(XF (by simp[*,Qe,CR];rfl) ?_);refine(XM (fun h12=>?_) fun h12=>?_)
   .rw[N9 h12]at hpq;simp only[B3.mk.injEq]at hpq;obtain⟨p1,p2,p3⟩:=hpq;have hnn:0<=sn/\sn<=4096:=by omega
    have m4:=mulN hnn (z:=1+a1) (by omega);have m5:=mulN hnn (z:=a2) (by omega);have m6:=mulN hnn (z:=sc+a3) (by omega);have hw2:IntKind.i64.wrap (1+a1)=1+a1:=X5;have hw3:IntKind.i64.wrap (sn*(1+a1))=sn*(1+a1):=X5;have hw4:IntKind.i64.wrap (1+sn*(1+a1))=q1:=by rw[<-p1];exact X5
    have hw5:IntKind.i64.wrap (sn*a2)=q2:=by rw[<-p2];exact X5
    have hw6:IntKind.i64.wrap (sc+a3)=sc+a3:=X5;have hw7:IntKind.i64.wrap (sn*(sc+a3))=q3:=by rw[<-p3];exact X5
    have hq:q1<=4503874505281537/\q2<=4503874505281537/\q3<=4503874505281537:=by omega
    clear p1 p2 p3 m4 m5 m6 hz;refine(Q1 (by kernel_rfl) (by kernel_rfl) (by rfl) (by simp[*,Qe,CR];rfl) ?_);exact Xv (q2) (⟨fun _=>rfl,fun h=>absurd h (by omega),hq⟩)
   have hfin:q1=1+mx a1 b1/\q3=sc+mx a3 b3/\(sd≠1->mx a2 b2=q2)/\(sd=1->q2=1):=by
    rw[N6 h12]at hpq;by_cases h3:sd=3
    .rw[N9 h3]at hpq;simp only[B3.mk.injEq]at hpq;exact⟨hpq.1.symm,hpq.2.2.symm,fun _=>hpq.2.1,fun h=>absurd h (by omega)⟩
    rw[N6 h3]at hpq;obtain⟨⟨e1,e2,e3⟩,e4,e5,e6⟩:=hz h3 h12;subst e1 e2 e3 e4 e5 e6;by_cases h1:sd=1
    .rw[N9 h1]at hpq;simp only[B3.mk.injEq]at hpq;exact⟨by rw[<-hpq.1];rfl,by rw[<-hpq.2.2];simp[mx],fun h=>absurd h1 h,fun _=>hpq.2.1.symm⟩
    rw[N6 h1]at hpq;simp only[B3.mk.injEq]at hpq;exact⟨by rw[<-hpq.1];rfl,by rw[<-hpq.2.2];simp[mx],fun _=>by rw[<-hpq.2.1];rfl,fun h=>absurd h h1⟩
   obtain⟨f1,f2,f3,f4⟩:=hfin;have hq1:q1<=4503874505281537:=by omega
   have hq3:q3<=4503874505281537:=by omega
   have hq2:q2<=4503874505281537:=by
    by_cases h:sd=1
    .have:=f4 h;omega
    have:=f3 h;omega
   clear hpq hz;exact Xv (mx a2 b2) (⟨f3,f4,hq1,hq2,hq3⟩)
  rintro z2 ⟨hz2,hz3,hq⟩;simp only[LN,Nat.reduceBEq,Nat.reduceLT];clear hpq hz hw2 hw3 ca cb;refine(XY [0,5,6,7,8,16,18] (fun(z:Unit)=>[(17,.v (li q2))]) (fun(z:Unit)=>[]) (fun(z:Unit)=>True) ?_ ?_)
  .refine X0<|(XF (by simp[*,Qe,CR];rfl) ?_);refine(XM (fun h18=>?_) fun h18=>?_)
   .have hq21:=hz3 h18;refine(XF (by simp[*,Qe,CR];rfl) ?_);exact Xv (()) (trivial)
   have hq21:=hz2 h18;exact Xv (()) (trivial)
  rintro _ _;simp only[LN,Nat.reduceBEq,Nat.reduceLT];clear hz2 hz3;obtain⟨hq1,hq2,hq3⟩:=hq;have hw2:IntKind.i64.wrap (m1+q1)=m1+q1:=X5;have hw3:IntKind.i64.wrap (m2+q2)=m2+q2:=X5;have hw4:IntKind.i64.wrap (m3+q3)=m3+q3:=X5;have hin2:in3 CR (Qe CR ⟨m1,m2,m3⟩ ⟨q1,q2,q3⟩):=X2l X36 ⟨hin.1,hin.2.2.1,hin.2.2.2.2.1⟩ ⟨hsin.1,hsin.2.1,hsin.2.2⟩;refine X0<|(Wk [⟨true,.v (li (mn (m1+q1) 4097)),none⟩] (by simp[*,Qe,CR];first|exact⟨rfl,Iff.rfl⟩|exact⟨rfl,trivial⟩|rfl) ?_ ?_)
  .first|exact Qj _ _ _|exact trivial|simpa[*,Qe,CR]using Qj _ _ _
  refine X0<|(Wk [⟨true,.v (li (mn (m2+q2) 9)),none⟩] (by simp[*,Qe,CR];first|exact⟨rfl,Iff.rfl⟩|exact⟨rfl,trivial⟩|rfl) ?_ ?_)
  .first|exact Qj _ _ _|exact trivial|simpa[*,Qe,CR]using Qj _ _ _
  refine(Wk [⟨true,.v (li (mn (m3+q3) 67108865)),none⟩] (by simp[*,Qe,CR];first|exact⟨rfl,Iff.rfl⟩|exact⟨rfl,trivial⟩|rfl) ?_ ?_)
  .first|exact Qj _ _ _|exact trivial|simpa[*,Qe,CR]using Qj _ _ _
  refine(XF (by simp[*,Qe,CR];rfl) ?_);exact⟨(k+1,Qe CR ⟨m1,m2,m3⟩ ⟨q1,q2,q3⟩),⟨hk1,hJ,hin2⟩,by simp only;omega,QJ (fun n=>n) [] rfl (by simp[upS,Ql, *,Qe,CR]) (by simp[*,upS,Qe,CR]) (by simp[upS])⟩
 have hkl:k=l.length:=by omega
 rw[hkl,Nj]at hJ;simp only[bdL]at hJ;subst hJ;refine(Xd ?_);refine X0<|(XF (by simp[*,Qe,CR];rfl) ?_);exact(Xh (fun h=>⟨.inr rfl,h⟩) _ (by simp[*,Qe,CR];rfl) (by first|rfl|(simp[*];done)|(simp only[Xl];(repeat' split)<;>first|rfl|(exfalso;omega)|simp_all)) (by simp))
theorem Xax (vars:List Vr) (hl:vars.length<=1000000) (d:Nat):Con prog 98 true [lV vars] (.v (li (W8 vars))) none d:=by
 obtain⟨res,hres⟩:∃r,W8 vars=r:=⟨_,rfl⟩;rw[hres];obtain⟨cd,hcd⟩:∃r,vcs [] vars=r:=⟨_,rfl⟩;have hgood:cd=0->QO vars:=fun h=>X2i vars [] (hcd.trans h);unfold W8 at hres;rw[hcd]at hres;refine X2 Tryz.func98 ?_;simp only[Tryz.f98];refine X4 ?_;refine X0<|X0<|X1 ?_;refine X3<|(Xb [0] (fun(x:Nat)=>[(3,.v (li x))]) (fun(x:Nat)=>[]) (fun(x:Nat)=>x<=vars.length/\vcs (vars.take x) (vars.drop x)=cd) (fun(x:Nat)=>vars.length - x) (0:Nat) ⟨Nc _,hcd⟩ ?_);rintro k ⟨hk,hJ⟩;simp only[LN,Nat.reduceBEq,Nat.reduceLT];clear hcd;refine X0<|(Xc (fun h4=>X6 ?_) fun h4=>?_)
 .have hlt:k<vars.length:=by omega
  obtain⟨v,he,hd⟩:=Xw hlt;have hw1:=Xz hlt (by omega);have hk1:k+1<=vars.length:=hlt;have hkl:(vars.take k).length=k:=by rw[Ns];omega
  rw[hd]at hJ;simp only[vcs]at hJ;rw[<-Z2 he]at hJ;clear hlt h4 hgood hd;refine X0<|X3<|X0<|X1 ?_;refine X0<|X0<|(Xa (X5D _) ?_);refine(XM (fun h7=>?_) fun h7=>?_)
  .have hc:Wo (vars.take k) v=7:=by unfold Wo;rw[N9 h7]
   rw[hc,N6 (by decide)]at hJ;subst hJ;rw[N6 (by decide)]at hres;subst hres;exact X7
  refine X0<|X0<|X1 ?_;refine X3<|(Xb [0,3,4] (fun(x:Nat)=>[(5,.v (li x))]) (fun(x:Nat)=>[(4,.box [.c (sC v.name),.c (iC v.kind),.c (iC v.low),.c (iC v.high),.c (iC v.init)])]) (fun(x:Nat)=>x<=k/\∀j:Nat,j<x->∀w,vars[j]? =some w->w.name≠v.name) (fun(x:Nat)=>k - x) (0:Nat) ⟨Nc _,fun j hj=>absurd hj (Dk j)⟩ ?_);rintro j ⟨hj,hno⟩;simp only[LN,Nat.reduceBEq,Nat.reduceLT];refine X0<|(Xc (fun h13=>X6 ?_) fun h13=>?_)
  .have hjk:j<k:=by omega
   obtain⟨w,hw⟩:∃w,vars[j]? =some w:=⟨vars[j],by simp[show j<vars.length by omega]⟩;have hwj:=Xz hjk (by omega);have hj1:j+1<=k:=hjk
   have hmemw:w∈vars.take k:=by
    have:(vars.take k)[j]? =some w:=by rw[List.getElem?_take_of_lt hjk];exact hw
    exact N3 this
   clear hjk h13;refine X0<|X3<|X0<|(N0 ?_);refine(XM (fun h15=>?_) fun h15=>?_)
   .have hany:((vars.take k).any fun w=>decide (w.name=v.name))=true:=by
     rw[List.any_eq_true];exact⟨w,hmemw,by simpa using h15⟩
    have hc:Wo (vars.take k) v=8:=by unfold Wo;rw[N6 (by simp[h7]),N9 hany]
    rw[hc,N6 (by decide)]at hJ;subst hJ;rw[N6 (by decide)]at hres;subst hres;exact X7
   refine X1 ?_
   exact Xj (j+1) (⟨hj1,fun i hi u hu=>by
    rcases Nat.lt_or_eq_of_le (Nat.le_of_lt_succ hi)with h|h
    .exact hno i h u hu
    subst h;rw[hw]at hu;cases hu
    simpa using h15⟩)
  have hjk:j=k:=by omega
  subst hjk
  have hany:((vars.take j).any fun w=>decide (w.name=v.name))=false:=by
   rw[Du];intro w hw;obtain⟨i,hi⟩:=Nu.1 hw;have hij:i<j:=by have:=(N5.1 hi).1;omega
   rw[List.getElem?_take_of_lt hij]at hi;simpa using hno i hij w hi
  clear hno hkl;refine(Xd ?_);refine X0<|(X8 (fun h21=>?_) fun h21=>?_)
  .have hc:Wo (vars.take j) v=1:=by unfold Wo;rw[N6 (by simp[h7]),N6 (by simp[hany]),N9 (by omega)]
   rw[hc,N6 (by decide)]at hJ;subst hJ;rw[N6 (by decide)]at hres;subst hres;exact X7
  have hc:Wo (vars.take j) v=if QU v then 3 else 0:=by unfold Wo;rw[N6 (by simp[h7]),N6 (by simp[hany]),N6 (by omega)]
  clear hany;refine X0<|X0<|(Xa (X2w _ _) ?_);refine(XM (fun h25=>?_) fun h25=>?_)
  .rw[N9 (.inl h25)]at hc;rw[hc,N6 (by decide)]at hJ;subst hJ;rw[N6 (by decide)]at hres;subst hres;exact X7
  refine(X8 (fun h29=>?_) fun h29=>?_)
  .have hkb:QU v:=by
    unfold QU;omega
   rw[N9 hkb]at hc;rw[hc,N6 (by decide)]at hJ;subst hJ;rw[N6 (by decide)]at hres;subst hres;exact X7
  have hkb:¬QU v:=by
   unfold QU;rw[h25];rintro(h|h|h)
   .cases h
   .omega
   omega
  rw[N6 hkb]at hc;rw[hc,N9 rfl]at hJ;refine X1 ?_;exact Xj (j+1) (⟨hk1,hJ⟩)
 have hkl:k=vars.length:=by omega
 rw[hkl,Nj]at hJ;simp only[vcs]at hJ;have hv:=hgood hJ.symm;rw[N9 hJ.symm]at hres;clear hgood hJ hkl hk h4;have c1:=X1K vars 1 hv (by omega);have c2:=X1K vars 2 hv (by omega);have c3:=X1K vars 3 hv (by omega);have hb1:X1F vars 1=decide (4096<spc vars 1):=by simp[X1F]
 have hb2:X1F vars 2=decide (4096<spc vars 2):=by simp[X1F]
 have hb3:X1F vars 3=(decide (4096<spc vars 3)||decide (256<spc vars 3)):=by simp[X1F]
 simp only[List.any_cons,List.any_nil,Bool.or_false,hb1,hb2,hb3]at hres;clear hb1 hb2 hb3;generalize spc vars 1=s1 at*;generalize spc vars 2=s2 at*;generalize spc vars 3=s3 at*;refine(Xd ?_);refine X0<|X0<|(X75 [⟨true,.v (li s1),none⟩,⟨true,.v (li s2),none⟩,⟨true,.v (li s3),none⟩] ?_ ?_)
 .first|exact⟨c1 _,c2 _,c3 _⟩|exact trivial|(repeat' first|exact trivial|exact c1 _|exact c2 _|exact c3 _|apply And.intro)
 refine(XM (fun h35=>?_) fun h35=>?_)
 .have hz:(decide (4096<s1)||(decide (4096<s2)||(decide (4096<s3)||decide (256<s3))))=true:=by
   simp only[Ng,N7];omega
  rw[N9 hz]at hres;subst hres;exact X7
 have hz:(decide (4096<s1)||(decide (4096<s2)||(decide (4096<s3)||decide (256<s3))))=false:=by
  simp only[NH,Nd];omega
 rw[hz,N6 (by decide)]at hres;subst hres;exact X7
@[simp] theorem take_encH (l:List Ht) (i:Nat):(Xu l).take i=Xu (l.take i):=by simp[Xu]
theorem idxH_con (l:List Ht) (g:FuncId) (cap:List CD) (p:Ht->Bool) (hl:l.length<=1000000000) (hp:∀v∈l,∀d,Con prog g true (aH v::cap.map fun c=>.one (.c c)) (.v (lb (p v))) none d) (d:Nat):
  ∃r:Int,(∀d,Con prog 88 true [.one (.c (.sl 6 (Xu l))),.one (.c (.fn g cap))] (.v (li r)) none d)/\(0<=r↔l.any p=true):=by
 refine⟨(match l.findIdx? p with|some i=>(i:Int)|none=>-1),fun d=>?_,?_⟩
 .have hstep:∀k:Nat,(∀j:Nat,j<k->∀v,l[j]? =some v->p v=false)->∀v,l[k]? =some v->p v=true->l.findIdx? p=some k:=by
   intro k hno v hv hpv;rw[List.findIdx?_eq_some_iff_getElem];have hk:k<l.length:=(N5.1 hv).1;refine⟨hk,?_,fun j hj=>?_⟩
   .simp only[Nr hk,Option.some.injEq]at hv;rw[hv];exact hpv
   have:=hno j hj l[j] (by simp);simp[this]
  have hnone:(∀j:Nat,j<l.length->∀v,l[j]? =some v->p v=false)->l.findIdx? p=none:=by
   intro hno;rw[List.findIdx?_eq_none_iff];intro v hv;obtain⟨j,hj⟩:=Nu.1 hv;exact hno j (N5.1 hj).1 v hj
  refine X2 Tryz.func88 ?_;simp only[Tryz.f88];refine X4 ?_;refine X0<|X0<|X1 ?_;refine X3<|(Xb [0,1,7] (fun(x:Nat)=>[(8,.v (li x))]) (fun(x:Nat)=>[]) (fun(x:Nat)=>x<=l.length/\∀j:Nat,j<x->∀v,l[j]? =some v->p v=false) (fun(x:Nat)=>l.length - x) (0:Nat) ⟨Nc _,fun j hj=>absurd hj (Dk j)⟩ ?_);rintro k ⟨hk,hJ⟩;simp only[LN,Nat.reduceBEq,Nat.reduceLT];refine(XS (fun h4=>X6 ?_) fun h4=>?_)
  .have hlt:k<l.length:=by omega
   obtain⟨⟨nm,lo,hi,⟨o,tn,ks⟩⟩,he,hd⟩:=Xw hlt;have hw1:=Xz hlt (by omega);have hk1:k+1<=l.length:=hlt;have hpv:=hp _ (N3 he);have hs:=hstep k hJ _ he;clear hlt h4 hstep hnone hp;refine X0<|X3<|X0<|X1 ?_;refine X0<|(Xa hpv ?_);refine(XM (fun h7=>?_) fun h7=>?_)
   .rw[hs h7];exact X7
   refine X1 ?_;exact Xj (k+1) (⟨hk1,fun j hj w hw=>(Nat.lt_succ_iff_lt_or_eq.1 hj).elim (fun h=>hJ j h w hw) (fun e=>by subst e;rw[he]at hw;cases hw;exact h7)⟩)
  rw[hnone fun j hj=>hJ j (by omega)];refine(Xd ?_);exact X7
 rw[List.any_eq];cases h:l.findIdx? p with
 | none=>
   rw[List.findIdx?_eq_none_iff]at h;simp only[N7];constructor
   .intro h;omega
   rintro⟨v,hv,hpv⟩;have:=h v hv;rw[hpv]at this;cases this
 | some i=>
   rw[List.findIdx?_eq_some_iff_getElem]at h;obtain⟨hi,hpi,_⟩:=h;simp only[N7];exact⟨fun _=>⟨l[i],Di _,hpi⟩,fun _=>by omega⟩
theorem X46 (l:List Ht) (g:FuncId) (cap:List CD) (p:Ht->Bool) (hl:l.length<=1000000000) (hp:∀v∈l,∀d,Con prog g true (aH v::cap.map fun c=>.one (.c c)) (.v (lb (p v))) none d) (d:Nat):
  Con prog 53 true [.one (.c (.sl 6 (Xu l))),.one (.c (.fn g cap))] (.v (lb (l.any p))) none d:=by
 obtain⟨r,hr,hi⟩:=idxH_con l g cap p hl hp 0;have hd:decide (0<=r)=l.any p:=by rw[D9,N7];exact hi
 clear hi hp;refine X2 Tryz.func53 ?_;simp only[Tryz.f53];refine X4 ?_;refine X0<|(Xa hr ?_);exact Qd
theorem XaJ (w v:Ht) (d:Nat):Con prog 109 true [aH w,.one (.c (.ptr v.enc))] (.v (lb (decide (w.name=v.name)))) none d:=by
 obtain⟨n1,l1,h1,⟨o1,t1,k1⟩⟩:=w;obtain⟨n2,l2,h2,⟨o2,t2,k2⟩⟩:=v;refine X2 Tryz.func109 ?_;simp only[Tryz.f109];simp only[aH,Ht.enc,Tm.enc,List.cons_append,List.nil_append];refine X4 ?_;exact X7
def Zf (vars:List Vr) (seen:List Ht) (h:Ht):Int:=
 if X0P h.name=false then 7 else if(seen.any fun w=>decide (w.name=h.name))=true then 8 else if QY h.low h.high=false then 3 else QC vars true h.term
def hcs (vars:List Vr):List Ht->List Ht->Int
 |_,[]=>0
 |seen,h::l=>if Zf vars seen h=0 then hcs vars (seen++[h]) l else Zf vars seen h
theorem XaB (f:Fl) (hv:WM f.vars) (hl:f.vars.length<=1000000) (hh:f.hats.length<=1000000) (hn:∀h∈f.hats,h.term.nodes<=1000000000) (d:Nat):
  Con prog 70 true [aF f] (.v (li (hcs f.vars [] f.hats))) none d:=by
 obtain⟨vars,hats,body⟩:=f;simp only at hv hl hh hn⊢;obtain⟨res,hres⟩:∃r,hcs vars [] hats=r:=⟨_,rfl⟩;rw[hres];refine X2 Tryz.func70 ?_;simp only[Tryz.f70];simp only[aF,Fl.enc,Na,Nb];refine X4 ?_;refine X0<|X0<|X1 ?_;refine X3<|(Xb [1,8,9] (fun(x:Nat)=>[(10,.v (li x))]) (fun(x:Nat)=>[(1,.box [.c (.sl 5 (Xr vars)),.c (.sl 6 (Xu hats)),.c (.sl 10 (Xf body))])]) (fun(x:Nat)=>x<=hats.length/\hcs vars (hats.take x) (hats.drop x)=res) (fun(x:Nat)=>hats.length - x) (0:Nat) ⟨Nc _,hres⟩ ?_);rintro k ⟨hk,hJ⟩;simp only[LN,Nat.reduceBEq,Nat.reduceLT];clear hres;refine(XS (fun h4=>X6 ?_) fun h4=>?_)
 .have hlt:k<hats.length:=by omega
  obtain⟨h,he,hd⟩:=Xw hlt;have hw1:=Xz hlt (by omega);have hk1:k+1<=hats.length:=hlt;have hkl:(hats.take k).length<=1000000000:=by rw[Ns];omega
  rw[hd]at hJ;simp only[hcs]at hJ;rw[<-Z2 he]at hJ;have ct:=X2W vars true hv (by omega) h.term (hn h (N3 he));have cc:=X46 (hats.take k) 109 [.ptr h.enc] (fun w=>decide (w.name=h.name)) hkl (fun w _ d=>XaJ w h d);obtain⟨nm,lo,hi,⟨o,tn,ks⟩⟩:=h;obtain⟨HC,hHC⟩:∃x,Zf vars (hats.take k) ⟨nm,lo,hi,.mk o tn ks⟩=x:=⟨_,rfl⟩;rw[hHC]at hJ;simp only[Zf]at hHC;simp only[Ht.enc,Tm.enc,List.cons_append,List.nil_append]at cc;simp only at ct;obtain⟨TC,hTC⟩:∃r,QC vars true (.mk o tn ks)=r:=⟨_,rfl⟩;rw[hTC]at ct hHC;clear hlt h4 hd hn hTC;refine X0<|X3<|X0<|X1 ?_;refine X4 ?_;refine X0<|X3<|X0<|(Xa (X5E _) ?_);refine(QR (fun h8=>?_) fun h8=>?_)
  .rw[N9 h8]at hHC;subst hHC;rw[N6 (by decide)]at hJ;subst hJ;exact X7
  refine X0<|(Xa cc ?_);refine(QR (fun h12=>?_) fun h12=>?_)
  .rw[N6 (by simp[h8]),N9 h12]at hHC;subst hHC;rw[N6 (by decide)]at hJ;subst hJ;exact X7
  refine X0<|(Xa (X2m _ _) ?_);refine(XM (fun h16=>?_) fun h16=>?_)
  .rw[N6 (by simp[h8]),N6 (by simp[h12]),N9 h16]at hHC;subst hHC;rw[N6 (by decide)]at hJ;subst hJ;exact X7
  rw[N6 (by simp[h8]),N6 (by simp[h12]),N6 (by simp[h16])]at hHC;subst hHC;refine X0<|(Xa ct ?_);refine(X8 (fun h21=>?_) fun h21=>?_)
  .rw[N6 h21]at hJ;subst hJ;exact X7
  rw[N9 (by simpa using h21)]at hJ;refine X1 ?_;exact Xj (k+1) (⟨hk1,hJ⟩)
 have hkl:k=hats.length:=by omega
 rw[hkl,Nj]at hJ;simp only[hcs]at hJ;subst hJ;refine(Xd ?_);exact X7
theorem X8Q (f:Fl) (hv:WM f.vars) (hl:f.vars.length<=1000000) (l:List St):Xe l<=1000000000->Qm l=true->∀(top:Bool) (d:Nat),
  Con prog 102 true [aF f,lS l,lb top] (.v (li (ssC f.vars f.hats.length l top))) none d:=by
 revert l
 apply St.lists;intro l ih hn hbn top d;have hlen:=XB l;obtain⟨res,hres⟩:∃r,ssC f.vars f.hats.length l top=r:=⟨_,rfl⟩;rw[hres];have csh:=fun s last hb=>X7z f s last (by omega) hb;obtain⟨vars,hats,body⟩:=f;simp only at hv hl hres ih csh;refine X2 Tryz.func102 ?_;simp only[Tryz.f102];simp only[aF,Fl.enc,Na,Nb];refine X4 ?_;refine X0<|X0<|X1 ?_;refine X3<|(Xb [1,2,3] (fun(x:Nat)=>[(7,.v (li x))]) (fun(x:Nat)=>[(3,.box [.c (.sl 5 (Xr vars)),.c (.sl 6 (Xu hats)),.c (.sl 10 (Xf body))])]) (fun(x:Nat)=>x<=l.length/\ssC vars hats.length (l.drop x) top=res) (fun(x:Nat)=>l.length - x) (0:Nat) ⟨Nc _,hres⟩ ?_);rintro k ⟨hk,hJ⟩;simp only[LN,Nat.reduceBEq,Nat.reduceLT];clear hres;refine X0<|(Xc (fun h4=>X6 ?_) fun h4=>?_)
 .have hlt:k<l.length:=by omega
  obtain⟨s,he,hd⟩:=Xw hlt;have hmem:s∈l:=N3 he;have hnm:=Q2 hmem;have hbm:=X13 hbn hmem;have iha:=fun h h2=>(ih s hmem).1 h h2;have ihb:=fun h h2=>(ih s hmem).2 h h2;have hw1:=Xz hlt (by omega);have hw2:IntKind.i64.wrap ((l.length:Int) - 1)=(l.length:Int) - 1:=X5;have hk1:k+1<=l.length:=hlt;have hla:=X5u hk1;rw[hd]at hJ;have ct:=X62 vars false hv (by omega) s.term;have csh1:=csh s (top&&decide ((k:Int)=(l.length:Int) - 1));obtain⟨sd,sc,sv,sn,⟨so,stn,sks⟩,sa,sb,sbs⟩:=s;simp only[St.then_,St.else_,St.term,St.bounds,St.do_,St.var,St.n,St.cost]at iha ihb hnm ct csh1;simp only[X01,N4,N7]at hbm;simp only[ssC,hla]at hJ;have ca:=iha (by omega) hbm.2.1;have cb:=ihb (by omega) hbm.2.2;have ct:=ct (by omega);have csh1:=csh1 hbm.1;have hbl:=hbm.1;have he':=Q7 he;simp only[St.enc,Tm.enc,List.cons_append,List.nil_append]at he';simp only[aF,Fl.enc,aS,St.enc,Tm.enc,Na,Nb,List.cons_append,List.nil_append]at csh1 ca cb;have hshb:=@X5K vars hats.length sd sv sn (.mk so stn sks) sa.length sb.length sbs (top&&decide ((k:Int)=(l.length:Int) - 1));obtain⟨SH,hSH⟩:∃x,shB vars hats.length sd sv sn (.mk so stn sks) sa.length sb.length sbs (top&&decide ((k:Int)=(l.length:Int) - 1))=x:=⟨_,rfl⟩;obtain⟨NU,hNU⟩:∃x,X1V sd sc sn sbs=x:=⟨_,rfl⟩;obtain⟨TC,hTC⟩:∃x,QC vars false (.mk so stn sks)=x:=⟨_,rfl⟩;obtain⟨SC,hSC⟩:∃x,stC vars hats.length sd sc sv sn (.mk so stn sks) sa.length sb.length sbs (top&&decide ((k:Int)=(l.length:Int) - 1))=x:=⟨_,rfl⟩;rw[hSC]at hJ;unfold stC at hSC;rw[hSH]at csh1 hshb hSC;rw[hNU]at hSC;rw[hTC]at ct hSC;have ca:=fun d=>ca false d;have cb:=fun d=>cb false d;obtain⟨SA,hSA⟩:∃x,ssC vars hats.length sa false=x:=⟨_,rfl⟩;obtain⟨SB,hSB⟩:∃x,ssC vars hats.length sb false=x:=⟨_,rfl⟩;rw[hSA]at ca hJ;rw[hSB]at cb hJ;clear hlt h4 iha ihb ih hmem hnm hd he hbm hSH hTC hSA hSB csh hla;refine X0<|X3<|X0<|X1 ?_;refine X0<|X0<|(Xa csh1 ?_);refine(XM (fun h7=>?_) fun h7=>?_)
  .rw[N9 h7]at hSC;subst hSC;rw[N6 (by decide)]at hJ;subst hJ;exact X7
  rw[N6 (by simp[h7])]at hSC;obtain⟨hs6,hs5,hs4⟩:=hshb h7;clear hshb csh1;refine X4 ?_;refine(XY [1,2,3,7,8] (fun(z:Int)=>[(9,.v (li z))]) (fun(z:Int)=>[(3,.box [.c (.sl 5 (Xr vars)),.c (.sl 6 (Xu hats)),.c (.sl 10 (Xf body))]),(8,.box [.c (iC sd),.c (iC sc),.c (iC sv),.c (iC sn),.c (iC so),.c (iC stn),.c (.sl 3 (Xg sks)),.c (.sl 10 (Xf sa)),.c (.sl 10 (Xf sb)),.c (.sl 1 (Xk sbs))])]) (fun(z:Int)=>z=X2S sd) ?_ ?_)
  .refine(X8 (fun h13=>?_) fun h13=>?_)
   .refine X1 ?_;exact Xv (67108864) (by simp[X2S,h13])
   exact Xv (10000) (by simp[X2S,h13])
  rintro M hM;simp only[LN,Nat.reduceBEq,Nat.reduceLT];refine X0<|(X8 (fun h18=>?_) fun h18=>?_)
  .have hz:NU=false:=by
    rw[<-hNU];unfold X1V;rw[<-hM];simp only[Nn,Ng,N4,Bool.not_eq_false',N7];by_cases hn0:sn<0
    .have:=hs4 hn0;omega
    omega
   rw[N9 hz]at hSC;subst hSC;rw[N6 (by decide)]at hJ;subst hJ;exact X7
  have hz:NU=(decide (sd≠6)||X34 sbs):=by
   rw[<-hNU];unfold X1V;rw[<-hM]
   rw[show(!(decide (sc<0)||decide (M<sc)||(decide (sd=4)&&(decide (sn<0)||decide (4096<sn)))))=true by
    simp only[NH,Nn,Nk,Nd]
    omega]
   rfl
  clear h18 hNU hM hs4;rcases X8Z sbs with h0|⟨b0,hb0⟩
  .subst h0;have hd6:sd≠6:=fun h=>hs6 h rfl;have hw3:IntKind.i64.wrap (-1)=-1:=by decide
   have hz2:NU=true:=by rw[hz];simp[hd6]
   rw[N6 (by simp[hz2])]at hSC;clear hs6 hs5 hz;refine X0<|(X8 (fun h22=>?_) fun h22=>?_)
   .exact absurd h22 (by simp)
   subst hSC;refine X0<|(Xa ct ?_);refine X0<|(X8 (fun h27=>?_) fun h27=>?_)
   .rw[N6 h27]at hJ;subst hJ;exact X7
   rw[N9 (by simpa using h27)]at hJ;refine X0<|(Xa ca ?_);refine X0<|(X8 (fun h32=>?_) fun h32=>?_)
   .rw[N6 h32]at hJ;subst hJ;exact X7
   rw[N9 (by simpa using h32)]at hJ;refine X0<|(Xa cb ?_);refine(X8 (fun h37=>?_) fun h37=>?_)
   .rw[N6 h37]at hJ;subst hJ;exact X7
   rw[N9 (by simpa using h37)]at hJ;refine X1 ?_;exact Xj (k+1) (⟨hk1,hJ⟩)
  have hpos:1<=sbs.length:=(N5.1 hb0).1;obtain⟨x,hx⟩:=X0i (show sbs.length - 1<sbs.length by omega);have hd6:sd=6:=Classical.byContradiction fun h=>by rw[hs5 h]at hpos;simp at hpos
  have hw3:IntKind.i64.wrap ((sbs.length:Int) - 1)=(sbs.length:Int) - 1:=X5;have hw4:0<=(sbs.length:Int) - 1:=by omega
  have hw5:((sbs.length:Int) - 1).toNat=sbs.length - 1:=by omega
  have hw6:1<=(sbs.length:Int):=by omega
  have hw7:decide (0<(sbs.length:Int))=true:=Nw (by omega);have hz2:NU=decide (x<=67108864):=by rw[hz];unfold X34;rw[hx,hd6];simp
  have hne:sbs≠[]:=by intro h;rw[h]at hpos;simp at hpos
  clear hs6 hs5 hz hb0 hpos;refine X0<|(X8 (fun h22=>?_) fun h22=>?_)
  .have hx2:67108864<x:=by
    omega
   rw[N9 (by rw[hz2];exact decide_eq_false (by omega))]at hSC;subst hSC;rw[N6 (by decide)]at hJ;subst hJ;exact X7
  have hx2:x<=67108864:=by
   first
    |omega
    | (rcases h22 with h|h
       .exact absurd h (by simp[hne])
       omega)
  rw[N6 (by rw[hz2,Nw hx2];decide)]at hSC;subst hSC;refine X0<|(Xa ct ?_);refine X0<|(X8 (fun h27=>?_) fun h27=>?_)
  .rw[N6 h27]at hJ;subst hJ;exact X7
  rw[N9 (by simpa using h27)]at hJ;refine X0<|(Xa ca ?_);refine X0<|(X8 (fun h32=>?_) fun h32=>?_)
  .rw[N6 h32]at hJ;subst hJ;exact X7
  rw[N9 (by simpa using h32)]at hJ;refine X0<|(Xa cb ?_);refine(X8 (fun h37=>?_) fun h37=>?_)
  .rw[N6 h37]at hJ;subst hJ;exact X7
  rw[N9 (by simpa using h37)]at hJ;refine X1 ?_;exact Xj (k+1) (⟨hk1,hJ⟩)
 have hkl:k=l.length:=by omega
 rw[hkl,Nj]at hJ;simp only[ssC]at hJ;subst hJ;refine(Xd ?_);exact X7
end Go.Proofs.YtdccocolnaklkaaGreatDoor
