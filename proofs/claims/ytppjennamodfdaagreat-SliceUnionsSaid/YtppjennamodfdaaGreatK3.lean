/- Part 3: contracts of functions of the program and of the reference, and plain facts about what they compute; used by the proof of the claimed statement. Conditions: as each theorem states. -/
import Derived.Test.YtppjennamodfdaaGreatK2
set_option linter.unusedSimpArgs false
set_option linter.unusedVariables false
set_option linter.unnecessarySimpa false
set_option maxRecDepth 100000
set_option maxHeartbeats 2000000
namespace Go.Proofs.YtppjennamodfdaaGreat
open Go Go.Hl
theorem X9K (b:Int×Int) (hb:-1048576≤b.1∧b.1≤b.2∧b.2≤1048576) (d:Nat):Con Tryz.prog 156 true [li b.1,li b.2] (.tup [li (X1v b),li (X52 b)]) none d:=by
 obtain⟨c1,c2⟩:=b;simp only at hb;have hw1:IntKind.i64.wrap (c1+1)=c1+1:=Xd (by omega) (by omega);have hw2:IntKind.i64.wrap (c2 - 1)=c2 - 1:=Xd (by omega) (by omega);refine X5 Tryz.func156 ?_;simp only[Tryz.f156];refine X3 ?_;refine X3 ?_;refine(XV [1,7] (fun(z:Int)=>[(6,.v (li z))]) (fun(z:Int)=>[]) (fun(z:Int)=>z=X1v (c1,c2)) ?_ ?_)
 ·
  refine X3 ?_;refine(Xa rfl (fun h4=>?_) fun h4=>?_)
  · (try simp only[BN]at h4);have hml:mn 0 (c1+1)=X1v (c1,c2):=by simp only[X1v];rw[if_pos h4];unfold mn;(repeat' split)<;>omega
    refine(Xm [⟨true,.v (li (mn 0 (c1+1))),none⟩] ?_ ?_)
    · first|exact Qh 0 (c1+1) _|exact trivial|simpa[*]using Qh 0 (c1+1) _
    exact⟨X1v (c1,c2),rfl,X6 (fun n=>n) []⟩
  (try simp only[BN]at h4);have hml:(0:Int)=X1v (c1,c2):=by simp only[X1v];rw[if_neg h4]
  exact⟨X1v (c1,c2),rfl,X6 (fun n=>n) []⟩
 rintro _ rfl;simp only[upS,X8,Xw]
 try simp only[X8,KN,Nat.reduceBEq,if_true,if_false,ins,Nat.reduceLT]
 refine X1<|X1<|X2 ?_;refine(Xa rfl (fun h9=>?_) fun h9=>?_)
 · (try simp only[BN]at h9);have hmh:mx 0 (c2 - 1)=X52 (c1,c2):=by simp only[X52];rw[if_pos h9];unfold mx;(repeat' split)<;>omega
   refine(Xm [⟨true,.v (li (mx 0 (c2 - 1))),none⟩] ?_ ?_)
   · first|exact Qm 0 (c2 - 1) _|exact trivial|simpa[*]using Qm 0 (c2 - 1) _
   refine X3 ?_;exact Xc
 (try simp only[BN]at h9);have hmh:X52 (c1,c2)=0:=by simp only[X52];rw[if_neg h9]
 refine X3 ?_;exact Xc
def X58 (k:List (Int×Int)):List (List CD):=k.map fun p=>[iC p.1]
def X1r (k:List (Int×Int)):List (List CD):=k.map fun p=>[iC p.2]
@[simp] theorem lows_nil:X58 []=[]:=rfl
@[simp] theorem highs_nil:X1r []=[]:=rfl
@[simp] theorem len_lows (k:List (Int×Int)):(X58 k).length=k.length:=by simp[X58]
@[simp] theorem get_lows (k:List (Int×Int)) (i:Nat):(X58 k)[i]? =k[i]?.map fun p=>[iC p.1]:=by simp[X58]
@[simp] theorem len_highs (k:List (Int×Int)):(X1r k).length=k.length:=by simp[X1r]
@[simp] theorem get_highs (k:List (Int×Int)) (i:Nat):(X1r k)[i]? =k[i]?.map fun p=>[iC p.2]:=by simp[X1r]
def X3D (vars:List Vr) (o n:Int) (k:List (Int×Int)):Int×Int:=
 if o=0 then(if n< -1048576∨1048576<n then(-1048577,1048577)else(n,n))else QD vars o n k
theorem X9f (vars:List Vr) (inp:Bool) (o n:Int) (K:CD) (k:List (Int×Int)) (hf:Q9 vars inp o n k.length=true) (hk:∀p∈k,bnd p) (d:Nat):
  Con Tryz.prog 129 true [lV vars,.agg [.c (iC o),.c (iC n),.c K],.one (.c (.sl 1 (X58 k))),.one (.c (.sl 1 (X1r k)))] (.tup [li (X3D vars o n k).1,li (X3D vars o n k).2]) none d:=by
 have har:=ZQ hf;have hrf:o=24→0≤n∧∃v,vars[n.toNat]? =some v∧(inp=true→v.kind≠0):=fun h=>X3L (by rw[←h];exact hf);clear hf;have ar1:o=6→0+1≤k.length:=fun h=>by have:=kids1 (.inl h);rw[this]at har;simp only at har;omega
 have ar2:8≤o∧o≤22→0+1≤k.length∧1+1≤k.length:=fun h=>by have:=kids2 h;rw[this]at har;simp only at har;omega
 have ar3:o=23∨o=25→2≤k.length∧k.length≤33:=fun h=>by
  rcases h with h|h
  · have:=kids3;rw[h,this]at har;simp only at har;omega
  have:=kids4;rw[h,this]at har;simp only at har;omega
 clear har;obtain⟨res,hres⟩:∃r,X3D vars o n k=r:=⟨_,rfl⟩;rw[hres];simp only[X3D,QD]at hres;refine X5 Tryz.func129 ?_;simp only[Tryz.f129];refine X3 ?_;refine X1<|X1<|X2 ?_;refine X4<|X1<|X2 ?_;refine(X7 rfl (fun h3=>?_) (fun h3=>?_))
 · (try simp only[BN]at h3);rw[if_pos h3]at hres;refine X1<|X1<|X2 ?_;refine(Xa rfl (fun h5=>?_) fun h5=>?_)
   · (try simp only[BN]at h5);rw[if_pos h5]at hres;subst hres;refine X3 ?_;exact Xc
   (try simp only[BN]at h5);rw[if_neg (by omega)]at hres;subst hres;refine X1<|(Qc (by kernel_rfl) (by kernel_rfl) (by rfl) (by simp[*];rfl) ?_);exact Xc
 (try simp only[BN]at h3);rw[if_neg h3,if_neg h3]at hres;refine X3 ?_;refine(X7 rfl (fun h11=>?_) (fun h11=>?_))
 · (try simp only[BN]at h11);obtain⟨hn0,v,hv,_⟩:=hrf h11;rw[if_pos h11,hv]at hres;subst hres;clear hrf;refine X1<|(Qc (by kernel_rfl) (by kernel_rfl) (by rfl) (by simp[*];rfl) ?_);exact Xc
 (try simp only[BN]at h11);rw[if_neg h11]at hres;refine X3 ?_;refine(X7 rfl (fun h15=>?_) (fun h15=>?_))
 · (try simp only[BN]at h15);obtain⟨a1,a2,ha,hb1,hb2,hb3⟩:=kid hk (ar1 h15);have hw1:IntKind.i64.wrap (-a1)=-a1:=Xd (by omega) (by omega);have hw2:IntKind.i64.wrap (-a2)=-a2:=Xd (by omega) (by omega);rw[if_pos h15]at hres;simp only[g2,ha,Option.getD_some]at hres;subst hres;clear ar1 ar2 ar3;refine X1<|(Qc (by kernel_rfl) (by kernel_rfl) (by rfl) (by simp[*];rfl) ?_);exact Xc
 (try simp only[BN]at h15);rw[if_neg h15]at hres;refine X3 ?_;refine(X7 rfl (fun h19=>?_) (fun h19=>?_))
 · (try simp only[BN]at h19);obtain⟨a1,a2,ha,hb1,hb2,hb3⟩:=kid hk (ar2 (by omega)).1;obtain⟨c1,c2,hc,hc1,hc2,hc3⟩:=kid hk (ar2 (by omega)).2;have hw1:IntKind.i64.wrap (a1+c1)=a1+c1:=Xd (by omega) (by omega);have hw2:IntKind.i64.wrap (a2+c2)=a2+c2:=Xd (by omega) (by omega);rw[if_pos h19]at hres;simp only[g2,ha,hc,Option.getD_some]at hres;subst hres;clear ar1 ar2 ar3;refine X1<|(Qc (by kernel_rfl) (by kernel_rfl) (by rfl) (by simp[*];rfl) ?_);exact Xc
 (try simp only[BN]at h19);rw[if_neg h19]at hres;refine X3 ?_;refine(X7 rfl (fun h23=>?_) (fun h23=>?_))
 · (try simp only[BN]at h23);obtain⟨a1,a2,ha,hb1,hb2,hb3⟩:=kid hk (ar2 (by omega)).1;obtain⟨c1,c2,hc,hc1,hc2,hc3⟩:=kid hk (ar2 (by omega)).2;have hw1:IntKind.i64.wrap (a1 - c2)=a1 - c2:=Xd (by omega) (by omega);have hw2:IntKind.i64.wrap (a2 - c1)=a2 - c1:=Xd (by omega) (by omega);rw[if_pos h23]at hres;simp only[g2,ha,hc,Option.getD_some]at hres;subst hres;clear ar1 ar2 ar3;refine X1<|(Qc (by kernel_rfl) (by kernel_rfl) (by rfl) (by simp[*];rfl) ?_);exact Xc
 (try simp only[BN]at h23);rw[if_neg h23]at hres;refine X3 ?_;refine(X7 rfl (fun h27=>?_) (fun h27=>?_))
 · (try simp only[BN]at h27);obtain⟨a1,a2,ha,hb1,hb2,hb3⟩:=kid hk (ar2 (by omega)).1;obtain⟨c1,c2,hc,hc1,hc2,hc3⟩:=kid hk (ar2 (by omega)).2;rw[if_pos h27]at hres;simp only[g2,ha,hc,Option.getD_some]at hres;clear ar1 ar2 ar3;have hm1:=X64 ⟨hb1,by omega⟩ ⟨hc1,by omega⟩ (x:=a1) (y:=c1);have hm2:=X64 ⟨hb1,by omega⟩ ⟨by omega,hc3⟩ (x:=a1) (y:=c2);have hm3:=X64 ⟨by omega,hb3⟩ ⟨hc1,by omega⟩ (x:=a2) (y:=c1);have hm4:=X64 ⟨by omega,hb3⟩ ⟨by omega,hc3⟩ (x:=a2) (y:=c2);have hw1:IntKind.i64.wrap (a1*c1)=a1*c1:=Xd (by omega) (by omega);have hw2:IntKind.i64.wrap (a1*c2)=a1*c2:=Xd (by omega) (by omega);have hw3:IntKind.i64.wrap (a2*c1)=a2*c1:=Xd (by omega) (by omega);have hw4:IntKind.i64.wrap (a2*c2)=a2*c2:=Xd (by omega) (by omega)
   have he1:mn (mn (a1*c1) (a1*c2)) (mn (a2*c1) (a2*c2))=res.1:=by
    rw[←hres];simp only[mulP,Zj,mn];generalize a1*c1=p at*;generalize a1*c2=q at*;generalize a2*c1=r at*;generalize a2*c2=s at*
    (repeat' split)<;>omega
   have he2:mx (mx (a1*c1) (a1*c2)) (mx (a2*c1) (a2*c2))=res.2:=by
    rw[←hres];simp only[mulP,Zj,mx];generalize a1*c1=p at*;generalize a1*c2=q at*;generalize a2*c1=r at*;generalize a2*c2=s at*
    (repeat' split)<;>omega
   clear hres hm1 hm2 hm3 hm4;refine X1<|(Qc (by kernel_rfl) (by kernel_rfl) (by rfl) (by simp[*];rfl) ?_);refine Xj [⟨true,.v (li (mn (a1*c1) (a1*c2))),none⟩,⟨true,.v (li (mn (a2*c1) (a2*c2))),none⟩,⟨true,.v (li (mn (mn (a1*c1) (a1*c2)) (mn (a2*c1) (a2*c2)))),none⟩,⟨true,.v (li (mx (a1*c1) (a1*c2))),none⟩,⟨true,.v (li (mx (a2*c1) (a2*c2))),none⟩,⟨true,.v (li (mx (mx (a1*c1) (a1*c2)) (mx (a2*c1) (a2*c2)))),none⟩] ?_ ?_
   · first|exact trivial|exact trivial|(repeat' first|exact trivial|exact Qh _ _ _|exact Qh _ _ _|(simpa[he1]using Qh (mn (a1*c1) (a1*c2)) (mn (a2*c1) (a2*c2)) _)|exact Qm _ _ _|exact Qm _ _ _|(simpa[he2]using Qm (mx (a1*c1) (a1*c2)) (mx (a2*c1) (a2*c2)) _)|apply And.intro)
   exact Xc
 (try simp only[BN]at h27);rw[if_neg h27]at hres;refine X3 ?_;refine(X7 rfl (fun h32=>?_) (fun h32=>?_))
 · (try simp only[BN]at h32);obtain⟨a1,a2,ha,hb1,hb2,hb3⟩:=kid hk (ar2 (by omega)).1;obtain⟨c1,c2,hc,hc1,hc2,hc3⟩:=kid hk (ar2 (by omega)).2;rw[if_pos h32]at hres;simp only[g2,ha,hc,Option.getD_some]at hres
   have hmm:mx (X3E a1) (X3E a2)=mx a2 (-a1):=by
    unfold mx X3E
    (repeat' split)<;>omega
   have hm:-1048576≤mx a2 (-a1)∧mx a2 (-a1)≤1048576:=by unfold mx;split<;>omega
   have hw2:IntKind.i64.wrap (-(mx a2 (-a1)))=-(mx a2 (-a1)):=Xd (by omega) (by omega);clear ar1 ar2 ar3;refine X1<|(XS [⟨true,.v (li (X3E a1)),none⟩,⟨true,.v (li (X3E a2)),none⟩,⟨true,.v (li (mx (X3E a1) (X3E a2))),none⟩] (by kernel_rfl) (by kernel_rfl) (by rfl) (by simp[*];first|exact⟨rfl,Iff.rfl⟩|exact⟨rfl,trivial⟩|rfl) ?_ ?_)
   · first|exact trivial|exact trivial|(repeat' first|exact trivial|exact X8P a1 (by omega) _|exact X8P a2 (by omega) _|(simpa[hmm]using Qm (X3E a1) (X3E a2) _)|apply And.intro)
   refine X1<|X1<|X2 ?_;refine(Xa rfl (fun h35=>?_) fun h35=>?_)
   · (try simp only[BN]at h35);rw[if_pos h35]at hres;subst hres;refine X3 ?_;exact Xc
   (try simp only[BN]at h35);rw[if_neg (by omega)]at hres;subst hres;refine X3 ?_;exact Xc
 (try simp only[BN]at h32);rw[if_neg h32]at hres;refine X3 ?_;refine(X7 rfl (fun h41=>?_) (fun h41=>?_))
 · (try simp only[BN]at h41);obtain⟨c1,c2,hc,hc1,hc2,hc3⟩:=kid hk (ar2 (by omega)).2;rw[if_pos h41]at hres;simp only[g2,hc,Option.getD_some]at hres;subst hres;clear ar1 ar2 ar3;refine X1<|(XS [⟨true,.tup [li (X1v (c1,c2)),li (X52 (c1,c2))],none⟩] (by kernel_rfl) (by kernel_rfl) (by rfl) (by simp[*];first|exact⟨rfl,Iff.rfl⟩|exact⟨rfl,trivial⟩|rfl) ?_ ?_)
   · first|exact X9K (c1,c2) ⟨hc1,hc2,hc3⟩ _|exact trivial|simpa[*]using X9K (c1,c2) ⟨hc1,hc2,hc3⟩ _
   exact Xc
 (try simp only[BN]at h41);rw[if_neg h41]at hres;refine X3 ?_;refine(X7 rfl (fun h45=>?_) (fun h45=>?_))
 · (try simp only[BN]at h45);obtain⟨a1,a2,ha,hb1,hb2,hb3⟩:=kid hk (ar2 (by omega)).1;obtain⟨c1,c2,hc,hc1,hc2,hc3⟩:=kid hk (ar2 (by omega)).2;rw[if_pos h45]at hres;simp only[g2,ha,hc,Option.getD_some]at hres;subst hres;clear ar1 ar2 ar3;refine X1<|(XS [⟨true,.v (li (mn a1 c1)),none⟩,⟨true,.v (li (mn a2 c2)),none⟩] (by kernel_rfl) (by kernel_rfl) (by rfl) (by simp[*];first|exact⟨rfl,Iff.rfl⟩|exact⟨rfl,trivial⟩|rfl) ?_ ?_)
   · first|exact⟨Qh _ _ _,Qh _ _ _⟩|exact trivial|(repeat' first|exact trivial|exact Qh _ _ _|exact Qh _ _ _|apply And.intro)
   exact Xc
 (try simp only[BN]at h45);rw[if_neg h45]at hres;refine X3 ?_;refine(X7 rfl (fun h49=>?_) (fun h49=>?_))
 · (try simp only[BN]at h49);obtain⟨a1,a2,ha,hb1,hb2,hb3⟩:=kid hk (ar2 (by omega)).1;obtain⟨c1,c2,hc,hc1,hc2,hc3⟩:=kid hk (ar2 (by omega)).2;rw[if_pos h49]at hres;simp only[g2,ha,hc,Option.getD_some]at hres;subst hres;clear ar1 ar2 ar3;refine X1<|(XS [⟨true,.v (li (mx a1 c1)),none⟩,⟨true,.v (li (mx a2 c2)),none⟩] (by kernel_rfl) (by kernel_rfl) (by rfl) (by simp[*];first|exact⟨rfl,Iff.rfl⟩|exact⟨rfl,trivial⟩|rfl) ?_ ?_)
   · first|exact⟨Qm _ _ _,Qm _ _ _⟩|exact trivial|(repeat' first|exact trivial|exact Qm _ _ _|exact Qm _ _ _|apply And.intro)
   exact Xc
 (try simp only[BN]at h49);rw[if_neg h49]at hres;refine(XV [2,3] (fun(z:Bool)=>[(202,.v (lb z))]) (fun(z:Bool)=>[]) (fun(z:Bool)=>z=decide (o=23∨o=25)) ?_ ?_)
 ·
  refine X3 ?_;refine(X7 rfl (fun h54=>Xb ?_) (fun h54=>?_))
  · (try simp only[BN]at h54);exact⟨true,by simp[h54],X6 (fun n=>n) []⟩
  (try simp only[BN]at h54);refine X2 ?_;exact⟨decide (o=25),by simp[h54],X6 (fun n=>n) []⟩
 rintro z hz;simp only[upS,X8,Xw]
 try simp only[X8,KN,Nat.reduceBEq,if_true,if_false,ins,Nat.reduceLT]
 subst hz;refine(Xa rfl (fun h58=>?_) fun h58=>?_)
 · (try simp only[BN]at h58);have h2:=ar3 h58;rw[if_pos h58]at hres;clear ar1 ar2 ar3 h58;rcases k with _|⟨⟨a1,a2⟩,_|⟨⟨c1,c2⟩,r⟩⟩
   · simp at h2
   · simp at h2
   have hr33:r.length≤31:=by simp only[List.length_cons]at h2;omega
   clear h2;simp at hres;refine X1<|(Qc (by kernel_rfl) (by kernel_rfl) (by rfl) (by simp[*,X58,X1r];rfl) ?_);refine X1<|X1<|X2 ?_;refine X4<|(Xf [2,3] (fun(x:Nat×Int×Int)=>[(15,.v (li x.2.1)),(16,.v (li x.2.2)),(17,.v (li ((x.1+2:Nat):Int)))]) (fun x=>[]) (fun x=>x.1≤r.length∧X2p (r.drop x.1) x.2=res) (fun x=>r.length - x.1) (0,c1,c2) ⟨Nat.zero_le _,hres⟩ ?_ ?_)
   · exact X6 (fun n=>n) []
   rintro⟨k,m,q⟩ ⟨hk',hJ⟩;simp only[upS,X8,Xw]
   try simp only[X8,KN,Nat.reduceBEq,if_true,if_false,ins,Nat.reduceLT]
   simp only at hk' hJ;clear hres;have hdec:decide (((k+2:Nat):Int)<((r.length+1+1:Nat):Int))=decide (k<r.length):=by rw[decide_eq_decide];omega
   refine X1<|X1<|(Xq (by simp[*,X58,X1r];rfl) ?_);refine(X7 rfl (fun h63=>Xb ?_) (fun h63=>?_))
   · (try simp only[BN]at h63);have hlt:k<r.length:=by omega
     obtain⟨⟨e1,e2⟩,he,hd⟩:=Xs hlt;have hw1:IntKind.i64.wrap ((k:Int)+2+1)=(k:Int)+1+2:=by rw[Xd (by omega) (by omega)];omega
     have htn:((k:Int)+2).toNat=k+2:=by omega
     have h02:0≤(k:Int)+2:=by omega
     rw[hd]at hJ;simp only[X2p,Zj]at hJ;have hk1:k+1≤r.length:=hlt;clear hlt h63;refine X1<|X4<|(XS [⟨true,.v (li (mn m e1)),none⟩,⟨true,.v (li (mx q e2)),none⟩] (by kernel_rfl) (by kernel_rfl) (by rfl) (by simp[*];first|exact⟨rfl,Iff.rfl⟩|exact⟨rfl,trivial⟩|rfl) ?_ ?_)
     · first|exact⟨Qh _ _ _,Qm _ _ _⟩|exact trivial|(repeat' first|exact trivial|exact Qh _ _ _|exact Qm _ _ _|apply And.intro)
     refine X2 ?_;exact⟨(k+1,mn m e1,mx q e2),⟨hk1,hJ⟩,by simp only;omega,X6 (fun n=>n) []⟩
   (try simp only[BN]at h63);have hkl:k=r.length:=by omega
   rw[hkl,List.drop_length]at hJ;simp only[X2p]at hJ;refine(Xi ?_);refine X3 ?_;exact(Xl (fun h=>⟨.inr rfl,h⟩) _ (by simp[*];rfl) (by subst hJ;rfl) (by simp))
 (try simp only[BN]at h58);rw[if_neg h58]at hres;subst hres;refine X3 ?_;exact Xc
end Go.Proofs.YtppjennamodfdaaGreat

namespace Go.Proofs.YtppjennamodfdaaGreat
open Go Go.Hl
def okR (p:Int×Int):Bool:=decide (-1048576≤p.1)&&decide (p.2≤1048576)
def rgV (vars:List Vr) (o n:Int):Option (List (Int×Int))→(Int×Int)×Bool
 |none=>((0,0),false)
 |some k=>(QD vars o n k,okR (QD vars o n k))
def rgW (vars:List Vr) (o n:Int):Option (List (Int×Int))→(Int×Int)×Bool
 |none=>((0,0),false)
 |some k=>(X3D vars o n k,okR (X3D vars o n k))
mutual
def rgP (vars:List Vr):Tm→(Int×Int)×Bool
 | .mk o n ks=>rgV vars o n (X1n vars ks)
def X1n (vars:List Vr):List Tm→Option (List (Int×Int))
 |[]=>some []
 |t::l=>if(rgP vars t).2=true then(X1n vars l).map ((rgP vars t).1:: ·)else none
end
def rgQ (vars:List Vr):Tm→(Int×Int)×Bool
 | .mk o n ks=>rgW vars o n (X1n vars ks)
theorem X7S (vars:List Vr) (t:Tm):(rgQ vars t).2=(rgP vars t).2∧((rgP vars t).2=true→(rgQ vars t).1=(rgP vars t).1):=by
 obtain⟨o,n,ks⟩:=t;simp only[rgQ,rgP];cases X1n vars ks with
 |none=>simp[rgV,rgW]
 | some k=>
   simp only[rgV,rgW,X3D];by_cases h:o=0
   · subst h;simp only[if_true,QD];by_cases h2:n< -1048576∨1048576<n
     · rw[if_pos h2];have:okR (n,n)=false:=by simp only[okR,Bool.and_eq_false_iff,decide_eq_false_iff_not];omega
       rw[this];exact⟨by decide,fun h=>by cases h⟩
     rw[if_neg h2];exact⟨rfl,fun _=>rfl⟩
   simp only[if_neg h];exact⟨trivial,fun _=>trivial⟩
def X0g (vars:List Vr):Prop:=∀v∈vars,v.low≤v.high∧-1048576≤v.low∧v.high≤1048576
theorem X5q {p q:Int×Int} (hp:p.1≤p.2) (hq:q.1≤q.2):(Zj p q).1≤(Zj p q).2:=by
 simp only[Zj,mn,mx]
 (repeat' split)<;>omega
theorem Xa0:∀{l:List (Int×Int)} {p:Int×Int},(∀q∈l,bnd q)→p.1≤p.2→(X2p l p).1≤(X2p l p).2
 |[],p,_,hp=>hp
 |q::l,p,h,hp=>Xa0 (l:=l) (p:=Zj p q) (fun r hr=>h r (List.mem_cons_of_mem _ hr)) (X5q hp (h q (by simp)).2.1)
theorem rule_le {vars:List Vr} {inp:Bool} {o n:Int} {k:List (Int×Int)} (hv:X0g vars) (hf:Q9 vars inp o n k.length=true) (hk:∀p∈k,bnd p):(QD vars o n k).1≤(QD vars o n k).2:=by
 have har:=ZQ hf;have hrf:o=24→0≤n∧∃v,vars[n.toNat]? =some v∧(inp=true→v.kind≠0):=fun h=>X3L (by rw[←h];exact hf)
 have hg:∀i:Nat,(g2 k i).1≤(g2 k i).2∧-1048576≤(g2 k i).1∧(g2 k i).2≤1048576:=by
  intro i;unfold g2;cases hi:k[i]? with
  |none=>simp
  |some p=>have:=hk p (List.mem_of_getElem? hi);exact⟨this.2.1,this.1,this.2.2⟩
 have h0:=hg 0;have h1:=hg 1;unfold QD;generalize g2 k 0=a at*;generalize g2 k 1=b at*;split
 · exact Int.le_refl _
 split
 · rename_i h24;obtain⟨_,v,hv1,_⟩:=hrf h24;rw[hv1];exact(hv v (List.mem_of_getElem? hv1)).1
 split
 · simp only;omega
 split
 · simp only;omega
 split
 · simp only;omega
 split
 · unfold mulP;exact X5q (X5q (X5q (Int.le_refl _) (Int.le_refl _)) (Int.le_refl _)) (Int.le_refl _)
 split
 · simp only[mx]
   (repeat' split)<;>simp only<;>omega
 split
 · simp only[X1v,X52,mn,mx]
   (repeat' split)<;>omega
 split
 · simp only[mn]
   (repeat' split)<;>omega
 split
 · simp only[mx]
   (repeat' split)<;>omega
 split
 · exact Xa0 (fun q hq=>hk q (List.mem_of_mem_drop hq)) h1.1
 simp
theorem X8U {vars:List Vr}:∀{l:List Tm} {k:List (Int×Int)},X1n vars l=some k→k.length=l.length
 |[],k,h=>by simp only[X1n]at h;cases h;rfl
 | t::l,k,h=>by
   simp only[X1n]at h;split at h
   · simp only[Option.map_eq_some_iff]at h;obtain⟨k',h',rfl⟩:=h;simp[X8U h']
   cases h
mutual
theorem X7T {vars:List Vr} {inp:Bool} (hv:X0g vars):∀(t:Tm),QL vars inp t=true→(rgP vars t).2=true→bnd (rgP vars t).1
 | .mk o n ks,hf,h=>by
   simp only[QL,Bool.and_eq_true]at hf;simp only[rgP]at h⊢;cases hk:X1n vars ks with
   |none=>rw[hk]at h;cases h
   | some k=>
     rw[hk]at h;simp only[rgV,okR,Bool.and_eq_true,decide_eq_true_eq]at h⊢;have hb:=X9u hv ks hf.2 k hk;have hl:=X8U hk;have:=rule_le hv (by rw[hl];exact hf.1) hb;exact⟨h.1,this,h.2⟩
theorem X9u {vars:List Vr} {inp:Bool} (hv:X0g vars):∀(l:List Tm),Zf vars inp l=true→∀k,X1n vars l=some k→∀p∈k,bnd p
 |[],_,k,h,p,hp=>by simp only[X1n]at h;cases h;cases hp
 | t ::l,hf,k,h,p,hp=>by
   simp only[Zf,Bool.and_eq_true]at hf;simp only[X1n]at h;split at h
   · rename_i hok;simp only[Option.map_eq_some_iff]at h;obtain⟨k',h',rfl⟩:=h;rcases List.mem_cons.1 hp with rfl|hp
     · exact X7T hv t hf.1 hok
     exact X9u hv l hf.2 k' h' p hp
   cases h
end
@[simp] theorem encP_snoc (a:List (Int×Int)) (r:Int×Int):X1p (a++[r])=X1p a++[[iC r.1,iC r.2]]:=by simp[X1p]
@[simp] theorem lows_snoc (a:List (Int×Int)) (r:Int×Int):X58 (a++[r])=X58 a++[[iC r.1]]:=by simp[X58]
@[simp] theorem highs_snoc (a:List (Int×Int)) (r:Int×Int):X1r (a++[r])=X1r a++[[iC r.2]]:=by simp[X1r]
theorem XaW (vars:List Vr) (inp:Bool) (hv:X0g vars) (t:Tm):QL vars inp t=true→∀d:Nat,
  Con Tryz.prog 189 true [lV vars,aT t] (.tup [aP (rgP vars t).1,lb (rgP vars t).2]) none d:=by
 induction t using Tm.ind with
 |h o n ks ih=>
 intro hf d;simp only[QL,Bool.and_eq_true]at hf;have har:=ZQ hf.1
 have hlen:ks.length≤33:=by
  have:(Q8 o).2≤33:=by unfold Q8;(repeat' split)<;>simp
  omega
 clear har;obtain⟨res,hres⟩:∃r,rgP vars (.mk o n ks)=r:=⟨_,rfl⟩;rw[hres];simp only[rgP]at hres;have ih':∀t∈ks,∀d,Con Tryz.prog 189 true [lV vars,aT t] (.tup [aP (rgP vars t).1,lb (rgP vars t).2]) none d:=fun t ht d=>ih t ht (Zs hf.2 t ht) d;clear ih;refine X5 Tryz.func189 ?_;simp only[Tryz.f189];simp only[aT,Tm.enc];refine X3 ?_;refine X3 ?_;refine X1<|X1<|X2 ?_;refine X4<|(Xf [0,3,4,13,14] (fun(x:Nat×List (Int×Int))=>[(6,.v (.one (.own 1006))),(15,.v (li x.1))]) (fun(x:Nat×List (Int×Int))=>[(3,.box [.c (iC o),.c (iC n),.c (.sl 3 (Xo ks))]),(4,.box [.c (iC 0),.c (iC 0)]),(1006,.row 230 2 (X1p x.2))]) (fun(x:Nat×List (Int×Int))=>x.1≤ks.length∧x.2.length=x.1∧X1n vars ks=(X1n vars (ks.drop x.1)).map (x.2++ ·)∧∀p∈x.2,bnd p) (fun(x:Nat×List (Int×Int))=>ks.length - x.1) (0,[]) ⟨Nat.zero_le _,rfl,by simp,by simp⟩ ?_ ?_)
 · exact X6 (fun n=>n) [1006]
 rintro⟨k,acc⟩ ⟨hk,hal,hJ,hb⟩;simp only[upS,X8,Xw]
 try simp only[X8,KN,Nat.reduceBEq,if_true,if_false,ins,Nat.reduceLT]
 simp only at hk hal hJ hb;refine X3 ?_;refine X1<|(X7 rfl (fun h5=>Xb ?_) (fun h5=>?_))
 · (try simp only[BN]at h5);have hlt:k<ks.length:=by omega
   obtain⟨⟨eo,en,ek⟩,he,hd⟩:=Xs hlt;have he':=Wd he;simp only[Tm.enc]at he';have hw1:=XA hlt (by omega);rw[hd]at hJ;simp only[X1n]at hJ;have hk1:k+1≤ks.length:=hlt;have hmem:Tm.mk eo en ek∈ks:=List.mem_of_getElem? he;have hpb:=X7T hv _ (Zs hf.2 _ hmem);have hroom:Qq (k+1) 16:=XB (by omega) (by omega);clear hlt h5;refine X1<|X4<|X1<|X2 ?_;refine Xj [⟨true,.tup [aP (rgP vars (.mk eo en ek)).1,lb (rgP vars (.mk eo en ek)).2],none⟩] ?_ ?_
   · first|exact ih' _ hmem _|exact trivial|simpa[*]using ih' _ hmem _
   refine X1<|X1<|X2 ?_;refine(Xa rfl (fun h9=>?_) fun h9=>?_)
   · (try simp only[BN]at h9);rw[h9]at hJ;simp only[Bool.false_eq_true,if_false,Option.map_none]at hJ;rw[hJ]at hres;subst hres;refine X3 ?_;exact Xc
   (try simp only[BN]at h9);rw[if_pos h9]at hJ;refine X2 ?_;refine X2 ?_
   exact⟨(k+1,acc++[(rgP vars (.mk eo en ek)).1]),⟨hk1,by simp[hal],by rw[hJ,Option.map_map];congr 1;funext z;simp,fun p hp=>by
    rcases List.mem_append.1 hp with h|h
    · exact hb p h
    simp only[List.mem_cons,List.not_mem_nil,or_false]at h;rw[h]
    exact hpb h9⟩,by simp only;omega,X6 (fun n=>if n=1006 then 31 else n) []⟩
 (try simp only[BN]at h5);have hkl:k=ks.length:=by omega
 rw[hkl,List.drop_length]at hJ;simp only[X1n,Option.map_some,List.append_nil]at hJ;rw[hJ]at hres;subst hres;have hf1:Q9 vars inp o n acc.length=true:=by rw[hal,hkl];exact hf.1
 refine(Xi ?_);refine Xj [⟨true,.v (aP (QD vars o n acc)),none⟩] ?_ ?_
 · first|exact X96 vars inp o n _ acc hf1 hb _|exact trivial|simpa[*]using X96 vars inp o n _ acc hf1 hb _
 refine X1<|(X9w [(11,11),(38,11),(42,11),(4,4)] (by kernel_rfl) (by kernel_rfl) (by rfl) (by simp[evsH,X5a,Qy, *];rfl) ?_);exact(Xl (fun h=>⟨.inr rfl,h⟩) _ (by simp[*];rfl) (by simp[XD,rgV,okR]) (by simp))
theorem Xd6 (vars:List Vr) (inp:Bool) (hv:X0g vars) (t:Tm):QL vars inp t=true→∀d:Nat,
  Con Tryz.prog 97 true [lV vars,aT t] (.tup [li (rgQ vars t).1.1,li (rgQ vars t).1.2,lb (rgQ vars t).2]) none d:=by
 induction t using Tm.ind with
 |h o n ks ih=>
 intro hf d;simp only[QL,Bool.and_eq_true]at hf;have har:=ZQ hf.1
 have hlen:ks.length≤33:=by
  have:(Q8 o).2≤33:=by unfold Q8;(repeat' split)<;>simp
  omega
 clear har;obtain⟨res,hres⟩:∃r,rgQ vars (.mk o n ks)=r:=⟨_,rfl⟩;rw[hres];simp only[rgQ]at hres;have ih':∀t∈ks,∀d,Con Tryz.prog 97 true [lV vars,aT t] (.tup [li (rgQ vars t).1.1,li (rgQ vars t).1.2,lb (rgQ vars t).2]) none d:=fun t ht d=>ih t ht (Zs hf.2 t ht) d;clear ih;refine X5 Tryz.func97 ?_;simp only[Tryz.f97];simp only[aT,Tm.enc];refine X3 ?_;refine X3 ?_;refine X3 ?_;refine X1<|X1<|X2 ?_;refine X4<|(Xf [0,3] (fun(x:Nat×List (Int×Int))=>[(7,.v (.one (.own 1007))),(8,.v (.one (.own 1008))),(9,.v (li x.1))]) (fun(x:Nat×List (Int×Int))=>[(3,.box [.c (iC o),.c (iC n),.c (.sl 3 (Xo ks))]),(1007,.row 3 1 (X58 x.2)),(1008,.row 3 1 (X1r x.2))]) (fun(x:Nat×List (Int×Int))=>x.1≤ks.length∧x.2.length=x.1∧X1n vars ks=(X1n vars (ks.drop x.1)).map (x.2++ ·)∧∀p∈x.2,bnd p) (fun(x:Nat×List (Int×Int))=>ks.length - x.1) (0,[]) ⟨Nat.zero_le _,rfl,by simp,by simp⟩ ?_ ?_)
 · exact X6 (fun n=>if n=1007 then 15 else if n=1008 then 16 else n) []
 rintro⟨k,acc⟩ ⟨hk,hal,hJ,hb⟩;simp only[upS,X8,Xw]
 try simp only[X8,KN,Nat.reduceBEq,if_true,if_false,ins,Nat.reduceLT]
 simp only at hk hal hJ hb;refine X1<|X1<|X2 ?_;refine(X7 rfl (fun h6=>Xb ?_) (fun h6=>?_))
 · (try simp only[BN]at h6);have hlt:k<ks.length:=by omega
   obtain⟨⟨eo,en,ek⟩,he,hd⟩:=Xs hlt;have he':=Wd he;simp only[Tm.enc]at he';have hw1:=XA hlt (by omega);rw[hd]at hJ;simp only[X1n]at hJ;have hk1:k+1≤ks.length:=hlt;have hmem:Tm.mk eo en ek∈ks:=List.mem_of_getElem? he;have hpb:=X7T hv _ (Zs hf.2 _ hmem);have hroom:Qq (k+1) 8:=XB (by omega) (by omega);rw[←(X7S vars (.mk eo en ek)).1]at hJ hpb;clear hlt h6;refine X1<|X4<|X1<|(Xm [⟨true,.tup [li (rgQ vars (.mk eo en ek)).1.1,li (rgQ vars (.mk eo en ek)).1.2,lb (rgQ vars (.mk eo en ek)).2],none⟩] ?_ ?_)
   · first|exact ih' _ hmem _|exact trivial|simpa[*]using ih' _ hmem _
   refine X1<|X1<|X2 ?_;refine(Xa rfl (fun h9=>?_) fun h9=>?_)
   · (try simp only[BN]at h9);rw[h9]at hJ;simp only[Bool.false_eq_true,if_false,Option.map_none]at hJ;rw[hJ]at hres;subst hres;refine X3 ?_;exact Xc
   (try simp only[BN]at h9);rw[if_pos h9]at hJ;have hq2:=(X7S vars (.mk eo en ek)).2 (by rw[←(X7S vars (.mk eo en ek)).1];exact h9);refine X3 ?_;refine X2 ?_;refine X2 ?_
   exact⟨(k+1,acc++[(rgP vars (.mk eo en ek)).1]),⟨hk1,by simp[hal],by rw[hJ,Option.map_map];congr 1;funext z;simp,fun p hp=>by
    rcases List.mem_append.1 hp with h|h
    · exact hb p h
    simp only[List.mem_cons,List.not_mem_nil,or_false]at h;rw[h]
    exact hpb h9⟩,by simp only;omega,X6 (fun n=>if n=1007 then 40 else if n=1008 then 44 else n) []⟩
 (try simp only[BN]at h6);have hkl:k=ks.length:=by omega
 rw[hkl,List.drop_length]at hJ;simp only[X1n,Option.map_some,List.append_nil]at hJ;rw[hJ]at hres;subst hres;have hf1:Q9 vars inp o n acc.length=true:=by rw[hal,hkl];exact hf.1
 refine(Xi ?_);refine Xj [⟨true,.tup [li (X3D vars o n acc).1,li (X3D vars o n acc).2],none⟩] ?_ ?_
 · first|exact X9f vars inp o n _ acc hf1 hb _|exact trivial|simpa[*]using X9f vars inp o n _ acc hf1 hb _
 refine X3 ?_;exact(Xl (fun h=>⟨.inr rfl,h⟩) _ (by simp[*];rfl) (by simp[XD,rgW,okR]) (by simp))
def X0v (vars:List Vr) (inp:Bool) (t:Tm):Int:=if QL vars inp t=true then(if(rgP vars t).2=true then 0 else 3)else 1
theorem X79 (vars:List Vr) (inp:Bool) (hv:X0g vars) (hl:vars.length≤1000000000) (t:Tm) (hn:t.nodes≤1000000000) (d:Nat):
  Con Tryz.prog 180 true [lV vars,aT t,lb inp] (.v (li (X0v vars inp t))) none d:=by
 have c1:=XcP vars inp hl t hn;have c2:=XaW vars inp hv t;obtain⟨o,n,ks⟩:=t;obtain⟨F,hF⟩:∃F,QL vars inp (.mk o n ks)=F:=⟨_,rfl⟩;obtain⟨R,hR⟩:∃R,rgP vars (.mk o n ks)=R:=⟨_,rfl⟩;simp only[X0v,hF,hR]at c1 c2⊢;clear hF hR;refine X5 Tryz.func180 ?_;simp only[Tryz.f180];simp only[aT,Tm.enc]at c1 c2⊢;refine X3 ?_;refine X1<|X1<|(Xm [⟨true,.v (lb F),none⟩] ?_ ?_)
 · first|exact c1 _|exact trivial|simpa[*]using c1 _
 refine(Xa rfl (fun h2=>?_) fun h2=>?_)
 · (try simp only[BN]at h2);refine X3 ?_;exact Xc
 (try simp only[BN]at h2);refine X1<|X1<|(Xm [⟨true,.tup [aP R.1,lb R.2],none⟩] ?_ ?_)
 · first|exact c2 h2 _|exact trivial|simpa[*]using c2 h2 _
 refine X3 ?_;refine(Xa rfl (fun h7=>?_) fun h7=>?_)
 · (try simp only[BN]at h7);refine X3 ?_;exact Xc
 (try simp only[BN]at h7);refine X3 ?_;exact Xc
theorem X6N (vars:List Vr) (inp:Bool) (hv:X0g vars) (hl:vars.length≤1000000000) (t:Tm) (hn:t.nodes≤1000000000) (d:Nat):
  Con Tryz.prog 64 true [lV vars,aT t,lb inp] (.v (li (X0v vars inp t))) none d:=by
 have c1:=XcA vars inp hl t hn;have c2:=Xd6 vars inp hv t;rw[(X7S vars t).1]at c2;obtain⟨o,n,ks⟩:=t;obtain⟨F,hF⟩:∃F,QL vars inp (.mk o n ks)=F:=⟨_,rfl⟩;obtain⟨R,hR⟩:∃R,(rgP vars (.mk o n ks)).2=R:=⟨_,rfl⟩;obtain⟨S,hS⟩:∃S,(rgQ vars (.mk o n ks)).1=S:=⟨_,rfl⟩;simp only[X0v,hF,hR,hS]at c1 c2⊢;clear hF hR hS;refine X5 Tryz.func64 ?_;simp only[Tryz.f64];simp only[aT,Tm.enc]at c1 c2⊢;refine X3 ?_;refine X1<|X1<|(Xm [⟨true,.v (lb F),none⟩] ?_ ?_)
 · first|exact c1 _|exact trivial|simpa[*]using c1 _
 refine(Xa rfl (fun h2=>?_) fun h2=>?_)
 · (try simp only[BN]at h2);refine X3 ?_;exact Xc
 (try simp only[BN]at h2);refine Xj [⟨true,.tup [li S.1,li S.2,lb R],none⟩] ?_ ?_
 · first|exact c2 h2 _|exact trivial|simpa[*]using c2 h2 _
 refine X1<|X1<|X2 ?_;refine(Xa rfl (fun h7=>?_) fun h7=>?_)
 · (try simp only[BN]at h7);refine X3 ?_;exact Xc
 (try simp only[BN]at h7);refine X3 ?_;exact Xc
end Go.Proofs.YtppjennamodfdaaGreat

namespace Go.Proofs.YtppjennamodfdaaGreat
open Go Go.Hl
@[simp] theorem take_encV (l:List Vr) (i:Nat):(Xv l).take i=Xv (l.take i):=by simp[Xv]
@[simp] theorem encV_snoc (l:List Vr) (v:Vr):Xv (l++[v])=Xv l++[v.enc]:=by simp[Xv]
theorem Zq {α:Type} {l:List α} {k:Nat} {x:α} (h:l[k]? =some x):l.take (k+1)=l.take k++[x]:=by
 rw[List.take_add_one,h];rfl
theorem X2f (s:ByteArray) (d:Nat):Con Tryz.prog 62 true [sv s] (.v (lb (ZN s))) none d:=by
 refine X5 Tryz.func62 ?_;simp only[Tryz.f62];refine X3 ?_;refine X1<|X1<|X2 ?_;refine(Xa rfl (fun h2=>?_) fun h2=>?_)
 · try simp only[BN]at h2
   have hz:ZN s=false:=by
    unfold ZN;rw[Bool.and_eq_false_iff,Bool.and_eq_false_iff];simp only[decide_eq_false_iff_not];omega
   refine X3 ?_;exact Xc
 (try simp only[BN]at h2);have h1:1≤s.size:=by omega
 have h40:s.size≤40:=by omega
 refine X1<|X1<|X2 ?_;refine X4<|(Xf [0] (fun(x:Nat)=>[(3,.v (li x))]) (fun x=>[]) (fun x=>x≤s.size∧∀j:Nat,j<x→X4n s j=true) (fun x=>s.size - x) (0:Nat) ⟨Nat.zero_le _,fun j hj=>absurd hj (Nat.not_lt_zero j)⟩ ?_ ?_)
 · exact X6 (fun n=>n) []
 rintro k ⟨hk,hall⟩;simp only[upS,X8,Xw]
 try simp only[X8,KN,Nat.reduceBEq,if_true,if_false,ins,Nat.reduceLT]
 refine X1<|X1<|X2 ?_;refine(X7 rfl (fun h8=>Xb ?_) (fun h8=>?_))
 · (try simp only[BN]at h8);have hlt:k<s.size:=by omega
   obtain⟨b,hb⟩:=X7a hlt;have hw:=XA hlt (by omega);have hk1:k+1≤s.size:=hlt;clear hlt h8;refine X1<|X4<|X1<|X2 ?_;refine X3 ?_;refine X3 ?_;refine X3 ?_;refine(Xa rfl (fun h13=>?_) fun h13=>?_)
   · try simp only[BN]at h13
     have hbad:X4n s k=false:=by
      unfold X4n;rw[hb];simp only[Bool.or_eq_false_iff,Bool.and_eq_false_iff,decide_eq_false_iff_not];omega
     have hz:=X7t hk1 hbad;refine X3 ?_;exact Xc
   try simp only[BN]at h13
   have hgood:X4n s k=true:=by
    unfold X4n;rw[hb];simp only[Bool.or_eq_true,Bool.and_eq_true,decide_eq_true_eq];omega
   refine X2 ?_;exact⟨k+1,⟨by omega,fun j hj=>(Nat.lt_succ_iff_lt_or_eq.1 hj).elim (hall j) (fun e=>e▸hgood)⟩,by omega,X6 (fun n=>n) []⟩
 (try simp only[BN]at h8);have hz:=X5v h1 h40 (fun j hj=>hall j (by omega));refine(Xi ?_);refine X3 ?_;exact Xc
def sz (v:Vr):Int:=v.high - v.low+1
def prV:List Vr→Int→Int
 |[],n=>n
 |v::l,n=>if 4096<n*sz v then 4097 else prV l (n*sz v)
def spc (vars:List Vr) (kind:Int):Int:=prV (vars.filter fun v=>decide (v.kind=kind)) 1
def X08 (vars:List Vr):Prop:=∀v∈vars,v.low≤v.high∧-1048576≤v.low∧v.high≤1048576
theorem sz_in {vars:List Vr} (h:X08 vars) {v:Vr} (hv:v∈vars):1≤sz v∧sz v≤2097153:=by
 have:=h v hv;unfold sz;omega
theorem X7N {n s:Int} (h1:1≤n∧n≤4096) (h2:1≤s∧s≤2097153):1≤n*s∧n*s≤8589938688:=by
 have h3:n.natAbs*s.natAbs≤4096*2097153:=Nat.mul_le_mul (by omega) (by omega);have h4:1*1≤n.natAbs*s.natAbs:=Nat.mul_le_mul (by omega) (by omega);rw[←Int.natAbs_mul]at h3 h4;have h5:0≤n*s:=Int.mul_nonneg (by omega) (by omega);omega
theorem prV_in {vars:List Vr} (h:X08 vars):∀(l:List Vr) (n:Int),(∀v∈l,v∈vars)→1≤n∧n≤4096→1≤prV l n∧prV l n≤4097
 |[],n,_,hn=>by simp only[prV];omega
 | v::l,n,hl,hn=>by
   simp only[prV];have:=X7N hn (sz_in h (hl v (by simp)));split
   · omega
   exact prV_in h l _ (fun w hw=>hl w (List.mem_cons_of_mem _ hw)) (by omega)
theorem X2E (vars:List Vr) (kind:Int) (hv:X08 vars) (hl:vars.length≤1000000000) (d:Nat):Con Tryz.prog 95 true [lV vars,li kind] (.v (li (spc vars kind))) none d:=by
 obtain⟨res,hres⟩:∃r,spc vars kind=r:=⟨_,rfl⟩;rw[hres];unfold spc at hres;refine X5 Tryz.func95 ?_;simp only[Tryz.f95];refine X3 ?_;refine X3 ?_;refine X1<|X1<|X2 ?_;refine X4<|(Xf [0,1] (fun(x:Nat×Int)=>[(5,.v (li x.2)),(6,.v (li x.1))]) (fun x=>[]) (fun x=>x.1≤vars.length∧prV ((vars.drop x.1).filter fun v=>decide (v.kind=kind)) x.2=res∧1≤x.2∧x.2≤4096) (fun x=>vars.length - x.1) (0,1) ⟨Nat.zero_le _,hres,by decide,by decide⟩ ?_ ?_)
 · exact X6 (fun n=>n) []
 rintro⟨k,n⟩ ⟨hk,hJ,hn1,hn2⟩;simp only[upS,X8,Xw]
 try simp only[X8,KN,Nat.reduceBEq,if_true,if_false,ins,Nat.reduceLT]
 simp only at hk hJ hn1 hn2;clear hres;refine X1<|X1<|X2 ?_;refine(X7 rfl (fun h5=>Xb ?_) (fun h5=>?_))
 · (try simp only[BN]at h5);have hlt:k<vars.length:=by omega
   obtain⟨v,he,hd⟩:=Xs hlt;have hw1:=XA hlt (by omega);have hk1:k+1≤vars.length:=hlt;have hmem:v∈vars:=List.mem_of_getElem? he;have hs:=sz_in hv hmem;have hm:=X7N ⟨hn1,hn2⟩ hs;have hb:=hv v hmem;have hw2:IntKind.i64.wrap (v.high - v.low)=v.high - v.low:=Xd (by omega) (by omega);have hw3:IntKind.i64.wrap (v.high - v.low+1)=sz v:=by rw[Xd (by omega) (by omega)];rfl
   have hw4:IntKind.i64.wrap (n*sz v)=n*sz v:=Xd (by omega) (by omega);rw[hd]at hJ;clear hlt h5 hv;refine X1<|X4<|X1<|X1<|X2 ?_;refine(Xa rfl (fun h7=>?_) fun h7=>?_)
   · (try simp only[BN]at h7);rw[List.filter_cons_of_neg (by simpa using h7)]at hJ;refine(Xi ?_);refine X2 ?_;exact⟨(k+1,n),⟨hk1,hJ,hn1,hn2⟩,by simp only;omega,X6 (fun n=>n) []⟩
   (try simp only[BN]at h7);rw[List.filter_cons_of_pos (by simpa using h7)]at hJ;simp only[prV]at hJ;refine X1<|(Qc (by kernel_rfl) (by kernel_rfl) (by rfl) (by simp[*];rfl) ?_);refine X3 ?_;refine(Xa rfl (fun h12=>?_) fun h12=>?_)
   · (try simp only[BN]at h12);rw[if_pos h12]at hJ;subst hJ;refine X3 ?_;exact Xc
   (try simp only[BN]at h12);rw[if_neg h12]at hJ;refine X2 ?_;exact⟨(k+1,n*sz v),⟨hk1,hJ,hm.1,by simp only;omega⟩,by simp only;omega,X6 (fun n=>n) []⟩
 (try simp only[BN]at h5);have hkl:k=vars.length:=by omega
 rw[hkl,List.drop_length]at hJ;simp only[List.filter_nil,prV]at hJ;refine(Xi ?_);refine X3 ?_;exact(Xl (fun h=>⟨.inr rfl,h⟩) _ (by simp[*];rfl) (by subst hJ;rfl) (by simp))
theorem X72 (v:Vr) (hv:-1048576≤v.low∧v.low≤v.high∧v.high≤1048576) (d:Nat):Con Tryz.prog 197 true [aV v] (.v (li (sz v))) none d:=by
 have hw2:IntKind.i64.wrap (v.high - v.low)=v.high - v.low:=Xd (by omega) (by omega);have hw3:IntKind.i64.wrap (v.high - v.low+1)=sz v:=by rw[Xd (by omega) (by omega)];rfl
 refine X5 Tryz.func197 ?_;simp only[Tryz.f197];refine X3 ?_;refine X3 ?_;exact Xc
def chR (vars:List Vr) (kind:Int):RV:=if spc vars kind≤4096 then .tup [.one (.c (.sl 5 (Xv (vars.filter fun v=>decide (v.kind=kind))))),li (spc vars kind),li 0] else .tup [.one (.c (.lit XP)),li 0,li 4]
theorem XaL (vars:List Vr) (kind:Int) (hkd:1≤kind∧kind≤3) (hv:X08 vars) (hl:vars.length≤1000000) (d:Nat):Con Tryz.prog 186 false [lV vars,li kind] (chR vars kind) none d:=by
 obtain⟨S,hS⟩:∃S,vars.filter (fun v=>decide (v.kind=kind))=S:=⟨_,rfl⟩;obtain⟨res,hres⟩:∃r,spc vars kind=r:=⟨_,rfl⟩;unfold chR;rw[hres,hS];unfold spc at hres;rw[hS]at hres;refine X5 Tryz.func186 ?_;simp only[Tryz.f186];refine X3 ?_;refine(XV [0,1] (fun(z:Unit)=>[]) (fun(z:Unit)=>[]) (fun(z:Unit)=>True) ?_ ?_)
 ·
  refine X3 ?_;refine X4<|(XV [0,1] (fun(z:Bool)=>[(14,.v (lb z))]) (fun(z:Bool)=>[]) (fun(z:Bool)=>z=true) ?_ ?_)
  ·
   refine X3 ?_;refine(X7 rfl (fun h5=>Xb ?_) (fun h5=>?_))
   · (try simp only[BN]at h5);exact⟨true,rfl,X6 (fun n=>n) []⟩
   (try simp only[BN]at h5);refine X3 ?_;refine(X7 rfl (fun h8=>Xb ?_) (fun h8=>?_))
   · (try simp only[BN]at h8);exact⟨true,rfl,X6 (fun n=>n) []⟩
   (try simp only[BN]at h8);refine X3 ?_;refine(X7 rfl (fun h11=>Xb ?_) (fun h11=>?_))
   · (try simp only[BN]at h11);exact⟨true,rfl,X6 (fun n=>n) []⟩
   (try simp only[BN]at h11);refine X2 ?_;have hz:decide (kind=3)=true:=by rw[decide_eq_true_eq];omega
   exact⟨true,rfl,X6 (fun n=>n) []⟩
  rintro _ rfl;simp only[upS,X8,Xw]
  try simp only[X8,KN,Nat.reduceBEq,if_true,if_false,ins,Nat.reduceLT]
  refine(X7 rfl (fun h15=>Xb ?_) (fun h15=>?_))
  · (try simp only[BN]at h15);exact⟨(),trivial,X6 (fun n=>n) []⟩
  exact absurd h15 (by simp)
 rintro z hz;simp only[upS,X8,Xw]
 try simp only[X8,KN,Nat.reduceBEq,if_true,if_false,ins,Nat.reduceLT]
 refine X3 ?_;refine X1<|X1<|X2 ?_;refine X4<|(Xf [1,19,20] (fun(x:Nat×List Vr)=>[(7,.v (.one (.own 1007))),(21,.v (li x.1))]) (fun x=>[(1007,.row 64 5 (Xv x.2))]) (fun x=>x.1≤vars.length∧x.2=(vars.take x.1).filter fun v=>decide (v.kind=kind)) (fun x=>vars.length - x.1) (0,[]) ⟨Nat.zero_le _,by simp⟩ ?_ ?_)
 · exact Xx (fun n=>n) [1007] rfl (by simp[upS,X8]) (by simp[upS,Xv]) (by simp[upS])
 rintro⟨k,acc⟩ ⟨hk,hJ⟩;simp only[upS,X8,Xw]
 try simp only[X8,KN,Nat.reduceBEq,if_true,if_false,ins,Nat.reduceLT]
 simp only at hk hJ;replace hJ:=hJ.symm;refine X3 ?_;refine X1<|(X7 rfl (fun h23=>Xb ?_) (fun h23=>?_))
 · (try simp only[BN]at h23);have hlt:k<vars.length:=by omega
   obtain⟨v,he,hd⟩:=Xs hlt;have hw1:=XA hlt (by omega);have hk1:k+1≤vars.length:=hlt;have hmem:v∈vars:=List.mem_of_getElem? he;have hb:=hv v hmem;have ht:=Zq he;generalize hT:(vars.take k).filter (fun v=>decide (v.kind=kind))=T at hJ
   have hal:acc.length≤k:=by
    rw[←hJ,←hT];exact Nat.le_trans (List.length_filter_le _ _) (by rw[List.length_take];omega)
   have hroom:Qq (acc.length+1) 48:=XB (by omega) (by omega);clear hlt h23 hv;refine X1<|X4<|X1<|X2 ?_;refine X1<|X1<|X2 ?_;refine(Xa rfl (fun h26=>?_) fun h26=>?_)
   · (try simp only[BN]at h26);have hf:(vars.take (k+1)).filter (fun v=>decide (v.kind=kind))=acc:=by rw[ht,List.filter_append,hT,hJ,List.filter_cons_of_neg (by simpa using h26)];simp
     clear hS;refine(Xi ?_);refine X2 ?_;exact⟨(k+1,acc),⟨hk1,hf.symm⟩,by simp only;omega,X6 (fun n=>n) []⟩
   (try simp only[BN]at h26);have hf:(vars.take (k+1)).filter (fun v=>decide (v.kind=kind))=acc++[v]:=by rw[ht,List.filter_append,hT,hJ,List.filter_cons_of_pos (by simpa using h26)];simp
   clear hS;refine X1<|X1<|X2 ?_;refine(Xa rfl (fun h30=>?_) fun h30=>?_)
   · exfalso;simp only[Bool.or_eq_true,decide_eq_true_eq]at h30;omega
   (try simp only[BN]at h30);refine X2 ?_;refine X2 ?_;exact⟨(k+1,acc++[v]),⟨hk1,hf.symm⟩,by simp only;omega,X6 (fun n=>if n=1007 then 47 else n) []⟩
 (try simp only[BN]at h23);have hkl:k=vars.length:=by omega
 rw[hkl,List.take_length,hS]at hJ;subst hJ;have hSl:S.length≤1000000:=by rw[←hS];exact Nat.le_trans (List.length_filter_le _ _) hl
 have hSv:∀v∈S,v.low≤v.high∧-1048576≤v.low∧v.high≤1048576:=fun v h=>hv v (by rw[←hS]at h;exact(List.mem_filter.1 h).1);clear hS hv hk hl h23 hkl;refine(Xi ?_);refine X3 ?_;refine X1<|X1<|X2 ?_;refine X4<|(Xf [7,49,50] (fun(x:Nat×Int)=>[(10,.v (li x.2)),(51,.v (li x.1))]) (fun x=>[(1007,.row 64 5 (Xv S))]) (fun x=>x.1≤S.length∧prV (S.drop x.1) x.2=res∧1≤x.2∧x.2≤4096) (fun x=>S.length - x.1) (0,1) ⟨Nat.zero_le _,hres,by decide,by decide⟩ ?_ ?_)
 · exact X6 (fun n=>n) []
 rintro⟨k2,n⟩ ⟨hk2,hJ,hn1,hn2⟩;simp only[upS,X8,Xw]
 try simp only[X8,KN,Nat.reduceBEq,if_true,if_false,ins,Nat.reduceLT]
 simp only at hk2 hJ hn1 hn2;clear hres;refine X3 ?_;refine X1<|(X7 rfl (fun h40=>Xb ?_) (fun h40=>?_))
 · (try simp only[BN]at h40);have hlt:k2<S.length:=by omega
   obtain⟨v,he,hd⟩:=Xs hlt;have hw1:=XA hlt (by omega);have hk1:k2+1≤S.length:=hlt;have hb:=hSv v (List.mem_of_getElem? he);have hs:1≤sz v∧sz v≤2097153:=by unfold sz;omega
   have hm:=X7N ⟨hn1,hn2⟩ hs;have hw4:IntKind.i64.wrap (n*sz v)=n*sz v:=Xd (by omega) (by omega);rw[hd]at hJ;simp only[prV]at hJ;clear hlt h40;refine X1<|X4<|X1<|X2 ?_;refine Xj [⟨true,.v (li (sz v)),none⟩] ?_ ?_
   · first|exact X72 v ⟨hb.2.1,hb.1,hb.2.2⟩ _|exact trivial|simpa[*]using X72 v ⟨hb.2.1,hb.1,hb.2.2⟩ _
   refine X3 ?_;refine(Xa rfl (fun h44=>?_) fun h44=>?_)
   · (try simp only[BN]at h44);rw[if_pos h44]at hJ;subst hJ;refine X3 ?_;exact XF ⟨.inr rfl,_,le_refl _,⟨⟨_,by simp;rfl,by simp[XD]⟩,by simp,fun h=>by cases h⟩⟩
   (try simp only[BN]at h44);rw[if_neg h44]at hJ;refine X2 ?_;exact⟨(k2+1,n*sz v),⟨hk1,hJ,hm.1,by simp only;omega⟩,by simp only;omega,X6 (fun n=>n) []⟩
 (try simp only[BN]at h40);have hkl:k2=S.length:=by omega
 rw[hkl,List.drop_length]at hJ;simp only[prV]at hJ;subst hJ;refine(Xi ?_);refine X3 ?_;exact XF ⟨.inr rfl,_,XJ 1007 rfl,⟨⟨_,by simp;rfl,by simp[XD,hn2]⟩,by simp,fun h=>by cases h⟩⟩
theorem XaS (vars:List Vr) (kind:Int) (hkd:1≤kind∧kind≤3) (hv:X08 vars) (hl:vars.length≤1000000) (d:Nat):Con Tryz.prog 177 true [lV vars,li kind]
  (.tup [li (if spc vars kind≤4096 then spc vars kind else 0),li (if spc vars kind≤4096 then 0 else 4)]) none d:=by
 have c:=XaL vars kind hkd hv hl;unfold chR at c;obtain⟨res,hres⟩:∃r,spc vars kind=r:=⟨_,rfl⟩;rw[hres]at c⊢;clear hres;by_cases h:res≤4096
 · rw[if_pos h]at c;rw[if_pos h,if_pos h];refine X5 Tryz.func177 ?_;simp only[Tryz.f177];refine X3 ?_;refine Xj [⟨false,.tup [.one (.c (.sl 5 (Xv (vars.filter fun v=>decide (v.kind=kind))))),li res,li 0],none⟩] ?_ ?_
   · first|exact c _|exact trivial|simpa[*]using c _
   refine X3 ?_;exact Xc
 rw[if_neg h]at c;rw[if_neg h,if_neg h];refine X5 Tryz.func177 ?_;simp only[Tryz.f177];refine X3 ?_;refine Xj [⟨false,.tup [.one (.c (.lit XP)),li 0,li 4],none⟩] ?_ ?_
 · first|exact c _|exact trivial|simpa[*]using c _
 refine X3 ?_;exact Xc
end Go.Proofs.YtppjennamodfdaaGreat

namespace Go.Proofs.YtppjennamodfdaaGreat
open Go Go.Hl
theorem idxV_con (l:List Vr) (g:FuncId) (cap:List CD) (p:Vr→Bool) (hl:l.length≤1000000000) (hp:∀v∈l,∀d,Con Tryz.prog g true (aV v::cap.map fun c=>.one (.c c)) (.v (lb (p v))) none d) (d:Nat):
  ∃r:Int,(∀d,Con Tryz.prog 185 true [lV l,.one (.c (.fn g cap))] (.v (li r)) none d)∧(0≤r↔l.any p=true):=by
 let rec_:List Vr→Int→Int:=fun l k=>match l.findIdx? p with
  |some i=>k+i
  |none=>-1
 refine⟨(match l.findIdx? p with|some i=>(i:Int)|none=>-1),fun d=>?_,?_⟩
 · have hstep:∀k:Nat,(∀j:Nat,j<k→∀v,l[j]? =some v→p v=false)→∀v,l[k]? =some v→p v=true→l.findIdx? p=some k:=by
    intro k hno v hv hpv;rw[List.findIdx?_eq_some_iff_getElem];have hk:k<l.length:=(List.getElem?_eq_some_iff.1 hv).1;refine⟨hk,?_,fun j hj=>?_⟩
    · simp only[List.getElem?_eq_getElem hk,Option.some.injEq]at hv;rw[hv];exact hpv
    have:=hno j hj l[j] (by simp);simp[this]
   have hnone:(∀j:Nat,j<l.length→∀v,l[j]? =some v→p v=false)→l.findIdx? p=none:=by
    intro hno;rw[List.findIdx?_eq_none_iff];intro v hv;obtain⟨j,hj⟩:=List.mem_iff_getElem?.1 hv;exact hno j (List.getElem?_eq_some_iff.1 hj).1 v hj
   clear rec_;refine X5 Tryz.func185 ?_;simp only[Tryz.f185];refine X3 ?_;refine X1<|X1<|X2 ?_;refine X4<|(Xf [0,1,7] (fun(x:Nat)=>[(8,.v (li x))]) (fun x=>[]) (fun x=>x≤l.length∧∀j:Nat,j<x→∀v,l[j]? =some v→p v=false) (fun x=>l.length - x) (0:Nat) ⟨Nat.zero_le _,fun j hj=>absurd hj (Nat.not_lt_zero j)⟩ ?_ ?_)
   · exact X6 (fun n=>n) []
   rintro k ⟨hk,hJ⟩;simp only[upS,X8,Xw]
   try simp only[X8,KN,Nat.reduceBEq,if_true,if_false,ins,Nat.reduceLT]
   refine X3 ?_;refine X1<|(X7 rfl (fun h4=>Xb ?_) (fun h4=>?_))
   · (try simp only[BN]at h4);have hlt:k<l.length:=by omega
     obtain⟨v,he,hd⟩:=Xs hlt;have hw1:=XA hlt (by omega);have hk1:k+1≤l.length:=hlt;have hpv:=hp v (List.mem_of_getElem? he);have hs:=hstep k hJ v he;clear hlt h4 hstep hnone hp;refine X1<|X4<|X1<|X2 ?_;refine Xj [⟨true,.v (lb (p v)),none⟩] ?_ ?_
     · first|exact hpv _|exact trivial|simpa[*]using hpv _
     refine(Xa rfl (fun h7=>?_) fun h7=>?_)
     · (try simp only[BN]at h7);rw[hs h7];refine X3 ?_;exact Xc
     (try simp only[BN]at h7);refine X2 ?_;exact⟨k+1,⟨hk1,fun j hj w hw=>(Nat.lt_succ_iff_lt_or_eq.1 hj).elim (fun h=>hJ j h w hw) (fun e=>by subst e;rw[he]at hw;cases hw;exact h7)⟩,by omega,X6 (fun n=>n) []⟩
   (try simp only[BN]at h4);rw[hnone fun j hj=>hJ j (by omega)];refine(Xi ?_);refine X3 ?_;exact Xc
 rw[List.any_eq];cases h:l.findIdx? p with
 | none=>
   rw[List.findIdx?_eq_none_iff]at h;simp only[decide_eq_true_eq];constructor
   · intro h;omega
   rintro⟨v,hv,hpv⟩;have:=h v hv;rw[hpv]at this;cases this
 | some i=>
   rw[List.findIdx?_eq_some_iff_getElem]at h;obtain⟨hi,hpi,_⟩:=h;simp only[decide_eq_true_eq];exact⟨fun _=>⟨l[i],List.getElem_mem _,hpi⟩,fun _=>by omega⟩
theorem X9S (l:List Vr) (g:FuncId) (cap:List CD) (p:Vr→Bool) (hl:l.length≤1000000000) (hp:∀v∈l,∀d,Con Tryz.prog g true (aV v::cap.map fun c=>.one (.c c)) (.v (lb (p v))) none d) (d:Nat):
  Con Tryz.prog 175 true [lV l,.one (.c (.fn g cap))] (.v (lb (l.any p))) none d:=by
 obtain⟨r,hr,hi⟩:=idxV_con l g cap p hl hp 0;have hd:decide (0≤r)=l.any p:=by rw[Bool.eq_iff_iff,decide_eq_true_eq];exact hi
 clear hi hp;refine X5 Tryz.func175 ?_;simp only[Tryz.f175];refine X3 ?_;refine Xj [⟨true,.v (li r),none⟩] ?_ ?_
 · first|exact hr _|exact trivial|simpa[*]using hr _
 exact Xc
theorem X7y (w v:Vr) (d:Nat):Con Tryz.prog 173 true [aV w,.one (.c (.ptr v.enc))] (.v (lb (decide (w.name=v.name)))) none d:=by
 refine X5 Tryz.func173 ?_;simp only[Tryz.f173];refine X3 ?_;refine X3 ?_;exact Xc
end Go.Proofs.YtppjennamodfdaaGreat

namespace Go.Proofs.YtppjennamodfdaaGreat
open Go Go.Hl
def WE (v:Vr):Prop:=QM v.low v.high=false∨(v.kind≠0∧v.init≠0)∨(v.kind=0∧(v.init<v.low∨v.high<v.init))
instance (v:Vr):Decidable (WE v):=by unfold WE;exact inferInstance
def Ze (seen:List Vr) (v:Vr):Int:=
 if ZN v.name=false then 7 else if(seen.any fun w=>decide (w.name=v.name))=true then 8 else if v.kind<0∨3<v.kind then 1 else if WE v then 3 else 0
def vcs:List Vr→List Vr→Int
 |_,[]=>0
 |seen,v::l=>if Ze seen v=0 then vcs (seen++[v]) l else Ze seen v
def X2X (vars:List Vr) (kind:Int):Bool:=decide (4096<spc vars kind)||(decide (kind=3)&&decide (256<spc vars kind))
def Zy (vars:List Vr):Int:=if vcs [] vars=0 then(if([1,2,3].any (X2X vars))=true then 4 else 0)else vcs [] vars
theorem X31:∀(l seen:List Vr),vcs seen l=0→X0g l
 |[],_,_,v,hv=>by cases hv
 | w :: l,seen,h,v,hv=>by
   simp only[vcs]at h;split at h
   · rename_i h0;rcases List.mem_cons.1 hv with rfl|hv
     · unfold Ze at h0;split at h0
       · cases h0
       split at h0
       · cases h0
       split at h0
       · cases h0
       split at h0
       · cases h0
       rename_i hk;unfold WE at hk
       have hb:QM v.low v.high=true:=by
        cases hb:QM v.low v.high with
        |true=>rfl
        |false=>exact absurd (.inl hb) hk
       simp only[QM,Bool.and_eq_true,decide_eq_true_eq]at hb;omega
     exact X31 l _ h v hv
   rename_i h0;exact absurd h h0
def X6I (vars:List Vr):List Int→Int
 |[]=>0
 |k::l=>if X2X vars k=true then 4 else X6I vars l
theorem X7H (vars:List Vr):∀l:List Int,X6I vars l=if l.any (X2X vars)=true then 4 else 0
 |[]=>by simp[X6I]
 | k::l=>by
   simp only[X6I,List.any_cons,X7H vars l];by_cases hb:X2X vars k=true
   · simp[hb]
   simp only[Bool.not_eq_true]at hb;simp[hb]
theorem Xd1 (vars:List Vr) (hl:vars.length≤1000000) (d:Nat):Con Tryz.prog 164 true [lV vars] (.v (li (Zy vars))) none d:=by
 obtain⟨res,hres⟩:∃r,Zy vars=r:=⟨_,rfl⟩;rw[hres];obtain⟨cd,hcd⟩:∃r,vcs [] vars=r:=⟨_,rfl⟩;have hgood:cd=0→X08 vars:=fun h=>X31 vars [] (hcd.trans h);unfold Zy at hres;rw[hcd]at hres;refine X5 Tryz.func164 ?_;simp only[Tryz.f164];refine X3 ?_;refine X1<|X1<|X2 ?_;refine X4<|(Xf [0,10,11] (fun(x:Nat)=>[(12,.v (li x))]) (fun x=>[]) (fun x=>x≤vars.length∧vcs (vars.take x) (vars.drop x)=cd) (fun x=>vars.length - x) (0:Nat) ⟨Nat.zero_le _,hcd⟩ ?_ ?_)
 · exact X6 (fun n=>n) []
 rintro k ⟨hk,hJ⟩;simp only[upS,X8,Xw]
 try simp only[X8,KN,Nat.reduceBEq,if_true,if_false,ins,Nat.reduceLT]
 clear hcd;refine X3 ?_;refine X1<|(X7 rfl (fun h4=>Xb ?_) (fun h4=>?_))
 · (try simp only[BN]at h4);have hlt:k<vars.length:=by omega
   obtain⟨v,he,hd⟩:=Xs hlt;have hw1:=XA hlt (by omega);have hk1:k+1≤vars.length:=hlt;have hkl:(vars.take k).length≤1000000000:=by rw[List.length_take];omega
   rw[hd]at hJ;simp only[vcs]at hJ;rw[←Zq he]at hJ;clear hlt h4 hgood;refine X1<|X4<|X1<|X2 ?_;refine X3 ?_;refine X4<|X1<|(Xm [⟨true,.v (lb (ZN v.name)),none⟩] ?_ ?_)
   · first|exact X2b _ _|exact trivial|simpa[*]using X2b _ _
   refine(X7 rfl (fun h8=>?_) (fun h8=>?_))
   · (try simp only[BN]at h8);have hc:Ze (vars.take k) v=7:=by unfold Ze;rw[if_pos h8]
     rw[hc,if_neg (by decide)]at hJ;subst hJ;rw[if_neg (by decide)]at hres;subst hres;refine X3 ?_;exact Xc
   (try simp only[BN]at h8);refine Xj [⟨true,.v (lb ((vars.take k).any fun w=>decide (w.name=v.name))),none⟩] ?_ ?_
   · first|exact X9S (vars.take k) 173 [.ptr v.enc] (fun w=>decide (w.name=v.name)) hkl (fun w _ d=>X7y w v d) _|exact trivial|simpa[*]using X9S (vars.take k) 173 [.ptr v.enc] (fun w=>decide (w.name=v.name)) hkl (fun w _ d=>X7y w v d) _
   refine(X7 rfl (fun h12=>?_) (fun h12=>?_))
   · (try simp only[BN]at h12);have hc:Ze (vars.take k) v=8:=by unfold Ze;rw[if_neg (by simp[h8]),if_pos h12]
     rw[hc,if_neg (by decide)]at hJ;subst hJ;rw[if_neg (by decide)]at hres;subst hres;refine X3 ?_;exact Xc
   (try simp only[BN]at h12);refine X3 ?_;refine(X7 rfl (fun h16=>?_) (fun h16=>?_))
   · (try simp only[BN]at h16);have hc:Ze (vars.take k) v=1:=by unfold Ze;rw[if_neg (by simp[h8]),if_neg (by simp[h12]),if_pos h16]
     rw[hc,if_neg (by decide)]at hJ;subst hJ;rw[if_neg (by decide)]at hres;subst hres;refine X3 ?_;exact Xc
   (try simp only[BN]at h16);have hc:Ze (vars.take k) v=if WE v then 3 else 0:=by unfold Ze;rw[if_neg (by simp[h8]),if_neg (by simp[h12]),if_neg (by omega)]
   refine(XV [0,10,11,12] (fun(z:Bool)=>[(38,.v (lb z))]) (fun(z:Bool)=>[]) (fun(z:Bool)=>z=decide (WE v)) ?_ ?_)
   ·
    refine Xj [⟨true,.v (lb (QM v.low v.high)),none⟩] ?_ ?_
    · first|exact ZU _ _ _|exact trivial|simpa[*]using ZU _ _ _
    refine(X7 rfl (fun h21=>Xb ?_) (fun h21=>?_))
    · (try simp only[BN]at h21);exact⟨true,(decide_eq_true (.inl (by simpa using h21))).symm,X6 (fun n=>n) []⟩
    (try simp only[BN]at h21);refine X3 ?_;refine(X7 rfl (fun h24=>Xb ?_) (fun h24=>?_))
    · (try simp only[BN]at h24);exact⟨true,(decide_eq_true (.inr (.inl (by simpa using h24)))).symm,X6 (fun n=>n) []⟩
    try simp only[BN]at h24
    have hz:decide (WE v)=(decide (v.kind=0)&&(decide (v.init<v.low)||decide (v.high<v.init))):=by
     rw[Bool.eq_iff_iff,decide_eq_true_eq];unfold WE;simp only[decide_eq_true_eq,Bool.and_eq_true,Bool.or_eq_true];have h21':QM v.low v.high=true:=by simpa using h21
     rw[h21'];constructor
     · rintro(h|h|h)
       · cases h
       · exfalso;omega
       exact h
     exact fun h=>.inr (.inr h)
    clear h21 h24;refine X2 ?_;exact⟨(decide (v.kind=0)&&(decide (v.init<v.low)||decide (v.high<v.init))),hz.symm,X6 (fun n=>n) []⟩
   rintro _ rfl;simp only[upS,X8,Xw]
   try simp only[X8,KN,Nat.reduceBEq,if_true,if_false,ins,Nat.reduceLT]
   refine(Xa rfl (fun h28=>?_) fun h28=>?_)
   · (try simp only[BN]at h28);rw[if_pos h28]at hc;rw[hc,if_neg (by decide)]at hJ;subst hJ;rw[if_neg (by decide)]at hres;subst hres;refine X3 ?_;exact Xc
   (try simp only[BN]at h28);rw[if_neg h28]at hc;rw[hc,if_pos rfl]at hJ;refine X2 ?_;exact⟨k+1,⟨hk1,hJ⟩,by omega,X6 (fun n=>n) []⟩
 (try simp only[BN]at h4);have hkl:k=vars.length:=by omega
 rw[hkl,List.drop_length]at hJ;simp only[vcs]at hJ;have hv:=hgood hJ.symm;rw[if_pos hJ.symm,←X7H]at hres;clear hgood hJ hkl hk h4;obtain⟨L,hL⟩:∃L:List Int,L=[1,2,3]:=⟨_,rfl⟩;have hL3:L.length=3:=by rw[hL];rfl
 have hLi:∀k∈L,1≤k∧k≤3:=by rw[hL];decide
 rw[←hL]at hres;refine(Xi ?_);refine X1<|X1<|X2 ?_;refine X4<|(Xf [0,71,72] (fun(x:Nat)=>[(73,.v (li x))]) (fun x=>[(71,.row 62 1 (Xe L))]) (fun x=>x≤3∧X6I vars (L.drop x)=res) (fun x=>3 - x) (0:Nat) ⟨Nat.zero_le _,hres⟩ ?_ ?_)
 · exact Xx (fun n=>n) [] rfl (by simp[*,upS,X8]) (by simp[upS,Xe,hL]) (by simp[upS])
 rintro k2 ⟨hk2,hJ2⟩;simp only[upS,X8,Xw]
 try simp only[X8,KN,Nat.reduceBEq,if_true,if_false,ins,Nat.reduceLT]
 clear hres hL;refine X3 ?_;refine X1<|(X7 rfl (fun h36=>Xb ?_) (fun h36=>?_))
 · (try simp only[BN]at h36);have hlt:k2<L.length:=by omega
   obtain⟨kd,he,hd⟩:=Xs hlt;have hw1:=XA hlt (by omega);have hk1:k2+1≤3:=by omega
   have hkd:=hLi kd (List.mem_of_getElem? he);have hsp:=prV_in hv (vars.filter fun v=>decide (v.kind=kd)) 1 (fun v h=>(List.mem_filter.1 h).1) (by decide);have hsp':1≤spc vars kd∧spc vars kd≤4097:=hsp;have c:=XaS vars kd hkd hv hl;rw[hd]at hJ2;simp only[X6I]at hJ2;obtain⟨sv,hsv⟩:∃s,spc vars kd=s:=⟨_,rfl⟩;have hbk:X2X vars kd=(decide (4096<sv)||(decide (kd=3)&&decide (256<sv))):=by unfold X2X;rw[hsv]
   rw[hsv]at c hsp';clear hlt h36 hsp hsv hLi hv;refine X1<|X4<|X1<|X2 ?_;refine Xj [⟨true,.tup [li (if sv≤4096 then sv else 0),li (if sv≤4096 then 0 else 4)],none⟩] ?_ ?_
   · first|exact c _|exact trivial|simpa[*]using c _
   refine X3 ?_;refine(Xa rfl (fun h40=>?_) fun h40=>?_)
   · try simp only[BN]at h40
     have hb:X2X vars kd=true:=by
      rw[hbk];by_cases h:sv≤4096
      · simp[h]at h40;simp[h40]
      simp;omega
     rw[if_pos hb]at hJ2;subst hJ2;refine X3 ?_;exact Xc
   try simp only[BN]at h40
   have hb:X2X vars kd=false:=by
    rw[hbk];by_cases h:sv≤4096
    · simp[h]at h40;simp;omega
    simp[h]at h40
   rw[hb,if_neg (by decide)]at hJ2;refine X2 ?_;exact⟨k2+1,⟨hk1,hJ2⟩,by omega,X6 (fun n=>n) []⟩
 (try simp only[BN]at h36);have hkl:k2=L.length:=by omega
 rw[hkl,List.drop_length]at hJ2;simp only[X6I]at hJ2;subst hJ2;refine(Xi ?_);refine X3 ?_;exact Xc
end Go.Proofs.YtppjennamodfdaaGreat

namespace Go.Proofs.YtppjennamodfdaaGreat
open Go Go.Hl
theorem St.lists {P:List St→Prop} (h:∀l,(∀s∈l,P s.then_∧P s.else_)→P l):∀l,P l:=by
 have key:∀s:St,P s.then_∧P s.else_:=by
  intro s
  induction s using St.ind with
  |h d c v n t a b bs iha ihb=>exact⟨h a iha,h b ihb⟩
 exact fun l=>h l fun s _=>key s
theorem Qj {l:List St} {s:St} (hs:s∈l):1+s.term.nodes+Xk s.then_+Xk s.else_≤Xk l:=by
 induction l with
 |nil=>cases hs
 | cons x l ih=>
   simp only[Xk];rcases List.mem_cons.1 hs with rfl|h
   · obtain⟨d,c,v,n,t,a,b,bs⟩:=s;simp only[St.nodes,St.term,St.then_,St.else_];omega
   have:=ih h;omega
def WX (n lo hi:Int):Int:=if n<lo then lo else if hi<n then hi else n
theorem X5I (n lo hi:Int) (d:Nat):Con Tryz.prog 138 true [li n,li lo,li hi] (.v (li (WX n lo hi))) none d:=by
 refine X5 Tryz.func138 ?_;simp only[Tryz.f138];refine X3 ?_;refine X1<|X1<|X2 ?_;refine(Xa rfl (fun h2=>?_) fun h2=>?_)
 · (try simp only[BN]at h2);refine X3 ?_;exact(Xl (fun h=>⟨.inr rfl,h⟩) _ (by simp[*];rfl) (by first|rfl|(simp[*,WX];done)|(simp only[XD,WX];(repeat' split)<;>first|rfl|(exfalso;omega)|simp_all)) (by simp))
 (try simp only[BN]at h2);refine X1<|X1<|X2 ?_;refine(Xa rfl (fun h6=>?_) fun h6=>?_)
 · (try simp only[BN]at h6);refine X3 ?_;exact(Xl (fun h=>⟨.inr rfl,h⟩) _ (by simp[*];rfl) (by first|rfl|(simp[*,WX];done)|(simp only[XD,WX];(repeat' split)<;>first|rfl|(exfalso;omega)|simp_all)) (by simp))
 (try simp only[BN]at h6);refine X3 ?_;exact(Xl (fun h=>⟨.inr rfl,h⟩) _ (by simp[*];rfl) (by first|rfl|(simp[*,WX];done)|(simp only[XD,WX];(repeat' split)<;>first|rfl|(exfalso;omega)|simp_all)) (by simp))
theorem held_in {n lo hi:Int} (h:lo≤hi):lo≤WX n lo hi∧WX n lo hi≤hi:=by
 unfold WX
 (repeat' split)<;>omega
end Go.Proofs.YtppjennamodfdaaGreat
