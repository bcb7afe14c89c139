/- Part 2: contracts of functions of the program and of the reference, and plain facts about what they compute; used by the proof of the claimed statement. Conditions: as each theorem states. -/
import Derived.Test.YtdajceakaakdoaaGreatI1
set_option linter.unusedSimpArgs false
set_option linter.unusedVariables false
set_option linter.unnecessarySimpa false
set_option maxRecDepth 100000
set_option maxHeartbeats 2000000
namespace Go.Proofs.YtdajceakaakdoaaGreat
open Go Go.Hl
theorem takeM {α β:Type} (f:α→β) (l:List α):(l.map f).take l.length=l.map f:=by
 rw[List.take_of_length_le (by simp)]
def X1m (b:Int×Int):Int:=if b.1<0 then mn (b.1+1) 0 else 0
def X4H (b:Int×Int):Int:=if 0<b.2 then mx (b.2 - 1) 0 else 0
@[simp] def g2 (k:List (Int×Int)) (i:Nat):Int×Int:=k[i]?.getD ((0:Int),(0:Int))
def QB (vars:List Vr) (o n:Int) (k:List (Int×Int)):Int×Int:=
 if o=0 then(n,n)else if o=24 then(match vars[n.toNat]? with|some v=>(v.low,v.high)|none=>(0,0))
 else if o=6 then(-(g2 k 0).2,-(g2 k 0).1)
 else if o=8 then((g2 k 0).1+(g2 k 1).1,(g2 k 0).2+(g2 k 1).2)
 else if o=9 then((g2 k 0).1 - (g2 k 1).2,(g2 k 0).2 - (g2 k 1).1)
 else if o=10 then mulP (g2 k 0) (g2 k 1)
 else if o=11 then(if 0≤(g2 k 0).1∧0≤(g2 k 1).1 then(0,mx (g2 k 0).2 (-(g2 k 0).1))else(-(mx (g2 k 0).2 (-(g2 k 0).1)),mx (g2 k 0).2 (-(g2 k 0).1)))
 else if o=12 then(X1m (g2 k 1),X4H (g2 k 1))
 else if o=21 then(mn (g2 k 0).1 (g2 k 1).1,mn (g2 k 0).2 (g2 k 1).2)
 else if o=22 then(mx (g2 k 0).1 (g2 k 1).1,mx (g2 k 0).2 (g2 k 1).2)
 else if o=23∨o=25 then X2o (k.drop 2) (g2 k 1)else(0,1)
theorem kid {k:List (Int×Int)} (hk:∀p∈k,bnd p) {i:Nat} (h:i+1≤k.length):∃a1 a2,k[i]? =some (a1,a2)∧-1048576≤a1∧a1≤a2∧a2≤1048576:=by
 have:k[i]? =some k[i]:=by simp[show i<k.length from h]
 have h2:=hk k[i] (List.getElem_mem _);exact⟨k[i].1,k[i].2,this,h2⟩
theorem X3b {vars:List Vr} {inp:Bool} {o n:Int} {len:Nat} (h:Q6 vars inp o n len=true):0≤(Qg o).1∧(Qg o).1≤len∧(len:Int)≤(Qg o).2:=by
 unfold Q6 at h;simp only[Bool.and_eq_true,Bool.not_eq_true',decide_eq_false_iff_not]at h;omega
theorem X5c {vars:List Vr} {inp:Bool} {n:Int} {len:Nat} (h:Q6 vars inp 24 n len=true):0≤n∧∃v,vars[n.toNat]? =some v∧(inp=true→v.kind≠0):=by
 unfold Q6 ZT at h;simp only[Bool.and_eq_true,Int.reduceEq,if_false,if_true,decide_eq_true_eq]at h;obtain⟨_,h0,h⟩:=h;refine⟨h0,?_⟩;split at h
 · rename_i v hv;refine⟨v,hv,fun hi hk=>?_⟩;simp[hi,hk]at h
 cases h
theorem kids1 {o:Int} (h:o=6∨o=7):Qg o=(1,1):=by
 unfold Qg;rw[if_neg (by omega),if_pos h]
theorem kids2 {o:Int} (h:8≤o∧o≤22):Qg o=(2,2):=by
 unfold Qg;rw[if_neg (by omega),if_neg (by omega),if_pos h]
theorem kids3:Qg 23=(3,3):=by decide
theorem kids4:Qg 25=(2,33):=by decide
theorem X8t (vars:List Vr) (inp:Bool) (o n:Int) (K:CD) (k:List (Int×Int)) (hf:Q6 vars inp o n k.length=true) (hk:∀p∈k,bnd p) (d:Nat):
  Con Tryz.prog 249 true [lV vars,.agg [.c (iC o),.c (iC n),.c K],.one (.c (.sl 2 (X1k k)))] (.v (aP (QB vars o n k))) none d:=by
 have har:=X3b hf;have hrf:o=24→0≤n∧∃v,vars[n.toNat]? =some v∧(inp=true→v.kind≠0):=fun h=>X5c (by rw[←h];exact hf);clear hf;have ar1:o=6→0+1≤k.length:=fun h=>by have:=kids1 (.inl h);rw[this]at har;simp only at har;omega
 have ar2:8≤o∧o≤22→0+1≤k.length∧1+1≤k.length:=fun h=>by have:=kids2 h;rw[this]at har;simp only at har;omega
 have ar3:o=23∨o=25→2≤k.length∧k.length≤33:=fun h=>by
  rcases h with h|h
  · have:=kids3;rw[h,this]at har;simp only at har;omega
  have:=kids4;rw[h,this]at har;simp only at har;omega
 clear har;refine X5 Tryz.func249 ?_;simp only[Tryz.f249];refine X1 ?_;refine X0<|X0<|X2 ?_;refine X3<|X0<|X2 ?_;refine(X7 rfl (fun h3=>?_) (fun h3=>?_))
 · (try simp only[BN]at h3);refine X1 ?_;exact(Xh (fun h=>⟨.inr rfl,h⟩) _ (by simp[*];rfl) (by first|rfl|(simp[*,QB];done)|(simp only[XK,QB];(repeat' split)<;>first|rfl|(exfalso;omega)|simp_all)) (by simp))
 (try simp only[BN]at h3);refine X1 ?_;refine(X7 rfl (fun h7=>?_) (fun h7=>?_))
 · (try simp only[BN]at h7);obtain⟨hn0,v,hv,_⟩:=hrf h7;clear hrf;refine X0<|(Qe (by kernel_rfl) (by kernel_rfl) (by rfl) (by simp[*];rfl) ?_);exact(Xh (fun h=>⟨.inr rfl,h⟩) _ (by simp[*];rfl) (by first|rfl|(simp[*,QB];done)|(simp only[XK,QB];(repeat' split)<;>first|rfl|(exfalso;omega)|simp_all)) (by simp))
 (try simp only[BN]at h7);refine X1 ?_;refine(X7 rfl (fun h11=>?_) (fun h11=>?_))
 · (try simp only[BN]at h11);obtain⟨a1,a2,ha,hb1,hb2,hb3⟩:=kid hk (ar1 h11);have hw1:IntKind.i64.wrap (-a1)=-a1:=Xa (by omega) (by omega);have hw2:IntKind.i64.wrap (-a2)=-a2:=Xa (by omega) (by omega);clear ar1 ar2 ar3;refine X0<|(Qe (by kernel_rfl) (by kernel_rfl) (by rfl) (by simp[*];rfl) ?_);exact(Xh (fun h=>⟨.inr rfl,h⟩) _ (by simp[*];rfl) (by first|rfl|(simp[*,QB];done)|(simp only[XK,QB];(repeat' split)<;>first|rfl|(exfalso;omega)|simp_all)) (by simp))
 (try simp only[BN]at h11);refine X1 ?_;refine(X7 rfl (fun h15=>?_) (fun h15=>?_))
 · (try simp only[BN]at h15);obtain⟨a1,a2,ha,hb1,hb2,hb3⟩:=kid hk (ar2 (by omega)).1;obtain⟨c1,c2,hc,hc1,hc2,hc3⟩:=kid hk (ar2 (by omega)).2;have hw1:IntKind.i64.wrap (a1+c1)=a1+c1:=Xa (by omega) (by omega);have hw2:IntKind.i64.wrap (a2+c2)=a2+c2:=Xa (by omega) (by omega);clear ar1 ar2 ar3;refine X0<|(Qe (by kernel_rfl) (by kernel_rfl) (by rfl) (by simp[*];rfl) ?_);exact(Xh (fun h=>⟨.inr rfl,h⟩) _ (by simp[*];rfl) (by first|rfl|(simp[*,QB];done)|(simp only[XK,QB];(repeat' split)<;>first|rfl|(exfalso;omega)|simp_all)) (by simp))
 (try simp only[BN]at h15);refine X1 ?_;refine(X7 rfl (fun h19=>?_) (fun h19=>?_))
 · (try simp only[BN]at h19);obtain⟨a1,a2,ha,hb1,hb2,hb3⟩:=kid hk (ar2 (by omega)).1;obtain⟨c1,c2,hc,hc1,hc2,hc3⟩:=kid hk (ar2 (by omega)).2;have hw1:IntKind.i64.wrap (a1 - c2)=a1 - c2:=Xa (by omega) (by omega);have hw2:IntKind.i64.wrap (a2 - c1)=a2 - c1:=Xa (by omega) (by omega);clear ar1 ar2 ar3;refine X0<|(Qe (by kernel_rfl) (by kernel_rfl) (by rfl) (by simp[*];rfl) ?_);exact(Xh (fun h=>⟨.inr rfl,h⟩) _ (by simp[*];rfl) (by first|rfl|(simp[*,QB];done)|(simp only[XK,QB];(repeat' split)<;>first|rfl|(exfalso;omega)|simp_all)) (by simp))
 (try simp only[BN]at h19);refine X1 ?_;refine(X7 rfl (fun h23=>?_) (fun h23=>?_))
 · (try simp only[BN]at h23);obtain⟨a1,a2,ha,hb1,hb2,hb3⟩:=kid hk (ar2 (by omega)).1;obtain⟨c1,c2,hc,hc1,hc2,hc3⟩:=kid hk (ar2 (by omega)).2;clear ar1 ar2 ar3;refine X0<|(QH [⟨true,.v (aP (mulP (a1,a2) (c1,c2))),none⟩] (by kernel_rfl) (by kernel_rfl) (by rfl) (by simp[*];first|exact⟨rfl,Iff.rfl⟩|exact⟨rfl,trivial⟩|rfl) ?_ ?_)
   · first|exact X4w (a1,a2) (c1,c2) ⟨hb1,hb2,hb3⟩ ⟨hc1,hc2,hc3⟩ _|exact trivial|simpa[*]using X4w (a1,a2) (c1,c2) ⟨hb1,hb2,hb3⟩ ⟨hc1,hc2,hc3⟩ _
   exact(Xh (fun h=>⟨.inr rfl,h⟩) _ (by simp[*];rfl) (by first|rfl|(simp[*,QB];done)|(simp only[XK,QB];(repeat' split)<;>first|rfl|(exfalso;omega)|simp_all)) (by simp))
 (try simp only[BN]at h23);refine X1 ?_;refine(X7 rfl (fun h27=>?_) (fun h27=>?_))
 · (try simp only[BN]at h27);obtain⟨a1,a2,ha,hb1,hb2,hb3⟩:=kid hk (ar2 (by omega)).1;obtain⟨c1,c2,hc,hc1,hc2,hc3⟩:=kid hk (ar2 (by omega)).2;have hw1:IntKind.i64.wrap (-a1)=-a1:=Xa (by omega) (by omega);have hm:-1048576≤mx a2 (-a1)∧mx a2 (-a1)≤1048576:=by unfold mx;split<;>omega
   have hw2:IntKind.i64.wrap (-(mx a2 (-a1)))=-(mx a2 (-a1)):=Xa (by omega) (by omega);have hmx:(if a2< -a1 then -a1 else a2)=mx a2 (-a1):=rfl;clear ar1 ar2 ar3;refine X0<|(Qe (by kernel_rfl) (by kernel_rfl) (by rfl) (by simp[*];rfl) ?_);refine X0<|X0<|X2 ?_;refine(Xc rfl (fun h30=>?_) fun h30=>?_)
   · (try simp only[BN]at h30);refine X1 ?_;exact(Xh (fun h=>⟨.inr rfl,h⟩) _ (by simp[*];rfl) (by first|rfl|(simp[*,QB];done)|(simp only[XK,QB];(repeat' split)<;>first|rfl|(exfalso;omega)|simp_all)) (by simp))
   (try simp only[BN]at h30);have hng:¬(0≤a1∧0≤c1):=by omega
   refine X1 ?_;exact(Xh (fun h=>⟨.inr rfl,h⟩) _ (by simp[*];rfl) (by first|rfl|(simp[*,QB];done)|(simp only[XK,QB];(repeat' split)<;>first|rfl|(exfalso;omega)|simp_all)) (by simp))
 (try simp only[BN]at h27);refine X1 ?_;refine(X7 rfl (fun h36=>?_) (fun h36=>?_))
 · (try simp only[BN]at h36);obtain⟨c1,c2,hc,hc1,hc2,hc3⟩:=kid hk (ar2 (by omega)).2;have hw1:IntKind.i64.wrap (c1+1)=c1+1:=Xa (by omega) (by omega);have hw2:IntKind.i64.wrap (c2 - 1)=c2 - 1:=Xa (by omega) (by omega);have hmn:(if 0<c1+1 then 0 else c1+1)=mn (c1+1) 0:=rfl;have hmx:(if c2 - 1<0 then 0 else c2 - 1)=mx (c2 - 1) 0:=rfl;clear ar1 ar2 ar3;refine X1 ?_;refine(XV [2,6,8] (fun(z:Int)=>[]) (fun(z:Int)=>[(6,.box [.c (iC 0),.c (iC 0)]),(8,.box [.c (iC z),.c (iC 0)])]) (fun(z:Int)=>z=X1m (c1,c2)) ?_ ?_)
   ·
    refine X1 ?_;refine(Xc rfl (fun h40=>?_) fun h40=>?_)
    · (try simp only[BN]at h40);have hml:mn (c1+1) 0=X1m (c1,c2):=by simp only[X1m];rw[if_pos h40]
      refine X2 ?_;exact⟨X1m (c1,c2),rfl,X4 (fun n=>n) []⟩
    (try simp only[BN]at h40);have hml:(0:Int)=X1m (c1,c2):=by simp only[X1m];rw[if_neg h40]
    exact⟨X1m (c1,c2),rfl,X4 (fun n=>n) []⟩
   rintro _ rfl;simp only[upS,X6,XB]
   try simp only[X6,KN,Nat.reduceBEq,if_true,if_false,ins,Nat.reduceLT]
   refine X0<|X0<|X2 ?_;refine(Xc rfl (fun h45=>?_) fun h45=>?_)
   · (try simp only[BN]at h45);have hmh:mx (c2 - 1) 0=X4H (c1,c2):=by simp only[X4H];rw[if_pos h45]
     refine X2 ?_;refine X1 ?_;exact(Xh (fun h=>⟨.inr rfl,h⟩) _ (by simp[*];rfl) (by first|rfl|(simp[*,QB];done)|(simp only[XK,QB];(repeat' split)<;>first|rfl|(exfalso;omega)|simp_all)) (by simp))
   (try simp only[BN]at h45);have hmh:X4H (c1,c2)=0:=by simp only[X4H];rw[if_neg h45]
   refine X1 ?_;exact(Xh (fun h=>⟨.inr rfl,h⟩) _ (by simp[*];rfl) (by first|rfl|(simp[*,QB];done)|(simp only[XK,QB];(repeat' split)<;>first|rfl|(exfalso;omega)|simp_all)) (by simp))
 (try simp only[BN]at h36);refine X1 ?_;refine(X7 rfl (fun h52=>?_) (fun h52=>?_))
 · (try simp only[BN]at h52);obtain⟨a1,a2,ha,hb1,hb2,hb3⟩:=kid hk (ar2 (by omega)).1;obtain⟨c1,c2,hc,hc1,hc2,hc3⟩:=kid hk (ar2 (by omega)).2;clear ar1 ar2 ar3;refine X0<|(Qe (by kernel_rfl) (by kernel_rfl) (by rfl) (by simp[*];rfl) ?_);exact(Xh (fun h=>⟨.inr rfl,h⟩) _ (by simp[*];rfl) (by simp[*,QB,XK,mn]) (by simp))
 (try simp only[BN]at h52);refine X1 ?_;refine(X7 rfl (fun h56=>?_) (fun h56=>?_))
 · (try simp only[BN]at h56);obtain⟨a1,a2,ha,hb1,hb2,hb3⟩:=kid hk (ar2 (by omega)).1;obtain⟨c1,c2,hc,hc1,hc2,hc3⟩:=kid hk (ar2 (by omega)).2;clear ar1 ar2 ar3;refine X0<|(Qe (by kernel_rfl) (by kernel_rfl) (by rfl) (by simp[*];rfl) ?_);exact(Xh (fun h=>⟨.inr rfl,h⟩) _ (by simp[*];rfl) (by simp[*,QB,XK,mx]) (by simp))
 (try simp only[BN]at h56);refine(XV [2,6] (fun(z:Bool)=>[(200,.v (lb z))]) (fun(z:Bool)=>[(6,.box [.c (iC 0),.c (iC 0)])]) (fun(z:Bool)=>z=decide (o=23∨o=25)) ?_ ?_)
 ·
  refine X1 ?_;refine(X7 rfl (fun h61=>Xb ?_) (fun h61=>?_))
  · (try simp only[BN]at h61);exact⟨true,by simp[h61],X4 (fun n=>n) []⟩
  (try simp only[BN]at h61);refine X2 ?_;exact⟨decide (o=25),by simp[h61],X4 (fun n=>n) []⟩
 rintro z hz;simp only[upS,X6,XB]
 try simp only[X6,KN,Nat.reduceBEq,if_true,if_false,ins,Nat.reduceLT]
 subst hz;obtain⟨res,hres⟩:∃r,QB vars o n k=r:=⟨_,rfl⟩;rw[hres];simp only[QB,h3,h7,h11,h15,h19,h23,h27,h36,h52,h56,if_false]at hres;refine(Xc rfl (fun h65=>?_) fun h65=>?_)
 · (try simp only[BN]at h65);have h2:=ar3 h65;rw[if_pos h65]at hres;clear ar1 ar2 ar3 h65;rcases k with _|⟨a,_|⟨c,r⟩⟩
   · simp at h2
   · simp at h2
   have hr33:r.length≤31:=by simp only[List.length_cons]at h2;omega
   clear h2;simp at hres;refine X0<|(Xq (by simp[*,X1k];rfl) ?_);refine X0<|X0<|(Xq (by simp[*,X1k,takeM];rfl) ?_);refine X3<|(Xf [6,9,207,208] (fun(x:Nat×Int×Int)=>[(209,.v (li x.1))]) (fun x=>[(6,.box [.c (iC 0),.c (iC 0)]),(9,.box [.c (iC x.2.1),.c (iC x.2.2)])]) (fun x=>x.1≤r.length∧X2o (r.drop x.1) x.2=res) (fun x=>r.length - x.1) (0,c) ⟨Nat.zero_le _,hres⟩ ?_ ?_)
   · exact X4 (fun n=>n) []
   rintro⟨k,m,q⟩ ⟨hk',hJ⟩;simp only[upS,X6,XB]
   try simp only[X6,KN,Nat.reduceBEq,if_true,if_false,ins,Nat.reduceLT]
   simp only at hk' hJ;clear hres;refine X1 ?_;refine X0<|(X7 rfl (fun h70=>Xb ?_) (fun h70=>?_))
   · (try simp only[BN]at h70);have hlt:k<r.length:=by omega
     obtain⟨⟨e1,e2⟩,he,hd⟩:=Xt hlt;have hw1:=XE hlt (by omega);rw[hd]at hJ;simp only[X2o]at hJ;have hk1:k+1≤r.length:=hlt;clear hlt h70;refine X0<|X3<|X0<|X2 ?_;refine(Xp [⟨true,.v (aP (Zk (m,q) (e1,e2))),none⟩] ?_ ?_)
     · first|exact X3B (m,q) (e1,e2) _|exact trivial|simpa[*]using X3B (m,q) (e1,e2) _
     refine X2 ?_;exact⟨(k+1,Zk (m,q) (e1,e2)),⟨hk1,hJ⟩,by simp only;omega,X4 (fun n=>n) []⟩
   (try simp only[BN]at h70);have hkl:k=r.length:=by omega
   rw[hkl,List.drop_length]at hJ;simp only[X2o]at hJ;refine(Xg ?_);refine X1 ?_;exact(Xh (fun h=>⟨.inr rfl,h⟩) _ (by simp[*];rfl) (by subst hJ;rfl) (by simp))
 (try simp only[BN]at h65);rw[if_neg h65]at hres;subst hres;refine X1 ?_;exact(Xh (fun h=>⟨.inr rfl,h⟩) _ (by simp[*];rfl) (by first|rfl|(simp[*,QB];done)|(simp only[XK,QB];(repeat' split)<;>first|rfl|(exfalso;omega)|simp_all)) (by simp))
end Go.Proofs.YtdajceakaakdoaaGreat

namespace Go.Proofs.YtdajceakaakdoaaGreat
open Go Go.Hl
theorem kids_eq (o:Int) (len:Nat):(!decide (Zd o=-1)&&((!decide (0≤Zd o)||decide ((len:Int)=Zd o))&&(!decide (Zd o=-2)||(!decide ((len:Int)<2)&& !decide (33<(len:Int))))))=(!decide ((Qg o).1<0)&&(!decide ((len:Int)<(Qg o).1)&& !decide ((Qg o).2<(len:Int)))):=by
 unfold Zd Qg
 (repeat' split)<;>simp<;>(try omega)
 all_goals(rw[Bool.eq_iff_iff];simp only[Bool.and_eq_true,Bool.or_eq_true,Bool.not_eq_true',decide_eq_true_eq,decide_eq_false_iff_not];omega)
theorem Xbh (vars:List Vr) (inp:Bool) (hv:vars.length≤1000000000) (t:Tm):t.nodes≤1000000000→∀d:Nat,
  Con Tryz.prog 96 true [lV vars,aT t,lb inp] (.v (lb (QU vars inp t))) none d:=by
 induction t using Tm.ind with
 |h o n ks ih=>
 intro hn d;simp only[Tm.nodes]at hn;have hlen:=We ks;obtain⟨res,hres⟩:∃r,QU vars inp (.mk o n ks)=r:=⟨_,rfl⟩;rw[hres];simp only[QU]at hres;have ih':∀t∈ks,∀d,Con Tryz.prog 96 true [lV vars,aT t,lb inp] (.v (lb (QU vars inp t))) none d:=fun t ht d=>ih t ht (by have:=ZN ht;omega) d;clear ih;have hke:=kids_eq o ks.length;refine X5 Tryz.func96 ?_;simp only[Tryz.f96];simp only[aT,Tm.enc];refine X1 ?_;refine Xm [⟨true,.v (li (Zd o)),none⟩] ?_ ?_
 · first|exact X6g o _|exact trivial|simpa[*]using X6g o _
 refine X0<|X0<|X2 ?_;refine(Xc rfl (fun h3=>?_) fun h3=>?_)
 · try simp only[BN]at h3
   have hz:Q6 vars inp o n ks.length=false:=by
    unfold Q6;rw[←hke,Bool.and_eq_false_iff];refine .inl ?_;simp only[Bool.and_eq_false_iff,Bool.or_eq_false_iff,Bool.not_eq_false',decide_eq_true_eq,decide_eq_false_iff_not];omega
   rw[hz,Bool.false_and]at hres;refine X1 ?_;exact(Xh (fun h=>⟨.inr rfl,h⟩) _ (by simp[*];rfl) (by first|rfl|simp[*]) (by simp))
 try simp only[BN]at h3
 have hz:(!decide ((Qg o).1<0)&&(!decide ((ks.length:Int)<(Qg o).1)&& !decide ((Qg o).2<(ks.length:Int))))=true:=by
  rw[←hke];simp only[Bool.and_eq_true,Bool.or_eq_true,Bool.not_eq_true',decide_eq_false_iff_not,decide_eq_true_eq];omega
 clear hke;refine(XV [0,2,4] (fun(z:Unit)=>[]) (fun(z:Unit)=>[(4,.box [.c (iC o),.c (iC n),.c (.sl 3 (XI ks))])]) (fun(z:Unit)=>Q6 vars inp o n ks.length=true) ?_ ?_)
 ·
  refine X1 ?_;refine(X7 rfl (fun h8=>?_) (fun h8=>?_))
  · (try simp only[BN]at h8);by_cases hn0:0≤n
    · by_cases hn3:n<vars.length
      · obtain⟨v,hv1⟩:=X3k ⟨hn0,hn3⟩;have hn1:¬(vars.length:Int)≤n:=by omega
        have hn2:¬n<0:=by omega
        clear hn3;refine X1 ?_;refine(Xc rfl (fun h10=>?_) fun h10=>?_)
        · try simp only[BN]at h10
          have hz3:Q6 vars inp o n ks.length=false:=by
           unfold Q6 ZT;rw[hz,Bool.true_and,if_neg (by omega),if_pos h8,hv1];simp[h10]
          rw[hz3,Bool.false_and]at hres;refine X1 ?_;exact(Xh (fun h=>⟨.inr rfl,h⟩) _ (by simp[*];rfl) (by first|rfl|simp[*]) (by simp))
        try simp only[BN]at h10
        exact⟨(),by
         unfold Q6 ZT;rw[hz,Bool.true_and,if_neg (by omega),if_pos h8,hv1];simp only[Bool.and_eq_true,Bool.not_eq_true',Bool.and_eq_false_iff,decide_eq_true_eq,decide_eq_false_iff_not]
         exact⟨hn0,h10⟩,X4 (fun n=>n) []⟩
      cases inp
      · have hv1:=X0Q hn0 hn3;have hn1:(vars.length:Int)≤n:=by omega
        have hn2:¬n<0:=by omega
        have hz2:∀i,ZT vars i n=false:=by intro i;simp[ZT,hv1]
        clear hn3;refine X1 ?_;refine(Xc rfl (fun h10=>?_) fun h10=>?_)
        · try simp only[BN]at h10
          have hz3:∀i,Q6 vars i o n ks.length=false:=by
           intro i;unfold Q6;rw[hz,Bool.true_and,if_neg (by omega),if_pos h8,hz2]
          rw[hz3,Bool.false_and]at hres;refine X1 ?_;exact(Xh (fun h=>⟨.inr rfl,h⟩) _ (by simp[*];rfl) (by first|rfl|simp[*]) (by simp))
        exact absurd h10 (by simp)
      have hv1:=X0Q hn0 hn3;have hn1:(vars.length:Int)≤n:=by omega
      have hn2:¬n<0:=by omega
      have hz2:∀i,ZT vars i n=false:=by intro i;simp[ZT,hv1]
      clear hn3;refine X1 ?_;refine(Xc rfl (fun h10=>?_) fun h10=>?_)
      · try simp only[BN]at h10
        have hz3:∀i,Q6 vars i o n ks.length=false:=by
         intro i;unfold Q6;rw[hz,Bool.true_and,if_neg (by omega),if_pos h8,hz2]
        rw[hz3,Bool.false_and]at hres;refine X1 ?_;exact(Xh (fun h=>⟨.inr rfl,h⟩) _ (by simp[*];rfl) (by first|rfl|simp[*]) (by simp))
      exact absurd h10 (by simp)
    cases inp
    · have hn2:n<0:=by omega
      have hz2:∀i,ZT vars i n=false:=by intro i;simp[ZT,hn0]
      refine X1 ?_;refine(Xc rfl (fun h10=>?_) fun h10=>?_)
      · try simp only[BN]at h10
        have hz3:∀i,Q6 vars i o n ks.length=false:=by
         intro i;unfold Q6;rw[hz,Bool.true_and,if_neg (by omega),if_pos h8,hz2]
        rw[hz3,Bool.false_and]at hres;refine X1 ?_;exact(Xh (fun h=>⟨.inr rfl,h⟩) _ (by simp[*];rfl) (by first|rfl|simp[*]) (by simp))
      exact absurd h10 (by simp)
    have hn2:n<0:=by omega
    have hz2:∀i,ZT vars i n=false:=by intro i;simp[ZT,hn0]
    refine X1 ?_;refine(Xc rfl (fun h10=>?_) fun h10=>?_)
    · try simp only[BN]at h10
      have hz3:∀i,Q6 vars i o n ks.length=false:=by
       intro i;unfold Q6;rw[hz,Bool.true_and,if_neg (by omega),if_pos h8,hz2]
      rw[hz3,Bool.false_and]at hres;refine X1 ?_;exact(Xh (fun h=>⟨.inr rfl,h⟩) _ (by simp[*];rfl) (by first|rfl|simp[*]) (by simp))
    exact absurd h10 (by simp)
  (try simp only[BN]at h8);refine X1 ?_;refine(Xc rfl (fun h15=>?_) fun h15=>?_)
  · try simp only[BN]at h15
    have hz3:Q6 vars inp o n ks.length=false:=by
     unfold Q6;rw[hz,Bool.true_and,if_neg (by omega),if_neg h8];simp only[decide_eq_false_iff_not];omega
    rw[hz3,Bool.false_and]at hres;refine X1 ?_;exact(Xh (fun h=>⟨.inr rfl,h⟩) _ (by simp[*];rfl) (by first|rfl|simp[*]) (by simp))
  try simp only[BN]at h15
  exact⟨(),by
   unfold Q6;rw[hz,Bool.true_and];split
   · rfl
   simp only[decide_eq_true_eq]
   omega,X4 (fun n=>n) []⟩
 rintro z hz;simp only[upS,X6,XB]
 try simp only[X6,KN,Nat.reduceBEq,if_true,if_false,ins,Nat.reduceLT]
 rw[hz,Bool.true_and]at hres;refine X0<|X0<|X2 ?_;refine X3<|(Xf [0,2,4] (fun(x:Nat)=>[(8,.v (li x))]) (fun x=>[(4,.box [.c (iC o),.c (iC n),.c (.sl 3 (XI ks))])]) (fun x=>x≤ks.length∧WL vars inp (ks.drop x)=res) (fun x=>ks.length - x) (0:Nat) ⟨Nat.zero_le _,hres⟩ ?_ ?_)
 · exact X4 (fun n=>n) []
 rintro k ⟨hk,hJ⟩;simp only[upS,X6,XB]
 try simp only[X6,KN,Nat.reduceBEq,if_true,if_false,ins,Nat.reduceLT]
 refine X0<|X0<|X2 ?_;refine(X7 rfl (fun h22=>Xb ?_) (fun h22=>?_))
 · (try simp only[BN]at h22);have hlt:k<ks.length:=by omega
   obtain⟨⟨eo,en,ek⟩,he,hd⟩:=Xt hlt;have he':=Wv he;simp only[Tm.enc]at he';have hw1:=XE hlt (by omega);rw[hd]at hJ;simp only[WL]at hJ;have hk1:k+1≤ks.length:=hlt;have hmem:Tm.mk eo en ek∈ks:=List.mem_of_getElem? he;clear hlt h22;refine X0<|X3<|X0<|(Xp [⟨true,.v (lb (QU vars inp (.mk eo en ek))),none⟩] ?_ ?_)
   · first|exact ih' _ hmem _|exact trivial|simpa[*]using ih' _ hmem _
   refine(Xc rfl (fun h24=>?_) fun h24=>?_)
   · (try simp only[BN]at h24);rw[h24,Bool.false_and]at hJ;subst hJ;refine X1 ?_;exact(Xh (fun h=>⟨.inr rfl,h⟩) _ (by simp[*];rfl) (by first|rfl|simp[*]) (by simp))
   (try simp only[BN]at h24);rw[h24,Bool.true_and]at hJ;refine X2 ?_;exact⟨k+1,⟨hk1,hJ⟩,by omega,X4 (fun n=>n) []⟩
 (try simp only[BN]at h22);have hkl:k=ks.length:=by omega
 subst hkl;rw[List.drop_length]at hJ;simp only[WL]at hJ;subst hJ;refine(Xg ?_);refine X1 ?_;exact(Xh (fun h=>⟨.inr rfl,h⟩) _ (by simp[*];rfl) (by first|rfl|simp[*]) (by simp))
end Go.Proofs.YtdajceakaakdoaaGreat

namespace Go.Proofs.YtdajceakaakdoaaGreat
open Go Go.Hl
theorem X81 (b:Int×Int) (hb:-1048576≤b.1∧b.1≤b.2∧b.2≤1048576) (d:Nat):Con Tryz.prog 213 true [li b.1,li b.2] (.tup [li (X1m b),li (X4H b)]) none d:=by
 obtain⟨c1,c2⟩:=b;simp only at hb;have hw1:IntKind.i64.wrap (c1+1)=c1+1:=Xa (by omega) (by omega);have hw2:IntKind.i64.wrap (c2 - 1)=c2 - 1:=Xa (by omega) (by omega);refine X5 Tryz.func213 ?_;simp only[Tryz.f213];refine X1 ?_;refine X1 ?_;refine(XV [1,7] (fun(z:Int)=>[(6,.v (li z))]) (fun(z:Int)=>[]) (fun(z:Int)=>z=X1m (c1,c2)) ?_ ?_)
 ·
  refine X1 ?_;refine(Xc rfl (fun h4=>?_) fun h4=>?_)
  · (try simp only[BN]at h4);have hml:mn 0 (c1+1)=X1m (c1,c2):=by simp only[X1m];rw[if_pos h4];unfold mn;(repeat' split)<;>omega
    refine(Xp [⟨true,.v (li (mn 0 (c1+1))),none⟩] ?_ ?_)
    · first|exact Ql 0 (c1+1) _|exact trivial|simpa[*]using Ql 0 (c1+1) _
    exact⟨X1m (c1,c2),rfl,X4 (fun n=>n) []⟩
  (try simp only[BN]at h4);have hml:(0:Int)=X1m (c1,c2):=by simp only[X1m];rw[if_neg h4]
  exact⟨X1m (c1,c2),rfl,X4 (fun n=>n) []⟩
 rintro _ rfl;simp only[upS,X6,XB]
 try simp only[X6,KN,Nat.reduceBEq,if_true,if_false,ins,Nat.reduceLT]
 refine X0<|X0<|X2 ?_;refine(Xc rfl (fun h9=>?_) fun h9=>?_)
 · (try simp only[BN]at h9);have hmh:mx 0 (c2 - 1)=X4H (c1,c2):=by simp only[X4H];rw[if_pos h9];unfold mx;(repeat' split)<;>omega
   refine(Xp [⟨true,.v (li (mx 0 (c2 - 1))),none⟩] ?_ ?_)
   · first|exact Qu 0 (c2 - 1) _|exact trivial|simpa[*]using Qu 0 (c2 - 1) _
   refine X1 ?_;exact Xe
 (try simp only[BN]at h9);have hmh:X4H (c1,c2)=0:=by simp only[X4H];rw[if_neg h9]
 refine X1 ?_;exact Xe
def X4E (k:List (Int×Int)):List (List CD):=k.map fun p=>[iC p.1]
def X1l (k:List (Int×Int)):List (List CD):=k.map fun p=>[iC p.2]
@[simp] theorem lows_nil:X4E []=[]:=rfl
@[simp] theorem highs_nil:X1l []=[]:=rfl
@[simp] theorem len_lows (k:List (Int×Int)):(X4E k).length=k.length:=by simp[X4E]
@[simp] theorem get_lows (k:List (Int×Int)) (i:Nat):(X4E k)[i]? =k[i]?.map fun p=>[iC p.1]:=by simp[X4E]
@[simp] theorem len_highs (k:List (Int×Int)):(X1l k).length=k.length:=by simp[X1l]
@[simp] theorem get_highs (k:List (Int×Int)) (i:Nat):(X1l k)[i]? =k[i]?.map fun p=>[iC p.2]:=by simp[X1l]
def X3m (vars:List Vr) (o n:Int) (k:List (Int×Int)):Int×Int:=
 if o=0 then(if n< -1048576∨1048576<n then(-1048577,1048577)else(n,n))else QB vars o n k
theorem X8e (vars:List Vr) (inp:Bool) (o n:Int) (K:CD) (k:List (Int×Int)) (hf:Q6 vars inp o n k.length=true) (hk:∀p∈k,bnd p) (d:Nat):
  Con Tryz.prog 162 true [lV vars,.agg [.c (iC o),.c (iC n),.c K],.one (.c (.sl 1 (X4E k))),.one (.c (.sl 1 (X1l k)))] (.tup [li (X3m vars o n k).1,li (X3m vars o n k).2]) none d:=by
 have har:=X3b hf;have hrf:o=24→0≤n∧∃v,vars[n.toNat]? =some v∧(inp=true→v.kind≠0):=fun h=>X5c (by rw[←h];exact hf);clear hf;have ar1:o=6→0+1≤k.length:=fun h=>by have:=kids1 (.inl h);rw[this]at har;simp only at har;omega
 have ar2:8≤o∧o≤22→0+1≤k.length∧1+1≤k.length:=fun h=>by have:=kids2 h;rw[this]at har;simp only at har;omega
 have ar3:o=23∨o=25→2≤k.length∧k.length≤33:=fun h=>by
  rcases h with h|h
  · have:=kids3;rw[h,this]at har;simp only at har;omega
  have:=kids4;rw[h,this]at har;simp only at har;omega
 clear har;obtain⟨res,hres⟩:∃r,X3m vars o n k=r:=⟨_,rfl⟩;rw[hres];simp only[X3m,QB]at hres;refine X5 Tryz.func162 ?_;simp only[Tryz.f162];refine X1 ?_;refine X0<|X0<|X2 ?_;refine X3<|X0<|X2 ?_;refine(X7 rfl (fun h3=>?_) (fun h3=>?_))
 · (try simp only[BN]at h3);rw[if_pos h3]at hres;refine X0<|X0<|X2 ?_;refine(Xc rfl (fun h5=>?_) fun h5=>?_)
   · (try simp only[BN]at h5);rw[if_pos h5]at hres;subst hres;refine X1 ?_;exact Xe
   (try simp only[BN]at h5);rw[if_neg (by omega)]at hres;subst hres;refine X0<|(Qe (by kernel_rfl) (by kernel_rfl) (by rfl) (by simp[*];rfl) ?_);exact Xe
 (try simp only[BN]at h3);rw[if_neg h3,if_neg h3]at hres;refine X1 ?_;refine(X7 rfl (fun h11=>?_) (fun h11=>?_))
 · (try simp only[BN]at h11);obtain⟨hn0,v,hv,_⟩:=hrf h11;rw[if_pos h11,hv]at hres;subst hres;clear hrf;refine X0<|(Qe (by kernel_rfl) (by kernel_rfl) (by rfl) (by simp[*];rfl) ?_);exact Xe
 (try simp only[BN]at h11);rw[if_neg h11]at hres;refine X1 ?_;refine(X7 rfl (fun h15=>?_) (fun h15=>?_))
 · (try simp only[BN]at h15);obtain⟨a1,a2,ha,hb1,hb2,hb3⟩:=kid hk (ar1 h15);have hw1:IntKind.i64.wrap (-a1)=-a1:=Xa (by omega) (by omega);have hw2:IntKind.i64.wrap (-a2)=-a2:=Xa (by omega) (by omega);rw[if_pos h15]at hres;simp only[g2,ha,Option.getD_some]at hres;subst hres;clear ar1 ar2 ar3;refine X0<|(Qe (by kernel_rfl) (by kernel_rfl) (by rfl) (by simp[*];rfl) ?_);exact Xe
 (try simp only[BN]at h15);rw[if_neg h15]at hres;refine X1 ?_;refine(X7 rfl (fun h19=>?_) (fun h19=>?_))
 · (try simp only[BN]at h19);obtain⟨a1,a2,ha,hb1,hb2,hb3⟩:=kid hk (ar2 (by omega)).1;obtain⟨c1,c2,hc,hc1,hc2,hc3⟩:=kid hk (ar2 (by omega)).2;have hw1:IntKind.i64.wrap (a1+c1)=a1+c1:=Xa (by omega) (by omega);have hw2:IntKind.i64.wrap (a2+c2)=a2+c2:=Xa (by omega) (by omega);rw[if_pos h19]at hres;simp only[g2,ha,hc,Option.getD_some]at hres;subst hres;clear ar1 ar2 ar3;refine X0<|(Qe (by kernel_rfl) (by kernel_rfl) (by rfl) (by simp[*];rfl) ?_);exact Xe
 (try simp only[BN]at h19);rw[if_neg h19]at hres;refine X1 ?_;refine(X7 rfl (fun h23=>?_) (fun h23=>?_))
 · (try simp only[BN]at h23);obtain⟨a1,a2,ha,hb1,hb2,hb3⟩:=kid hk (ar2 (by omega)).1;obtain⟨c1,c2,hc,hc1,hc2,hc3⟩:=kid hk (ar2 (by omega)).2;have hw1:IntKind.i64.wrap (a1 - c2)=a1 - c2:=Xa (by omega) (by omega);have hw2:IntKind.i64.wrap (a2 - c1)=a2 - c1:=Xa (by omega) (by omega);rw[if_pos h23]at hres;simp only[g2,ha,hc,Option.getD_some]at hres;subst hres;clear ar1 ar2 ar3;refine X0<|(Qe (by kernel_rfl) (by kernel_rfl) (by rfl) (by simp[*];rfl) ?_);exact Xe
 (try simp only[BN]at h23);rw[if_neg h23]at hres;refine X1 ?_;refine(X7 rfl (fun h27=>?_) (fun h27=>?_))
 · (try simp only[BN]at h27);obtain⟨a1,a2,ha,hb1,hb2,hb3⟩:=kid hk (ar2 (by omega)).1;obtain⟨c1,c2,hc,hc1,hc2,hc3⟩:=kid hk (ar2 (by omega)).2;rw[if_pos h27]at hres;simp only[g2,ha,hc,Option.getD_some]at hres;clear ar1 ar2 ar3;have hm1:=X5y ⟨hb1,by omega⟩ ⟨hc1,by omega⟩ (x:=a1) (y:=c1);have hm2:=X5y ⟨hb1,by omega⟩ ⟨by omega,hc3⟩ (x:=a1) (y:=c2);have hm3:=X5y ⟨by omega,hb3⟩ ⟨hc1,by omega⟩ (x:=a2) (y:=c1);have hm4:=X5y ⟨by omega,hb3⟩ ⟨by omega,hc3⟩ (x:=a2) (y:=c2);have hw1:IntKind.i64.wrap (a1*c1)=a1*c1:=Xa (by omega) (by omega);have hw2:IntKind.i64.wrap (a1*c2)=a1*c2:=Xa (by omega) (by omega);have hw3:IntKind.i64.wrap (a2*c1)=a2*c1:=Xa (by omega) (by omega);have hw4:IntKind.i64.wrap (a2*c2)=a2*c2:=Xa (by omega) (by omega)
   have he1:mn (mn (a1*c1) (a1*c2)) (mn (a2*c1) (a2*c2))=res.1:=by
    rw[←hres];simp only[mulP,Zk,mn];generalize a1*c1=p at*;generalize a1*c2=q at*;generalize a2*c1=r at*;generalize a2*c2=s at*
    (repeat' split)<;>omega
   have he2:mx (mx (a1*c1) (a1*c2)) (mx (a2*c1) (a2*c2))=res.2:=by
    rw[←hres];simp only[mulP,Zk,mx];generalize a1*c1=p at*;generalize a1*c2=q at*;generalize a2*c1=r at*;generalize a2*c2=s at*
    (repeat' split)<;>omega
   clear hres hm1 hm2 hm3 hm4;refine X0<|(Qe (by kernel_rfl) (by kernel_rfl) (by rfl) (by simp[*];rfl) ?_);refine Xm [⟨true,.v (li (mn (a1*c1) (a1*c2))),none⟩,⟨true,.v (li (mn (a2*c1) (a2*c2))),none⟩,⟨true,.v (li (mn (mn (a1*c1) (a1*c2)) (mn (a2*c1) (a2*c2)))),none⟩,⟨true,.v (li (mx (a1*c1) (a1*c2))),none⟩,⟨true,.v (li (mx (a2*c1) (a2*c2))),none⟩,⟨true,.v (li (mx (mx (a1*c1) (a1*c2)) (mx (a2*c1) (a2*c2)))),none⟩] ?_ ?_
   · first|exact trivial|exact trivial|(repeat' first|exact trivial|exact Ql _ _ _|exact Ql _ _ _|(simpa[he1]using Ql (mn (a1*c1) (a1*c2)) (mn (a2*c1) (a2*c2)) _)|exact Qu _ _ _|exact Qu _ _ _|(simpa[he2]using Qu (mx (a1*c1) (a1*c2)) (mx (a2*c1) (a2*c2)) _)|apply And.intro)
   exact Xe
 (try simp only[BN]at h27);rw[if_neg h27]at hres;refine X1 ?_;refine(X7 rfl (fun h32=>?_) (fun h32=>?_))
 · (try simp only[BN]at h32);obtain⟨a1,a2,ha,hb1,hb2,hb3⟩:=kid hk (ar2 (by omega)).1;obtain⟨c1,c2,hc,hc1,hc2,hc3⟩:=kid hk (ar2 (by omega)).2;rw[if_pos h32]at hres;simp only[g2,ha,hc,Option.getD_some]at hres
   have hmm:mx (X3z a1) (X3z a2)=mx a2 (-a1):=by
    unfold mx X3z
    (repeat' split)<;>omega
   have hm:-1048576≤mx a2 (-a1)∧mx a2 (-a1)≤1048576:=by unfold mx;split<;>omega
   have hw2:IntKind.i64.wrap (-(mx a2 (-a1)))=-(mx a2 (-a1)):=Xa (by omega) (by omega);clear ar1 ar2 ar3;refine X0<|(QH [⟨true,.v (li (X3z a1)),none⟩,⟨true,.v (li (X3z a2)),none⟩,⟨true,.v (li (mx (X3z a1) (X3z a2))),none⟩] (by kernel_rfl) (by kernel_rfl) (by rfl) (by simp[*];first|exact⟨rfl,Iff.rfl⟩|exact⟨rfl,trivial⟩|rfl) ?_ ?_)
   · first|exact trivial|exact trivial|(repeat' first|exact trivial|exact X9l a1 (by omega) _|exact X9l a2 (by omega) _|(simpa[hmm]using Qu (X3z a1) (X3z a2) _)|apply And.intro)
   refine X0<|X0<|X2 ?_;refine(Xc rfl (fun h35=>?_) fun h35=>?_)
   · (try simp only[BN]at h35);rw[if_pos h35]at hres;subst hres;refine X1 ?_;exact Xe
   (try simp only[BN]at h35);rw[if_neg (by omega)]at hres;subst hres;refine X1 ?_;exact Xe
 (try simp only[BN]at h32);rw[if_neg h32]at hres;refine X1 ?_;refine(X7 rfl (fun h41=>?_) (fun h41=>?_))
 · (try simp only[BN]at h41);obtain⟨c1,c2,hc,hc1,hc2,hc3⟩:=kid hk (ar2 (by omega)).2;rw[if_pos h41]at hres;simp only[g2,hc,Option.getD_some]at hres;subst hres;clear ar1 ar2 ar3;refine X0<|(QH [⟨true,.tup [li (X1m (c1,c2)),li (X4H (c1,c2))],none⟩] (by kernel_rfl) (by kernel_rfl) (by rfl) (by simp[*];first|exact⟨rfl,Iff.rfl⟩|exact⟨rfl,trivial⟩|rfl) ?_ ?_)
   · first|exact X81 (c1,c2) ⟨hc1,hc2,hc3⟩ _|exact trivial|simpa[*]using X81 (c1,c2) ⟨hc1,hc2,hc3⟩ _
   exact Xe
 (try simp only[BN]at h41);rw[if_neg h41]at hres;refine X1 ?_;refine(X7 rfl (fun h45=>?_) (fun h45=>?_))
 · (try simp only[BN]at h45);obtain⟨a1,a2,ha,hb1,hb2,hb3⟩:=kid hk (ar2 (by omega)).1;obtain⟨c1,c2,hc,hc1,hc2,hc3⟩:=kid hk (ar2 (by omega)).2;rw[if_pos h45]at hres;simp only[g2,ha,hc,Option.getD_some]at hres;subst hres;clear ar1 ar2 ar3;refine X0<|(QH [⟨true,.v (li (mn a1 c1)),none⟩,⟨true,.v (li (mn a2 c2)),none⟩] (by kernel_rfl) (by kernel_rfl) (by rfl) (by simp[*];first|exact⟨rfl,Iff.rfl⟩|exact⟨rfl,trivial⟩|rfl) ?_ ?_)
   · first|exact⟨Ql _ _ _,Ql _ _ _⟩|exact trivial|(repeat' first|exact trivial|exact Ql _ _ _|exact Ql _ _ _|apply And.intro)
   exact Xe
 (try simp only[BN]at h45);rw[if_neg h45]at hres;refine X1 ?_;refine(X7 rfl (fun h49=>?_) (fun h49=>?_))
 · (try simp only[BN]at h49);obtain⟨a1,a2,ha,hb1,hb2,hb3⟩:=kid hk (ar2 (by omega)).1;obtain⟨c1,c2,hc,hc1,hc2,hc3⟩:=kid hk (ar2 (by omega)).2;rw[if_pos h49]at hres;simp only[g2,ha,hc,Option.getD_some]at hres;subst hres;clear ar1 ar2 ar3;refine X0<|(QH [⟨true,.v (li (mx a1 c1)),none⟩,⟨true,.v (li (mx a2 c2)),none⟩] (by kernel_rfl) (by kernel_rfl) (by rfl) (by simp[*];first|exact⟨rfl,Iff.rfl⟩|exact⟨rfl,trivial⟩|rfl) ?_ ?_)
   · first|exact⟨Qu _ _ _,Qu _ _ _⟩|exact trivial|(repeat' first|exact trivial|exact Qu _ _ _|exact Qu _ _ _|apply And.intro)
   exact Xe
 (try simp only[BN]at h49);rw[if_neg h49]at hres;refine(XV [2,3] (fun(z:Bool)=>[(202,.v (lb z))]) (fun(z:Bool)=>[]) (fun(z:Bool)=>z=decide (o=23∨o=25)) ?_ ?_)
 ·
  refine X1 ?_;refine(X7 rfl (fun h54=>Xb ?_) (fun h54=>?_))
  · (try simp only[BN]at h54);exact⟨true,by simp[h54],X4 (fun n=>n) []⟩
  (try simp only[BN]at h54);refine X2 ?_;exact⟨decide (o=25),by simp[h54],X4 (fun n=>n) []⟩
 rintro z hz;simp only[upS,X6,XB]
 try simp only[X6,KN,Nat.reduceBEq,if_true,if_false,ins,Nat.reduceLT]
 subst hz;refine(Xc rfl (fun h58=>?_) fun h58=>?_)
 · (try simp only[BN]at h58);have h2:=ar3 h58;rw[if_pos h58]at hres;clear ar1 ar2 ar3 h58;rcases k with _|⟨⟨a1,a2⟩,_|⟨⟨c1,c2⟩,r⟩⟩
   · simp at h2
   · simp at h2
   have hr33:r.length≤31:=by simp only[List.length_cons]at h2;omega
   clear h2;simp at hres;refine X0<|(Qe (by kernel_rfl) (by kernel_rfl) (by rfl) (by simp[*,X4E,X1l];rfl) ?_);refine X0<|X0<|X2 ?_;refine X3<|(Xf [2,3] (fun(x:Nat×Int×Int)=>[(15,.v (li x.2.1)),(16,.v (li x.2.2)),(17,.v (li ((x.1+2:Nat):Int)))]) (fun x=>[]) (fun x=>x.1≤r.length∧X2o (r.drop x.1) x.2=res) (fun x=>r.length - x.1) (0,c1,c2) ⟨Nat.zero_le _,hres⟩ ?_ ?_)
   · exact X4 (fun n=>n) []
   rintro⟨k,m,q⟩ ⟨hk',hJ⟩;simp only[upS,X6,XB]
   try simp only[X6,KN,Nat.reduceBEq,if_true,if_false,ins,Nat.reduceLT]
   simp only at hk' hJ;clear hres;have hdec:decide (((k+2:Nat):Int)<((r.length+1+1:Nat):Int))=decide (k<r.length):=by rw[decide_eq_decide];omega
   refine X0<|X0<|(Xq (by simp[*,X4E,X1l];rfl) ?_);refine(X7 rfl (fun h63=>Xb ?_) (fun h63=>?_))
   · (try simp only[BN]at h63);have hlt:k<r.length:=by omega
     obtain⟨⟨e1,e2⟩,he,hd⟩:=Xt hlt;have hw1:IntKind.i64.wrap ((k:Int)+2+1)=(k:Int)+1+2:=by rw[Xa (by omega) (by omega)];omega
     have htn:((k:Int)+2).toNat=k+2:=by omega
     have h02:0≤(k:Int)+2:=by omega
     rw[hd]at hJ;simp only[X2o,Zk]at hJ;have hk1:k+1≤r.length:=hlt;clear hlt h63;refine X0<|X3<|(QH [⟨true,.v (li (mn m e1)),none⟩,⟨true,.v (li (mx q e2)),none⟩] (by kernel_rfl) (by kernel_rfl) (by rfl) (by simp[*];first|exact⟨rfl,Iff.rfl⟩|exact⟨rfl,trivial⟩|rfl) ?_ ?_)
     · first|exact⟨Ql _ _ _,Qu _ _ _⟩|exact trivial|(repeat' first|exact trivial|exact Ql _ _ _|exact Qu _ _ _|apply And.intro)
     refine X2 ?_;exact⟨(k+1,mn m e1,mx q e2),⟨hk1,hJ⟩,by simp only;omega,X4 (fun n=>n) []⟩
   (try simp only[BN]at h63);have hkl:k=r.length:=by omega
   rw[hkl,List.drop_length]at hJ;simp only[X2o]at hJ;refine(Xg ?_);refine X1 ?_;exact(Xh (fun h=>⟨.inr rfl,h⟩) _ (by simp[*];rfl) (by subst hJ;rfl) (by simp))
 (try simp only[BN]at h58);rw[if_neg h58]at hres;subst hres;refine X1 ?_;exact Xe
end Go.Proofs.YtdajceakaakdoaaGreat

namespace Go.Proofs.YtdajceakaakdoaaGreat
open Go Go.Hl
def okR (p:Int×Int):Bool:=decide (-1048576≤p.1)&&decide (p.2≤1048576)
def rgV (vars:List Vr) (o n:Int):Option (List (Int×Int))→(Int×Int)×Bool
 |none=>((0,0),false)
 |some k=>(QB vars o n k,okR (QB vars o n k))
def rgW (vars:List Vr) (o n:Int):Option (List (Int×Int))→(Int×Int)×Bool
 |none=>((0,0),false)
 |some k=>(X3m vars o n k,okR (X3m vars o n k))
mutual
def rgP (vars:List Vr):Tm→(Int×Int)×Bool
 | .mk o n ks=>rgV vars o n (X0Y vars ks)
def X0Y (vars:List Vr):List Tm→Option (List (Int×Int))
 |[]=>some []
 |t::l=>if(rgP vars t).2=true then(X0Y vars l).map ((rgP vars t).1:: ·)else none
end
def rgQ (vars:List Vr):Tm→(Int×Int)×Bool
 | .mk o n ks=>rgW vars o n (X0Y vars ks)
theorem X7C (vars:List Vr) (t:Tm):(rgQ vars t).2=(rgP vars t).2∧((rgP vars t).2=true→(rgQ vars t).1=(rgP vars t).1):=by
 obtain⟨o,n,ks⟩:=t;simp only[rgQ,rgP];cases X0Y vars ks with
 |none=>simp[rgV,rgW]
 | some k=>
   simp only[rgV,rgW,X3m];by_cases h:o=0
   · subst h;simp only[if_true,QB];by_cases h2:n< -1048576∨1048576<n
     · rw[if_pos h2];have:okR (n,n)=false:=by simp only[okR,Bool.and_eq_false_iff,decide_eq_false_iff_not];omega
       rw[this];exact⟨by decide,fun h=>by cases h⟩
     rw[if_neg h2];exact⟨rfl,fun _=>rfl⟩
   simp only[if_neg h];exact⟨trivial,fun _=>trivial⟩
def X08 (vars:List Vr):Prop:=∀v∈vars,v.low≤v.high∧-1048576≤v.low∧v.high≤1048576
theorem X4V {p q:Int×Int} (hp:p.1≤p.2) (hq:q.1≤q.2):(Zk p q).1≤(Zk p q).2:=by
 simp only[Zk,mn,mx]
 (repeat' split)<;>omega
theorem X7S:∀{l:List (Int×Int)} {p:Int×Int},(∀q∈l,bnd q)→p.1≤p.2→(X2o l p).1≤(X2o l p).2
 |[],p,_,hp=>hp
 |q::l,p,h,hp=>X7S (l:=l) (p:=Zk p q) (fun r hr=>h r (List.mem_cons_of_mem _ hr)) (X4V hp (h q (by simp)).2.1)
theorem rule_le {vars:List Vr} {inp:Bool} {o n:Int} {k:List (Int×Int)} (hv:X08 vars) (hf:Q6 vars inp o n k.length=true) (hk:∀p∈k,bnd p):(QB vars o n k).1≤(QB vars o n k).2:=by
 have har:=X3b hf;have hrf:o=24→0≤n∧∃v,vars[n.toNat]? =some v∧(inp=true→v.kind≠0):=fun h=>X5c (by rw[←h];exact hf)
 have hg:∀i:Nat,(g2 k i).1≤(g2 k i).2∧-1048576≤(g2 k i).1∧(g2 k i).2≤1048576:=by
  intro i;unfold g2;cases hi:k[i]? with
  |none=>simp
  |some p=>have:=hk p (List.mem_of_getElem? hi);exact⟨this.2.1,this.1,this.2.2⟩
 have h0:=hg 0;have h1:=hg 1;unfold QB;generalize g2 k 0=a at*;generalize g2 k 1=b at*;split
 · exact Int.le_refl _
 split
 · rename_i h24;obtain⟨_,v,hv1,_⟩:=hrf h24;rw[hv1];exact(hv v (List.mem_of_getElem? hv1)).1
 split
 · simp only;omega
 split
 · simp only;omega
 split
 · simp only;omega
 split
 · unfold mulP;exact X4V (X4V (X4V (Int.le_refl _) (Int.le_refl _)) (Int.le_refl _)) (Int.le_refl _)
 split
 · simp only[mx]
   (repeat' split)<;>simp only<;>omega
 split
 · simp only[X1m,X4H,mn,mx]
   (repeat' split)<;>omega
 split
 · simp only[mn]
   (repeat' split)<;>omega
 split
 · simp only[mx]
   (repeat' split)<;>omega
 split
 · exact X7S (fun q hq=>hk q (List.mem_of_mem_drop hq)) h1.1
 simp
theorem X7X {vars:List Vr}:∀{l:List Tm} {k:List (Int×Int)},X0Y vars l=some k→k.length=l.length
 |[],k,h=>by simp only[X0Y]at h;cases h;rfl
 | t::l,k,h=>by
   simp only[X0Y]at h;split at h
   · simp only[Option.map_eq_some_iff]at h;obtain⟨k',h',rfl⟩:=h;simp[X7X h']
   cases h
mutual
theorem X7w {vars:List Vr} {inp:Bool} (hv:X08 vars):∀(t:Tm),QU vars inp t=true→(rgP vars t).2=true→bnd (rgP vars t).1
 | .mk o n ks,hf,h=>by
   simp only[QU,Bool.and_eq_true]at hf;simp only[rgP]at h⊢;cases hk:X0Y vars ks with
   |none=>rw[hk]at h;cases h
   | some k=>
     rw[hk]at h;simp only[rgV,okR,Bool.and_eq_true,decide_eq_true_eq]at h⊢;have hb:=X85 hv ks hf.2 k hk;have hl:=X7X hk;have:=rule_le hv (by rw[hl];exact hf.1) hb;exact⟨h.1,this,h.2⟩
theorem X85 {vars:List Vr} {inp:Bool} (hv:X08 vars):∀(l:List Tm),WL vars inp l=true→∀k,X0Y vars l=some k→∀p∈k,bnd p
 |[],_,k,h,p,hp=>by simp only[X0Y]at h;cases h;cases hp
 | t ::l,hf,k,h,p,hp=>by
   simp only[WL,Bool.and_eq_true]at hf;simp only[X0Y]at h;split at h
   · rename_i hok;simp only[Option.map_eq_some_iff]at h;obtain⟨k',h',rfl⟩:=h;rcases List.mem_cons.1 hp with rfl|hp
     · exact X7w hv t hf.1 hok
     exact X85 hv l hf.2 k' h' p hp
   cases h
end
@[simp] theorem encP_snoc (a:List (Int×Int)) (r:Int×Int):X1k (a++[r])=X1k a++[[iC r.1,iC r.2]]:=by simp[X1k]
@[simp] theorem lows_snoc (a:List (Int×Int)) (r:Int×Int):X4E (a++[r])=X4E a++[[iC r.1]]:=by simp[X4E]
@[simp] theorem highs_snoc (a:List (Int×Int)) (r:Int×Int):X1l (a++[r])=X1l a++[[iC r.2]]:=by simp[X1l]
theorem X9Q (vars:List Vr) (inp:Bool) (hv:X08 vars) (t:Tm):QU vars inp t=true→∀d:Nat,
  Con Tryz.prog 221 true [lV vars,aT t] (.tup [aP (rgP vars t).1,lb (rgP vars t).2]) none d:=by
 induction t using Tm.ind with
 |h o n ks ih=>
 intro hf d;simp only[QU,Bool.and_eq_true]at hf;have har:=X3b hf.1
 have hlen:ks.length≤33:=by
  have:(Qg o).2≤33:=by unfold Qg;(repeat' split)<;>simp
  omega
 clear har;obtain⟨res,hres⟩:∃r,rgP vars (.mk o n ks)=r:=⟨_,rfl⟩;rw[hres];simp only[rgP]at hres;have ih':∀t∈ks,∀d,Con Tryz.prog 221 true [lV vars,aT t] (.tup [aP (rgP vars t).1,lb (rgP vars t).2]) none d:=fun t ht d=>ih t ht (ZX hf.2 t ht) d;clear ih;refine X5 Tryz.func221 ?_;simp only[Tryz.f221];simp only[aT,Tm.enc];refine X1 ?_;refine X1 ?_;refine X0<|X0<|X2 ?_;refine X3<|(Xf [0,3,4,13,14] (fun(x:Nat×List (Int×Int))=>[(6,.v (.one (.own 1006))),(15,.v (li x.1))]) (fun(x:Nat×List (Int×Int))=>[(3,.box [.c (iC o),.c (iC n),.c (.sl 3 (XI ks))]),(4,.box [.c (iC 0),.c (iC 0)]),(1006,.row 287 2 (X1k x.2))]) (fun(x:Nat×List (Int×Int))=>x.1≤ks.length∧x.2.length=x.1∧X0Y vars ks=(X0Y vars (ks.drop x.1)).map (x.2++ ·)∧∀p∈x.2,bnd p) (fun(x:Nat×List (Int×Int))=>ks.length - x.1) (0,[]) ⟨Nat.zero_le _,rfl,by simp,by simp⟩ ?_ ?_)
 · exact X4 (fun n=>n) [1006]
 rintro⟨k,acc⟩ ⟨hk,hal,hJ,hb⟩;simp only[upS,X6,XB]
 try simp only[X6,KN,Nat.reduceBEq,if_true,if_false,ins,Nat.reduceLT]
 simp only at hk hal hJ hb;refine X1 ?_;refine X0<|(X7 rfl (fun h5=>Xb ?_) (fun h5=>?_))
 · (try simp only[BN]at h5);have hlt:k<ks.length:=by omega
   obtain⟨⟨eo,en,ek⟩,he,hd⟩:=Xt hlt;have he':=Wv he;simp only[Tm.enc]at he';have hw1:=XE hlt (by omega);rw[hd]at hJ;simp only[X0Y]at hJ;have hk1:k+1≤ks.length:=hlt;have hmem:Tm.mk eo en ek∈ks:=List.mem_of_getElem? he;have hpb:=X7w hv _ (ZX hf.2 _ hmem);have hroom:Wa (k+1) 16:=Qc (by omega) (by omega);clear hlt h5;refine X0<|X3<|X0<|X2 ?_;refine Xm [⟨true,.tup [aP (rgP vars (.mk eo en ek)).1,lb (rgP vars (.mk eo en ek)).2],none⟩] ?_ ?_
   · first|exact ih' _ hmem _|exact trivial|simpa[*]using ih' _ hmem _
   refine X0<|X0<|X2 ?_;refine(Xc rfl (fun h9=>?_) fun h9=>?_)
   · (try simp only[BN]at h9);rw[h9]at hJ;simp only[Bool.false_eq_true,if_false,Option.map_none]at hJ;rw[hJ]at hres;subst hres;refine X1 ?_;exact Xe
   (try simp only[BN]at h9);rw[if_pos h9]at hJ;refine X2 ?_;refine X2 ?_
   exact⟨(k+1,acc++[(rgP vars (.mk eo en ek)).1]),⟨hk1,by simp[hal],by rw[hJ,Option.map_map];congr 1;funext z;simp,fun p hp=>by
    rcases List.mem_append.1 hp with h|h
    · exact hb p h
    simp only[List.mem_cons,List.not_mem_nil,or_false]at h;rw[h]
    exact hpb h9⟩,by simp only;omega,X4 (fun n=>if n=1006 then 31 else n) []⟩
 (try simp only[BN]at h5);have hkl:k=ks.length:=by omega
 rw[hkl,List.drop_length]at hJ;simp only[X0Y,Option.map_some,List.append_nil]at hJ;rw[hJ]at hres;subst hres;have hf1:Q6 vars inp o n acc.length=true:=by rw[hal,hkl];exact hf.1
 refine(Xg ?_);refine Xm [⟨true,.v (aP (QB vars o n acc)),none⟩] ?_ ?_
 · first|exact X8t vars inp o n _ acc hf1 hb _|exact trivial|simpa[*]using X8t vars inp o n _ acc hf1 hb _
 refine X0<|(X8s [(11,11),(38,11),(42,11),(4,4)] (by kernel_rfl) (by kernel_rfl) (by rfl) (by simp[evsH,hokB,QD, *];rfl) ?_);exact(Xh (fun h=>⟨.inr rfl,h⟩) _ (by simp[*];rfl) (by simp[XK,rgV,okR]) (by simp))
theorem Xc8 (vars:List Vr) (inp:Bool) (hv:X08 vars) (t:Tm):QU vars inp t=true→∀d:Nat,
  Con Tryz.prog 97 true [lV vars,aT t] (.tup [li (rgQ vars t).1.1,li (rgQ vars t).1.2,lb (rgQ vars t).2]) none d:=by
 induction t using Tm.ind with
 |h o n ks ih=>
 intro hf d;simp only[QU,Bool.and_eq_true]at hf;have har:=X3b hf.1
 have hlen:ks.length≤33:=by
  have:(Qg o).2≤33:=by unfold Qg;(repeat' split)<;>simp
  omega
 clear har;obtain⟨res,hres⟩:∃r,rgQ vars (.mk o n ks)=r:=⟨_,rfl⟩;rw[hres];simp only[rgQ]at hres;have ih':∀t∈ks,∀d,Con Tryz.prog 97 true [lV vars,aT t] (.tup [li (rgQ vars t).1.1,li (rgQ vars t).1.2,lb (rgQ vars t).2]) none d:=fun t ht d=>ih t ht (ZX hf.2 t ht) d;clear ih;refine X5 Tryz.func97 ?_;simp only[Tryz.f97];simp only[aT,Tm.enc];refine X1 ?_;refine X1 ?_;refine X1 ?_;refine X0<|X0<|X2 ?_;refine X3<|(Xf [0,3] (fun(x:Nat×List (Int×Int))=>[(7,.v (.one (.own 1007))),(8,.v (.one (.own 1008))),(9,.v (li x.1))]) (fun(x:Nat×List (Int×Int))=>[(3,.box [.c (iC o),.c (iC n),.c (.sl 3 (XI ks))]),(1007,.row 3 1 (X4E x.2)),(1008,.row 3 1 (X1l x.2))]) (fun(x:Nat×List (Int×Int))=>x.1≤ks.length∧x.2.length=x.1∧X0Y vars ks=(X0Y vars (ks.drop x.1)).map (x.2++ ·)∧∀p∈x.2,bnd p) (fun(x:Nat×List (Int×Int))=>ks.length - x.1) (0,[]) ⟨Nat.zero_le _,rfl,by simp,by simp⟩ ?_ ?_)
 · exact X4 (fun n=>if n=1007 then 15 else if n=1008 then 16 else n) []
 rintro⟨k,acc⟩ ⟨hk,hal,hJ,hb⟩;simp only[upS,X6,XB]
 try simp only[X6,KN,Nat.reduceBEq,if_true,if_false,ins,Nat.reduceLT]
 simp only at hk hal hJ hb;refine X0<|X0<|X2 ?_;refine(X7 rfl (fun h6=>Xb ?_) (fun h6=>?_))
 · (try simp only[BN]at h6);have hlt:k<ks.length:=by omega
   obtain⟨⟨eo,en,ek⟩,he,hd⟩:=Xt hlt;have he':=Wv he;simp only[Tm.enc]at he';have hw1:=XE hlt (by omega);rw[hd]at hJ;simp only[X0Y]at hJ;have hk1:k+1≤ks.length:=hlt;have hmem:Tm.mk eo en ek∈ks:=List.mem_of_getElem? he;have hpb:=X7w hv _ (ZX hf.2 _ hmem);have hroom:Wa (k+1) 8:=Qc (by omega) (by omega);rw[←(X7C vars (.mk eo en ek)).1]at hJ hpb;clear hlt h6;refine X0<|X3<|X0<|(Xp [⟨true,.tup [li (rgQ vars (.mk eo en ek)).1.1,li (rgQ vars (.mk eo en ek)).1.2,lb (rgQ vars (.mk eo en ek)).2],none⟩] ?_ ?_)
   · first|exact ih' _ hmem _|exact trivial|simpa[*]using ih' _ hmem _
   refine X0<|X0<|X2 ?_;refine(Xc rfl (fun h9=>?_) fun h9=>?_)
   · (try simp only[BN]at h9);rw[h9]at hJ;simp only[Bool.false_eq_true,if_false,Option.map_none]at hJ;rw[hJ]at hres;subst hres;refine X1 ?_;exact Xe
   (try simp only[BN]at h9);rw[if_pos h9]at hJ;have hq2:=(X7C vars (.mk eo en ek)).2 (by rw[←(X7C vars (.mk eo en ek)).1];exact h9);refine X1 ?_;refine X2 ?_;refine X2 ?_
   exact⟨(k+1,acc++[(rgP vars (.mk eo en ek)).1]),⟨hk1,by simp[hal],by rw[hJ,Option.map_map];congr 1;funext z;simp,fun p hp=>by
    rcases List.mem_append.1 hp with h|h
    · exact hb p h
    simp only[List.mem_cons,List.not_mem_nil,or_false]at h;rw[h]
    exact hpb h9⟩,by simp only;omega,X4 (fun n=>if n=1007 then 40 else if n=1008 then 44 else n) []⟩
 (try simp only[BN]at h6);have hkl:k=ks.length:=by omega
 rw[hkl,List.drop_length]at hJ;simp only[X0Y,Option.map_some,List.append_nil]at hJ;rw[hJ]at hres;subst hres;have hf1:Q6 vars inp o n acc.length=true:=by rw[hal,hkl];exact hf.1
 refine(Xg ?_);refine Xm [⟨true,.tup [li (X3m vars o n acc).1,li (X3m vars o n acc).2],none⟩] ?_ ?_
 · first|exact X8e vars inp o n _ acc hf1 hb _|exact trivial|simpa[*]using X8e vars inp o n _ acc hf1 hb _
 refine X1 ?_;exact(Xh (fun h=>⟨.inr rfl,h⟩) _ (by simp[*];rfl) (by simp[XK,rgW,okR]) (by simp))
def X0E (vars:List Vr) (inp:Bool) (t:Tm):Int:=if QU vars inp t=true then(if(rgP vars t).2=true then 0 else 3)else 1
theorem X6e (vars:List Vr) (inp:Bool) (hv:X08 vars) (hl:vars.length≤1000000000) (t:Tm) (hn:t.nodes≤1000000000) (d:Nat):
  Con Tryz.prog 185 true [lV vars,aT t,lb inp] (.v (li (X0E vars inp t))) none d:=by
 have c1:=XbY vars inp hl t hn;have c2:=X9Q vars inp hv t;obtain⟨o,n,ks⟩:=t;obtain⟨F,hF⟩:∃F,QU vars inp (.mk o n ks)=F:=⟨_,rfl⟩;obtain⟨R,hR⟩:∃R,rgP vars (.mk o n ks)=R:=⟨_,rfl⟩;simp only[X0E,hF,hR]at c1 c2⊢;clear hF hR;refine X5 Tryz.func185 ?_;simp only[Tryz.f185];simp only[aT,Tm.enc]at c1 c2⊢;refine X1 ?_;refine X0<|X0<|(Xp [⟨true,.v (lb F),none⟩] ?_ ?_)
 · first|exact c1 _|exact trivial|simpa[*]using c1 _
 refine(Xc rfl (fun h2=>?_) fun h2=>?_)
 · (try simp only[BN]at h2);refine X1 ?_;exact Xe
 (try simp only[BN]at h2);refine X0<|X0<|(Xp [⟨true,.tup [aP R.1,lb R.2],none⟩] ?_ ?_)
 · first|exact c2 h2 _|exact trivial|simpa[*]using c2 h2 _
 refine X1 ?_;refine(Xc rfl (fun h7=>?_) fun h7=>?_)
 · (try simp only[BN]at h7);refine X1 ?_;exact Xe
 (try simp only[BN]at h7);refine X1 ?_;exact Xe
theorem X6t (vars:List Vr) (inp:Bool) (hv:X08 vars) (hl:vars.length≤1000000000) (t:Tm) (hn:t.nodes≤1000000000) (d:Nat):
  Con Tryz.prog 52 true [lV vars,aT t,lb inp] (.v (li (X0E vars inp t))) none d:=by
 have c1:=Xbh vars inp hl t hn;have c2:=Xc8 vars inp hv t;rw[(X7C vars t).1]at c2;obtain⟨o,n,ks⟩:=t;obtain⟨F,hF⟩:∃F,QU vars inp (.mk o n ks)=F:=⟨_,rfl⟩;obtain⟨R,hR⟩:∃R,(rgP vars (.mk o n ks)).2=R:=⟨_,rfl⟩;obtain⟨S,hS⟩:∃S,(rgQ vars (.mk o n ks)).1=S:=⟨_,rfl⟩;simp only[X0E,hF,hR,hS]at c1 c2⊢;clear hF hR hS;refine X5 Tryz.func52 ?_;simp only[Tryz.f52];simp only[aT,Tm.enc]at c1 c2⊢;refine X1 ?_;refine X0<|X0<|(Xp [⟨true,.v (lb F),none⟩] ?_ ?_)
 · first|exact c1 _|exact trivial|simpa[*]using c1 _
 refine(Xc rfl (fun h2=>?_) fun h2=>?_)
 · (try simp only[BN]at h2);refine X1 ?_;exact Xe
 (try simp only[BN]at h2);refine Xm [⟨true,.tup [li S.1,li S.2,lb R],none⟩] ?_ ?_
 · first|exact c2 h2 _|exact trivial|simpa[*]using c2 h2 _
 refine X0<|X0<|X2 ?_;refine(Xc rfl (fun h7=>?_) fun h7=>?_)
 · (try simp only[BN]at h7);refine X1 ?_;exact Xe
 (try simp only[BN]at h7);refine X1 ?_;exact Xe
end Go.Proofs.YtdajceakaakdoaaGreat
