/- Contracts of functions and plain facts about what they compute. Conditions: as each theorem states. -/
import Derived.Test.YtdajceakaakdoaaGreatJ2
import Derived.Test.YtdajceakaakdoaaGreatJ1
import Derived.Test.YtdajceakaakdoaaGreatJ5
set_option linter.unusedSimpArgs false
set_option linter.unusedVariables false
set_option linter.unnecessarySimpa false
set_option maxRecDepth 100000
set_option maxHeartbeats 2000000
namespace Go.Proofs.YtdajceakaakdoaaGreat
open Go Go.Hl
open Tryz(prog)
def okR (p:Int×Int):Bool:=decide (-1048576<=p.1)&&decide (p.2<=1048576)
def rgV (vars:List Vr) (o n:Int):Option (List (Int×Int))->(Int×Int)×Bool
 |none=>((0,0),false)
 |some k=>(QL vars o n k,okR (QL vars o n k))
def rgW (vars:List Vr) (o n:Int):Option (List (Int×Int))->(Int×Int)×Bool
 |none=>((0,0),false)
 |some k=>(X4l vars o n k,okR (X4l vars o n k))
mutual
def rgP (vars:List Vr):Tm->(Int×Int)×Bool
 | .mk o n ks=>rgV vars o n (X1H vars ks)
def X1H (vars:List Vr):List Tm->Option (List (Int×Int))
 |[]=>some []
 |t::l=>if(rgP vars t).2=true then(X1H vars l).map ((rgP vars t).1:: ·)else none
end
def rgQ (vars:List Vr):Tm->(Int×Int)×Bool
 | .mk o n ks=>rgW vars o n (X1H vars ks)
theorem X95 (vars:List Vr) (t:Tm):(rgQ vars t).2=(rgP vars t).2/\((rgP vars t).2=true->(rgQ vars t).1=(rgP vars t).1):=by
 obtain⟨o,n,ks⟩:=t;simp only[rgQ,rgP];cases X1H vars ks with
 |none=>simp[rgV,rgW]
 | some k=>
   simp only[rgV,rgW,X4l];by_cases h:o=0
   .subst h;simp only[Nj,QL];by_cases h2:n< -1048576\/1048576<n
    .rw[N8 h2];have:okR (n,n)=false:=by simp only[okR,NA,Nh];omega
     rw[this];exact⟨by decide,fun h=>by cases h⟩
    rw[N7 h2];exact⟨rfl,fun _=>rfl⟩
   simp only[N7 h];exact⟨trivial,fun _=>trivial⟩
def X0s (vars:List Vr):Prop:=∀v∈vars,v.low<=v.high∧-1048576<=v.low/\v.high<=1048576
theorem X5O {p q:Int×Int} (hp:p.1<=p.2) (hq:q.1<=q.2):(ZC p q).1<=(ZC p q).2:=by
 simp only[ZC,mn,mx]
 (repeat' split)<;>omega
theorem X9Q:∀{l:List (Int×Int)} {p:Int×Int},(∀q∈l,bnd q)->p.1<=p.2->(X2U l p).1<=(X2U l p).2
 |[],p,_,hp=>hp
 |q::l,p,h,hp=>X9Q (l:=l) (p:=ZC p q) (fun r hr=>h r (NO _ hr)) (X5O hp (h q (by simp)).2.1)
theorem rule_le {vars:List Vr} {inp:Bool} {o n:Int} {k:List (Int×Int)} (hv:X0s vars) (hf:Q3 vars inp o n k.length=true) (hk:∀p∈k,bnd p):(QL vars o n k).1<=(QL vars o n k).2:=by
 have har:=X07 hf;have hrf:o=24->0<=n/\∃v,vars[n.toNat]? =some v/\(inp=true->v.kind≠0):=fun h=>X3Q (by rw[<-h];exact hf)
 have hg:∀i:Nat,(g2 k i).1<=(g2 k i).2∧-1048576<=(g2 k i).1/\(g2 k i).2<=1048576:=by
  intro i;unfold g2;cases hi:k[i]? with
  |none=>simp
  |some p=>have:=hk p (N4 hi);exact⟨this.2.1,this.1,this.2.2⟩
 have h0:=hg 0;have h1:=hg 1;unfold QL;generalize g2 k 0=a at*;generalize g2 k 1=b at*;split
 .exact NP _
 split
 .rename_i h24;obtain⟨_,v,hv1,_⟩:=hrf h24;rw[hv1];exact(hv v (N4 hv1)).1
 split
 .simp only;omega
 split
 .simp only;omega
 split
 .simp only;omega
 split
 .unfold mulP;exact X5O (X5O (X5O (NP _) (NP _)) (NP _)) (NP _)
 split
 .simp only[mx]
  (repeat' split)<;>simp only<;>omega
 split
 .simp only[X1Q,X5u,mn,mx]
  (repeat' split)<;>omega
 split
 .simp only[mn]
  (repeat' split)<;>omega
 split
 .simp only[mx]
  (repeat' split)<;>omega
 split
 .exact X9Q (fun q hq=>hk q (DG hq)) h1.1
 simp
theorem XaB {vars:List Vr}:∀{l:List Tm} {k:List (Int×Int)},X1H vars l=some k->k.length=l.length
 |[],k,h=>by simp only[X1H]at h;cases h;rfl
 | t::l,k,h=>by
   simp only[X1H]at h;split at h
   .simp only[N9]at h;obtain⟨k',h',rfl⟩:=h;simp[XaB h']
   cases h
mutual
theorem X82 {vars:List Vr} {inp:Bool} (hv:X0s vars):∀(t:Tm),Qu vars inp t=true->(rgP vars t).2=true->bnd (rgP vars t).1
 | .mk o n ks,hf,h=>by
   simp only[Qu,N3]at hf;simp only[rgP]at h⊢;cases hk:X1H vars ks with
   |none=>rw[hk]at h;cases h
   | some k=>
     rw[hk]at h;simp only[rgV,okR,N3,N5]at h⊢;have hb:=X9L hv ks hf.2 k hk;have hl:=XaB hk;have:=rule_le hv (by rw[hl];exact hf.1) hb;exact⟨h.1,this,h.2⟩
theorem X9L {vars:List Vr} {inp:Bool} (hv:X0s vars):∀(l:List Tm),WD vars inp l=true->∀k,X1H vars l=some k->∀p∈k,bnd p
 |[],_,k,h,p,hp=>by simp only[X1H]at h;cases h;cases hp
 | t ::l,hf,k,h,p,hp=>by
   simp only[WD,N3]at hf;simp only[X1H]at h;split at h
   .rename_i hok;simp only[N9]at h;obtain⟨k',h',rfl⟩:=h;rcases Ng.1 hp with rfl|hp
    .exact X82 hv t hf.1 hok
    exact X9L hv l hf.2 k' h' p hp
   cases h
end
@[simp] theorem encP_snoc (a:List (Int×Int)) (r:Int×Int):X1K (a++[r])=X1K a++[[iC r.1,iC r.2]]:=by simp[X1K]
@[simp] theorem lows_snoc (a:List (Int×Int)) (r:Int×Int):X5z (a++[r])=X5z a++[[iC r.1]]:=by simp[X5z]
@[simp] theorem highs_snoc (a:List (Int×Int)) (r:Int×Int):X1N (a++[r])=X1N a++[[iC r.2]]:=by simp[X1N]
theorem Xbj (vars:List Vr) (inp:Bool) (hv:X0s vars) (t:Tm):Qu vars inp t=true->∀d:Nat,
  Con prog 221 true [lV vars,aT t] (.tup [aP (rgP vars t).1,lb (rgP vars t).2]) none d:=by
 induction t using Tm.ind with
 |h o n ks ih=>
 intro hf d;simp only[Qu,N3]at hf;have har:=X07 hf.1
 have hlen:ks.length<=33:=by
  have:(Q5 o).2<=33:=by unfold Q5;(repeat' split)<;>simp
  omega
 clear har;obtain⟨res,hres⟩:∃r,rgP vars (.mk o n ks)=r:=⟨_,rfl⟩;rw[hres];simp only[rgP]at hres;have ih':∀t∈ks,∀d,Con prog 221 true [lV vars,aT t] (.tup [aP (rgP vars t).1,lb (rgP vars t).2]) none d:=fun t ht d=>ih t ht (ZO hf.2 t ht) d;clear ih;refine X5 Tryz.func221 ?_;simp only[Tryz.f221];simp only[aT,Tm.enc];refine X2 ?_;refine X2 ?_;refine X0<|X0<|X1 ?_;refine X3<|(Xg [0,3,4,13,14] (fun(x:Nat×List (Int×Int))=>[(6,.v (.one (.own 1006))),(15,.v (li x.1))]) (fun(x:Nat×List (Int×Int))=>[(3,.box [.c (iC o),.c (iC n),.c (.sl 3 (Xx ks))]),(4,.box [.c (iC 0),.c (iC 0)]),(1006,.row 287 2 (X1K x.2))]) (fun(x:Nat×List (Int×Int))=>x.1<=ks.length/\x.2.length=x.1/\X1H vars ks=(X1H vars (ks.drop x.1)).map (x.2++ ·)/\∀p∈x.2,bnd p) (fun(x:Nat×List (Int×Int))=>ks.length - x.1) (0,[]) ⟨Nq _,rfl,by simp,by simp⟩ ?_ ?_)
 .exact X4 (fun n=>n) [1006]
 rintro⟨k,acc⟩ ⟨hk,hal,hJ,hb⟩;simp only[upS,X8,Xz]
 simp only[KN,Nat.reduceBEq,Nj,Nc,ins,Nat.reduceLT]
 simp only at hk hal hJ hb;refine X2 ?_;refine X0<|(X6 rfl (fun h5=>Xe ?_) (fun h5=>?_))
 ·simp only[BN]at h5;have hlt:k<ks.length:=by omega
  obtain⟨⟨eo,en,ek⟩,he,hd⟩:=Xt hlt;have he':=Wu he;simp only[Tm.enc]at he';have hw1:=XD hlt (by omega);rw[hd]at hJ;simp only[X1H]at hJ;have hk1:k+1<=ks.length:=hlt;have hmem:Tm.mk eo en ek∈ks:=N4 he;have hpb:=X82 hv _ (ZO hf.2 _ hmem);have hroom:W5 (k+1) 16:=Qc (by omega) (by omega);clear hlt h5;refine X0<|X3<|X0<|X1 ?_;refine Xh [⟨true,.tup [aP (rgP vars (.mk eo en ek)).1,lb (rgP vars (.mk eo en ek)).2],none⟩] ?_ ?_
  .first|exact ih' _ hmem _|exact trivial|simpa[*]using ih' _ hmem _
  refine X0<|X0<|X1 ?_;refine(Xb rfl (fun h9=>?_) fun h9=>?_)
  ·simp only[BN]at h9;rw[h9]at hJ;simp only[NB,Nc,Option.map_none]at hJ;rw[hJ]at hres;subst hres;refine X2 ?_;exact Xc
  simp only[BN]at h9;rw[N8 h9]at hJ;refine X1 ?_;refine X1 ?_
  exact⟨(k+1,acc++[(rgP vars (.mk eo en ek)).1]),⟨hk1,by simp[hal],by rw[hJ,Option.map_map];congr 1;funext z;simp,fun p hp=>by
   rcases Ni.1 hp with h|h
   .exact hb p h
   simp only[Ng,Dk,or_false]at h;rw[h]
   exact hpb h9⟩,by simp only;omega,X4 (fun n=>if n=1006 then 31 else n) []⟩
 simp only[BN]at h5;have hkl:k=ks.length:=by omega
 rw[hkl,Nw]at hJ;simp only[X1H,Option.map_some,Dq]at hJ;rw[hJ]at hres;subst hres;have hf1:Q3 vars inp o n acc.length=true:=by rw[hal,hkl];exact hf.1
 refine(Xi ?_);refine Xh [⟨true,.v (aP (QL vars o n acc)),none⟩] ?_ ?_
 .first|exact X9f vars inp o n _ acc hf1 hb _|exact trivial|simpa[*]using X9f vars inp o n _ acc hf1 hb _
 refine X0<|(X9t [(11,11),(38,11),(42,11),(4,4)] (by kernel_rfl) (by kernel_rfl) (by rfl) (by simp[evsH,hokB,QQ, *];rfl) ?_);exact(Xc (he:=by simp[XG,rgV,okR]))
theorem Xec (vars:List Vr) (inp:Bool) (hv:X0s vars) (t:Tm):Qu vars inp t=true->∀d:Nat,
  Con prog 97 true [lV vars,aT t] (.tup [li (rgQ vars t).1.1,li (rgQ vars t).1.2,lb (rgQ vars t).2]) none d:=by
 induction t using Tm.ind with
 |h o n ks ih=>
 intro hf d;simp only[Qu,N3]at hf;have har:=X07 hf.1
 have hlen:ks.length<=33:=by
  have:(Q5 o).2<=33:=by unfold Q5;(repeat' split)<;>simp
  omega
 clear har;obtain⟨res,hres⟩:∃r,rgQ vars (.mk o n ks)=r:=⟨_,rfl⟩;rw[hres];simp only[rgQ]at hres;have ih':∀t∈ks,∀d,Con prog 97 true [lV vars,aT t] (.tup [li (rgQ vars t).1.1,li (rgQ vars t).1.2,lb (rgQ vars t).2]) none d:=fun t ht d=>ih t ht (ZO hf.2 t ht) d;clear ih;refine X5 Tryz.func97 ?_;simp only[Tryz.f97];simp only[aT,Tm.enc];refine X2 ?_;refine X2 ?_;refine X2 ?_;refine X0<|X0<|X1 ?_;refine X3<|(Xg [0,3] (fun(x:Nat×List (Int×Int))=>[(7,.v (.one (.own 1007))),(8,.v (.one (.own 1008))),(9,.v (li x.1))]) (fun(x:Nat×List (Int×Int))=>[(3,.box [.c (iC o),.c (iC n),.c (.sl 3 (Xx ks))]),(1007,.row 3 1 (X5z x.2)),(1008,.row 3 1 (X1N x.2))]) (fun(x:Nat×List (Int×Int))=>x.1<=ks.length/\x.2.length=x.1/\X1H vars ks=(X1H vars (ks.drop x.1)).map (x.2++ ·)/\∀p∈x.2,bnd p) (fun(x:Nat×List (Int×Int))=>ks.length - x.1) (0,[]) ⟨Nq _,rfl,by simp,by simp⟩ ?_ ?_)
 .exact X4 (fun n=>if n=1007 then 15 else if n=1008 then 16 else n) []
 rintro⟨k,acc⟩ ⟨hk,hal,hJ,hb⟩;simp only[upS,X8,Xz]
 simp only[KN,Nat.reduceBEq,Nj,Nc,ins,Nat.reduceLT]
 simp only at hk hal hJ hb;refine X0<|X0<|X1 ?_;refine(X6 rfl (fun h6=>Xe ?_) (fun h6=>?_))
 ·simp only[BN]at h6;have hlt:k<ks.length:=by omega
  obtain⟨⟨eo,en,ek⟩,he,hd⟩:=Xt hlt;have he':=Wu he;simp only[Tm.enc]at he';have hw1:=XD hlt (by omega);rw[hd]at hJ;simp only[X1H]at hJ;have hk1:k+1<=ks.length:=hlt;have hmem:Tm.mk eo en ek∈ks:=N4 he;have hpb:=X82 hv _ (ZO hf.2 _ hmem);have hroom:W5 (k+1) 8:=Qc (by omega) (by omega);rw[<-(X95 vars (.mk eo en ek)).1]at hJ hpb;clear hlt h6;refine X0<|X3<|X0<|(Xo [⟨true,.tup [li (rgQ vars (.mk eo en ek)).1.1,li (rgQ vars (.mk eo en ek)).1.2,lb (rgQ vars (.mk eo en ek)).2],none⟩] ?_ ?_)
  .first|exact ih' _ hmem _|exact trivial|simpa[*]using ih' _ hmem _
  refine X0<|X0<|X1 ?_;refine(Xb rfl (fun h9=>?_) fun h9=>?_)
  ·simp only[BN]at h9;rw[h9]at hJ;simp only[NB,Nc,Option.map_none]at hJ;rw[hJ]at hres;subst hres;refine X2 ?_;exact Xc
  simp only[BN]at h9;rw[N8 h9]at hJ;have hq2:=(X95 vars (.mk eo en ek)).2 (by rw[<-(X95 vars (.mk eo en ek)).1];exact h9);refine X2 ?_;refine X1 ?_;refine X1 ?_
  exact⟨(k+1,acc++[(rgP vars (.mk eo en ek)).1]),⟨hk1,by simp[hal],by rw[hJ,Option.map_map];congr 1;funext z;simp,fun p hp=>by
   rcases Ni.1 hp with h|h
   .exact hb p h
   simp only[Ng,Dk,or_false]at h;rw[h]
   exact hpb h9⟩,by simp only;omega,X4 (fun n=>if n=1007 then 40 else if n=1008 then 44 else n) []⟩
 simp only[BN]at h6;have hkl:k=ks.length:=by omega
 rw[hkl,Nw]at hJ;simp only[X1H,Option.map_some,Dq]at hJ;rw[hJ]at hres;subst hres;have hf1:Q3 vars inp o n acc.length=true:=by rw[hal,hkl];exact hf.1
 refine(Xi ?_);refine Xh [⟨true,.tup [li (X4l vars o n acc).1,li (X4l vars o n acc).2],none⟩] ?_ ?_
 .first|exact Xal vars inp o n _ acc hf1 hb _|exact trivial|simpa[*]using Xal vars inp o n _ acc hf1 hb _
 refine X2 ?_;exact(Xc (he:=by simp[XG,rgW,okR]))
def X15 (vars:List Vr) (inp:Bool) (t:Tm):Int:=if Qu vars inp t=true then(if(rgP vars t).2=true then 0 else 3)else 1
theorem X7o (vars:List Vr) (inp:Bool) (hv:X0s vars) (hl:vars.length<=1000000000) (t:Tm) (hn:t.nodes<=1000000000) (d:Nat):
  Con prog 185 true [lV vars,aT t,lb inp] (.v (li (X15 vars inp t))) none d:=by
 have c1:=Xdf vars inp hl t hn;have c2:=Xbj vars inp hv t;obtain⟨o,n,ks⟩:=t;obtain⟨F,hF⟩:∃F,Qu vars inp (.mk o n ks)=F:=⟨_,rfl⟩;obtain⟨R,hR⟩:∃R,rgP vars (.mk o n ks)=R:=⟨_,rfl⟩;simp only[X15,hF,hR]at c1 c2⊢;clear hF hR;refine X5 Tryz.func185 ?_;simp only[Tryz.f185];simp only[aT,Tm.enc]at c1 c2⊢;refine X2 ?_;refine X0<|X0<|(Xo [⟨true,.v (lb F),none⟩] ?_ ?_)
 .first|exact c1 _|exact trivial|simpa[*]using c1 _
 refine(Xb rfl (fun h2=>?_) fun h2=>?_)
 ·simp only[BN]at h2;refine X2 ?_;exact Xc
 simp only[BN]at h2;refine X0<|X0<|(Xo [⟨true,.tup [aP R.1,lb R.2],none⟩] ?_ ?_)
 .first|exact c2 h2 _|exact trivial|simpa[*]using c2 h2 _
 refine X2 ?_;refine(Xb rfl (fun h7=>?_) fun h7=>?_)
 ·simp only[BN]at h7;refine X2 ?_;exact Xc
 simp only[BN]at h7;refine X2 ?_;exact Xc
theorem X7L (vars:List Vr) (inp:Bool) (hv:X0s vars) (hl:vars.length<=1000000000) (t:Tm) (hn:t.nodes<=1000000000) (d:Nat):
  Con prog 52 true [lV vars,aT t,lb inp] (.v (li (X15 vars inp t))) none d:=by
 have c1:=Xdl vars inp hl t hn;have c2:=Xec vars inp hv t;rw[(X95 vars t).1]at c2;obtain⟨o,n,ks⟩:=t;obtain⟨F,hF⟩:∃F,Qu vars inp (.mk o n ks)=F:=⟨_,rfl⟩;obtain⟨R,hR⟩:∃R,(rgP vars (.mk o n ks)).2=R:=⟨_,rfl⟩;obtain⟨S,hS⟩:∃S,(rgQ vars (.mk o n ks)).1=S:=⟨_,rfl⟩;simp only[X15,hF,hR,hS]at c1 c2⊢;clear hF hR hS;refine X5 Tryz.func52 ?_;simp only[Tryz.f52];simp only[aT,Tm.enc]at c1 c2⊢;refine X2 ?_;refine X0<|X0<|(Xo [⟨true,.v (lb F),none⟩] ?_ ?_)
 .first|exact c1 _|exact trivial|simpa[*]using c1 _
 refine(Xb rfl (fun h2=>?_) fun h2=>?_)
 ·simp only[BN]at h2;refine X2 ?_;exact Xc
 simp only[BN]at h2;refine Xh [⟨true,.tup [li S.1,li S.2,lb R],none⟩] ?_ ?_
 .first|exact c2 h2 _|exact trivial|simpa[*]using c2 h2 _
 refine X0<|X0<|X1 ?_;refine(Xb rfl (fun h7=>?_) fun h7=>?_)
 ·simp only[BN]at h7;refine X2 ?_;exact Xc
 simp only[BN]at h7;refine X2 ?_;exact Xc
def selI (k0:Int) (len:Nat):Int:=wr (1+Qg k0 0 (wr ((len:Int) - 2)))
def valN (vs:List Int) (o n:Int) (k:List Int):Int:=
 if o=0 then n else if o=24 then(vs[n.toNat]?).getD 0 else if o=6 then wr (-((k[0]?).getD 0))else if o=7 then WK (decide ((k[0]?).getD 0=0))
 else if o=23 then(if(k[0]?).getD 0=0 then(k[2]?).getD 0 else(k[1]?).getD 0)
 else if o=25 then(k[(selI ((k[0]?).getD 0) k.length).toNat]?).getD 0
 else binI o ((k[0]?).getD 0) ((k[1]?).getD 0)
mutual
def vT (vs:List Int):Tm->Int
 | .mk o n ks=>valN vs o n (vTs vs ks)
def vTs (vs:List Int):List Tm->List Int
 |[]=>[]
 |t::l=>vT vs t::vTs vs l
end
theorem Xcq (vs:List Int):∀l:List Tm,vTs vs l=l.map (vT vs)
 |[]=>by simp[vTs]
 |t::l=>by simp[vTs,Xcq vs l]
theorem kq1 {vars:List Vr} {inp:Bool} {o n:Int} {ks:List Tm} (h:Q3 vars inp o n ks.length=true) (ho:o=6\/o=7):∃a,ks=[a]:=by
 have:=X07 h;rw[show Q5 o=(1,1) by unfold Q5;rw[N7 (by omega),N8 ho]]at this;simp only at this
 match ks,this with
 |[a],_=>exact⟨a,rfl⟩
 |[],h=>simp at h
 |a::b::l,h=>simp at h;omega
theorem kq2 {vars:List Vr} {inp:Bool} {o n:Int} {ks:List Tm} (h:Q3 vars inp o n ks.length=true) (h1:¬o=0) (h2:¬o=24) (h3:¬o=6) (h4:¬o=7) (h5:¬o=23) (h6:¬o=25):∃a b,ks=[a,b]:=by
 have:=X07 h
 have hr:8<=o/\o<=22:=by
  refine Classical.byContradiction fun hc=>?_;rw[show Q5 o=(-1,-1) by unfold Q5;rw[N7 (by omega),N7 (by omega),N7 hc,N7 h5,N7 h6]]at this;simp at this
 rw[show Q5 o=(2,2) by unfold Q5;rw[N7 (by omega),N7 (by omega),N8 hr]]at this;simp only at this
 match ks,this with
 |[a,b],_=>exact⟨a,b,rfl⟩
 |[],h=>simp at h
 |[a],h=>simp at h
 |a::b::c::l,h=>simp at h;omega
theorem kq3 {vars:List Vr} {inp:Bool} {n:Int} {ks:List Tm} (h:Q3 vars inp 23 n ks.length=true):∃a b c,ks=[a,b,c]:=by
 have:=X07 h;rw[show Q5 23=(3,3) by decide]at this;simp only at this
 match ks,this with
 |[a,b,c],_=>exact⟨a,b,c,rfl⟩
 |[],h=>simp at h
 |[a],h=>simp at h
 |[a,b],h=>simp at h
 |a::b::c::e::l,h=>simp at h;omega
theorem kqN {vars:List Vr} {inp:Bool} {n:Int} {ks:List Tm} (h:Q3 vars inp 25 n ks.length=true):2<=ks.length/\ks.length<=33:=by
 have:=X07 h;rw[show Q5 25=(2,33) by decide]at this;simp only at this;omega
theorem X7h (vars:List Vr) (inp:Bool) (vs:List Int) (hvs:vs.length=vars.length) (t:Tm):Qu vars inp t=true->∀d:Nat,
  Con prog 133 true [lI vs,aT t] (.v (li (vT vs t))) none d:=by
 induction t using Tm.ind with
 |h o n ks ih=>
 intro hf d;simp only[Qu,N3]at hf;have hfk:=ZO hf.2;have hf:=hf.1;obtain⟨res,hres⟩:∃r,vT vs (.mk o n ks)=r:=⟨_,rfl⟩;rw[hres];simp only[vT,valN]at hres;have ih:=fun t ht=>ih t ht (hfk t ht);clear hfk;refine X5 Tryz.func133 ?_;simp only[Tryz.f133];simp only[aT,Tm.enc];refine X2 ?_;refine X0<|X0<|X1 ?_;refine X3<|X0<|X1 ?_;refine(X6 rfl (fun h3=>?_) (fun h3=>?_))
 ·simp only[BN]at h3;rw[N8 h3]at hres;subst hres;refine X2 ?_;exact Xc
 simp only[BN]at h3;rw[N7 h3]at hres;refine X2 ?_;refine(X6 rfl (fun h7=>?_) (fun h7=>?_))
 ·simp only[BN]at h7;rw[N8 h7]at hres;subst h7;obtain⟨hn0,v,hv,_⟩:=X3Q hf;have hlt:n.toNat<vs.length:=by rw[hvs];exact(N6.1 hv).1
  obtain⟨x,hx⟩:∃x,vs[n.toNat]? =some x:=⟨vs[n.toNat],by simp[hlt]⟩;rw[hx]at hres;simp only[Option.getD_some]at hres;subst hres;clear hlt hv;refine X2 ?_;exact Xc
 simp only[BN]at h7;rw[N7 h7]at hres;refine X2 ?_;refine(X6 rfl (fun h11=>?_) (fun h11=>?_))
 ·simp only[BN]at h11;rw[N8 h11]at hres;obtain⟨⟨ao,an,ak⟩,rfl⟩:=kq1 hf (.inl h11);have ca:=ih _ (Nl.2 rfl);simp only[aT,Tm.enc,Nk,Nr]at ca;obtain⟨A,hA⟩:∃x,vT vs (.mk ao an ak)=x:=⟨_,rfl⟩;rw[hA]at ca;rw[show vTs vs [Tm.mk ao an ak]=[A] by simp[vTs,hA]]at hres;simp only[List.getElem?_cons_zero,Option.getD_some]at hres;subst hres;clear ih hA;refine Xh [⟨true,.v (li A),none⟩] ?_ ?_
  .first|exact ca _|exact trivial|simpa[*]using ca _
  exact Xc
 simp only[BN]at h11;rw[N7 h11]at hres;refine X2 ?_;refine(X6 rfl (fun h15=>?_) (fun h15=>?_))
 ·simp only[BN]at h15;rw[N8 h15]at hres;obtain⟨⟨ao,an,ak⟩,rfl⟩:=kq1 hf (.inr h15);have ca:=ih _ (Nl.2 rfl);simp only[aT,Tm.enc,Nk,Nr]at ca;obtain⟨A,hA⟩:∃x,vT vs (.mk ao an ak)=x:=⟨_,rfl⟩;rw[hA]at ca;rw[show vTs vs [Tm.mk ao an ak]=[A] by simp[vTs,hA]]at hres;simp only[List.getElem?_cons_zero,Option.getD_some]at hres;subst hres;clear ih hA;refine Xh [⟨true,.v (li A),none⟩,⟨true,.v (li (WK (decide (A=0)))),none⟩] ?_ ?_
  .first|exact⟨ca _,QF _ _⟩|exact trivial|(repeat' first|exact trivial|exact ca _|exact QF _ _|apply And.intro)
  exact Xc
 simp only[BN]at h15;rw[N7 h15]at hres;refine X2 ?_;refine(X6 rfl (fun h19=>?_) (fun h19=>?_))
 ·simp only[BN]at h19;rw[N8 h19]at hres;subst h19;obtain⟨⟨ao,an,ak⟩,⟨bo,bn,bk⟩,⟨co,cn,ck⟩,rfl⟩:=kq3 hf;have ca:=ih (.mk ao an ak) (by simp);have cb:=ih (.mk bo bn bk) (by simp);have cc:=ih (.mk co cn ck) (by simp);simp only[aT,Tm.enc,Nk,Nr]at ca cb cc;obtain⟨A,hA⟩:∃x,vT vs (.mk ao an ak)=x:=⟨_,rfl⟩;obtain⟨B,hB⟩:∃x,vT vs (.mk bo bn bk)=x:=⟨_,rfl⟩;obtain⟨C,hC⟩:∃x,vT vs (.mk co cn ck)=x:=⟨_,rfl⟩;rw[hA]at ca;rw[hB]at cb;rw[hC]at cc;rw[show vTs vs [Tm.mk ao an ak,Tm.mk bo bn bk,Tm.mk co cn ck]=[A,B,C] by simp[vTs,hA,hB,hC]]at hres;simp only[List.getElem?_cons_zero,List.getElem?_cons_succ,Option.getD_some]at hres;clear ih hA hB hC;refine X0<|X0<|(Xo [⟨true,.v (li A),none⟩] ?_ ?_)
  .first|exact ca _|exact trivial|simpa[*]using ca _
  refine(Xb rfl (fun h21=>?_) fun h21=>?_)
  ·simp only[BN]at h21;rw[N7 h21]at hres;subst hres;refine Xh [⟨true,.v (li B),none⟩] ?_ ?_
   .first|exact cb _|exact trivial|simpa[*]using cb _
   exact Xc
  simp only[BN]at h21;rw[N8 (by simpa using h21)]at hres;subst hres;refine Xh [⟨true,.v (li C),none⟩] ?_ ?_
  .first|exact cc _|exact trivial|simpa[*]using cc _
  exact Xc
 simp only[BN]at h19;rw[N7 h19]at hres;refine X2 ?_;refine(Xb rfl (fun h27=>?_) fun h27=>?_)
 ·simp only[BN]at h27;rw[N8 h27]at hres;subst h27;have hln:=kqN hf;obtain⟨⟨ao,an,ak⟩,he0⟩:∃t,ks[0]? =some t:=⟨ks[0],by simp⟩;have ca:=ih _ (N4 he0);have he0':=Wu he0;simp only[aT,Tm.enc,Nk,Nr]at ca he0';obtain⟨A,hA⟩:∃x,vT vs (.mk ao an ak)=x:=⟨_,rfl⟩;rw[hA]at ca;rw[Xcq,Nn,Nn,he0,Option.map_some,Option.getD_some,hA,NW]at hres;have hw1:IntKind.i64.wrap ((ks.length:Int) - 2)=(ks.length:Int) - 2:=Xa;unfold selI at hres;simp only[wr,hw1]at hres;have hh:=X4p (n:=A) (lo:=0) (hi:=(ks.length:Int) - 2) (by omega);obtain⟨H,hH⟩:∃x,Qg A 0 ((ks.length:Int) - 2)=x:=⟨_,rfl⟩;have cheld:=X9D A 0 ((ks.length:Int) - 2);rw[hH]at hres hh cheld;have hw2:IntKind.i64.wrap (1+H)=1+H:=Xa;rw[hw2]at hres;obtain⟨⟨bo,bn,bk⟩,he1⟩:∃t,ks[(1+H).toNat]? =some t:=⟨ks[(1+H).toNat]'(by omega),by simp⟩;have cb:=ih _ (N4 he1);have he1':=Wu he1;simp only[aT,Tm.enc,Nk,Nr]at cb he1';rw[he1,Option.map_some,Option.getD_some]at hres;obtain⟨B,hB⟩:∃x,vT vs (.mk bo bn bk)=x:=⟨_,rfl⟩;rw[hB]at cb hres;subst hres;have hp1:0<=1+H:=by omega
  have hp2:1<=ks.length:=by omega
  clear ih hA hB hH he0 he1 hln hf hvs;refine X0<|(XU [⟨true,.v (li A),none⟩,⟨true,.v (li H),none⟩,⟨true,.v (li B),none⟩] (by kernel_rfl) (by kernel_rfl) (by rfl) (by simp[*];first|exact⟨rfl,Iff.rfl⟩|exact⟨rfl,trivial⟩|rfl) ?_ ?_)
  .first|exact⟨ca _,cheld _,cb _⟩|exact trivial|(repeat' first|exact trivial|exact ca _|exact cheld _|exact cb _|apply And.intro)
  exact Xc
 simp only[BN]at h27;rw[N7 h27]at hres;obtain⟨⟨ao,an,ak⟩,⟨bo,bn,bk⟩,rfl⟩:=kq2 hf h3 h7 h11 h15 h19 h27;have ca:=ih (.mk ao an ak) (by simp);have cb:=ih (.mk bo bn bk) (by simp);simp only[aT,Tm.enc,Nk,Nr]at ca cb;simp only[vTs,List.getElem?_cons_zero,List.getElem?_cons_succ,Option.getD_some]at hres;obtain⟨A,hA⟩:∃x,vT vs (.mk ao an ak)=x:=⟨_,rfl⟩;obtain⟨B,hB⟩:∃x,vT vs (.mk bo bn bk)=x:=⟨_,rfl⟩;rw[hA]at ca hres;rw[hB]at cb hres;subst hres;clear ih hA hB;refine X0<|(XU [⟨true,.v (li A),none⟩,⟨true,.v (li B),none⟩,⟨true,.v (li (binI o A B)),none⟩] (by kernel_rfl) (by kernel_rfl) (by rfl) (by simp[*];first|exact⟨rfl,Iff.rfl⟩|exact⟨rfl,trivial⟩|rfl) ?_ ?_)
 .first|exact⟨ca _,cb _,Xc8 _ _ _ _⟩|exact trivial|(repeat' first|exact trivial|exact ca _|exact cb _|exact Xc8 _ _ _ _|apply And.intro)
 exact Xc
end Go.Proofs.YtdajceakaakdoaaGreat
