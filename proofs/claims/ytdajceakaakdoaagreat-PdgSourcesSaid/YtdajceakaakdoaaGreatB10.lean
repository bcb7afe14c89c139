/- Contracts of functions and plain facts about what they compute. Conditions: as each theorem states. -/
import Derived.Test.YtdajceakaakdoaaGreatB3
import Derived.Test.YtdajceakaakdoaaGreatB1
import Derived.Test.YtdajceakaakdoaaGreatB6
import Derived.Test.YtdajceakaakdoaaGreatB2
set_option linter.unusedSimpArgs false
set_option linter.unusedVariables false
set_option linter.unnecessarySimpa false
set_option maxRecDepth 100000
set_option maxHeartbeats 2000000
namespace Go.Proofs.YtdajceakaakdoaaGreat
open Go Go.Hl
open Tryz(prog)
def okR (p:Int×Int):Bool:=decide (-1048576<=p.1)&&decide (p.2<=1048576)
def rgV (vars:List Vr) (o n:Int):Option (List (Int×Int))->(Int×Int)×Bool
 |none=>((0,0),false)
 |some k=>(QM vars o n k,okR (QM vars o n k))
def rgW (vars:List Vr) (o n:Int):Option (List (Int×Int))->(Int×Int)×Bool
 |none=>((0,0),false)
 |some k=>(X3H vars o n k,okR (X3H vars o n k))
mutual
def rgP (vars:List Vr):Tm->(Int×Int)×Bool
 | .mk o n ks=>rgV vars o n (X1b vars ks)
def X1b (vars:List Vr):List Tm->Option (List (Int×Int))
 |[]=>some []
 |t::l=>if(rgP vars t).2=true then(X1b vars l).map ((rgP vars t).1:: ·)else none
end
def rgQ (vars:List Vr):Tm->(Int×Int)×Bool
 | .mk o n ks=>rgW vars o n (X1b vars ks)
theorem X7l (vars:List Vr) (t:Tm):(rgQ vars t).2=(rgP vars t).2/\((rgP vars t).2=true->(rgQ vars t).1=(rgP vars t).1):=by
 obtain⟨o,n,ks⟩:=t;simp only[rgQ,rgP];cases X1b vars ks with
 |none=>simp[rgV,rgW]
 | some k=>
   simp only[rgV,rgW,X3H];by_cases h:o=0
   .subst h;simp only[Nf,QM];by_cases h2:n< -1048576\/1048576<n
    .rw[Na h2];have:okR (n,n)=false:=by simp only[okR,NB,Nj];omega
     rw[this];exact⟨by decide,fun h=>by cases h⟩
    rw[N7 h2];exact⟨rfl,fun _=>rfl⟩
   simp only[N7 h];exact⟨trivial,fun _=>trivial⟩
def X0l (vars:List Vr):Prop:=∀v∈vars,v.low<=v.high∧-1048576<=v.low/\v.high<=1048576
theorem X5h {p q:Int×Int} (hp:p.1<=p.2) (hq:q.1<=q.2):(Zu p q).1<=(Zu p q).2:=by
 simp only[Zu,mn,mx]
 (repeat' split)<;>omega
theorem X8N:∀{l:List (Int×Int)} {p:Int×Int},(∀q∈l,bnd q)->p.1<=p.2->(X2s l p).1<=(X2s l p).2
 |[],p,_,hp=>hp
 |q::l,p,h,hp=>X8N (l:=l) (p:=Zu p q) (fun r hr=>h r (NS _ hr)) (X5h hp (h q (by simp)).2.1)
theorem rule_le {vars:List Vr} {inp:Bool} {o n:Int} {k:List (Int×Int)} (hv:X0l vars) (hf:Qi vars inp o n k.length=true) (hk:∀p∈k,bnd p):(QM vars o n k).1<=(QM vars o n k).2:=by
 have har:=X3d hf;have hrf:o=24->0<=n/\∃v,vars[n.toNat]? =some v/\(inp=true->v.kind≠0):=fun h=>X5N (by rw[<-h];exact hf)
 have hg:∀i:Nat,(g2 k i).1<=(g2 k i).2∧-1048576<=(g2 k i).1/\(g2 k i).2<=1048576:=by
  intro i;unfold g2;cases hi:k[i]? with
  |none=>simp
  |some p=>have:=hk p (N3 hi);exact⟨this.2.1,this.1,this.2.2⟩
 have h0:=hg 0;have h1:=hg 1;unfold QM;generalize g2 k 0=a at*;generalize g2 k 1=b at*;split
 .exact D9 _
 split
 .rename_i h24;obtain⟨_,v,hv1,_⟩:=hrf h24;rw[hv1];exact(hv v (N3 hv1)).1
 split
 .simp only;omega
 split
 .simp only;omega
 split
 .simp only;omega
 split
 .unfold mulP;exact X5h (X5h (X5h (D9 _) (D9 _)) (D9 _)) (D9 _)
 split
 .simp only[mx]
  (repeat' split)<;>simp only<;>omega
 split
 .simp only[X1t,X5c,mn,mx]
  (repeat' split)<;>omega
 split
 .simp only[mn]
  (repeat' split)<;>omega
 split
 .simp only[mx]
  (repeat' split)<;>omega
 split
 .exact X8N (fun q hq=>hk q (DD hq)) h1.1
 simp
theorem X9G {vars:List Vr}:∀{l:List Tm} {k:List (Int×Int)},X1b vars l=some k->k.length=l.length
 |[],k,h=>by simp only[X1b]at h;cases h;rfl
 | t::l,k,h=>by
   simp only[X1b]at h;split at h
   .simp only[N8]at h;obtain⟨k',h',rfl⟩:=h;simp[X9G h']
   cases h
mutual
theorem X87 {vars:List Vr} {inp:Bool} (hv:X0l vars):∀(t:Tm),QT vars inp t=true->(rgP vars t).2=true->bnd (rgP vars t).1
 | .mk o n ks,hf,h=>by
   simp only[QT,N4]at hf;simp only[rgP]at h⊢;cases hk:X1b vars ks with
   |none=>rw[hk]at h;cases h
   | some k=>
     rw[hk]at h;simp only[rgV,okR,N4,N6]at h⊢;have hb:=X9X hv ks hf.2 k hk;have hl:=X9G hk;have:=rule_le hv (by rw[hl];exact hf.1) hb;exact⟨h.1,this,h.2⟩
theorem X9X {vars:List Vr} {inp:Bool} (hv:X0l vars):∀(l:List Tm),WC vars inp l=true->∀k,X1b vars l=some k->∀p∈k,bnd p
 |[],_,k,h,p,hp=>by simp only[X1b]at h;cases h;cases hp
 | t ::l,hf,k,h,p,hp=>by
   simp only[WC,N4]at hf;simp only[X1b]at h;split at h
   .rename_i hok;simp only[N8]at h;obtain⟨k',h',rfl⟩:=h;rcases Nh.1 hp with rfl|hp
    .exact X87 hv t hf.1 hok
    exact X9X hv l hf.2 k' h' p hp
   cases h
end
@[simp] theorem encP_snoc (a:List (Int×Int)) (r:Int×Int):X1r (a++[r])=X1r a++[[iC r.1,iC r.2]]:=by simp[X1r]
@[simp] theorem lows_snoc (a:List (Int×Int)) (r:Int×Int):X5b (a++[r])=X5b a++[[iC r.1]]:=by simp[X5b]
@[simp] theorem highs_snoc (a:List (Int×Int)) (r:Int×Int):X1o (a++[r])=X1o a++[[iC r.2]]:=by simp[X1o]
theorem Xaz (vars:List Vr) (inp:Bool) (hv:X0l vars) (t:Tm):QT vars inp t=true->∀d:Nat,
  Con prog 221 true [lV vars,aT t] (.tup [aP (rgP vars t).1,lb (rgP vars t).2]) none d:=by
 induction t using Tm.ind with
 |h o n ks ih=>
 intro hf d;simp only[QT,N4]at hf;have har:=X3d hf.1
 have hlen:ks.length<=33:=by
  have:(Qp o).2<=33:=by unfold Qp;(repeat' split)<;>simp
  omega
 clear har;obtain⟨res,hres⟩:∃r,rgP vars (.mk o n ks)=r:=⟨_,rfl⟩;rw[hres];simp only[rgP]at hres;have ih':∀t∈ks,∀d,Con prog 221 true [lV vars,aT t] (.tup [aP (rgP vars t).1,lb (rgP vars t).2]) none d:=fun t ht d=>ih t ht (X05 hf.2 t ht) d;clear ih;refine X6 Tryz.func221 ?_;simp only[Tryz.f221];simp only[aT,Tm.enc];refine X1 ?_;refine X1 ?_;refine X0<|X0<|X2 ?_;refine X3<|(Xd [0,3,4,13,14] (fun(x:Nat×List (Int×Int))=>[(6,.v (.one (.own 1006))),(15,.v (li x.1))]) (fun(x:Nat×List (Int×Int))=>[(3,.box [.c (iC o),.c (iC n),.c (.sl 3 (XA ks))]),(4,.box [.c (iC 0),.c (iC 0)]),(1006,.row 287 2 (X1r x.2))]) (fun(x:Nat×List (Int×Int))=>x.1<=ks.length/\x.2.length=x.1/\X1b vars ks=(X1b vars (ks.drop x.1)).map (x.2++ ·)/\∀p∈x.2,bnd p) (fun(x:Nat×List (Int×Int))=>ks.length - x.1) (0,[]) ⟨Nq _,rfl,by simp,by simp⟩ ?_ ?_)
 .exact X4 (fun n=>n) [1006]
 rintro⟨k,acc⟩ ⟨hk,hal,hJ,hb⟩;simp only[upS,X5,Xy]
 try simp only[X5,KN,Nat.reduceBEq,Nf,Nc,ins,Nat.reduceLT]
 simp only at hk hal hJ hb;refine X1 ?_;refine X0<|(X8 rfl (fun h5=>Xb ?_) (fun h5=>?_))
 ·(try simp only[BN]at h5);have hlt:k<ks.length:=by omega
  obtain⟨⟨eo,en,ek⟩,he,hd⟩:=Xu hlt;have he':=Wx he;simp only[Tm.enc]at he';have hw1:=XE hlt (by omega);rw[hd]at hJ;simp only[X1b]at hJ;have hk1:k+1<=ks.length:=hlt;have hmem:Tm.mk eo en ek∈ks:=N3 he;have hpb:=X87 hv _ (X05 hf.2 _ hmem);have hroom:W4 (k+1) 16:=XX (by omega) (by omega);clear hlt h5;refine X0<|X3<|X0<|X2 ?_;refine Xk [⟨true,.tup [aP (rgP vars (.mk eo en ek)).1,lb (rgP vars (.mk eo en ek)).2],none⟩] ?_ ?_
  .first|exact ih' _ hmem _|exact trivial|simpa[*]using ih' _ hmem _
  refine X0<|X0<|X2 ?_;refine(Xc rfl (fun h9=>?_) fun h9=>?_)
  ·(try simp only[BN]at h9);rw[h9]at hJ;simp only[Nz,Nc,Option.map_none]at hJ;rw[hJ]at hres;subst hres;refine X1 ?_;exact Xf
  (try simp only[BN]at h9);rw[Na h9]at hJ;refine X2 ?_;refine X2 ?_
  exact⟨(k+1,acc++[(rgP vars (.mk eo en ek)).1]),⟨hk1,by simp[hal],by rw[hJ,Option.map_map];congr 1;funext z;simp,fun p hp=>by
   rcases Ng.1 hp with h|h
   .exact hb p h
   simp only[Nh,De,or_false]at h;rw[h]
   exact hpb h9⟩,by simp only;omega,X4 (fun n=>if n=1006 then 31 else n) []⟩
 (try simp only[BN]at h5);have hkl:k=ks.length:=by omega
 rw[hkl,Nt]at hJ;simp only[X1b,Option.map_some,Dq]at hJ;rw[hJ]at hres;subst hres;have hf1:Qi vars inp o n acc.length=true:=by rw[hal,hkl];exact hf.1
 refine(Xg ?_);refine Xk [⟨true,.v (aP (QM vars o n acc)),none⟩] ?_ ?_
 .first|exact X8K vars inp o n _ acc hf1 hb _|exact trivial|simpa[*]using X8K vars inp o n _ acc hf1 hb _
 refine X0<|(X96 [(11,11),(38,11),(42,11),(4,4)] (by kernel_rfl) (by kernel_rfl) (by rfl) (by simp[evsH,X4E,Qy, *];rfl) ?_);exact(Xf (he:=by simp[XL,rgV,okR]))
theorem XcW (vars:List Vr) (inp:Bool) (hv:X0l vars) (t:Tm):QT vars inp t=true->∀d:Nat,
  Con prog 97 true [lV vars,aT t] (.tup [li (rgQ vars t).1.1,li (rgQ vars t).1.2,lb (rgQ vars t).2]) none d:=by
 induction t using Tm.ind with
 |h o n ks ih=>
 intro hf d;simp only[QT,N4]at hf;have har:=X3d hf.1
 have hlen:ks.length<=33:=by
  have:(Qp o).2<=33:=by unfold Qp;(repeat' split)<;>simp
  omega
 clear har;obtain⟨res,hres⟩:∃r,rgQ vars (.mk o n ks)=r:=⟨_,rfl⟩;rw[hres];simp only[rgQ]at hres;have ih':∀t∈ks,∀d,Con prog 97 true [lV vars,aT t] (.tup [li (rgQ vars t).1.1,li (rgQ vars t).1.2,lb (rgQ vars t).2]) none d:=fun t ht d=>ih t ht (X05 hf.2 t ht) d;clear ih;refine X6 Tryz.func97 ?_;simp only[Tryz.f97];simp only[aT,Tm.enc];refine X1 ?_;refine X1 ?_;refine X1 ?_;refine X0<|X0<|X2 ?_;refine X3<|(Xd [0,3] (fun(x:Nat×List (Int×Int))=>[(7,.v (.one (.own 1007))),(8,.v (.one (.own 1008))),(9,.v (li x.1))]) (fun(x:Nat×List (Int×Int))=>[(3,.box [.c (iC o),.c (iC n),.c (.sl 3 (XA ks))]),(1007,.row 3 1 (X5b x.2)),(1008,.row 3 1 (X1o x.2))]) (fun(x:Nat×List (Int×Int))=>x.1<=ks.length/\x.2.length=x.1/\X1b vars ks=(X1b vars (ks.drop x.1)).map (x.2++ ·)/\∀p∈x.2,bnd p) (fun(x:Nat×List (Int×Int))=>ks.length - x.1) (0,[]) ⟨Nq _,rfl,by simp,by simp⟩ ?_ ?_)
 .exact X4 (fun n=>if n=1007 then 15 else if n=1008 then 16 else n) []
 rintro⟨k,acc⟩ ⟨hk,hal,hJ,hb⟩;simp only[upS,X5,Xy]
 try simp only[X5,KN,Nat.reduceBEq,Nf,Nc,ins,Nat.reduceLT]
 simp only at hk hal hJ hb;refine X0<|X0<|X2 ?_;refine(X8 rfl (fun h6=>Xb ?_) (fun h6=>?_))
 ·(try simp only[BN]at h6);have hlt:k<ks.length:=by omega
  obtain⟨⟨eo,en,ek⟩,he,hd⟩:=Xu hlt;have he':=Wx he;simp only[Tm.enc]at he';have hw1:=XE hlt (by omega);rw[hd]at hJ;simp only[X1b]at hJ;have hk1:k+1<=ks.length:=hlt;have hmem:Tm.mk eo en ek∈ks:=N3 he;have hpb:=X87 hv _ (X05 hf.2 _ hmem);have hroom:W4 (k+1) 8:=XX (by omega) (by omega);rw[<-(X7l vars (.mk eo en ek)).1]at hJ hpb;clear hlt h6;refine X0<|X3<|X0<|(Xo [⟨true,.tup [li (rgQ vars (.mk eo en ek)).1.1,li (rgQ vars (.mk eo en ek)).1.2,lb (rgQ vars (.mk eo en ek)).2],none⟩] ?_ ?_)
  .first|exact ih' _ hmem _|exact trivial|simpa[*]using ih' _ hmem _
  refine X0<|X0<|X2 ?_;refine(Xc rfl (fun h9=>?_) fun h9=>?_)
  ·(try simp only[BN]at h9);rw[h9]at hJ;simp only[Nz,Nc,Option.map_none]at hJ;rw[hJ]at hres;subst hres;refine X1 ?_;exact Xf
  (try simp only[BN]at h9);rw[Na h9]at hJ;have hq2:=(X7l vars (.mk eo en ek)).2 (by rw[<-(X7l vars (.mk eo en ek)).1];exact h9);refine X1 ?_;refine X2 ?_;refine X2 ?_
  exact⟨(k+1,acc++[(rgP vars (.mk eo en ek)).1]),⟨hk1,by simp[hal],by rw[hJ,Option.map_map];congr 1;funext z;simp,fun p hp=>by
   rcases Ng.1 hp with h|h
   .exact hb p h
   simp only[Nh,De,or_false]at h;rw[h]
   exact hpb h9⟩,by simp only;omega,X4 (fun n=>if n=1007 then 40 else if n=1008 then 44 else n) []⟩
 (try simp only[BN]at h6);have hkl:k=ks.length:=by omega
 rw[hkl,Nt]at hJ;simp only[X1b,Option.map_some,Dq]at hJ;rw[hJ]at hres;subst hres;have hf1:Qi vars inp o n acc.length=true:=by rw[hal,hkl];exact hf.1
 refine(Xg ?_);refine Xk [⟨true,.tup [li (X3H vars o n acc).1,li (X3H vars o n acc).2],none⟩] ?_ ?_
 .first|exact X8Q vars inp o n _ acc hf1 hb _|exact trivial|simpa[*]using X8Q vars inp o n _ acc hf1 hb _
 refine X1 ?_;exact(Xf (he:=by simp[XL,rgW,okR]))
def X0Y (vars:List Vr) (inp:Bool) (t:Tm):Int:=if QT vars inp t=true then(if(rgP vars t).2=true then 0 else 3)else 1
theorem X6C (vars:List Vr) (inp:Bool) (hv:X0l vars) (hl:vars.length<=1000000000) (t:Tm) (hn:t.nodes<=1000000000) (d:Nat):
  Con prog 185 true [lV vars,aT t,lb inp] (.v (li (X0Y vars inp t))) none d:=by
 have c1:=XcY vars inp hl t hn;have c2:=Xaz vars inp hv t;obtain⟨o,n,ks⟩:=t;obtain⟨F,hF⟩:∃F,QT vars inp (.mk o n ks)=F:=⟨_,rfl⟩;obtain⟨R,hR⟩:∃R,rgP vars (.mk o n ks)=R:=⟨_,rfl⟩;simp only[X0Y,hF,hR]at c1 c2⊢;clear hF hR;refine X6 Tryz.func185 ?_;simp only[Tryz.f185];simp only[aT,Tm.enc]at c1 c2⊢;refine X1 ?_;refine X0<|X0<|(Xo [⟨true,.v (lb F),none⟩] ?_ ?_)
 .first|exact c1 _|exact trivial|simpa[*]using c1 _
 refine(Xc rfl (fun h2=>?_) fun h2=>?_)
 ·(try simp only[BN]at h2);refine X1 ?_;exact Xf
 (try simp only[BN]at h2);refine X0<|X0<|(Xo [⟨true,.tup [aP R.1,lb R.2],none⟩] ?_ ?_)
 .first|exact c2 h2 _|exact trivial|simpa[*]using c2 h2 _
 refine X1 ?_;refine(Xc rfl (fun h7=>?_) fun h7=>?_)
 ·(try simp only[BN]at h7);refine X1 ?_;exact Xf
 (try simp only[BN]at h7);refine X1 ?_;exact Xf
theorem X6B (vars:List Vr) (inp:Bool) (hv:X0l vars) (hl:vars.length<=1000000000) (t:Tm) (hn:t.nodes<=1000000000) (d:Nat):
  Con prog 52 true [lV vars,aT t,lb inp] (.v (li (X0Y vars inp t))) none d:=by
 have c1:=XcI vars inp hl t hn;have c2:=XcW vars inp hv t;rw[(X7l vars t).1]at c2;obtain⟨o,n,ks⟩:=t;obtain⟨F,hF⟩:∃F,QT vars inp (.mk o n ks)=F:=⟨_,rfl⟩;obtain⟨R,hR⟩:∃R,(rgP vars (.mk o n ks)).2=R:=⟨_,rfl⟩;obtain⟨S,hS⟩:∃S,(rgQ vars (.mk o n ks)).1=S:=⟨_,rfl⟩;simp only[X0Y,hF,hR,hS]at c1 c2⊢;clear hF hR hS;refine X6 Tryz.func52 ?_;simp only[Tryz.f52];simp only[aT,Tm.enc]at c1 c2⊢;refine X1 ?_;refine X0<|X0<|(Xo [⟨true,.v (lb F),none⟩] ?_ ?_)
 .first|exact c1 _|exact trivial|simpa[*]using c1 _
 refine(Xc rfl (fun h2=>?_) fun h2=>?_)
 ·(try simp only[BN]at h2);refine X1 ?_;exact Xf
 (try simp only[BN]at h2);refine Xk [⟨true,.tup [li S.1,li S.2,lb R],none⟩] ?_ ?_
 .first|exact c2 h2 _|exact trivial|simpa[*]using c2 h2 _
 refine X0<|X0<|X2 ?_;refine(Xc rfl (fun h7=>?_) fun h7=>?_)
 ·(try simp only[BN]at h7);refine X1 ?_;exact Xf
 (try simp only[BN]at h7);refine X1 ?_;exact Xf
def WO (v:Vr):Prop:=QX v.low v.high=false\/(v.kind≠0/\v.init≠0)\/(v.kind=0/\(v.init<v.low\/v.high<v.init))
instance (v:Vr):Decidable (WO v):=by unfold WO;exact inferInstance
def Zm (seen:List Vr) (v:Vr):Int:=
 if ZT v.name=false then 7 else if(seen.any fun w=>decide (w.name=v.name))=true then 8 else if v.kind<0\/3<v.kind then 1 else if WO v then 3 else 0
def vcs:List Vr->List Vr->Int
 |_,[]=>0
 |seen,v::l=>if Zm seen v=0 then vcs (seen++[v]) l else Zm seen v
def X3I (vars:List Vr) (kind:Int):Bool:=decide (4096<spc vars kind)||(decide (kind=3)&&decide (256<spc vars kind))
def X0b (vars:List Vr):Int:=if vcs [] vars=0 then(if([1,2,3].any (X3I vars))=true then 4 else 0)else vcs [] vars
theorem X3f:∀(l seen:List Vr),vcs seen l=0->X0l l
 |[],_,_,v,hv=>by cases hv
 | w :: l,seen,h,v,hv=>by
   simp only[vcs]at h;split at h
   .rename_i h0;rcases Nh.1 hv with rfl|hv
    .unfold Zm at h0;split at h0
     .cases h0
     split at h0
     .cases h0
     split at h0
     .cases h0
     split at h0
     .cases h0
     rename_i hk;unfold WO at hk
     have hb:QX v.low v.high=true:=by
      cases hb:QX v.low v.high with
      |true=>rfl
      |false=>exact absurd (.inl hb) hk
     simp only[QX,N4,N6]at hb;omega
    exact X3f l _ h v hv
   rename_i h0;exact absurd h h0
def X6i (vars:List Vr):List Int->Int
 |[]=>0
 |k::l=>if X3I vars k=true then 4 else X6i vars l
theorem X6H (vars:List Vr):∀l:List Int,X6i vars l=if l.any (X3I vars)=true then 4 else 0
 |[]=>by simp[X6i]
 | k::l=>by
   simp only[X6i,List.any_cons,X6H vars l];by_cases hb:X3I vars k=true
   .simp[hb]
   simp only[DK]at hb;simp[hb]
theorem Xcb (vars:List Vr) (hl:vars.length<=1000000) (d:Nat):Con prog 115 true [lV vars] (.v (li (X0b vars))) none d:=by
 obtain⟨res,hres⟩:∃r,X0b vars=r:=⟨_,rfl⟩;rw[hres];obtain⟨cd,hcd⟩:∃r,vcs [] vars=r:=⟨_,rfl⟩;have hgood:cd=0->X1K vars:=fun h=>X3f vars [] (hcd.trans h);unfold X0b at hres;rw[hcd]at hres;refine X6 Tryz.func115 ?_;simp only[Tryz.f115];refine X1 ?_;refine X0<|X0<|X2 ?_;refine X3<|(Xd [0,10,11] (fun(x:Nat)=>[(12,.v (li x))]) (fun x=>[]) (fun x=>x<=vars.length/\vcs (vars.take x) (vars.drop x)=cd) (fun x=>vars.length - x) (0:Nat) ⟨Nq _,hcd⟩ ?_ ?_)
 .exact X4 (fun n=>n) []
 rintro k ⟨hk,hJ⟩;simp only[upS,X5,Xy]
 try simp only[X5,KN,Nat.reduceBEq,Nf,Nc,ins,Nat.reduceLT]
 clear hcd;refine X1 ?_;refine X0<|(X8 rfl (fun h4=>Xb ?_) (fun h4=>?_))
 ·(try simp only[BN]at h4);have hlt:k<vars.length:=by omega
  obtain⟨v,he,hd⟩:=Xu hlt;have hw1:=XE hlt (by omega);have hk1:k+1<=vars.length:=hlt;have hkl:(vars.take k).length<=1000000000:=by rw[NG];omega
  rw[hd]at hJ;simp only[vcs]at hJ;rw[<-WA he]at hJ;clear hlt h4 hgood;refine X0<|X3<|X0<|X2 ?_;refine X1 ?_;refine X3<|X0<|(Xo [⟨true,.v (lb (ZT v.name)),none⟩] ?_ ?_)
  .first|exact X2q _ _|exact trivial|simpa[*]using X2q _ _
  refine(X8 rfl (fun h8=>?_) (fun h8=>?_))
  ·(try simp only[BN]at h8);have hc:Zm (vars.take k) v=7:=by unfold Zm;rw[Na h8]
   rw[hc,N7 (by decide)]at hJ;subst hJ;rw[N7 (by decide)]at hres;subst hres;refine X1 ?_;exact Xf
  (try simp only[BN]at h8);refine Xk [⟨true,.v (lb ((vars.take k).any fun w=>decide (w.name=v.name))),none⟩] ?_ ?_
  .first|exact X9s (vars.take k) 178 [.ptr v.enc] (fun w=>decide (w.name=v.name)) hkl (fun w _ d=>X72 w v d) _|exact trivial|simpa[*]using X9s (vars.take k) 178 [.ptr v.enc] (fun w=>decide (w.name=v.name)) hkl (fun w _ d=>X72 w v d) _
  refine(X8 rfl (fun h12=>?_) (fun h12=>?_))
  ·(try simp only[BN]at h12);have hc:Zm (vars.take k) v=8:=by unfold Zm;rw[N7 (by simp[h8]),Na h12]
   rw[hc,N7 (by decide)]at hJ;subst hJ;rw[N7 (by decide)]at hres;subst hres;refine X1 ?_;exact Xf
  (try simp only[BN]at h12);refine X1 ?_;refine(X8 rfl (fun h16=>?_) (fun h16=>?_))
  ·(try simp only[BN]at h16);have hc:Zm (vars.take k) v=1:=by unfold Zm;rw[N7 (by simp[h8]),N7 (by simp[h12]),Na h16]
   rw[hc,N7 (by decide)]at hJ;subst hJ;rw[N7 (by decide)]at hres;subst hres;refine X1 ?_;exact Xf
  (try simp only[BN]at h16);have hc:Zm (vars.take k) v=if WO v then 3 else 0:=by unfold Zm;rw[N7 (by simp[h8]),N7 (by simp[h12]),N7 (by omega)]
  refine(XM [0,10,11,12] (fun(z:Bool)=>[(38,.v (lb z))]) (fun(z:Bool)=>[]) (fun(z:Bool)=>z=decide (WO v)) ?_ ?_)
  ·
   refine Xk [⟨true,.v (lb (QX v.low v.high)),none⟩] ?_ ?_
   .first|exact ZW _ _ _|exact trivial|simpa[*]using ZW _ _ _
   refine(X8 rfl (fun h21=>Xb ?_) (fun h21=>?_))
   ·(try simp only[BN]at h21);exact⟨true,(Db (.inl (by simpa using h21))).symm,X4 (fun n=>n) []⟩
   (try simp only[BN]at h21);refine X1 ?_;refine(X8 rfl (fun h24=>Xb ?_) (fun h24=>?_))
   ·(try simp only[BN]at h24);exact⟨true,(Db (.inr (.inl (by simpa using h24)))).symm,X4 (fun n=>n) []⟩
   try simp only[BN]at h24
   have hz:decide (WO v)=(decide (v.kind=0)&&(decide (v.init<v.low)||decide (v.high<v.init))):=by
    rw[Dk,N6];unfold WO;simp only[N6,N4,Nl];have h21':QX v.low v.high=true:=by simpa using h21
    rw[h21'];constructor
    .rintro(h|h|h)
     .cases h
     .exfalso;omega
     exact h
    exact fun h=>.inr (.inr h)
   clear h21 h24;refine X2 ?_;exact⟨(decide (v.kind=0)&&(decide (v.init<v.low)||decide (v.high<v.init))),hz.symm,X4 (fun n=>n) []⟩
  rintro _ rfl;simp only[upS,X5,Xy]
  try simp only[X5,KN,Nat.reduceBEq,Nf,Nc,ins,Nat.reduceLT]
  refine(Xc rfl (fun h28=>?_) fun h28=>?_)
  ·(try simp only[BN]at h28);rw[Na h28]at hc;rw[hc,N7 (by decide)]at hJ;subst hJ;rw[N7 (by decide)]at hres;subst hres;refine X1 ?_;exact Xf
  (try simp only[BN]at h28);rw[N7 h28]at hc;rw[hc,Na rfl]at hJ;refine X2 ?_;exact⟨k+1,⟨hk1,hJ⟩,by omega,X4 (fun n=>n) []⟩
 (try simp only[BN]at h4);have hkl:k=vars.length:=by omega
 rw[hkl,Nt]at hJ;simp only[vcs]at hJ;have hv:=hgood hJ.symm;rw[Na hJ.symm,<-X6H]at hres;clear hgood hJ hkl hk h4;obtain⟨L,hL⟩:∃L:List Int,L=[1,2,3]:=⟨_,rfl⟩;have hL3:L.length=3:=by rw[hL];rfl
 have hLi:∀k∈L,1<=k/\k<=3:=by rw[hL];decide
 rw[<-hL]at hres;refine(Xg ?_);refine X0<|X0<|X2 ?_;refine X3<|(Xd [0,71,72] (fun(x:Nat)=>[(73,.v (li x))]) (fun x=>[(71,.row 87 1 (Xi L))]) (fun x=>x<=3/\X6i vars (L.drop x)=res) (fun x=>3 - x) (0:Nat) ⟨Nq _,hres⟩ ?_ ?_)
 .exact Xl (fun n=>n) [] rfl (by simp[*,upS,X5]) (by simp[upS,Xi,hL]) (by simp[upS])
 rintro k2 ⟨hk2,hJ2⟩;simp only[upS,X5,Xy]
 try simp only[X5,KN,Nat.reduceBEq,Nf,Nc,ins,Nat.reduceLT]
 clear hres hL;refine X1 ?_;refine X0<|(X8 rfl (fun h36=>Xb ?_) (fun h36=>?_))
 ·(try simp only[BN]at h36);have hlt:k2<L.length:=by omega
  obtain⟨kd,he,hd⟩:=Xu hlt;have hw1:=XE hlt (by omega);have hk1:k2+1<=3:=by omega
  have hkd:=hLi kd (N3 he);have hsp:=prV_in hv (vars.filter fun v=>decide (v.kind=kd)) 1 (fun v h=>(NR.1 h).1) (by decide);have hsp':1<=spc vars kd/\spc vars kd<=4097:=hsp;have c:=Xae vars kd hkd hv hl;rw[hd]at hJ2;simp only[X6i]at hJ2;obtain⟨sv,hsv⟩:∃s,spc vars kd=s:=⟨_,rfl⟩;have hbk:X3I vars kd=(decide (4096<sv)||(decide (kd=3)&&decide (256<sv))):=by unfold X3I;rw[hsv]
  rw[hsv]at c hsp';clear hlt h36 hsp hsv hLi hv;refine X0<|X3<|X0<|X2 ?_;refine Xk [⟨true,.tup [li (if sv<=4096 then sv else 0),li (if sv<=4096 then 0 else 4)],none⟩] ?_ ?_
  .first|exact c _|exact trivial|simpa[*]using c _
  refine X1 ?_;refine(Xc rfl (fun h40=>?_) fun h40=>?_)
  .try simp only[BN]at h40
   have hb:X3I vars kd=true:=by
    rw[hbk];by_cases h:sv<=4096
    .simp[h]at h40;simp[h40]
    simp;omega
   rw[Na hb]at hJ2;subst hJ2;refine X1 ?_;exact Xf
  try simp only[BN]at h40
  have hb:X3I vars kd=false:=by
   rw[hbk];by_cases h:sv<=4096
   .simp[h]at h40;simp;omega
   simp[h]at h40
  rw[hb,N7 (by decide)]at hJ2;refine X2 ?_;exact⟨k2+1,⟨hk1,hJ2⟩,by omega,X4 (fun n=>n) []⟩
 (try simp only[BN]at h36);have hkl:k2=L.length:=by omega
 rw[hkl,Nt]at hJ2;simp only[X6i]at hJ2;subst hJ2;refine(Xg ?_);refine X1 ?_;exact Xf
theorem XcL (vars:List Vr) (hl:vars.length<=1000000) (d:Nat):Con prog 49 true [lV vars] (.v (li (X0b vars))) none d:=by
 obtain⟨res,hres⟩:∃r,X0b vars=r:=⟨_,rfl⟩;rw[hres];obtain⟨cd,hcd⟩:∃r,vcs [] vars=r:=⟨_,rfl⟩;have hgood:cd=0->X1K vars:=fun h=>X3f vars [] (hcd.trans h);unfold X0b at hres;rw[hcd]at hres;refine X6 Tryz.func49 ?_;simp only[Tryz.f49];refine X1 ?_;refine X0<|X0<|X2 ?_;refine X3<|(Xd [0] (fun(x:Nat)=>[(3,.v (li x))]) (fun x=>[]) (fun x=>x<=vars.length/\vcs (vars.take x) (vars.drop x)=cd) (fun x=>vars.length - x) (0:Nat) ⟨Nq _,hcd⟩ ?_ ?_)
 .exact X4 (fun n=>n) []
 rintro k ⟨hk,hJ⟩;simp only[upS,X5,Xy]
 try simp only[X5,KN,Nat.reduceBEq,Nf,Nc,ins,Nat.reduceLT]
 clear hcd;refine X0<|X0<|X2 ?_;refine(X8 rfl (fun h4=>Xb ?_) (fun h4=>?_))
 ·(try simp only[BN]at h4);have hlt:k<vars.length:=by omega
  obtain⟨v,he,hd⟩:=Xu hlt;have hw1:=XE hlt (by omega);have hk1:k+1<=vars.length:=hlt;have hkl:(vars.take k).length=k:=by rw[NG];omega
  rw[hd]at hJ;simp only[vcs]at hJ;rw[<-WA he]at hJ;clear hlt h4 hgood hd;refine X0<|X3<|X0<|X2 ?_;refine X0<|X0<|(Xo [⟨true,.v (lb (ZT v.name)),none⟩] ?_ ?_)
  .first|exact X27 _ _|exact trivial|simpa[*]using X27 _ _
  refine(Xc rfl (fun h7=>?_) fun h7=>?_)
  ·(try simp only[BN]at h7);have hc:Zm (vars.take k) v=7:=by unfold Zm;rw[Na h7]
   rw[hc,N7 (by decide)]at hJ;subst hJ;rw[N7 (by decide)]at hres;subst hres;refine X1 ?_;exact Xf
  (try simp only[BN]at h7);refine X0<|X0<|X2 ?_;refine X3<|(Xd [0,3,4] (fun(x:Nat)=>[(5,.v (li x))]) (fun x=>[(4,.box [.c (sC v.name),.c (iC v.kind),.c (iC v.low),.c (iC v.high),.c (iC v.init)])]) (fun x=>x<=k/\∀j:Nat,j<x->∀w,vars[j]? =some w->w.name≠v.name) (fun x=>k - x) (0:Nat) ⟨Nq _,fun j hj=>absurd hj (Dy j)⟩ ?_ ?_)
  .exact X4 (fun n=>n) []
  rintro j ⟨hj,hno⟩;simp only[upS,X5,Xy]
  try simp only[X5,KN,Nat.reduceBEq,Nf,Nc,ins,Nat.reduceLT]
  refine X0<|X0<|X2 ?_;refine(X8 rfl (fun h13=>Xb ?_) (fun h13=>?_))
  ·(try simp only[BN]at h13);have hjk:j<k:=by omega
   obtain⟨w,hw⟩:∃w,vars[j]? =some w:=⟨vars[j],by simp[show j<vars.length by omega]⟩;have hwj:=XE hjk (by omega);have hj1:j+1<=k:=hjk
   have hmemw:w∈vars.take k:=by
    have:(vars.take k)[j]? =some w:=by rw[List.getElem?_take_of_lt hjk];exact hw
    exact N3 this
   clear hjk h13;refine X0<|X3<|X0<|(N0 ?_);refine(Xc rfl (fun h15=>?_) fun h15=>?_)
   .try simp only[BN]at h15
    have hany:((vars.take k).any fun w=>decide (w.name=v.name))=true:=by
     rw[List.any_eq_true];exact⟨w,hmemw,by simpa using h15⟩
    have hc:Zm (vars.take k) v=8:=by unfold Zm;rw[N7 (by simp[h7]),Na hany]
    rw[hc,N7 (by decide)]at hJ;subst hJ;rw[N7 (by decide)]at hres;subst hres;refine X1 ?_;exact Xf
   (try simp only[BN]at h15);refine X2 ?_
   exact⟨j+1,⟨hj1,fun i hi u hu=>by
    rcases Nat.lt_or_eq_of_le (Nat.le_of_lt_succ hi)with h|h
    .exact hno i h u hu
    subst h;rw[hw]at hu;cases hu
    simpa using h15⟩,by omega,X4 (fun n=>n) []⟩
  (try simp only[BN]at h13);have hjk:j=k:=by omega
  subst hjk
  have hany:((vars.take j).any fun w=>decide (w.name=v.name))=false:=by
   rw[Dd];intro w hw;obtain⟨i,hi⟩:=NL.1 hw;have hij:i<j:=by have:=(N5.1 hi).1;omega
   rw[List.getElem?_take_of_lt hij]at hi;simpa using hno i hij w hi
  clear hno hkl;refine(Xg ?_);refine X0<|X0<|X2 ?_;refine(Xc rfl (fun h21=>?_) fun h21=>?_)
  ·(try simp only[BN]at h21);have hc:Zm (vars.take j) v=1:=by unfold Zm;rw[N7 (by simp[h7]),N7 (by simp[hany]),Na (by omega)]
   rw[hc,N7 (by decide)]at hJ;subst hJ;rw[N7 (by decide)]at hres;subst hres;refine X1 ?_;exact Xf
  (try simp only[BN]at h21);have hc:Zm (vars.take j) v=if WO v then 3 else 0:=by unfold Zm;rw[N7 (by simp[h7]),N7 (by simp[hany]),N7 (by omega)]
  clear hany;refine X0<|X0<|(Xo [⟨true,.v (lb (QX v.low v.high)),none⟩] ?_ ?_)
  .first|exact ZY _ _ _|exact trivial|simpa[*]using ZY _ _ _
  refine(Xc rfl (fun h25=>?_) fun h25=>?_)
  ·(try simp only[BN]at h25);rw[Na (.inl h25)]at hc;rw[hc,N7 (by decide)]at hJ;subst hJ;rw[N7 (by decide)]at hres;subst hres;refine X1 ?_;exact Xf
  (try simp only[BN]at h25);refine X1 ?_;refine(Xc rfl (fun h29=>?_) fun h29=>?_)
  .try simp only[BN]at h29
   have hkb:WO v:=by
    unfold WO;omega
   rw[Na hkb]at hc;rw[hc,N7 (by decide)]at hJ;subst hJ;rw[N7 (by decide)]at hres;subst hres;refine X1 ?_;exact Xf
  try simp only[BN]at h29
  have hkb:¬WO v:=by
   unfold WO;rw[h25];rintro(h|h|h)
   .cases h
   .omega
   omega
  rw[N7 hkb]at hc;rw[hc,Na rfl]at hJ;refine X2 ?_;exact⟨j+1,⟨hk1,hJ⟩,by omega,X4 (fun n=>n) []⟩
 (try simp only[BN]at h4);have hkl:k=vars.length:=by omega
 rw[hkl,Nt]at hJ;simp only[vcs]at hJ;have hv:=hgood hJ.symm;rw[Na hJ.symm]at hres;clear hgood hJ hkl hk h4;have c1:=X2I vars 1 hv (by omega);have c2:=X2I vars 2 hv (by omega);have c3:=X2I vars 3 hv (by omega);have hb1:X3I vars 1=decide (4096<spc vars 1):=by simp[X3I]
 have hb2:X3I vars 2=decide (4096<spc vars 2):=by simp[X3I]
 have hb3:X3I vars 3=(decide (4096<spc vars 3)||decide (256<spc vars 3)):=by simp[X3I]
 simp only[List.any_cons,List.any_nil,Bool.or_false,hb1,hb2,hb3]at hres;clear hb1 hb2 hb3;generalize spc vars 1=s1 at*;generalize spc vars 2=s2 at*;generalize spc vars 3=s3 at*;refine(Xg ?_);refine X0<|X0<|(Xo [⟨true,.v (li s1),none⟩,⟨true,.v (li s2),none⟩,⟨true,.v (li s3),none⟩] ?_ ?_)
 .first|exact⟨c1 _,c2 _,c3 _⟩|exact trivial|(repeat' first|exact trivial|exact c1 _|exact c2 _|exact c3 _|apply And.intro)
 refine(Xc rfl (fun h35=>?_) fun h35=>?_)
 .try simp only[BN]at h35
  have hz:(decide (4096<s1)||(decide (4096<s2)||(decide (4096<s3)||decide (256<s3))))=true:=by
   simp only[Nl,N6];omega
  rw[Na hz]at hres;subst hres;refine X1 ?_;exact Xf
 try simp only[BN]at h35
 have hz:(decide (4096<s1)||(decide (4096<s2)||(decide (4096<s3)||decide (256<s3))))=false:=by
  simp only[NV,Nj];omega
 rw[hz,N7 (by decide)]at hres;subst hres;refine X1 ?_;exact Xf
@[simp] theorem take_encH (l:List Ht) (i:Nat):(Xn l).take i=Xn (l.take i):=by simp[Xn]
theorem idxH_con (l:List Ht) (g:FuncId) (cap:List CD) (p:Ht->Bool) (hl:l.length<=1000000000) (hp:∀v∈l,∀d,Con prog g true (aH v::cap.map fun c=>.one (.c c)) (.v (lb (p v))) none d) (d:Nat):
  ∃r:Int,(∀d,Con prog 141 true [.one (.c (.sl 6 (Xn l))),.one (.c (.fn g cap))] (.v (li r)) none d)/\(0<=r↔l.any p=true):=by
 refine⟨(match l.findIdx? p with|some i=>(i:Int)|none=>-1),fun d=>?_,?_⟩
 .have hstep:∀k:Nat,(∀j:Nat,j<k->∀v,l[j]? =some v->p v=false)->∀v,l[k]? =some v->p v=true->l.findIdx? p=some k:=by
   intro k hno v hv hpv;rw[List.findIdx?_eq_some_iff_getElem];have hk:k<l.length:=(N5.1 hv).1;refine⟨hk,?_,fun j hj=>?_⟩
   .simp only[NA hk,Option.some.injEq]at hv;rw[hv];exact hpv
   have:=hno j hj l[j] (by simp);simp[this]
  have hnone:(∀j:Nat,j<l.length->∀v,l[j]? =some v->p v=false)->l.findIdx? p=none:=by
   intro hno;rw[List.findIdx?_eq_none_iff];intro v hv;obtain⟨j,hj⟩:=NL.1 hv;exact hno j (N5.1 hj).1 v hj
  refine X6 Tryz.func141 ?_;simp only[Tryz.f141];refine X1 ?_;refine X0<|X0<|X2 ?_;refine X3<|(Xd [0,1,7] (fun(x:Nat)=>[(8,.v (li x))]) (fun x=>[]) (fun x=>x<=l.length/\∀j:Nat,j<x->∀v,l[j]? =some v->p v=false) (fun x=>l.length - x) (0:Nat) ⟨Nq _,fun j hj=>absurd hj (Dy j)⟩ ?_ ?_)
  .exact X4 (fun n=>n) []
  rintro k ⟨hk,hJ⟩;simp only[upS,X5,Xy]
  try simp only[X5,KN,Nat.reduceBEq,Nf,Nc,ins,Nat.reduceLT]
  refine X1 ?_;refine X0<|(X8 rfl (fun h4=>Xb ?_) (fun h4=>?_))
  ·(try simp only[BN]at h4);have hlt:k<l.length:=by omega
   obtain⟨⟨nm,lo,hi,⟨o,tn,ks⟩⟩,he,hd⟩:=Xu hlt;have hw1:=XE hlt (by omega);have hk1:k+1<=l.length:=hlt;have hpv:=hp _ (N3 he);have hs:=hstep k hJ _ he;clear hlt h4 hstep hnone hp;refine X0<|X3<|X0<|X2 ?_;refine Xk [⟨true,.v (lb (p ⟨nm,lo,hi,.mk o tn ks⟩)),none⟩] ?_ ?_
   .first|exact hpv _|exact trivial|simpa[*]using hpv _
   refine(Xc rfl (fun h7=>?_) fun h7=>?_)
   ·(try simp only[BN]at h7);rw[hs h7];refine X1 ?_;exact Xf
   (try simp only[BN]at h7);refine X2 ?_;exact⟨k+1,⟨hk1,fun j hj w hw=>(Nat.lt_succ_iff_lt_or_eq.1 hj).elim (fun h=>hJ j h w hw) (fun e=>by subst e;rw[he]at hw;cases hw;exact h7)⟩,by omega,X4 (fun n=>n) []⟩
  (try simp only[BN]at h4);rw[hnone fun j hj=>hJ j (by omega)];refine(Xg ?_);refine X1 ?_;exact Xf
 rw[List.any_eq];cases h:l.findIdx? p with
 | none=>
   rw[List.findIdx?_eq_none_iff]at h;simp only[N6];constructor
   .intro h;omega
   rintro⟨v,hv,hpv⟩;have:=h v hv;rw[hpv]at this;cases this
 | some i=>
   rw[List.findIdx?_eq_some_iff_getElem]at h;obtain⟨hi,hpi,_⟩:=h;simp only[N6];exact⟨fun _=>⟨l[i],DA _,hpi⟩,fun _=>by omega⟩
theorem conH_con (l:List Ht) (g:FuncId) (cap:List CD) (p:Ht->Bool) (hl:l.length<=1000000000) (hp:∀v∈l,∀d,Con prog g true (aH v::cap.map fun c=>.one (.c c)) (.v (lb (p v))) none d) (d:Nat):
  Con prog 184 true [.one (.c (.sl 6 (Xn l))),.one (.c (.fn g cap))] (.v (lb (l.any p))) none d:=by
 obtain⟨r,hr,hi⟩:=idxH_con l g cap p hl hp 0;have hd:decide (0<=r)=l.any p:=by rw[Dk,N6];exact hi
 clear hi hp;refine X6 Tryz.func184 ?_;simp only[Tryz.f184];refine X1 ?_;refine Xk [⟨true,.v (li r),none⟩] ?_ ?_
 .first|exact hr _|exact trivial|simpa[*]using hr _
 exact Xf
theorem XcV (w v:Ht) (d:Nat):Con prog 183 true [aH w,.one (.c (.ptr v.enc))] (.v (lb (decide (w.name=v.name)))) none d:=by
 obtain⟨n1,l1,h1,⟨o1,t1,k1⟩⟩:=w;obtain⟨n2,l2,h2,⟨o2,t2,k2⟩⟩:=v;refine X6 Tryz.func183 ?_;simp only[Tryz.f183];simp only[aH,Ht.enc,Tm.enc,List.cons_append,List.nil_append];refine X1 ?_;refine X1 ?_;exact Xf
def X5n (vars:List Vr) (seen:List Ht) (h:Ht):Int:=
 if ZT h.name=false then 7 else if(seen.any fun w=>decide (w.name=h.name))=true then 8 else if QX h.low h.high=false then 3 else X0Y vars true h.term
def hcs (vars:List Vr):List Ht->List Ht->Int
 |_,[]=>0
 |seen,h::l=>if X5n vars seen h=0 then hcs vars (seen++[h]) l else X5n vars seen h
theorem Xcr (f:Fl) (hv:X0l f.vars) (hl:f.vars.length<=1000000) (hh:f.hats.length<=1000000) (hn:∀h∈f.hats,h.term.nodes<=1000000000) (d:Nat):
  Con prog 116 true [aF f] (.v (li (hcs f.vars [] f.hats))) none d:=by
 obtain⟨vars,hats,body⟩:=f;simp only at hv hl hh hn⊢;obtain⟨res,hres⟩:∃r,hcs vars [] hats=r:=⟨_,rfl⟩;rw[hres];refine X6 Tryz.func116 ?_;simp only[Tryz.f116];simp only[aF,Fl.enc,Ni,Nr];refine X1 ?_;refine X0<|X0<|X2 ?_;refine X3<|(Xd [1,8,9] (fun(x:Nat)=>[(10,.v (li x))]) (fun x=>[(1,.box [.c (.sl 5 (Xm vars)),.c (.sl 6 (Xn hats)),.c (.sl 10 (X7 body))])]) (fun x=>x<=hats.length/\hcs vars (hats.take x) (hats.drop x)=res) (fun x=>hats.length - x) (0:Nat) ⟨Nq _,hres⟩ ?_ ?_)
 .exact X4 (fun n=>n) []
 rintro k ⟨hk,hJ⟩;simp only[upS,X5,Xy]
 try simp only[X5,KN,Nat.reduceBEq,Nf,Nc,ins,Nat.reduceLT]
 clear hres;refine X1 ?_;refine X0<|(X8 rfl (fun h4=>Xb ?_) (fun h4=>?_))
 ·(try simp only[BN]at h4);have hlt:k<hats.length:=by omega
  obtain⟨h,he,hd⟩:=Xu hlt;have hw1:=XE hlt (by omega);have hk1:k+1<=hats.length:=hlt;have hkl:(hats.take k).length<=1000000000:=by rw[NG];omega
  rw[hd]at hJ;simp only[hcs]at hJ;rw[<-WA he]at hJ;have ct:=X6C vars true hv (by omega) h.term (hn h (N3 he));have cc:=conH_con (hats.take k) 183 [.ptr h.enc] (fun w=>decide (w.name=h.name)) hkl (fun w _ d=>XcV w h d);obtain⟨nm,lo,hi,⟨o,tn,ks⟩⟩:=h;obtain⟨HC,hHC⟩:∃x,X5n vars (hats.take k) ⟨nm,lo,hi,.mk o tn ks⟩=x:=⟨_,rfl⟩;rw[hHC]at hJ;simp only[X5n]at hHC;simp only[Ht.enc,Tm.enc,List.cons_append,List.nil_append]at cc;simp only at ct;obtain⟨TC,hTC⟩:∃r,X0Y vars true (.mk o tn ks)=r:=⟨_,rfl⟩;rw[hTC]at ct hHC;clear hlt h4 hd hn hTC;refine X0<|X3<|X0<|X2 ?_;refine X1 ?_;refine X0<|X3<|X0<|(Xo [⟨true,.v (lb (ZT nm)),none⟩] ?_ ?_)
  .first|exact X2q _ _|exact trivial|simpa[*]using X2q _ _
  refine(X8 rfl (fun h8=>?_) (fun h8=>?_))
  ·(try simp only[BN]at h8);rw[Na h8]at hHC;subst hHC;rw[N7 (by decide)]at hJ;subst hJ;refine X1 ?_;exact Xf
  (try simp only[BN]at h8);refine Xk [⟨true,.v (lb ((hats.take k).any fun w=>decide (w.name=nm))),none⟩] ?_ ?_
  .first|exact cc _|exact trivial|simpa[*]using cc _
  refine(X8 rfl (fun h12=>?_) (fun h12=>?_))
  ·(try simp only[BN]at h12);rw[N7 (by simp[h8]),Na h12]at hHC;subst hHC;rw[N7 (by decide)]at hJ;subst hJ;refine X1 ?_;exact Xf
  (try simp only[BN]at h12);refine Xk [⟨true,.v (lb (QX lo hi)),none⟩] ?_ ?_
  .first|exact ZW _ _ _|exact trivial|simpa[*]using ZW _ _ _
  refine(Xc rfl (fun h16=>?_) fun h16=>?_)
  ·(try simp only[BN]at h16);rw[N7 (by simp[h8]),N7 (by simp[h12]),Na h16]at hHC;subst hHC;rw[N7 (by decide)]at hJ;subst hJ;refine X1 ?_;exact Xf
  (try simp only[BN]at h16);rw[N7 (by simp[h8]),N7 (by simp[h12]),N7 (by simp[h16])]at hHC;subst hHC;refine Xk [⟨true,.v (li TC),none⟩] ?_ ?_
  .first|exact ct _|exact trivial|simpa[*]using ct _
  refine X1 ?_;refine(Xc rfl (fun h21=>?_) fun h21=>?_)
  ·(try simp only[BN]at h21);rw[N7 h21]at hJ;subst hJ;refine X1 ?_;exact Xf
  (try simp only[BN]at h21);rw[Na (by simpa using h21)]at hJ;refine X2 ?_;exact⟨k+1,⟨hk1,hJ⟩,by omega,X4 (fun n=>n) []⟩
 (try simp only[BN]at h4);have hkl:k=hats.length:=by omega
 rw[hkl,Nt]at hJ;simp only[hcs]at hJ;subst hJ;refine(Xg ?_);refine X1 ?_;exact Xf
theorem X5X (l:List Int) (hl:l.length<=1000000000) (d:Nat) (hd:d<1000000):Con prog 72 false [lI l] (.v (.one (.own d))) (some (.row 3 1 (Xi l))) d:=by
 have hroom:W4 l.length 8:=⟨by unfold maxLen;omega,by omega⟩;cases l with
 | nil=>
   refine XbI ?_ ?_
   .refine X6 Tryz.func72 ?_;simp only[Tryz.f72];refine X1 ?_;refine X0<|X0<|X2 ?_;refine(Xc rfl (fun h2=>?_) fun h2=>?_)
    ·(try simp only[BN]at h2);refine X1 ?_;exact Qe ⟨.inr rfl,_,le_nameN 2 d 3 1 rfl (by decide) hd,⟨⟨_,by simp;rfl,by simp[XL]⟩,by simp,fun h=>by cases h⟩⟩
    exact absurd h2 (by simp)
   intro a cap;refine X6 Tryz.func72 ?_;simp only[Tryz.f72];refine X1 ?_;refine X0<|X0<|X2 ?_;refine(Xc rfl (fun h2=>?_) fun h2=>?_)
   .exact absurd h2 (by simp)
   (try simp only[BN]at h2);refine XB (le_emp 0 1 rfl) ?_;refine X1 ?_;exact Qe ⟨.inr rfl,_,X2b 2 7 d rfl rfl hd,⟨⟨_,by simp;rfl,by simp[XL]⟩,by simp,fun h=>by cases h⟩⟩
 | cons v r=>
   refine X6 Tryz.func72 ?_;simp only[Tryz.f72];rw[List.length_cons]at hroom;refine X1 ?_;refine X0<|X0<|X2 ?_;refine(Xc rfl (fun h2=>?_) fun h2=>?_)
   .exact absurd h2 (by simp)
   (try simp only[BN]at h2);refine X1 ?_;exact Qe ⟨.inr rfl,_,X2b 2 7 d rfl rfl hd,⟨⟨_,by simp;rfl,by simp[XL]⟩,by simp,fun h=>by cases h⟩⟩
theorem Xc0 (l:List St):Xh l<=1000000000->∀d:Nat,Con prog 167 true [lS l] (.tup [li (spL l (0,0)).1,li (spL l (0,0)).2]) none d:=by
 revert l
 apply St.lists;intro l ih hn d;have hlen:=Qm l;obtain⟨res,hres⟩:∃r,spL l (0,0)=r:=⟨_,rfl⟩;rw[hres];refine X6 Tryz.func167 ?_;simp only[Tryz.f167];refine X1 ?_;refine X1 ?_;refine X0<|X0<|X2 ?_;refine X3<|(Xd [0] (fun(x:Nat×Int×Int)=>[(4,.v (li x.2.1)),(5,.v (li x.2.2)),(6,.v (li x.1))]) (fun x=>[]) (fun x=>x.1<=l.length/\spL (l.drop x.1) x.2=res/\inT x.2) (fun x=>l.length - x.1) (0,0,0) ⟨Nq _,hres,inT0⟩ ?_ ?_)
 .exact X4 (fun n=>n) []
 rintro⟨k,m,q⟩ ⟨hk,hJ,hin⟩;simp only[upS,X5,Xy]
 try simp only[X5,KN,Nat.reduceBEq,Nf,Nc,ins,Nat.reduceLT]
 simp only at hk hJ;unfold inT at hin;simp only at hin;clear hres;refine X0<|X0<|X2 ?_;refine(X8 rfl (fun h5=>Xb ?_) (fun h5=>?_))
 ·(try simp only[BN]at h5);have hlt:k<l.length:=by omega
  obtain⟨s,he,hd⟩:=Xu hlt;have hmem:s∈l:=N3 he;have hnm:=Qz hmem;have iha:=fun h=>(ih s hmem).1 h;have ihb:=fun h=>(ih s hmem).2 h;have hw1:=XE hlt (by omega);have hk1:k+1<=l.length:=hlt;rw[hd]at hJ;simp only[spL]at hJ;have hsin:=Xab s;obtain⟨pq,hpq⟩:∃pq,spS s=pq:=⟨_,rfl⟩;rw[hpq]at hJ hsin;obtain⟨sd,sc,sv,sn,⟨so,stn,sks⟩,sa,sb,sbs⟩:=s;simp only[St.then_,St.else_,St.term]at iha ihb hnm;have ca:=iha (by omega);have cb:=ihb (by omega);have he':=Q2 he;simp only[St.enc,Tm.enc,List.cons_append,List.nil_append]at he';simp only[spS]at hpq;have hxa:=X2T sa (0,0) inT0;have hxb:=X2T sb (0,0) inT0;obtain⟨xa,hxa'⟩:∃x,spL sa (0,0)=x:=⟨_,rfl⟩;obtain⟨xb,hxb'⟩:∃x,spL sb (0,0)=x:=⟨_,rfl⟩;have hci:=X2j (n:=sc) (lo:=0) (hi:=67108865) (by decide);have hni:=X2j (n:=sn) (lo:=0) (hi:=4096) (by decide);obtain⟨cc,hcc⟩:∃x,QB sc 0 67108865=x:=⟨_,rfl⟩;obtain⟨nn,hnn⟩:∃x,QB sn 0 4096=x:=⟨_,rfl⟩;have c1:=X8S sc 0 67108865;have c2:=X8S sn 0 4096;rw[hxa']at ca hxa hpq;rw[hxb']at cb hxb hpq;rw[hcc]at c1 hci hpq;rw[hnn]at c2 hni hpq;unfold inT at hxa hxb;unfold inU at hsin;clear hlt h5 iha ihb ih hxa' hxb' hcc hnn hmem hnm hd he;refine X0<|X3<|X0<|X2 ?_;refine Xk [⟨true,.v (li cc),none⟩] ?_ ?_
  .first|exact c1 _|exact trivial|simpa[*]using c1 _
  refine Xk [⟨true,.tup [li xa.1,li xa.2],none⟩] ?_ ?_
  .first|exact ca _|exact trivial|simpa[*]using ca _
  refine Xk [⟨true,.tup [li xb.1,li xb.2],none⟩] ?_ ?_
  .first|exact cb _|exact trivial|simpa[*]using cb _
  refine X1 ?_;refine(XM [0,4,5,6,7,8,9,10] (fun(z:Int×Int)=>[(13,.v (li z.1)),(14,.v (li z.2))]) (fun(z:Int×Int)=>[(7,.box [.c (iC sd),.c (iC sc),.c (iC sv),.c (iC sn),.c (iC so),.c (iC stn),.c (.sl 3 (XA sks)),.c (.sl 10 (X7 sa)),.c (.sl 10 (X7 sb)),.c (.sl 1 (Xi sbs))])]) (fun(z:Int×Int)=>sd≠4->z=pq) ?_ ?_)
  ·
   refine X1 ?_;refine(Xc rfl (fun h13=>?_) fun h13=>?_)
   ·(try simp only[BN]at h13);rw[Na h13]at hpq;subst hpq;have hw2:IntKind.i64.wrap (cc+mn xa.1 xb.1)=cc+mn xa.1 xb.1:=X9 (by simp only at hsin;omega) (by simp only at hsin;omega);have hw3:IntKind.i64.wrap (cc+mx xa.2 xb.2)=cc+mx xa.2 xb.2:=X9 (by simp only at hsin;omega) (by simp only at hsin;omega);clear hsin;refine(Xo [⟨true,.v (li (mn xa.1 xb.1)),none⟩,⟨true,.v (li (mx xa.2 xb.2)),none⟩] ?_ ?_)
    .first|exact⟨Q1 _ _ _,Qw _ _ _⟩|exact trivial|(repeat' first|exact trivial|exact Q1 _ _ _|exact Qw _ _ _|apply And.intro)
    exact⟨(cc+mn xa.1 xb.1,cc+mx xa.2 xb.2),fun _=>rfl,X4 (fun n=>n) []⟩
   (try simp only[BN]at h13);rw[N7 h13]at hpq;exact⟨(cc,cc),fun h=>by rw[N7 h]at hpq;exact hpq,X4 (fun n=>n) []⟩
  rintro⟨p0,q0⟩ hz;simp only[upS,X5,Xy]
  try simp only[X5,KN,Nat.reduceBEq,Nf,Nc,ins,Nat.reduceLT]
  refine(XM [0,4,5,6] (fun(z:Unit)=>[(13,.v (li pq.1)),(14,.v (li pq.2))]) (fun(z:Unit)=>[]) (fun(z:Unit)=>True) ?_ ?_)
  ·
   refine X1 ?_;refine(Xc rfl (fun h19=>?_) fun h19=>?_)
   ·(try simp only[BN]at h19);rw[N7 (by omega),Na h19]at hpq;have hm1:=mulT hni (z:=cc+xa.1) (by omega);have hm2:=mulT hni (z:=cc+xa.2) (by omega);have hw2:IntKind.i64.wrap (cc+xa.1)=cc+xa.1:=X9;have hw3:IntKind.i64.wrap (cc+xa.2)=cc+xa.2:=X9;have hw4:IntKind.i64.wrap (nn*(cc+xa.1))=nn*(cc+xa.1):=X9;have hw5:IntKind.i64.wrap (nn*(cc+xa.2))=nn*(cc+xa.2):=X9;clear hm1 hm2 hz;refine Xk [⟨true,.v (li nn),none⟩] ?_ ?_
    .first|exact c2 _|exact trivial|simpa[*]using c2 _
    refine X1 ?_;refine(XM [0,4,5,6,7,8,9,14,15] (fun(z:Unit)=>[(13,.v (li (Zh nn cc)))]) (fun(z:Unit)=>[(7,.box [.c (iC sd),.c (iC sc),.c (iC sv),.c (iC sn),.c (iC so),.c (iC stn),.c (.sl 3 (XA sks)),.c (.sl 10 (X7 sa)),.c (.sl 10 (X7 sb)),.c (.sl 1 (Xi sbs))])]) (fun(z:Unit)=>True) ?_ ?_)
    ·
     refine X1 ?_;refine(Xc rfl (fun h24=>?_) fun h24=>?_)
     ·(try simp only[BN]at h24);have hon:Zh nn cc=cc:=by unfold Zh;rw[Na h24]
      refine X2 ?_;exact⟨(),trivial,X4 (fun n=>n) []⟩
     (try simp only[BN]at h24);have hon:Zh nn cc=0:=by unfold Zh;rw[N7 h24]
     exact⟨(),trivial,X4 (fun n=>n) []⟩
    rintro z hz;simp only[upS,X5,Xy]
    try simp only[X5,KN,Nat.reduceBEq,Nf,Nc,ins,Nat.reduceLT]
    refine(XM [0,4,5,6,7,14] (fun(z:Unit)=>[(13,.v (li pq.1))]) (fun(z:Unit)=>[(7,.box [.c (iC sd),.c (iC sc),.c (iC sv),.c (iC sn),.c (iC so),.c (iC stn),.c (.sl 3 (XA sks)),.c (.sl 10 (X7 sa)),.c (.sl 10 (X7 sb)),.c (.sl 1 (Xi sbs))])]) (fun(z:Unit)=>True) ?_ ?_)
    ·
     refine X1 ?_;refine(Xc rfl (fun h30=>?_) fun h30=>?_)
     ·(try simp only[BN]at h30);rw[N7 (fun h=>h h30.1),Na h30.2]at hpq;subst hpq;refine X2 ?_;exact⟨(),trivial,X4 (fun n=>n) []⟩
     try simp only[BN]at h30
     have hp1:Zh nn cc=pq.1:=by
      by_cases h:so=0
      .rw[N7 (fun h2=>h2 h),N7 (fun h2=>by rcases h30 with h3|h3;exact h3 h;exact h2 h3)]at hpq;rw[<-hpq]
      rw[Na h]at hpq;rw[<-hpq]
     clear hpq;exact⟨(),trivial,X4 (fun n=>n) []⟩
    rintro z hz;simp only[upS,X5,Xy]
    try simp only[X5,KN,Nat.reduceBEq,Nf,Nc,ins,Nat.reduceLT]
    refine X1 ?_;refine(Xc rfl (fun h35=>?_) fun h35=>?_)
    ·(try simp only[BN]at h35);rw[N7 (fun h=>h h35.1),N7 (fun h=>h h35.2)]at hpq;subst hpq;refine X2 ?_;exact⟨(),trivial,X4 (fun n=>n) []⟩
    try simp only[BN]at h35
    have hp2:nn*(cc+xa.2)=pq.2:=by
     by_cases h:so=0
     .rw[N7 (fun h2=>h2 h),Na (by rcases h35 with h3|h3;exact absurd h h3;exact h3)]at hpq;rw[<-hpq]
     rw[Na h]at hpq;rw[<-hpq]
    clear hpq;exact⟨(),trivial,X4 (fun n=>n) []⟩
   (try simp only[BN]at h19);have hz2:=hz h19;have hp1:p0=pq.1:=by rw[<-hz2]
   have hp2:q0=pq.2:=by rw[<-hz2]
   clear hpq hz hz2;exact⟨(),trivial,X4 (fun n=>n) []⟩
  rintro _ _;simp only[upS,X5,Xy]
  try simp only[X5,KN,Nat.reduceBEq,Nf,Nc,ins,Nat.reduceLT]
  clear hpq ca cb c1 c2 hci hni hxa hxb hz;have hw2:IntKind.i64.wrap (m+pq.1)=m+pq.1:=X9;have hw3:IntKind.i64.wrap (q+pq.2)=q+pq.2:=X9;have hm1:=X76 (a:=m+pq.1) (by omega);have hm2:=X76 (a:=q+pq.2) (by omega);refine Xk [⟨true,.v (li (mn (m+pq.1) 67108865)),none⟩] ?_ ?_
  .first|exact Q1 _ _ _|exact trivial|simpa[*]using Q1 _ _ _
  refine(Xo [⟨true,.v (li (mn (q+pq.2) 67108865)),none⟩] ?_ ?_)
  .first|exact Q1 _ _ _|exact trivial|simpa[*]using Q1 _ _ _
  refine X2 ?_;exact⟨(k+1,mn (m+pq.1) 67108865,mn (q+pq.2) 67108865),⟨hk1,hJ,hm1.1,hm1.2,hm2.1,hm2.2⟩,by simp only;omega,X4 (fun n=>n) []⟩
 (try simp only[BN]at h5);have hkl:k=l.length:=by omega
 rw[hkl,Nt]at hJ;simp only[spL]at hJ;subst hJ;refine(Xg ?_);refine X1 ?_;exact Xf
end Go.Proofs.YtdajceakaakdoaaGreat
