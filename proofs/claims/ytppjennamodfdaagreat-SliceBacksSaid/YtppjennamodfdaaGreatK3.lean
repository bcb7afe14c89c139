/- Part 3: contracts of functions of the program and of the reference, and plain facts about what they compute; used by the proof of the claimed statement. Conditions: as each theorem states. -/
import Derived.Test.YtppjennamodfdaaGreatK2
set_option linter.unusedSimpArgs false
set_option linter.unusedVariables false
set_option linter.unnecessarySimpa false
set_option maxRecDepth 100000
set_option maxHeartbeats 2000000
namespace Go.Proofs.YtppjennamodfdaaGreat
open Go Go.Hl
def okR (p:Int×Int):Bool:=decide (-1048576≤p.1)&&decide (p.2≤1048576)
def rgV (vars:List Vr) (o n:Int):Option (List (Int×Int))→(Int×Int)×Bool
 |none=>((0,0),false)
 |some k=>(QB vars o n k,okR (QB vars o n k))
def rgW (vars:List Vr) (o n:Int):Option (List (Int×Int))→(Int×Int)×Bool
 |none=>((0,0),false)
 |some k=>(X2Z vars o n k,okR (X2Z vars o n k))
mutual
def rgP (vars:List Vr):Tm→(Int×Int)×Bool
 | .mk o n ks=>rgV vars o n (X14 vars ks)
def X14 (vars:List Vr):List Tm→Option (List (Int×Int))
 |[]=>some []
 |t::l=>if(rgP vars t).2=true then(X14 vars l).map ((rgP vars t).1:: ·)else none
end
def rgQ (vars:List Vr):Tm→(Int×Int)×Bool
 | .mk o n ks=>rgW vars o n (X14 vars ks)
theorem X7s (vars:List Vr) (t:Tm):(rgQ vars t).2=(rgP vars t).2∧((rgP vars t).2=true→(rgQ vars t).1=(rgP vars t).1):=by
 obtain⟨o,n,ks⟩:=t;simp only[rgQ,rgP];cases X14 vars ks with
 |none=>simp[rgV,rgW]
 | some k=>
   simp only[rgV,rgW,X2Z];by_cases h:o=0
   · subst h;simp only[if_true,QB];by_cases h2:n< -1048576∨1048576<n
     · rw[if_pos h2];have:okR (n,n)=false:=by simp only[okR,Bool.and_eq_false_iff,decide_eq_false_iff_not];omega
       rw[this];exact⟨by decide,fun h=>by cases h⟩
     rw[if_neg h2];exact⟨rfl,fun _=>rfl⟩
   simp only[if_neg h];exact⟨trivial,fun _=>trivial⟩
def X0a (vars:List Vr):Prop:=∀v∈vars,v.low≤v.high∧-1048576≤v.low∧v.high≤1048576
theorem X53 {p q:Int×Int} (hp:p.1≤p.2) (hq:q.1≤q.2):(Zn p q).1≤(Zn p q).2:=by
 simp only[Zn,mn,mx]
 (repeat' split)<;>omega
theorem X8p:∀{l:List (Int×Int)} {p:Int×Int},(∀q∈l,bnd q)→p.1≤p.2→(X2i l p).1≤(X2i l p).2
 |[],p,_,hp=>hp
 |q::l,p,h,hp=>X8p (l:=l) (p:=Zn p q) (fun r hr=>h r (List.mem_cons_of_mem _ hr)) (X53 hp (h q (by simp)).2.1)
theorem rule_le {vars:List Vr} {inp:Bool} {o n:Int} {k:List (Int×Int)} (hv:X0a vars) (hf:Qh vars inp o n k.length=true) (hk:∀p∈k,bnd p):(QB vars o n k).1≤(QB vars o n k).2:=by
 have har:=X3n hf;have hrf:o=24→0≤n∧∃v,vars[n.toNat]? =some v∧(inp=true→v.kind≠0):=fun h=>X63 (by rw[←h];exact hf)
 have hg:∀i:Nat,(g2 k i).1≤(g2 k i).2∧-1048576≤(g2 k i).1∧(g2 k i).2≤1048576:=by
  intro i;unfold g2;cases hi:k[i]? with
  |none=>simp
  |some p=>have:=hk p (List.mem_of_getElem? hi);exact⟨this.2.1,this.1,this.2.2⟩
 have h0:=hg 0;have h1:=hg 1;unfold QB;generalize g2 k 0=a at*;generalize g2 k 1=b at*;split
 · exact Int.le_refl _
 split
 · rename_i h24;obtain⟨_,v,hv1,_⟩:=hrf h24;rw[hv1];exact(hv v (List.mem_of_getElem? hv1)).1
 split
 · simp only;omega
 split
 · simp only;omega
 split
 · simp only;omega
 split
 · unfold mulP;exact X53 (X53 (X53 (Int.le_refl _) (Int.le_refl _)) (Int.le_refl _)) (Int.le_refl _)
 split
 · simp only[mx]
   (repeat' split)<;>simp only<;>omega
 split
 · simp only[X1n,X4X,mn,mx]
   (repeat' split)<;>omega
 split
 · simp only[mn]
   (repeat' split)<;>omega
 split
 · simp only[mx]
   (repeat' split)<;>omega
 split
 · exact X8p (fun q hq=>hk q (List.mem_of_mem_drop hq)) h1.1
 simp
theorem X8Y {vars:List Vr}:∀{l:List Tm} {k:List (Int×Int)},X14 vars l=some k→k.length=l.length
 |[],k,h=>by simp only[X14]at h;cases h;rfl
 | t::l,k,h=>by
   simp only[X14]at h;split at h
   · simp only[Option.map_eq_some_iff]at h;obtain⟨k',h',rfl⟩:=h;simp[X8Y h']
   cases h
mutual
theorem X7Y {vars:List Vr} {inp:Bool} (hv:X0a vars):∀(t:Tm),W3 vars inp t=true→(rgP vars t).2=true→bnd (rgP vars t).1
 | .mk o n ks,hf,h=>by
   simp only[W3,Bool.and_eq_true]at hf;simp only[rgP]at h⊢;cases hk:X14 vars ks with
   |none=>rw[hk]at h;cases h
   | some k=>
     rw[hk]at h;simp only[rgV,okR,Bool.and_eq_true,decide_eq_true_eq]at h⊢;have hb:=X9i hv ks hf.2 k hk;have hl:=X8Y hk;have:=rule_le hv (by rw[hl];exact hf.1) hb;exact⟨h.1,this,h.2⟩
theorem X9i {vars:List Vr} {inp:Bool} (hv:X0a vars):∀(l:List Tm),Zk vars inp l=true→∀k,X14 vars l=some k→∀p∈k,bnd p
 |[],_,k,h,p,hp=>by simp only[X14]at h;cases h;cases hp
 | t ::l,hf,k,h,p,hp=>by
   simp only[Zk,Bool.and_eq_true]at hf;simp only[X14]at h;split at h
   · rename_i hok;simp only[Option.map_eq_some_iff]at h;obtain⟨k',h',rfl⟩:=h;rcases List.mem_cons.1 hp with rfl|hp
     · exact X7Y hv t hf.1 hok
     exact X9i hv l hf.2 k' h' p hp
   cases h
end
@[simp] theorem encP_snoc (a:List (Int×Int)) (r:Int×Int):X1h (a++[r])=X1h a++[[iC r.1,iC r.2]]:=by simp[X1h]
@[simp] theorem lows_snoc (a:List (Int×Int)) (r:Int×Int):X4Q (a++[r])=X4Q a++[[iC r.1]]:=by simp[X4Q]
@[simp] theorem highs_snoc (a:List (Int×Int)) (r:Int×Int):X1g (a++[r])=X1g a++[[iC r.2]]:=by simp[X1g]
theorem XaK (vars:List Vr) (inp:Bool) (hv:X0a vars) (t:Tm):W3 vars inp t=true→∀d:Nat,
  Con Tryz.prog 189 true [lV vars,aT t] (.tup [aP (rgP vars t).1,lb (rgP vars t).2]) none d:=by
 induction t using Tm.ind with
 |h o n ks ih=>
 intro hf d;simp only[W3,Bool.and_eq_true]at hf;have har:=X3n hf.1
 have hlen:ks.length≤33:=by
  have:(Qm o).2≤33:=by unfold Qm;(repeat' split)<;>simp
  omega
 clear har;obtain⟨res,hres⟩:∃r,rgP vars (.mk o n ks)=r:=⟨_,rfl⟩;rw[hres];simp only[rgP]at hres;have ih':∀t∈ks,∀d,Con Tryz.prog 189 true [lV vars,aT t] (.tup [aP (rgP vars t).1,lb (rgP vars t).2]) none d:=fun t ht d=>ih t ht (ZW hf.2 t ht) d;clear ih;refine X5 Tryz.func189 ?_;simp only[Tryz.f189];simp only[aT,Tm.enc];refine X2 ?_;refine X2 ?_;refine X0<|X0<|X1 ?_;refine X3<|(Xb [0,3,4,13,14] (fun(x:Nat×List (Int×Int))=>[(6,.v (.one (.own 1006))),(15,.v (li x.1))]) (fun(x:Nat×List (Int×Int))=>[(3,.box [.c (iC o),.c (iC n),.c (.sl 3 (Xn ks))]),(4,.box [.c (iC 0),.c (iC 0)]),(1006,.row 230 2 (X1h x.2))]) (fun(x:Nat×List (Int×Int))=>x.1≤ks.length∧x.2.length=x.1∧X14 vars ks=(X14 vars (ks.drop x.1)).map (x.2++ ·)∧∀p∈x.2,bnd p) (fun(x:Nat×List (Int×Int))=>ks.length - x.1) (0,[]) ⟨Nat.zero_le _,rfl,by simp,by simp⟩ ?_ ?_)
 · exact X4 (fun n=>n) [1006]
 rintro⟨k,acc⟩ ⟨hk,hal,hJ,hb⟩;simp only[upS,X6,Xw]
 try simp only[X6,KN,Nat.reduceBEq,if_true,if_false,ins,Nat.reduceLT]
 simp only at hk hal hJ hb;refine X2 ?_;refine X0<|(X7 rfl (fun h5=>X9 ?_) (fun h5=>?_))
 · (try simp only[BN]at h5);have hlt:k<ks.length:=by omega
   obtain⟨⟨eo,en,ek⟩,he,hd⟩:=Xo hlt;have he':=Wn he;simp only[Tm.enc]at he';have hw1:=Xy hlt (by omega);rw[hd]at hJ;simp only[X14]at hJ;have hk1:k+1≤ks.length:=hlt;have hmem:Tm.mk eo en ek∈ks:=List.mem_of_getElem? he;have hpb:=X7Y hv _ (ZW hf.2 _ hmem);have hroom:Q9 (k+1) 16:=Xv (by omega) (by omega);clear hlt h5;refine X0<|X3<|X0<|X1 ?_;refine Xh [⟨true,.tup [aP (rgP vars (.mk eo en ek)).1,lb (rgP vars (.mk eo en ek)).2],none⟩] ?_ ?_
   · first|exact ih' _ hmem _|exact trivial|simpa[*]using ih' _ hmem _
   refine X0<|X0<|X1 ?_;refine(Xc rfl (fun h9=>?_) fun h9=>?_)
   · (try simp only[BN]at h9);rw[h9]at hJ;simp only[Bool.false_eq_true,if_false,Option.map_none]at hJ;rw[hJ]at hres;subst hres;refine X2 ?_;exact Xe
   (try simp only[BN]at h9);rw[if_pos h9]at hJ;refine X1 ?_;refine X1 ?_
   exact⟨(k+1,acc++[(rgP vars (.mk eo en ek)).1]),⟨hk1,by simp[hal],by rw[hJ,Option.map_map];congr 1;funext z;simp,fun p hp=>by
    rcases List.mem_append.1 hp with h|h
    · exact hb p h
    simp only[List.mem_cons,List.not_mem_nil,or_false]at h;rw[h]
    exact hpb h9⟩,by simp only;omega,X4 (fun n=>if n=1006 then 31 else n) []⟩
 (try simp only[BN]at h5);have hkl:k=ks.length:=by omega
 rw[hkl,List.drop_length]at hJ;simp only[X14,Option.map_some,List.append_nil]at hJ;rw[hJ]at hres;subst hres;have hf1:Qh vars inp o n acc.length=true:=by rw[hal,hkl];exact hf.1
 refine(Xf ?_);refine Xh [⟨true,.v (aP (QB vars o n acc)),none⟩] ?_ ?_
 · first|exact X92 vars inp o n _ acc hf1 hb _|exact trivial|simpa[*]using X92 vars inp o n _ acc hf1 hb _
 refine X0<|(X5q [(11,11),(38,11),(42,11),(4,4)] (by kernel_rfl) (by kernel_rfl) (by rfl) (by simp[evsH,X2w,Qo, *];rfl) ?_);exact(Xk (fun h=>⟨.inr rfl,h⟩) _ (by simp[*];rfl) (by simp[XK,rgV,okR]) (by simp))
theorem XbN (vars:List Vr) (inp:Bool) (hv:X0a vars) (t:Tm):W3 vars inp t=true→∀d:Nat,
  Con Tryz.prog 97 true [lV vars,aT t] (.tup [li (rgQ vars t).1.1,li (rgQ vars t).1.2,lb (rgQ vars t).2]) none d:=by
 induction t using Tm.ind with
 |h o n ks ih=>
 intro hf d;simp only[W3,Bool.and_eq_true]at hf;have har:=X3n hf.1
 have hlen:ks.length≤33:=by
  have:(Qm o).2≤33:=by unfold Qm;(repeat' split)<;>simp
  omega
 clear har;obtain⟨res,hres⟩:∃r,rgQ vars (.mk o n ks)=r:=⟨_,rfl⟩;rw[hres];simp only[rgQ]at hres;have ih':∀t∈ks,∀d,Con Tryz.prog 97 true [lV vars,aT t] (.tup [li (rgQ vars t).1.1,li (rgQ vars t).1.2,lb (rgQ vars t).2]) none d:=fun t ht d=>ih t ht (ZW hf.2 t ht) d;clear ih;refine X5 Tryz.func97 ?_;simp only[Tryz.f97];simp only[aT,Tm.enc];refine X2 ?_;refine X2 ?_;refine X2 ?_;refine X0<|X0<|X1 ?_;refine X3<|(Xb [0,3] (fun(x:Nat×List (Int×Int))=>[(7,.v (.one (.own 1007))),(8,.v (.one (.own 1008))),(9,.v (li x.1))]) (fun(x:Nat×List (Int×Int))=>[(3,.box [.c (iC o),.c (iC n),.c (.sl 3 (Xn ks))]),(1007,.row 3 1 (X4Q x.2)),(1008,.row 3 1 (X1g x.2))]) (fun(x:Nat×List (Int×Int))=>x.1≤ks.length∧x.2.length=x.1∧X14 vars ks=(X14 vars (ks.drop x.1)).map (x.2++ ·)∧∀p∈x.2,bnd p) (fun(x:Nat×List (Int×Int))=>ks.length - x.1) (0,[]) ⟨Nat.zero_le _,rfl,by simp,by simp⟩ ?_ ?_)
 · exact X4 (fun n=>if n=1007 then 15 else if n=1008 then 16 else n) []
 rintro⟨k,acc⟩ ⟨hk,hal,hJ,hb⟩;simp only[upS,X6,Xw]
 try simp only[X6,KN,Nat.reduceBEq,if_true,if_false,ins,Nat.reduceLT]
 simp only at hk hal hJ hb;refine X0<|X0<|X1 ?_;refine(X7 rfl (fun h6=>X9 ?_) (fun h6=>?_))
 · (try simp only[BN]at h6);have hlt:k<ks.length:=by omega
   obtain⟨⟨eo,en,ek⟩,he,hd⟩:=Xo hlt;have he':=Wn he;simp only[Tm.enc]at he';have hw1:=Xy hlt (by omega);rw[hd]at hJ;simp only[X14]at hJ;have hk1:k+1≤ks.length:=hlt;have hmem:Tm.mk eo en ek∈ks:=List.mem_of_getElem? he;have hpb:=X7Y hv _ (ZW hf.2 _ hmem);have hroom:Q9 (k+1) 8:=Xv (by omega) (by omega);rw[←(X7s vars (.mk eo en ek)).1]at hJ hpb;clear hlt h6;refine X0<|X3<|X0<|(Xm [⟨true,.tup [li (rgQ vars (.mk eo en ek)).1.1,li (rgQ vars (.mk eo en ek)).1.2,lb (rgQ vars (.mk eo en ek)).2],none⟩] ?_ ?_)
   · first|exact ih' _ hmem _|exact trivial|simpa[*]using ih' _ hmem _
   refine X0<|X0<|X1 ?_;refine(Xc rfl (fun h9=>?_) fun h9=>?_)
   · (try simp only[BN]at h9);rw[h9]at hJ;simp only[Bool.false_eq_true,if_false,Option.map_none]at hJ;rw[hJ]at hres;subst hres;refine X2 ?_;exact Xe
   (try simp only[BN]at h9);rw[if_pos h9]at hJ;have hq2:=(X7s vars (.mk eo en ek)).2 (by rw[←(X7s vars (.mk eo en ek)).1];exact h9);refine X2 ?_;refine X1 ?_;refine X1 ?_
   exact⟨(k+1,acc++[(rgP vars (.mk eo en ek)).1]),⟨hk1,by simp[hal],by rw[hJ,Option.map_map];congr 1;funext z;simp,fun p hp=>by
    rcases List.mem_append.1 hp with h|h
    · exact hb p h
    simp only[List.mem_cons,List.not_mem_nil,or_false]at h;rw[h]
    exact hpb h9⟩,by simp only;omega,X4 (fun n=>if n=1007 then 40 else if n=1008 then 44 else n) []⟩
 (try simp only[BN]at h6);have hkl:k=ks.length:=by omega
 rw[hkl,List.drop_length]at hJ;simp only[X14,Option.map_some,List.append_nil]at hJ;rw[hJ]at hres;subst hres;have hf1:Qh vars inp o n acc.length=true:=by rw[hal,hkl];exact hf.1
 refine(Xf ?_);refine Xh [⟨true,.tup [li (X2Z vars o n acc).1,li (X2Z vars o n acc).2],none⟩] ?_ ?_
 · first|exact X8g vars inp o n _ acc hf1 hb _|exact trivial|simpa[*]using X8g vars inp o n _ acc hf1 hb _
 refine X2 ?_;exact(Xk (fun h=>⟨.inr rfl,h⟩) _ (by simp[*];rfl) (by simp[XK,rgW,okR]) (by simp))
def X0F (vars:List Vr) (inp:Bool) (t:Tm):Int:=if W3 vars inp t=true then(if(rgP vars t).2=true then 0 else 3)else 1
theorem X6P (vars:List Vr) (inp:Bool) (hv:X0a vars) (hl:vars.length≤1000000000) (t:Tm) (hn:t.nodes≤1000000000) (d:Nat):
  Con Tryz.prog 180 true [lV vars,aT t,lb inp] (.v (li (X0F vars inp t))) none d:=by
 have c1:=Xcy vars inp hl t hn;have c2:=XaK vars inp hv t;obtain⟨o,n,ks⟩:=t;obtain⟨F,hF⟩:∃F,W3 vars inp (.mk o n ks)=F:=⟨_,rfl⟩;obtain⟨R,hR⟩:∃R,rgP vars (.mk o n ks)=R:=⟨_,rfl⟩;simp only[X0F,hF,hR]at c1 c2⊢;clear hF hR;refine X5 Tryz.func180 ?_;simp only[Tryz.f180];simp only[aT,Tm.enc]at c1 c2⊢;refine X2 ?_;refine X0<|X0<|(Xm [⟨true,.v (lb F),none⟩] ?_ ?_)
 · first|exact c1 _|exact trivial|simpa[*]using c1 _
 refine(Xc rfl (fun h2=>?_) fun h2=>?_)
 · (try simp only[BN]at h2);refine X2 ?_;exact Xe
 (try simp only[BN]at h2);refine X0<|X0<|(Xm [⟨true,.tup [aP R.1,lb R.2],none⟩] ?_ ?_)
 · first|exact c2 h2 _|exact trivial|simpa[*]using c2 h2 _
 refine X2 ?_;refine(Xc rfl (fun h7=>?_) fun h7=>?_)
 · (try simp only[BN]at h7);refine X2 ?_;exact Xe
 (try simp only[BN]at h7);refine X2 ?_;exact Xe
theorem X6K (vars:List Vr) (inp:Bool) (hv:X0a vars) (hl:vars.length≤1000000000) (t:Tm) (hn:t.nodes≤1000000000) (d:Nat):
  Con Tryz.prog 64 true [lV vars,aT t,lb inp] (.v (li (X0F vars inp t))) none d:=by
 have c1:=Xc4 vars inp hl t hn;have c2:=XbN vars inp hv t;rw[(X7s vars t).1]at c2;obtain⟨o,n,ks⟩:=t;obtain⟨F,hF⟩:∃F,W3 vars inp (.mk o n ks)=F:=⟨_,rfl⟩;obtain⟨R,hR⟩:∃R,(rgP vars (.mk o n ks)).2=R:=⟨_,rfl⟩;obtain⟨S,hS⟩:∃S,(rgQ vars (.mk o n ks)).1=S:=⟨_,rfl⟩;simp only[X0F,hF,hR,hS]at c1 c2⊢;clear hF hR hS;refine X5 Tryz.func64 ?_;simp only[Tryz.f64];simp only[aT,Tm.enc]at c1 c2⊢;refine X2 ?_;refine X0<|X0<|(Xm [⟨true,.v (lb F),none⟩] ?_ ?_)
 · first|exact c1 _|exact trivial|simpa[*]using c1 _
 refine(Xc rfl (fun h2=>?_) fun h2=>?_)
 · (try simp only[BN]at h2);refine X2 ?_;exact Xe
 (try simp only[BN]at h2);refine Xh [⟨true,.tup [li S.1,li S.2,lb R],none⟩] ?_ ?_
 · first|exact c2 h2 _|exact trivial|simpa[*]using c2 h2 _
 refine X0<|X0<|X1 ?_;refine(Xc rfl (fun h7=>?_) fun h7=>?_)
 · (try simp only[BN]at h7);refine X2 ?_;exact Xe
 (try simp only[BN]at h7);refine X2 ?_;exact Xe
end Go.Proofs.YtppjennamodfdaaGreat

namespace Go.Proofs.YtppjennamodfdaaGreat
open Go Go.Hl
@[simp] theorem take_encV (l:List Vr) (i:Nat):(Xr l).take i=Xr (l.take i):=by simp[Xr]
@[simp] theorem encV_snoc (l:List Vr) (v:Vr):Xr (l++[v])=Xr l++[v.enc]:=by simp[Xr]
theorem ZS {α:Type} {l:List α} {k:Nat} {x:α} (h:l[k]? =some x):l.take (k+1)=l.take k++[x]:=by
 rw[List.take_add_one,h];rfl
theorem X2d (s:ByteArray) (d:Nat):Con Tryz.prog 62 true [sv s] (.v (lb (ZL s))) none d:=by
 refine X5 Tryz.func62 ?_;simp only[Tryz.f62];refine X2 ?_;refine X0<|X0<|X1 ?_;refine(Xc rfl (fun h2=>?_) fun h2=>?_)
 · try simp only[BN]at h2
   have hz:ZL s=false:=by
    unfold ZL;rw[Bool.and_eq_false_iff,Bool.and_eq_false_iff];simp only[decide_eq_false_iff_not];omega
   refine X2 ?_;exact Xe
 (try simp only[BN]at h2);have h1:1≤s.size:=by omega
 have h40:s.size≤40:=by omega
 refine X0<|X0<|X1 ?_;refine X3<|(Xb [0] (fun(x:Nat)=>[(3,.v (li x))]) (fun x=>[]) (fun x=>x≤s.size∧∀j:Nat,j<x→X3L s j=true) (fun x=>s.size - x) (0:Nat) ⟨Nat.zero_le _,fun j hj=>absurd hj (Nat.not_lt_zero j)⟩ ?_ ?_)
 · exact X4 (fun n=>n) []
 rintro k ⟨hk,hall⟩;simp only[upS,X6,Xw]
 try simp only[X6,KN,Nat.reduceBEq,if_true,if_false,ins,Nat.reduceLT]
 refine X0<|X0<|X1 ?_;refine(X7 rfl (fun h8=>X9 ?_) (fun h8=>?_))
 · (try simp only[BN]at h8);have hlt:k<s.size:=by omega
   obtain⟨b,hb⟩:=X6v hlt;have hw:=Xy hlt (by omega);have hk1:k+1≤s.size:=hlt;clear hlt h8;refine X0<|X3<|X0<|X1 ?_;refine X2 ?_;refine X2 ?_;refine X2 ?_;refine(Xc rfl (fun h13=>?_) fun h13=>?_)
   · try simp only[BN]at h13
     have hbad:X3L s k=false:=by
      unfold X3L;rw[hb];simp only[Bool.or_eq_false_iff,Bool.and_eq_false_iff,decide_eq_false_iff_not];omega
     have hz:=X6w hk1 hbad;refine X2 ?_;exact Xe
   try simp only[BN]at h13
   have hgood:X3L s k=true:=by
    unfold X3L;rw[hb];simp only[Bool.or_eq_true,Bool.and_eq_true,decide_eq_true_eq];omega
   refine X1 ?_;exact⟨k+1,⟨by omega,fun j hj=>(Nat.lt_succ_iff_lt_or_eq.1 hj).elim (hall j) (fun e=>e▸hgood)⟩,by omega,X4 (fun n=>n) []⟩
 (try simp only[BN]at h8);have hz:=X66 h1 h40 (fun j hj=>hall j (by omega));refine(Xf ?_);refine X2 ?_;exact Xe
def sz (v:Vr):Int:=v.high - v.low+1
def prV:List Vr→Int→Int
 |[],n=>n
 |v::l,n=>if 4096<n*sz v then 4097 else prV l (n*sz v)
def spc (vars:List Vr) (kind:Int):Int:=prV (vars.filter fun v=>decide (v.kind=kind)) 1
def ZZ (vars:List Vr):Prop:=∀v∈vars,v.low≤v.high∧-1048576≤v.low∧v.high≤1048576
theorem sz_in {vars:List Vr} (h:ZZ vars) {v:Vr} (hv:v∈vars):1≤sz v∧sz v≤2097153:=by
 have:=h v hv;unfold sz;omega
theorem X7C {n s:Int} (h1:1≤n∧n≤4096) (h2:1≤s∧s≤2097153):1≤n*s∧n*s≤8589938688:=by
 have h3:n.natAbs*s.natAbs≤4096*2097153:=Nat.mul_le_mul (by omega) (by omega);have h4:1*1≤n.natAbs*s.natAbs:=Nat.mul_le_mul (by omega) (by omega);rw[←Int.natAbs_mul]at h3 h4;have h5:0≤n*s:=Int.mul_nonneg (by omega) (by omega);omega
theorem prV_in {vars:List Vr} (h:ZZ vars):∀(l:List Vr) (n:Int),(∀v∈l,v∈vars)→1≤n∧n≤4096→1≤prV l n∧prV l n≤4097
 |[],n,_,hn=>by simp only[prV];omega
 | v::l,n,hl,hn=>by
   simp only[prV];have:=X7C hn (sz_in h (hl v (by simp)));split
   · omega
   exact prV_in h l _ (fun w hw=>hl w (List.mem_cons_of_mem _ hw)) (by omega)
theorem X2C (vars:List Vr) (kind:Int) (hv:ZZ vars) (hl:vars.length≤1000000000) (d:Nat):Con Tryz.prog 95 true [lV vars,li kind] (.v (li (spc vars kind))) none d:=by
 obtain⟨res,hres⟩:∃r,spc vars kind=r:=⟨_,rfl⟩;rw[hres];unfold spc at hres;refine X5 Tryz.func95 ?_;simp only[Tryz.f95];refine X2 ?_;refine X2 ?_;refine X0<|X0<|X1 ?_;refine X3<|(Xb [0,1] (fun(x:Nat×Int)=>[(5,.v (li x.2)),(6,.v (li x.1))]) (fun x=>[]) (fun x=>x.1≤vars.length∧prV ((vars.drop x.1).filter fun v=>decide (v.kind=kind)) x.2=res∧1≤x.2∧x.2≤4096) (fun x=>vars.length - x.1) (0,1) ⟨Nat.zero_le _,hres,by decide,by decide⟩ ?_ ?_)
 · exact X4 (fun n=>n) []
 rintro⟨k,n⟩ ⟨hk,hJ,hn1,hn2⟩;simp only[upS,X6,Xw]
 try simp only[X6,KN,Nat.reduceBEq,if_true,if_false,ins,Nat.reduceLT]
 simp only at hk hJ hn1 hn2;clear hres;refine X0<|X0<|X1 ?_;refine(X7 rfl (fun h5=>X9 ?_) (fun h5=>?_))
 · (try simp only[BN]at h5);have hlt:k<vars.length:=by omega
   obtain⟨v,he,hd⟩:=Xo hlt;have hw1:=Xy hlt (by omega);have hk1:k+1≤vars.length:=hlt;have hmem:v∈vars:=List.mem_of_getElem? he;have hs:=sz_in hv hmem;have hm:=X7C ⟨hn1,hn2⟩ hs;have hb:=hv v hmem;have hw2:IntKind.i64.wrap (v.high - v.low)=v.high - v.low:=Xa (by omega) (by omega);have hw3:IntKind.i64.wrap (v.high - v.low+1)=sz v:=by rw[Xa (by omega) (by omega)];rfl
   have hw4:IntKind.i64.wrap (n*sz v)=n*sz v:=Xa (by omega) (by omega);rw[hd]at hJ;clear hlt h5 hv;refine X0<|X3<|X0<|X0<|X1 ?_;refine(Xc rfl (fun h7=>?_) fun h7=>?_)
   · (try simp only[BN]at h7);rw[List.filter_cons_of_neg (by simpa using h7)]at hJ;refine(Xf ?_);refine X1 ?_;exact⟨(k+1,n),⟨hk1,hJ,hn1,hn2⟩,by simp only;omega,X4 (fun n=>n) []⟩
   (try simp only[BN]at h7);rw[List.filter_cons_of_pos (by simpa using h7)]at hJ;simp only[prV]at hJ;refine X0<|(Q4 (by kernel_rfl) (by kernel_rfl) (by rfl) (by simp[*];rfl) ?_);refine X2 ?_;refine(Xc rfl (fun h12=>?_) fun h12=>?_)
   · (try simp only[BN]at h12);rw[if_pos h12]at hJ;subst hJ;refine X2 ?_;exact Xe
   (try simp only[BN]at h12);rw[if_neg h12]at hJ;refine X1 ?_;exact⟨(k+1,n*sz v),⟨hk1,hJ,hm.1,by simp only;omega⟩,by simp only;omega,X4 (fun n=>n) []⟩
 (try simp only[BN]at h5);have hkl:k=vars.length:=by omega
 rw[hkl,List.drop_length]at hJ;simp only[List.filter_nil,prV]at hJ;refine(Xf ?_);refine X2 ?_;exact(Xk (fun h=>⟨.inr rfl,h⟩) _ (by simp[*];rfl) (by subst hJ;rfl) (by simp))
theorem X6E (v:Vr) (hv:-1048576≤v.low∧v.low≤v.high∧v.high≤1048576) (d:Nat):Con Tryz.prog 197 true [aV v] (.v (li (sz v))) none d:=by
 have hw2:IntKind.i64.wrap (v.high - v.low)=v.high - v.low:=Xa (by omega) (by omega);have hw3:IntKind.i64.wrap (v.high - v.low+1)=sz v:=by rw[Xa (by omega) (by omega)];rfl
 refine X5 Tryz.func197 ?_;simp only[Tryz.f197];refine X2 ?_;refine X2 ?_;exact Xe
def chR (vars:List Vr) (kind:Int):RV:=if spc vars kind≤4096 then .tup [.one (.c (.sl 5 (Xr (vars.filter fun v=>decide (v.kind=kind))))),li (spc vars kind),li 0] else .tup [.one (.c (.lit XU)),li 0,li 4]
theorem Xaj (vars:List Vr) (kind:Int) (hkd:1≤kind∧kind≤3) (hv:ZZ vars) (hl:vars.length≤1000000) (d:Nat):Con Tryz.prog 186 false [lV vars,li kind] (chR vars kind) none d:=by
 obtain⟨S,hS⟩:∃S,vars.filter (fun v=>decide (v.kind=kind))=S:=⟨_,rfl⟩;obtain⟨res,hres⟩:∃r,spc vars kind=r:=⟨_,rfl⟩;unfold chR;rw[hres,hS];unfold spc at hres;rw[hS]at hres;refine X5 Tryz.func186 ?_;simp only[Tryz.f186];refine X2 ?_;refine(XL [0,1] (fun(z:Unit)=>[]) (fun(z:Unit)=>[]) (fun(z:Unit)=>True) ?_ ?_)
 ·
  refine X2 ?_;refine X3<|(XL [0,1] (fun(z:Bool)=>[(14,.v (lb z))]) (fun(z:Bool)=>[]) (fun(z:Bool)=>z=true) ?_ ?_)
  ·
   refine X2 ?_;refine(X7 rfl (fun h5=>X9 ?_) (fun h5=>?_))
   · (try simp only[BN]at h5);exact⟨true,rfl,X4 (fun n=>n) []⟩
   (try simp only[BN]at h5);refine X2 ?_;refine(X7 rfl (fun h8=>X9 ?_) (fun h8=>?_))
   · (try simp only[BN]at h8);exact⟨true,rfl,X4 (fun n=>n) []⟩
   (try simp only[BN]at h8);refine X2 ?_;refine(X7 rfl (fun h11=>X9 ?_) (fun h11=>?_))
   · (try simp only[BN]at h11);exact⟨true,rfl,X4 (fun n=>n) []⟩
   (try simp only[BN]at h11);refine X1 ?_;have hz:decide (kind=3)=true:=by rw[decide_eq_true_eq];omega
   exact⟨true,rfl,X4 (fun n=>n) []⟩
  rintro _ rfl;simp only[upS,X6,Xw]
  try simp only[X6,KN,Nat.reduceBEq,if_true,if_false,ins,Nat.reduceLT]
  refine(X7 rfl (fun h15=>X9 ?_) (fun h15=>?_))
  · (try simp only[BN]at h15);exact⟨(),trivial,X4 (fun n=>n) []⟩
  exact absurd h15 (by simp)
 rintro z hz;simp only[upS,X6,Xw]
 try simp only[X6,KN,Nat.reduceBEq,if_true,if_false,ins,Nat.reduceLT]
 refine X2 ?_;refine X0<|X0<|X1 ?_;refine X3<|(Xb [1,19,20] (fun(x:Nat×List Vr)=>[(7,.v (.one (.own 1007))),(21,.v (li x.1))]) (fun x=>[(1007,.row 64 5 (Xr x.2))]) (fun x=>x.1≤vars.length∧x.2=(vars.take x.1).filter fun v=>decide (v.kind=kind)) (fun x=>vars.length - x.1) (0,[]) ⟨Nat.zero_le _,by simp⟩ ?_ ?_)
 · exact Xu (fun n=>n) [1007] rfl (by simp[upS,X6]) (by simp[upS,Xr]) (by simp[upS])
 rintro⟨k,acc⟩ ⟨hk,hJ⟩;simp only[upS,X6,Xw]
 try simp only[X6,KN,Nat.reduceBEq,if_true,if_false,ins,Nat.reduceLT]
 simp only at hk hJ;replace hJ:=hJ.symm;refine X2 ?_;refine X0<|(X7 rfl (fun h23=>X9 ?_) (fun h23=>?_))
 · (try simp only[BN]at h23);have hlt:k<vars.length:=by omega
   obtain⟨v,he,hd⟩:=Xo hlt;have hw1:=Xy hlt (by omega);have hk1:k+1≤vars.length:=hlt;have hmem:v∈vars:=List.mem_of_getElem? he;have hb:=hv v hmem;have ht:=ZS he;generalize hT:(vars.take k).filter (fun v=>decide (v.kind=kind))=T at hJ
   have hal:acc.length≤k:=by
    rw[←hJ,←hT];exact Nat.le_trans (List.length_filter_le _ _) (by rw[List.length_take];omega)
   have hroom:Q9 (acc.length+1) 48:=Xv (by omega) (by omega);clear hlt h23 hv;refine X0<|X3<|X0<|X1 ?_;refine X0<|X0<|X1 ?_;refine(Xc rfl (fun h26=>?_) fun h26=>?_)
   · (try simp only[BN]at h26);have hf:(vars.take (k+1)).filter (fun v=>decide (v.kind=kind))=acc:=by rw[ht,List.filter_append,hT,hJ,List.filter_cons_of_neg (by simpa using h26)];simp
     clear hS;refine(Xf ?_);refine X1 ?_;exact⟨(k+1,acc),⟨hk1,hf.symm⟩,by simp only;omega,X4 (fun n=>n) []⟩
   (try simp only[BN]at h26);have hf:(vars.take (k+1)).filter (fun v=>decide (v.kind=kind))=acc++[v]:=by rw[ht,List.filter_append,hT,hJ,List.filter_cons_of_pos (by simpa using h26)];simp
   clear hS;refine X0<|X0<|X1 ?_;refine(Xc rfl (fun h30=>?_) fun h30=>?_)
   · exfalso;simp only[Bool.or_eq_true,decide_eq_true_eq]at h30;omega
   (try simp only[BN]at h30);refine X1 ?_;refine X1 ?_;exact⟨(k+1,acc++[v]),⟨hk1,hf.symm⟩,by simp only;omega,X4 (fun n=>if n=1007 then 47 else n) []⟩
 (try simp only[BN]at h23);have hkl:k=vars.length:=by omega
 rw[hkl,List.take_length,hS]at hJ;subst hJ;have hSl:S.length≤1000000:=by rw[←hS];exact Nat.le_trans (List.length_filter_le _ _) hl
 have hSv:∀v∈S,v.low≤v.high∧-1048576≤v.low∧v.high≤1048576:=fun v h=>hv v (by rw[←hS]at h;exact(List.mem_filter.1 h).1);clear hS hv hk hl h23 hkl;refine(Xf ?_);refine X2 ?_;refine X0<|X0<|X1 ?_;refine X3<|(Xb [7,49,50] (fun(x:Nat×Int)=>[(10,.v (li x.2)),(51,.v (li x.1))]) (fun x=>[(1007,.row 64 5 (Xr S))]) (fun x=>x.1≤S.length∧prV (S.drop x.1) x.2=res∧1≤x.2∧x.2≤4096) (fun x=>S.length - x.1) (0,1) ⟨Nat.zero_le _,hres,by decide,by decide⟩ ?_ ?_)
 · exact X4 (fun n=>n) []
 rintro⟨k2,n⟩ ⟨hk2,hJ,hn1,hn2⟩;simp only[upS,X6,Xw]
 try simp only[X6,KN,Nat.reduceBEq,if_true,if_false,ins,Nat.reduceLT]
 simp only at hk2 hJ hn1 hn2;clear hres;refine X2 ?_;refine X0<|(X7 rfl (fun h40=>X9 ?_) (fun h40=>?_))
 · (try simp only[BN]at h40);have hlt:k2<S.length:=by omega
   obtain⟨v,he,hd⟩:=Xo hlt;have hw1:=Xy hlt (by omega);have hk1:k2+1≤S.length:=hlt;have hb:=hSv v (List.mem_of_getElem? he);have hs:1≤sz v∧sz v≤2097153:=by unfold sz;omega
   have hm:=X7C ⟨hn1,hn2⟩ hs;have hw4:IntKind.i64.wrap (n*sz v)=n*sz v:=Xa (by omega) (by omega);rw[hd]at hJ;simp only[prV]at hJ;clear hlt h40;refine X0<|X3<|X0<|X1 ?_;refine Xh [⟨true,.v (li (sz v)),none⟩] ?_ ?_
   · first|exact X6E v ⟨hb.2.1,hb.1,hb.2.2⟩ _|exact trivial|simpa[*]using X6E v ⟨hb.2.1,hb.1,hb.2.2⟩ _
   refine X2 ?_;refine(Xc rfl (fun h44=>?_) fun h44=>?_)
   · (try simp only[BN]at h44);rw[if_pos h44]at hJ;subst hJ;refine X2 ?_;exact XR ⟨.inr rfl,_,le_refl _,⟨⟨_,by simp;rfl,by simp[XK]⟩,by simp,fun h=>by cases h⟩⟩
   (try simp only[BN]at h44);rw[if_neg h44]at hJ;refine X1 ?_;exact⟨(k2+1,n*sz v),⟨hk1,hJ,hm.1,by simp only;omega⟩,by simp only;omega,X4 (fun n=>n) []⟩
 (try simp only[BN]at h40);have hkl:k2=S.length:=by omega
 rw[hkl,List.drop_length]at hJ;simp only[prV]at hJ;subst hJ;refine(Xf ?_);refine X2 ?_;exact XR ⟨.inr rfl,_,XO 1007 rfl,⟨⟨_,by simp;rfl,by simp[XK,hn2]⟩,by simp,fun h=>by cases h⟩⟩
theorem Xav (vars:List Vr) (kind:Int) (hkd:1≤kind∧kind≤3) (hv:ZZ vars) (hl:vars.length≤1000000) (d:Nat):Con Tryz.prog 177 true [lV vars,li kind]
  (.tup [li (if spc vars kind≤4096 then spc vars kind else 0),li (if spc vars kind≤4096 then 0 else 4)]) none d:=by
 have c:=Xaj vars kind hkd hv hl;unfold chR at c;obtain⟨res,hres⟩:∃r,spc vars kind=r:=⟨_,rfl⟩;rw[hres]at c⊢;clear hres;by_cases h:res≤4096
 · rw[if_pos h]at c;rw[if_pos h,if_pos h];refine X5 Tryz.func177 ?_;simp only[Tryz.f177];refine X2 ?_;refine Xh [⟨false,.tup [.one (.c (.sl 5 (Xr (vars.filter fun v=>decide (v.kind=kind))))),li res,li 0],none⟩] ?_ ?_
   · first|exact c _|exact trivial|simpa[*]using c _
   refine X2 ?_;exact Xe
 rw[if_neg h]at c;rw[if_neg h,if_neg h];refine X5 Tryz.func177 ?_;simp only[Tryz.f177];refine X2 ?_;refine Xh [⟨false,.tup [.one (.c (.lit XU)),li 0,li 4],none⟩] ?_ ?_
 · first|exact c _|exact trivial|simpa[*]using c _
 refine X2 ?_;exact Xe
end Go.Proofs.YtppjennamodfdaaGreat

namespace Go.Proofs.YtppjennamodfdaaGreat
open Go Go.Hl
theorem idxV_con (l:List Vr) (g:FuncId) (cap:List CD) (p:Vr→Bool) (hl:l.length≤1000000000) (hp:∀v∈l,∀d,Con Tryz.prog g true (aV v::cap.map fun c=>.one (.c c)) (.v (lb (p v))) none d) (d:Nat):
  ∃r:Int,(∀d,Con Tryz.prog 185 true [lV l,.one (.c (.fn g cap))] (.v (li r)) none d)∧(0≤r↔l.any p=true):=by
 let rec_:List Vr→Int→Int:=fun l k=>match l.findIdx? p with
  |some i=>k+i
  |none=>-1
 refine⟨(match l.findIdx? p with|some i=>(i:Int)|none=>-1),fun d=>?_,?_⟩
 · have hstep:∀k:Nat,(∀j:Nat,j<k→∀v,l[j]? =some v→p v=false)→∀v,l[k]? =some v→p v=true→l.findIdx? p=some k:=by
    intro k hno v hv hpv;rw[List.findIdx?_eq_some_iff_getElem];have hk:k<l.length:=(List.getElem?_eq_some_iff.1 hv).1;refine⟨hk,?_,fun j hj=>?_⟩
    · simp only[List.getElem?_eq_getElem hk,Option.some.injEq]at hv;rw[hv];exact hpv
    have:=hno j hj l[j] (by simp);simp[this]
   have hnone:(∀j:Nat,j<l.length→∀v,l[j]? =some v→p v=false)→l.findIdx? p=none:=by
    intro hno;rw[List.findIdx?_eq_none_iff];intro v hv;obtain⟨j,hj⟩:=List.mem_iff_getElem?.1 hv;exact hno j (List.getElem?_eq_some_iff.1 hj).1 v hj
   clear rec_;refine X5 Tryz.func185 ?_;simp only[Tryz.f185];refine X2 ?_;refine X0<|X0<|X1 ?_;refine X3<|(Xb [0,1,7] (fun(x:Nat)=>[(8,.v (li x))]) (fun x=>[]) (fun x=>x≤l.length∧∀j:Nat,j<x→∀v,l[j]? =some v→p v=false) (fun x=>l.length - x) (0:Nat) ⟨Nat.zero_le _,fun j hj=>absurd hj (Nat.not_lt_zero j)⟩ ?_ ?_)
   · exact X4 (fun n=>n) []
   rintro k ⟨hk,hJ⟩;simp only[upS,X6,Xw]
   try simp only[X6,KN,Nat.reduceBEq,if_true,if_false,ins,Nat.reduceLT]
   refine X2 ?_;refine X0<|(X7 rfl (fun h4=>X9 ?_) (fun h4=>?_))
   · (try simp only[BN]at h4);have hlt:k<l.length:=by omega
     obtain⟨v,he,hd⟩:=Xo hlt;have hw1:=Xy hlt (by omega);have hk1:k+1≤l.length:=hlt;have hpv:=hp v (List.mem_of_getElem? he);have hs:=hstep k hJ v he;clear hlt h4 hstep hnone hp;refine X0<|X3<|X0<|X1 ?_;refine Xh [⟨true,.v (lb (p v)),none⟩] ?_ ?_
     · first|exact hpv _|exact trivial|simpa[*]using hpv _
     refine(Xc rfl (fun h7=>?_) fun h7=>?_)
     · (try simp only[BN]at h7);rw[hs h7];refine X2 ?_;exact Xe
     (try simp only[BN]at h7);refine X1 ?_;exact⟨k+1,⟨hk1,fun j hj w hw=>(Nat.lt_succ_iff_lt_or_eq.1 hj).elim (fun h=>hJ j h w hw) (fun e=>by subst e;rw[he]at hw;cases hw;exact h7)⟩,by omega,X4 (fun n=>n) []⟩
   (try simp only[BN]at h4);rw[hnone fun j hj=>hJ j (by omega)];refine(Xf ?_);refine X2 ?_;exact Xe
 rw[List.any_eq];cases h:l.findIdx? p with
 | none=>
   rw[List.findIdx?_eq_none_iff]at h;simp only[decide_eq_true_eq];constructor
   · intro h;omega
   rintro⟨v,hv,hpv⟩;have:=h v hv;rw[hpv]at this;cases this
 | some i=>
   rw[List.findIdx?_eq_some_iff_getElem]at h;obtain⟨hi,hpi,_⟩:=h;simp only[decide_eq_true_eq];exact⟨fun _=>⟨l[i],List.getElem_mem _,hpi⟩,fun _=>by omega⟩
theorem X8m (l:List Vr) (g:FuncId) (cap:List CD) (p:Vr→Bool) (hl:l.length≤1000000000) (hp:∀v∈l,∀d,Con Tryz.prog g true (aV v::cap.map fun c=>.one (.c c)) (.v (lb (p v))) none d) (d:Nat):
  Con Tryz.prog 175 true [lV l,.one (.c (.fn g cap))] (.v (lb (l.any p))) none d:=by
 obtain⟨r,hr,hi⟩:=idxV_con l g cap p hl hp 0;have hd:decide (0≤r)=l.any p:=by rw[Bool.eq_iff_iff,decide_eq_true_eq];exact hi
 clear hi hp;refine X5 Tryz.func175 ?_;simp only[Tryz.f175];refine X2 ?_;refine Xh [⟨true,.v (li r),none⟩] ?_ ?_
 · first|exact hr _|exact trivial|simpa[*]using hr _
 exact Xe
theorem X6u (w v:Vr) (d:Nat):Con Tryz.prog 173 true [aV w,.one (.c (.ptr v.enc))] (.v (lb (decide (w.name=v.name)))) none d:=by
 refine X5 Tryz.func173 ?_;simp only[Tryz.f173];refine X2 ?_;refine X2 ?_;exact Xe
end Go.Proofs.YtppjennamodfdaaGreat

namespace Go.Proofs.YtppjennamodfdaaGreat
open Go Go.Hl
def WI (v:Vr):Prop:=QK v.low v.high=false∨(v.kind≠0∧v.init≠0)∨(v.kind=0∧(v.init<v.low∨v.high<v.init))
instance (v:Vr):Decidable (WI v):=by unfold WI;exact inferInstance
def Zb (seen:List Vr) (v:Vr):Int:=
 if ZL v.name=false then 7 else if(seen.any fun w=>decide (w.name=v.name))=true then 8 else if v.kind<0∨3<v.kind then 1 else if WI v then 3 else 0
def vcs:List Vr→List Vr→Int
 |_,[]=>0
 |seen,v::l=>if Zb seen v=0 then vcs (seen++[v]) l else Zb seen v
def X2r (vars:List Vr) (kind:Int):Bool:=decide (4096<spc vars kind)||(decide (kind=3)&&decide (256<spc vars kind))
def ZF (vars:List Vr):Int:=if vcs [] vars=0 then(if([1,2,3].any (X2r vars))=true then 4 else 0)else vcs [] vars
theorem X3e:∀(l seen:List Vr),vcs seen l=0→X0a l
 |[],_,_,v,hv=>by cases hv
 | w :: l,seen,h,v,hv=>by
   simp only[vcs]at h;split at h
   · rename_i h0;rcases List.mem_cons.1 hv with rfl|hv
     · unfold Zb at h0;split at h0
       · cases h0
       split at h0
       · cases h0
       split at h0
       · cases h0
       split at h0
       · cases h0
       rename_i hk;unfold WI at hk
       have hb:QK v.low v.high=true:=by
        cases hb:QK v.low v.high with
        |true=>rfl
        |false=>exact absurd (.inl hb) hk
       simp only[QK,Bool.and_eq_true,decide_eq_true_eq]at hb;omega
     exact X3e l _ h v hv
   rename_i h0;exact absurd h h0
def X5r (vars:List Vr):List Int→Int
 |[]=>0
 |k::l=>if X2r vars k=true then 4 else X5r vars l
theorem X7a (vars:List Vr):∀l:List Int,X5r vars l=if l.any (X2r vars)=true then 4 else 0
 |[]=>by simp[X5r]
 | k::l=>by
   simp only[X5r,List.any_cons,X7a vars l];by_cases hb:X2r vars k=true
   · simp[hb]
   simp only[Bool.not_eq_true]at hb;simp[hb]
theorem Xcz (vars:List Vr) (hl:vars.length≤1000000) (d:Nat):Con Tryz.prog 164 true [lV vars] (.v (li (ZF vars))) none d:=by
 obtain⟨res,hres⟩:∃r,ZF vars=r:=⟨_,rfl⟩;rw[hres];obtain⟨cd,hcd⟩:∃r,vcs [] vars=r:=⟨_,rfl⟩;have hgood:cd=0→ZZ vars:=fun h=>X3e vars [] (hcd.trans h);unfold ZF at hres;rw[hcd]at hres;refine X5 Tryz.func164 ?_;simp only[Tryz.f164];refine X2 ?_;refine X0<|X0<|X1 ?_;refine X3<|(Xb [0,10,11] (fun(x:Nat)=>[(12,.v (li x))]) (fun x=>[]) (fun x=>x≤vars.length∧vcs (vars.take x) (vars.drop x)=cd) (fun x=>vars.length - x) (0:Nat) ⟨Nat.zero_le _,hcd⟩ ?_ ?_)
 · exact X4 (fun n=>n) []
 rintro k ⟨hk,hJ⟩;simp only[upS,X6,Xw]
 try simp only[X6,KN,Nat.reduceBEq,if_true,if_false,ins,Nat.reduceLT]
 clear hcd;refine X2 ?_;refine X0<|(X7 rfl (fun h4=>X9 ?_) (fun h4=>?_))
 · (try simp only[BN]at h4);have hlt:k<vars.length:=by omega
   obtain⟨v,he,hd⟩:=Xo hlt;have hw1:=Xy hlt (by omega);have hk1:k+1≤vars.length:=hlt;have hkl:(vars.take k).length≤1000000000:=by rw[List.length_take];omega
   rw[hd]at hJ;simp only[vcs]at hJ;rw[←ZS he]at hJ;clear hlt h4 hgood;refine X0<|X3<|X0<|X1 ?_;refine X2 ?_;refine X3<|X0<|(Xm [⟨true,.v (lb (ZL v.name)),none⟩] ?_ ?_)
   · first|exact X20 _ _|exact trivial|simpa[*]using X20 _ _
   refine(X7 rfl (fun h8=>?_) (fun h8=>?_))
   · (try simp only[BN]at h8);have hc:Zb (vars.take k) v=7:=by unfold Zb;rw[if_pos h8]
     rw[hc,if_neg (by decide)]at hJ;subst hJ;rw[if_neg (by decide)]at hres;subst hres;refine X2 ?_;exact Xe
   (try simp only[BN]at h8);refine Xh [⟨true,.v (lb ((vars.take k).any fun w=>decide (w.name=v.name))),none⟩] ?_ ?_
   · first|exact X8m (vars.take k) 173 [.ptr v.enc] (fun w=>decide (w.name=v.name)) hkl (fun w _ d=>X6u w v d) _|exact trivial|simpa[*]using X8m (vars.take k) 173 [.ptr v.enc] (fun w=>decide (w.name=v.name)) hkl (fun w _ d=>X6u w v d) _
   refine(X7 rfl (fun h12=>?_) (fun h12=>?_))
   · (try simp only[BN]at h12);have hc:Zb (vars.take k) v=8:=by unfold Zb;rw[if_neg (by simp[h8]),if_pos h12]
     rw[hc,if_neg (by decide)]at hJ;subst hJ;rw[if_neg (by decide)]at hres;subst hres;refine X2 ?_;exact Xe
   (try simp only[BN]at h12);refine X2 ?_;refine(X7 rfl (fun h16=>?_) (fun h16=>?_))
   · (try simp only[BN]at h16);have hc:Zb (vars.take k) v=1:=by unfold Zb;rw[if_neg (by simp[h8]),if_neg (by simp[h12]),if_pos h16]
     rw[hc,if_neg (by decide)]at hJ;subst hJ;rw[if_neg (by decide)]at hres;subst hres;refine X2 ?_;exact Xe
   (try simp only[BN]at h16);have hc:Zb (vars.take k) v=if WI v then 3 else 0:=by unfold Zb;rw[if_neg (by simp[h8]),if_neg (by simp[h12]),if_neg (by omega)]
   refine(XL [0,10,11,12] (fun(z:Bool)=>[(38,.v (lb z))]) (fun(z:Bool)=>[]) (fun(z:Bool)=>z=decide (WI v)) ?_ ?_)
   ·
    refine Xh [⟨true,.v (lb (QK v.low v.high)),none⟩] ?_ ?_
    · first|exact ZM _ _ _|exact trivial|simpa[*]using ZM _ _ _
    refine(X7 rfl (fun h21=>X9 ?_) (fun h21=>?_))
    · (try simp only[BN]at h21);exact⟨true,(decide_eq_true (.inl (by simpa using h21))).symm,X4 (fun n=>n) []⟩
    (try simp only[BN]at h21);refine X2 ?_;refine(X7 rfl (fun h24=>X9 ?_) (fun h24=>?_))
    · (try simp only[BN]at h24);exact⟨true,(decide_eq_true (.inr (.inl (by simpa using h24)))).symm,X4 (fun n=>n) []⟩
    try simp only[BN]at h24
    have hz:decide (WI v)=(decide (v.kind=0)&&(decide (v.init<v.low)||decide (v.high<v.init))):=by
     rw[Bool.eq_iff_iff,decide_eq_true_eq];unfold WI;simp only[decide_eq_true_eq,Bool.and_eq_true,Bool.or_eq_true];have h21':QK v.low v.high=true:=by simpa using h21
     rw[h21'];constructor
     · rintro(h|h|h)
       · cases h
       · exfalso;omega
       exact h
     exact fun h=>.inr (.inr h)
    clear h21 h24;refine X1 ?_;exact⟨(decide (v.kind=0)&&(decide (v.init<v.low)||decide (v.high<v.init))),hz.symm,X4 (fun n=>n) []⟩
   rintro _ rfl;simp only[upS,X6,Xw]
   try simp only[X6,KN,Nat.reduceBEq,if_true,if_false,ins,Nat.reduceLT]
   refine(Xc rfl (fun h28=>?_) fun h28=>?_)
   · (try simp only[BN]at h28);rw[if_pos h28]at hc;rw[hc,if_neg (by decide)]at hJ;subst hJ;rw[if_neg (by decide)]at hres;subst hres;refine X2 ?_;exact Xe
   (try simp only[BN]at h28);rw[if_neg h28]at hc;rw[hc,if_pos rfl]at hJ;refine X1 ?_;exact⟨k+1,⟨hk1,hJ⟩,by omega,X4 (fun n=>n) []⟩
 (try simp only[BN]at h4);have hkl:k=vars.length:=by omega
 rw[hkl,List.drop_length]at hJ;simp only[vcs]at hJ;have hv:=hgood hJ.symm;rw[if_pos hJ.symm,←X7a]at hres;clear hgood hJ hkl hk h4;obtain⟨L,hL⟩:∃L:List Int,L=[1,2,3]:=⟨_,rfl⟩;have hL3:L.length=3:=by rw[hL];rfl
 have hLi:∀k∈L,1≤k∧k≤3:=by rw[hL];decide
 rw[←hL]at hres;refine(Xf ?_);refine X0<|X0<|X1 ?_;refine X3<|(Xb [0,71,72] (fun(x:Nat)=>[(73,.v (li x))]) (fun x=>[(71,.row 62 1 (Xi L))]) (fun x=>x≤3∧X5r vars (L.drop x)=res) (fun x=>3 - x) (0:Nat) ⟨Nat.zero_le _,hres⟩ ?_ ?_)
 · exact Xu (fun n=>n) [] rfl (by simp[*,upS,X6]) (by simp[upS,Xi,hL]) (by simp[upS])
 rintro k2 ⟨hk2,hJ2⟩;simp only[upS,X6,Xw]
 try simp only[X6,KN,Nat.reduceBEq,if_true,if_false,ins,Nat.reduceLT]
 clear hres hL;refine X2 ?_;refine X0<|(X7 rfl (fun h36=>X9 ?_) (fun h36=>?_))
 · (try simp only[BN]at h36);have hlt:k2<L.length:=by omega
   obtain⟨kd,he,hd⟩:=Xo hlt;have hw1:=Xy hlt (by omega);have hk1:k2+1≤3:=by omega
   have hkd:=hLi kd (List.mem_of_getElem? he);have hsp:=prV_in hv (vars.filter fun v=>decide (v.kind=kd)) 1 (fun v h=>(List.mem_filter.1 h).1) (by decide);have hsp':1≤spc vars kd∧spc vars kd≤4097:=hsp;have c:=Xav vars kd hkd hv hl;rw[hd]at hJ2;simp only[X5r]at hJ2;obtain⟨sv,hsv⟩:∃s,spc vars kd=s:=⟨_,rfl⟩;have hbk:X2r vars kd=(decide (4096<sv)||(decide (kd=3)&&decide (256<sv))):=by unfold X2r;rw[hsv]
   rw[hsv]at c hsp';clear hlt h36 hsp hsv hLi hv;refine X0<|X3<|X0<|X1 ?_;refine Xh [⟨true,.tup [li (if sv≤4096 then sv else 0),li (if sv≤4096 then 0 else 4)],none⟩] ?_ ?_
   · first|exact c _|exact trivial|simpa[*]using c _
   refine X2 ?_;refine(Xc rfl (fun h40=>?_) fun h40=>?_)
   · try simp only[BN]at h40
     have hb:X2r vars kd=true:=by
      rw[hbk];by_cases h:sv≤4096
      · simp[h]at h40;simp[h40]
      simp;omega
     rw[if_pos hb]at hJ2;subst hJ2;refine X2 ?_;exact Xe
   try simp only[BN]at h40
   have hb:X2r vars kd=false:=by
    rw[hbk];by_cases h:sv≤4096
    · simp[h]at h40;simp;omega
    simp[h]at h40
   rw[hb,if_neg (by decide)]at hJ2;refine X1 ?_;exact⟨k2+1,⟨hk1,hJ2⟩,by omega,X4 (fun n=>n) []⟩
 (try simp only[BN]at h36);have hkl:k2=L.length:=by omega
 rw[hkl,List.drop_length]at hJ2;simp only[X5r]at hJ2;subst hJ2;refine(Xf ?_);refine X2 ?_;exact Xe
end Go.Proofs.YtppjennamodfdaaGreat

namespace Go.Proofs.YtppjennamodfdaaGreat
open Go Go.Hl
theorem St.lists {P:List St→Prop} (h:∀l,(∀s∈l,P s.then_∧P s.else_)→P l):∀l,P l:=by
 have key:∀s:St,P s.then_∧P s.else_:=by
  intro s
  induction s using St.ind with
  |h d c v n t a b bs iha ihb=>exact⟨h a iha,h b ihb⟩
 exact fun l=>h l fun s _=>key s
theorem Qk {l:List St} {s:St} (hs:s∈l):1+s.term.nodes+Xj s.then_+Xj s.else_≤Xj l:=by
 induction l with
 |nil=>cases hs
 | cons x l ih=>
   simp only[Xj];rcases List.mem_cons.1 hs with rfl|h
   · obtain⟨d,c,v,n,t,a,b,bs⟩:=s;simp only[St.nodes,St.term,St.then_,St.else_];omega
   have:=ih h;omega
def heldI (n lo hi:Int):Int:=if n<lo then lo else if hi<n then hi else n
end Go.Proofs.YtppjennamodfdaaGreat

namespace Go.Proofs.YtppjennamodfdaaGreat
open Go Go.Hl
structure B3 where
 s:Int
 o:Int
 t:Int
def bd1 (d c n:Int) (x y:B3):B3:=
 if d=4 then⟨1+n*(1+x.s),n*x.o,n*(c+x.t)⟩
 else if d=3 then⟨1+mx x.s y.s,mx x.o y.o,c+mx x.t y.t⟩
 else if d=1 then⟨1,1,c⟩ else⟨1,0,c⟩
def Qi (C:B3) (x y:B3):B3:=⟨mn (x.s+y.s) C.s,mn (x.o+y.o) C.o,mn (x.t+y.t) C.t⟩
mutual
def bdS (C:B3):St→B3
 | .mk d c _ n _ a b _=>bd1 d c n (bdL C a ⟨0,0,0⟩) (bdL C b ⟨0,0,0⟩)
def bdL (C:B3):List St→B3→B3
 |[],p=>p
 |s::l,p=>bdL C l (Qi C p (bdS C s))
end
mutual
def okS:St→Bool
 | .mk d c _ n _ a b _=>(decide (0≤c)&&(decide (c≤67108864)&&(decide (d≠4)||(decide (0≤n)&&decide (n≤4096)))))&&((decide (d=3)||(decide (d=4)||(a.isEmpty&&b.isEmpty)))&&(okL a&&okL b))
def okL:List St→Bool
 |[]=>true
 |s::l=>okS s&&okL l
end
def CP:B3:=⟨1099511627776,1099511627776,1099511627776⟩
def CR:B3:=⟨4097,9,67108865⟩
def in3 (C p:B3):Prop:=0≤p.s∧p.s≤C.s∧0≤p.o∧p.o≤C.o∧0≤p.t∧p.t≤C.t
def nn3 (p:B3):Prop:=0≤p.s∧0≤p.o∧0≤p.t
theorem mulN {n z:Int} (hn:0≤n∧n≤4096) (hz:0≤z∧z≤1099578736641):0≤n*z∧n*z≤4503874505281536:=by
 have h1:n.natAbs*z.natAbs≤4096*1099578736641:=Nat.mul_le_mul (by omega) (by omega);rw[←Int.natAbs_mul]at h1;have h2:=Int.mul_nonneg hn.1 hz.1;omega
theorem bd1_nn {d c n:Int} {x y:B3} (hc:0≤c) (hn:d=4→0≤n) (hx:nn3 x) (hy:nn3 y):nn3 (bd1 d c n x y):=by
 unfold nn3 at*;unfold bd1;split
 · rename_i h4;have h0:=hn h4;refine⟨?_,Int.mul_nonneg h0 hx.2.1,Int.mul_nonneg h0 (by omega)⟩;have:=Int.mul_nonneg h0 (show(0:Int)≤1+x.s by omega);simp only;omega
 split
 · simp only[mx];refine⟨?_,?_,?_⟩<;>split<;>omega
 split<;>simp only<;>omega
theorem X3c {C p q:B3} (hC:nn3 C) (hp:nn3 p) (hq:nn3 q):in3 C (Qi C p q):=by
 unfold in3 Qi nn3 at*;simp only[mn];refine⟨?_,?_,?_,?_,?_,?_⟩<;>split<;>omega
theorem Zv {C p:B3} (h:in3 C p):nn3 p:=⟨h.1,h.2.2.1,h.2.2.2.2.1⟩
theorem Z4 {C:B3} (hC:nn3 C):in3 C ⟨0,0,0⟩:=⟨Int.le_refl _,hC.1,Int.le_refl _,hC.2.1,Int.le_refl _,hC.2.2⟩
mutual
theorem X2z {C:B3} (hC:nn3 C):∀s:St,okS s=true→nn3 (bdS C s)
 | .mk d c v n t a b bs,h=>by
   simp only[okS,Bool.and_eq_true,Bool.or_eq_true,decide_eq_true_eq]at h;simp only[bdS];exact bd1_nn h.1.1 (fun h4=>by omega) (Zv (Zs hC a _ h.2.2.1 (Z4 hC))) (Zv (Zs hC b _ h.2.2.2 (Z4 hC)))
theorem Zs {C:B3} (hC:nn3 C):∀(l:List St) (p:B3),okL l=true→in3 C p→in3 C (bdL C l p)
 |[],p,_,h=>h
 | s::l,p,h,hp=>by
   simp only[okL,Bool.and_eq_true]at h;simp only[bdL];exact Zs hC l _ h.2 (X3c hC (Zv hp) (X2z hC s h.1))
end
def X0w (C p:B3):B3:=⟨mn p.s C.s,mn p.o C.o,mn p.t C.t⟩
theorem X52 {n a b k k' C:Int} (hn:0≤n) (ha:0≤a) (hb:0≤b) (hk:0≤k) (hk':0≤k') (h:mn a C=mn b C):mn (k'+n*(k+a)) C=mn (k'+n*(k+b)) C:=by
 by_cases hac:a<C
 · have:a=b:=by
    unfold mn at h
    (repeat' split at h)<;>omega
   rw[this]
 have hbc:C≤b:=by
  unfold mn at h
  (repeat' split at h)<;>omega
 rcases Int.lt_or_le 0 n with h0|h0
 · have h1:=Int.mul_le_mul_of_nonneg_right (show(1:Int)≤n by omega) (show 0≤k+a by omega);have h2:=Int.mul_le_mul_of_nonneg_right (show(1:Int)≤n by omega) (show 0≤k+b by omega);unfold mn
   (repeat' split)<;>omega
 have:n=0:=by omega
 subst this;simp
theorem bd1_cut {C x x' y y':B3} {d c n:Int} (hc:0≤c) (hn:d=4→0≤n) (hx:nn3 x) (hx':nn3 x') (hy:nn3 y) (hy':nn3 y') (h1:X0w C x=X0w C x') (h2:X0w C y=X0w C y'):X0w C (bd1 d c n x y)=X0w C (bd1 d c n x' y'):=by
 unfold X0w at*;unfold nn3 at*;simp only[B3.mk.injEq]at h1 h2⊢;unfold bd1;split
 · rename_i h4;have h0:=hn h4;have e1:=X52 h0 hx.1 hx'.1 (show(0:Int)≤1 by decide) (show(0:Int)≤1 by decide) h1.1;have e2:=X52 h0 hx.2.1 hx'.2.1 (Int.le_refl 0) (Int.le_refl 0) h1.2.1;have e3:=X52 h0 hx.2.2 hx'.2.2 hc (Int.le_refl 0) h1.2.2;simp only[Int.zero_add]at e2 e3;exact⟨e1,e2,e3⟩
 obtain⟨a1,a2,a3⟩:=h1;obtain⟨b1,b2,b3⟩:=h2;split
 · simp only[mx];refine⟨?_,?_,?_⟩
   · clear a2 a3 b2 b3;unfold mn at*;(repeat' split at a1)<;>(repeat' split at b1)<;>(repeat' split)<;>omega
   · clear a1 a3 b1 b3;unfold mn at*;(repeat' split at a2)<;>(repeat' split at b2)<;>(repeat' split)<;>omega
   clear a1 a2 b1 b2;unfold mn at*;(repeat' split at a3)<;>(repeat' split at b3)<;>(repeat' split)<;>omega
 split<;>exact⟨rfl,rfl,rfl⟩
theorem add3_cut {C D p p' x x':B3} (hC:nn3 C) (hD:C.s≤D.s∧C.o≤D.o∧C.t≤D.t) (hp:nn3 p) (hp':nn3 p') (hx:nn3 x) (hx':nn3 x') (h1:X0w C p=X0w C p') (h2:X0w C x=X0w C x'):X0w C (Qi D p x)=X0w C (Qi C p' x'):=by
 unfold X0w at*;unfold nn3 at*;simp only[B3.mk.injEq,Qi]at h1 h2⊢;obtain⟨a1,a2,a3⟩:=h1;obtain⟨b1,b2,b3⟩:=h2;obtain⟨d1,d2,d3⟩:=hD;obtain⟨p1,p2,p3⟩:=hp;obtain⟨q1,q2,q3⟩:=hp';obtain⟨r1,r2,r3⟩:=hx;obtain⟨s1,s2,s3⟩:=hx';obtain⟨c1,c2,c3⟩:=hC;refine⟨?_,?_,?_⟩
 · clear a2 a3 b2 b3;unfold mn at*;(repeat' split at a1)<;>(repeat' split at b1)<;>(repeat' split)<;>omega
 · clear a1 a3 b1 b3;unfold mn at*;(repeat' split at a2)<;>(repeat' split at b2)<;>(repeat' split)<;>omega
 clear a1 a2 b1 b2;unfold mn at*;(repeat' split at a3)<;>(repeat' split at b3)<;>(repeat' split)<;>omega
mutual
theorem bdS_cut {C D:B3} (hC:nn3 C) (hDn:nn3 D) (hD:C.s≤D.s∧C.o≤D.o∧C.t≤D.t):∀s:St,okS s=true→X0w C (bdS D s)=X0w C (bdS C s)
 | .mk d c v n t a b bs,h=>by
   simp only[okS,Bool.and_eq_true,Bool.or_eq_true,decide_eq_true_eq]at h;simp only[bdS];have ha:=Zv (Zs hDn a _ h.2.2.1 (Z4 hDn));have hb:=Zv (Zs hDn b _ h.2.2.2 (Z4 hDn));have ha':=Zv (Zs hC a _ h.2.2.1 (Z4 hC));have hb':=Zv (Zs hC b _ h.2.2.2 (Z4 hC));have h0:nn3 ⟨0,0,0⟩:=⟨Int.le_refl _,Int.le_refl _,Int.le_refl _⟩;exact bd1_cut h.1.1 (fun h4=>by omega) ha ha' hb hb' (X5c hC hDn hD a _ _ h.2.2.1 (Z4 hDn) (Z4 hC) rfl) (X5c hC hDn hD b _ _ h.2.2.2 (Z4 hDn) (Z4 hC) rfl)
theorem X5c {C D:B3} (hC:nn3 C) (hDn:nn3 D) (hD:C.s≤D.s∧C.o≤D.o∧C.t≤D.t):∀(l:List St) (p q:B3),okL l=true→in3 D p→in3 C q→X0w C p=X0w C q→X0w C (bdL D l p)=X0w C (bdL C l q)
 |[],p,q,_,_,_,h=>h
 | s::l,p,q,h,hp,hq,hpq=>by
   simp only[okL,Bool.and_eq_true]at h;simp only[bdL]
   exact X5c hC hDn hD l _ _ h.2 (X3c hDn (Zv hp) (X2z hDn s h.1)) (X3c hC (Zv hq) (X2z hC s h.1))
    (add3_cut hC hD (Zv hp) (Zv hq) (X2z hDn s h.1) (X2z hC s h.1) hpq (bdS_cut hC hDn hD s h.1))
end
theorem nnCP:nn3 CP:=by unfold nn3 CP;decide
theorem X47:nn3 CR:=by unfold nn3 CR;decide
theorem bd_cmp {l:List St} (h:okL l=true):(4096<(bdL CP l ⟨0,0,0⟩).s↔4096<(bdL CR l ⟨0,0,0⟩).s)∧(8<(bdL CP l ⟨0,0,0⟩).o↔8<(bdL CR l ⟨0,0,0⟩).o)∧(67108864<(bdL CP l ⟨0,0,0⟩).t↔67108864<(bdL CR l ⟨0,0,0⟩).t):=by
 have:=X5c X47 nnCP (by decide) l _ _ h (Z4 nnCP) (Z4 X47) rfl;unfold X0w at this;simp only[B3.mk.injEq]at this;obtain⟨h1,h2,h3⟩:=this;generalize bdL CP l ⟨0,0,0⟩=p at*;generalize bdL CR l ⟨0,0,0⟩=q at*;unfold CR at h1 h2 h3;refine⟨?_,?_,?_⟩
 · clear h2 h3;unfold mn at*;simp only at h1;(repeat' split at h1)<;>omega
 · clear h1 h3;unfold mn at*;simp only at h2;(repeat' split at h2)<;>omega
 clear h1 h2;unfold mn at*;simp only at h3;(repeat' split at h3)<;>omega
end Go.Proofs.YtppjennamodfdaaGreat

namespace Go.Proofs.YtppjennamodfdaaGreat
open Go Go.Hl
theorem Xb1 {l:List St} (h:okL l=true) {s:St} (hs:s∈l):okS s=true:=by
 induction l with
 |nil=>cases hs
 | cons x l ih=>
   simp only[okL,Bool.and_eq_true]at h;rcases List.mem_cons.1 hs with rfl|h1
   · exact h.1
   exact ih h.2 h1
abbrev aB (p:B3):TV:=.agg [.c (iC p.s),.c (iC p.o),.c (iC p.t)]
theorem Xc1 (l:List St):Xj l≤1000000000→okL l=true→∀d:Nat,Con Tryz.prog 167 true [lS l] (.v (aB (bdL CP l ⟨0,0,0⟩))) none d:=by
 revert l
 apply St.lists;intro l ih hn hok d;have hlen:=Q5 l;obtain⟨res,hres⟩:∃r,bdL CP l ⟨0,0,0⟩=r:=⟨_,rfl⟩;rw[hres];refine X5 Tryz.func167 ?_;simp only[Tryz.f167];refine X0<|(Xl (by simp[*,Qi,CP];rfl) ?_);refine X0<|(Xl (by simp[*,Qi,CP];rfl) ?_);refine X0<|X0<|(Xl (by simp[*,Qi,CP];rfl) ?_);refine X3<|(Xb [2,3,9,10] (fun(x:Nat×B3)=>[(11,.v (li x.1))]) (fun x=>[(2,.box [.c (iC 0),.c (iC 0),.c (iC 0)]),(3,.box [.c (iC x.2.s),.c (iC x.2.o),.c (iC x.2.t)])]) (fun x=>x.1≤l.length∧bdL CP (l.drop x.1) x.2=res∧in3 CP x.2) (fun x=>l.length - x.1) (0,⟨0,0,0⟩) ⟨Nat.zero_le _,hres,Z4 nnCP⟩ ?_ ?_)
 · exact Xu (fun n=>n) [] rfl (by simp[*,upS,X6,Qi,CP]) (by simp[*,upS]) (by simp[upS])
 rintro⟨k,⟨m1,m2,m3⟩⟩ ⟨hk,hJ,hin⟩;simp only[upS,X6,Xw]
 try simp only[X6,KN,Nat.reduceBEq,if_true,if_false,ins,Nat.reduceLT]
 simp only at hk hJ;unfold in3 CP at hin;simp only at hin;clear hres;refine X0<|(Xl (by simp[*,Qi,CP];rfl) ?_);refine X0<|(X7 rfl (fun h5=>X9 ?_) (fun h5=>?_))
 · (try simp only[BN]at h5);have hlt:k<l.length:=by omega
   obtain⟨s,he,hd⟩:=Xo hlt;have hmem:s∈l:=List.mem_of_getElem? he;have hnm:=Qk hmem;have hos:=Xb1 hok hmem;have iha:=fun h=>(ih s hmem).1 h;have ihb:=fun h=>(ih s hmem).2 h;have hw1:=Xy hlt (by omega);have hk1:k+1≤l.length:=hlt;rw[hd]at hJ;simp only[bdL]at hJ;have hsin:=X2z nnCP s hos;obtain⟨pq,hpq⟩:∃pq,bdS CP s=pq:=⟨_,rfl⟩;rw[hpq]at hJ hsin;obtain⟨sd,sc,sv,sn,⟨so,stn,sks⟩,sa,sb,sbs⟩:=s;simp only[St.then_,St.else_,St.term]at iha ihb hnm;simp only[okS,Bool.and_eq_true,Bool.or_eq_true,decide_eq_true_eq]at hos;have ca:=iha (by omega) hos.2.2.1;have cb:=ihb (by omega) hos.2.2.2;have he':=XX he;simp only[St.enc,Tm.enc,List.cons_append,List.nil_append]at he';simp only[bdS]at hpq;have hxa:=Zs nnCP sa ⟨0,0,0⟩ hos.2.2.1 (Z4 nnCP);have hxb:=Zs nnCP sb ⟨0,0,0⟩ hos.2.2.2 (Z4 nnCP);obtain⟨xa,hxa'⟩:∃x,bdL CP sa ⟨0,0,0⟩=x:=⟨_,rfl⟩;obtain⟨xb,hxb'⟩:∃x,bdL CP sb ⟨0,0,0⟩=x:=⟨_,rfl⟩;rw[hxa']at ca hxa hpq;rw[hxb']at cb hxb hpq;unfold in3 CP at hxa hxb;unfold nn3 at hsin;simp only at hxa hxb;obtain⟨a1,a2,a3⟩:=xa;obtain⟨b1,b2,b3⟩:=xb;obtain⟨q1,q2,q3⟩:=pq;simp only at hxa hxb hsin;have hcost:=hos.1;unfold bd1 at hpq;simp only[mx]at hpq;clear hlt h5 iha ihb ih hxa' hxb' hmem hnm hd he hos;refine X0<|X3<|X0<|(Xl (by simp[*,Qi,CP];rfl) ?_);refine X0<|(Xl (by simp[*,Qi,CP];rfl) ?_);refine X0<|(Q7 [⟨true,.v (aB ⟨a1,a2,a3⟩),none⟩,⟨true,.v (aB ⟨b1,b2,b3⟩),none⟩] (by kernel_rfl) (by kernel_rfl) (by rfl) (by simp[*,Qi,CP];first|exact⟨rfl,Iff.rfl⟩|exact⟨rfl,trivial⟩|rfl) ?_ ?_)
   · first|exact⟨ca _,cb _⟩|exact trivial|(repeat' first|exact trivial|exact ca _|exact cb _|apply And.intro)
   refine(XL [2,3,6,9,10,11] (fun(z:Unit)=>[]) (fun(z:Unit)=>[(2,.box [.c (iC 0),.c (iC 0),.c (iC 0)]),(3,.box [.c (iC m1),.c (iC m2),.c (iC m3)]),(6,.box [.c (iC q1),.c (iC q2),.c (iC q3)])]) (fun(z:Unit)=>q1≤4503874505281537∧q2≤4503874505281537∧q3≤4503874505281537) ?_ ?_)
   ·
    refine X0<|(Xl (by simp[*,Qi,CP];rfl) ?_);refine X3<|X0<|(Xl (by simp[*,Qi,CP];rfl) ?_);refine(X7 rfl (fun h12=>?_) (fun h12=>?_))
    · (try simp only[BN]at h12);rw[if_neg (by omega),if_neg (by omega),if_pos h12]at hpq;simp only[B3.mk.injEq]at hpq;obtain⟨p1,p2,p3⟩:=hpq;subst p1 p2 p3;refine(Xl (by simp[*,Qi,CP];rfl) ?_);exact⟨(),⟨by omega,by omega,by omega⟩,X4 (fun n=>n) []⟩
    (try simp only[BN]at h12);refine X0<|(Xl (by simp[*,Qi,CP];rfl) ?_);refine(X7 rfl (fun h16=>?_) (fun h16=>?_))
    · (try simp only[BN]at h16);rw[if_neg (by omega),if_pos h16]at hpq;simp only[B3.mk.injEq]at hpq;obtain⟨p1,p2,p3⟩:=hpq;have hw2:IntKind.i64.wrap (1+(if a1<b1 then b1 else a1))=q1:=by rw[←p1];exact Xa (by split<;>omega) (by split<;>omega)
      have hw3:IntKind.i64.wrap (sc+(if a3<b3 then b3 else a3))=q3:=by rw[←p3];exact Xa (by split<;>omega) (by split<;>omega)
      have hq:q1≤4503874505281537∧q2≤4503874505281537∧q3≤4503874505281537:=by
       rw[←p1,←p2,←p3];refine⟨?_,?_,?_⟩<;>split<;>omega
      clear p1 p3;refine X0<|(Xl (by simp[*,Qi,CP];rfl) ?_);refine X0<|(Xl (by simp[*,Qi,CP];rfl) ?_);refine(Xl (by simp[*,Qi,CP];rfl) ?_);exact⟨(),hq,X4 (fun n=>n) []⟩
    (try simp only[BN]at h16);refine X0<|(Xl (by simp[*,Qi,CP];rfl) ?_);refine(Xc rfl (fun h22=>?_) fun h22=>?_)
    · (try simp only[BN]at h22);rw[if_pos h22]at hpq;simp only[B3.mk.injEq]at hpq;obtain⟨p1,p2,p3⟩:=hpq;have hnn:0≤sn∧sn≤4096:=by omega
      have m4:=mulN hnn (z:=1+a1) (by omega);have m5:=mulN hnn (z:=a2) (by omega);have m6:=mulN hnn (z:=sc+a3) (by omega);have hw2:IntKind.i64.wrap (1+a1)=1+a1:=Xa (by omega) (by omega);have hw3:IntKind.i64.wrap (sn*(1+a1))=sn*(1+a1):=Xa (by omega) (by omega);have hw4:IntKind.i64.wrap (1+sn*(1+a1))=q1:=by rw[←p1];exact Xa (by omega) (by omega)
      have hw5:IntKind.i64.wrap (sn*a2)=q2:=by rw[←p2];exact Xa (by omega) (by omega)
      have hw6:IntKind.i64.wrap (sc+a3)=sc+a3:=Xa (by omega) (by omega);have hw7:IntKind.i64.wrap (sn*(sc+a3))=q3:=by rw[←p3];exact Xa (by omega) (by omega)
      have hq:q1≤4503874505281537∧q2≤4503874505281537∧q3≤4503874505281537:=by omega
      clear p1 p2 p3 m4 m5 m6;refine X0<|(Xl (by simp[*,Qi,CP];rfl) ?_);refine X0<|(Xl (by simp[*,Qi,CP];rfl) ?_);refine(Xl (by simp[*,Qi,CP];rfl) ?_);exact⟨(),hq,X4 (fun n=>n) []⟩
    (try simp only[BN]at h22);rw[if_neg h22,if_neg h16,if_neg h12]at hpq;simp only[B3.mk.injEq]at hpq;obtain⟨p1,p2,p3⟩:=hpq;subst p1 p2 p3;exact⟨(),⟨by omega,by omega,by omega⟩,X4 (fun n=>n) []⟩
   rintro _ ⟨hq1,hq2,hq3⟩;simp only[upS,X6,Xw]
   try simp only[X6,KN,Nat.reduceBEq,if_true,if_false,ins,Nat.reduceLT]
   clear hpq ca cb hxa hxb;have hw2:IntKind.i64.wrap (m1+q1)=m1+q1:=Xa (by omega) (by omega);have hw3:IntKind.i64.wrap (m2+q2)=m2+q2:=Xa (by omega) (by omega);have hw4:IntKind.i64.wrap (m3+q3)=m3+q3:=Xa (by omega) (by omega);have hmn1:(if 1099511627776<m1+q1 then 1099511627776 else m1+q1)=mn (m1+q1) 1099511627776:=rfl;have hmn2:(if 1099511627776<m2+q2 then 1099511627776 else m2+q2)=mn (m2+q2) 1099511627776:=rfl;have hmn3:(if 1099511627776<m3+q3 then 1099511627776 else m3+q3)=mn (m3+q3) 1099511627776:=rfl;have hin2:in3 CP (Qi CP ⟨m1,m2,m3⟩ ⟨q1,q2,q3⟩):=X3c nnCP ⟨hin.1,hin.2.2.1,hin.2.2.2.2.1⟩ ⟨hsin.1,hsin.2.1,hsin.2.2⟩;refine X0<|(Xl (by simp[*,Qi,CP];rfl) ?_);refine X0<|(Xl (by simp[*,Qi,CP];rfl) ?_);refine(Xl (by simp[*,Qi,CP];rfl) ?_);refine(Xl (by simp[*,Qi,CP];rfl) ?_);exact⟨(k+1,Qi CP ⟨m1,m2,m3⟩ ⟨q1,q2,q3⟩),⟨hk1,hJ,hin2⟩,by simp only;omega,Xu (fun n=>n) [] rfl (by simp[upS,X6, *,Qi,CP]) (by simp[*,upS,Qi,CP]) (by simp[upS])⟩
 (try simp only[BN]at h5);have hkl:k=l.length:=by omega
 rw[hkl,List.drop_length]at hJ;simp only[bdL]at hJ;subst hJ;refine(Xf ?_);refine X0<|(Xl (by simp[*,Qi,CP];rfl) ?_);exact(Xk (fun h=>⟨.inr rfl,h⟩) _ (by simp[*,Qi,CP];rfl) (by first|rfl|(simp[*];done)|(simp only[XK];(repeat' split)<;>first|rfl|(exfalso;omega)|simp_all)) (by simp))
theorem X4D (l:List St):Xj l≤1000000000→okL l=true→∀d:Nat,Con Tryz.prog 66 true [lS l] (.tup [li (bdL CR l ⟨0,0,0⟩).s,li (bdL CR l ⟨0,0,0⟩).o,li (bdL CR l ⟨0,0,0⟩).t]) none d:=by
 revert l
 apply St.lists;intro l ih hn hok d;have hlen:=Q5 l;obtain⟨res,hres⟩:∃r,bdL CR l ⟨0,0,0⟩=r:=⟨_,rfl⟩;rw[hres];refine X5 Tryz.func66 ?_;simp only[Tryz.f66];refine X0<|(Xl (by simp[*,Qi,CR];rfl) ?_);refine X0<|(Xl (by simp[*,Qi,CR];rfl) ?_);refine X0<|X0<|(Xl (by simp[*,Qi,CR];rfl) ?_);refine X3<|(Xb [0] (fun(x:Nat×B3)=>[(5,.v (li x.2.s)),(6,.v (li x.2.o)),(7,.v (li x.2.t)),(8,.v (li x.1))]) (fun x=>[]) (fun x=>x.1≤l.length∧bdL CR (l.drop x.1) x.2=res∧in3 CR x.2) (fun x=>l.length - x.1) (0,⟨0,0,0⟩) ⟨Nat.zero_le _,hres,Z4 X47⟩ ?_ ?_)
 · exact Xu (fun n=>n) [] rfl (by simp[*,upS,X6,Qi,CR]) (by simp[*,upS]) (by simp[upS])
 rintro⟨k,⟨m1,m2,m3⟩⟩ ⟨hk,hJ,hin⟩;simp only[upS,X6,Xw]
 try simp only[X6,KN,Nat.reduceBEq,if_true,if_false,ins,Nat.reduceLT]
 simp only at hk hJ;unfold in3 CR at hin;simp only at hin;clear hres;refine X0<|X0<|(Xl (by simp[*,Qi,CR];rfl) ?_);refine(X7 rfl (fun h5=>X9 ?_) (fun h5=>?_))
 · (try simp only[BN]at h5);have hlt:k<l.length:=by omega
   obtain⟨s,he,hd⟩:=Xo hlt;have hmem:s∈l:=List.mem_of_getElem? he;have hnm:=Qk hmem;have hos:=Xb1 hok hmem;have iha:=fun h=>(ih s hmem).1 h;have ihb:=fun h=>(ih s hmem).2 h;have hw1:=Xy hlt (by omega);have hk1:k+1≤l.length:=hlt;rw[hd]at hJ;simp only[bdL]at hJ;have hsin:=X2z X47 s hos;obtain⟨pq,hpq⟩:∃pq,bdS CR s=pq:=⟨_,rfl⟩;rw[hpq]at hJ hsin;obtain⟨sd,sc,sv,sn,⟨so,stn,sks⟩,sa,sb,sbs⟩:=s;simp only[St.then_,St.else_,St.term]at iha ihb hnm;simp only[okS,Bool.and_eq_true,Bool.or_eq_true,decide_eq_true_eq,List.isEmpty_iff]at hos;have ca:=iha (by omega) hos.2.2.1;have cb:=ihb (by omega) hos.2.2.2;have he':=XX he;simp only[St.enc,Tm.enc,List.cons_append,List.nil_append]at he';simp only[bdS]at hpq;have hxa:=Zs X47 sa ⟨0,0,0⟩ hos.2.2.1 (Z4 X47);have hxb:=Zs X47 sb ⟨0,0,0⟩ hos.2.2.2 (Z4 X47);obtain⟨xa,hxa'⟩:∃x,bdL CR sa ⟨0,0,0⟩=x:=⟨_,rfl⟩;obtain⟨xb,hxb'⟩:∃x,bdL CR sb ⟨0,0,0⟩=x:=⟨_,rfl⟩
   have hz:sd≠3→sd≠4→xa=⟨0,0,0⟩∧xb=⟨0,0,0⟩:=by
    intro h3 h4;rcases hos.2.1 with h|h|h
    · exact absurd h h3
    · exact absurd h h4
    rw[←hxa',←hxb',h.1,h.2];exact⟨rfl,rfl⟩
   rw[hxa']at ca hxa hpq;rw[hxb']at cb hxb hpq;unfold in3 CR at hxa hxb;unfold nn3 at hsin;simp only at hxa hxb;obtain⟨a1,a2,a3⟩:=xa;obtain⟨b1,b2,b3⟩:=xb;obtain⟨q1,q2,q3⟩:=pq;simp only[B3.mk.injEq]at hz;simp only at hxa hxb hsin;have hcost:=hos.1;unfold bd1 at hpq;simp only at hpq;have hmx1:0≤mx a1 b1∧mx a1 b1≤4097:=by unfold mx;split<;>omega
   have hmx2:0≤mx a2 b2∧mx a2 b2≤9:=by unfold mx;split<;>omega
   have hmx3:0≤mx a3 b3∧mx a3 b3≤67108865:=by unfold mx;split<;>omega
   have hw2:IntKind.i64.wrap (1+mx a1 b1)=1+mx a1 b1:=Xa (by omega) (by omega);have hw3:IntKind.i64.wrap (sc+mx a3 b3)=sc+mx a3 b3:=Xa (by omega) (by omega);clear hlt h5 iha ihb ih hxa' hxb' hmem hnm hd he hos;refine X0<|X3<|X0<|(Xl (by simp[*,Qi,CR];rfl) ?_);refine X0<|(QS [⟨true,.tup [li a1,li a2,li a3],none⟩] (by simp[*,Qi,CR];first|exact⟨rfl,Iff.rfl⟩|exact⟨rfl,trivial⟩|rfl) ?_ ?_)
   · first|exact ca _|exact trivial|simpa[*,Qi,CR]using ca _
   refine X0<|(QS [⟨true,.tup [li b1,li b2,li b3],none⟩] (by simp[*,Qi,CR];first|exact⟨rfl,Iff.rfl⟩|exact⟨rfl,trivial⟩|rfl) ?_ ?_)
   · first|exact cb _|exact trivial|simpa[*,Qi,CR]using cb _
   refine X0<|(Q7 [⟨true,.v (li (mx a1 b1)),none⟩,⟨true,.v (li (mx a2 b2)),none⟩,⟨true,.v (li (mx a3 b3)),none⟩] (by kernel_rfl) (by kernel_rfl) (by rfl) (by simp[*,Qi,CR];first|exact⟨rfl,Iff.rfl⟩|exact⟨rfl,trivial⟩|rfl) ?_ ?_)
   · first|exact⟨Qy _ _ _,Qy _ _ _,Qy _ _ _⟩|exact trivial|(repeat' first|exact trivial|exact Qy _ _ _|exact Qy _ _ _|exact Qy _ _ _|apply And.intro)
   refine(XL [0,5,6,7,8,9] (fun(z:Int)=>[(16,.v (li q1)),(17,.v (li z)),(18,.v (li q3))]) (fun(z:Int)=>[(9,.box [.c (iC sd),.c (iC sc),.c (iC sv),.c (iC sn),.c (iC so),.c (iC stn),.c (.sl 3 (Xn sks)),.c (.sl 10 (X8 sa)),.c (.sl 10 (X8 sb)),.c (.sl 1 (Xi sbs))])]) (fun(z:Int)=>(sd≠1→z=q2)∧(sd=1→q2=1)∧q1≤4503874505281537∧q2≤4503874505281537∧q3≤4503874505281537) ?_ ?_)
   ·
    refine X0<|(Xl (by simp[*,Qi,CR];rfl) ?_);refine(Xc rfl (fun h12=>?_) fun h12=>?_)
    · (try simp only[BN]at h12);rw[if_pos h12]at hpq;simp only[B3.mk.injEq]at hpq;obtain⟨p1,p2,p3⟩:=hpq;have hnn:0≤sn∧sn≤4096:=by omega
      have m4:=mulN hnn (z:=1+a1) (by omega);have m5:=mulN hnn (z:=a2) (by omega);have m6:=mulN hnn (z:=sc+a3) (by omega);have hw2:IntKind.i64.wrap (1+a1)=1+a1:=Xa (by omega) (by omega);have hw3:IntKind.i64.wrap (sn*(1+a1))=sn*(1+a1):=Xa (by omega) (by omega);have hw4:IntKind.i64.wrap (1+sn*(1+a1))=q1:=by rw[←p1];exact Xa (by omega) (by omega)
      have hw5:IntKind.i64.wrap (sn*a2)=q2:=by rw[←p2];exact Xa (by omega) (by omega)
      have hw6:IntKind.i64.wrap (sc+a3)=sc+a3:=Xa (by omega) (by omega);have hw7:IntKind.i64.wrap (sn*(sc+a3))=q3:=by rw[←p3];exact Xa (by omega) (by omega)
      have hq:q1≤4503874505281537∧q2≤4503874505281537∧q3≤4503874505281537:=by omega
      clear p1 p2 p3 m4 m5 m6 hz;refine(Q4 (by kernel_rfl) (by kernel_rfl) (by rfl) (by simp[*,Qi,CR];rfl) ?_);exact⟨q2,⟨fun _=>rfl,fun h=>absurd h (by omega),hq⟩,X4 (fun n=>n) []⟩
    try simp only[BN]at h12
    have hfin:q1=1+mx a1 b1∧q3=sc+mx a3 b3∧(sd≠1→mx a2 b2=q2)∧(sd=1→q2=1):=by
     rw[if_neg h12]at hpq;by_cases h3:sd=3
     · rw[if_pos h3]at hpq;simp only[B3.mk.injEq]at hpq;exact⟨hpq.1.symm,hpq.2.2.symm,fun _=>hpq.2.1,fun h=>absurd h (by omega)⟩
     rw[if_neg h3]at hpq;obtain⟨⟨e1,e2,e3⟩,e4,e5,e6⟩:=hz h3 h12;subst e1 e2 e3 e4 e5 e6;by_cases h1:sd=1
     · rw[if_pos h1]at hpq;simp only[B3.mk.injEq]at hpq;exact⟨by rw[←hpq.1];rfl,by rw[←hpq.2.2];simp[mx],fun h=>absurd h1 h,fun _=>hpq.2.1.symm⟩
     rw[if_neg h1]at hpq;simp only[B3.mk.injEq]at hpq;exact⟨by rw[←hpq.1];rfl,by rw[←hpq.2.2];simp[mx],fun _=>by rw[←hpq.2.1];rfl,fun h=>absurd h h1⟩
    obtain⟨f1,f2,f3,f4⟩:=hfin;have hq1:q1≤4503874505281537:=by omega
    have hq3:q3≤4503874505281537:=by omega
    have hq2:q2≤4503874505281537:=by
     by_cases h:sd=1
     · have:=f4 h;omega
     have:=f3 h;omega
    clear hpq hz;exact⟨mx a2 b2,⟨f3,f4,hq1,hq2,hq3⟩,X4 (fun n=>n) []⟩
   rintro z2 ⟨hz2,hz3,hq⟩;simp only[upS,X6,Xw]
   try simp only[X6,KN,Nat.reduceBEq,if_true,if_false,ins,Nat.reduceLT]
   clear hpq hz hw2 hw3 ca cb;refine(XL [0,5,6,7,8,16,18] (fun(z:Unit)=>[(17,.v (li q2))]) (fun(z:Unit)=>[]) (fun(z:Unit)=>True) ?_ ?_)
   ·
    refine X0<|(Xl (by simp[*,Qi,CR];rfl) ?_);refine(Xc rfl (fun h18=>?_) fun h18=>?_)
    · (try simp only[BN]at h18);have hq21:=hz3 h18;refine(Xl (by simp[*,Qi,CR];rfl) ?_);exact⟨(),trivial,X4 (fun n=>n) []⟩
    (try simp only[BN]at h18);have hq21:=hz2 h18;exact⟨(),trivial,X4 (fun n=>n) []⟩
   rintro _ _;simp only[upS,X6,Xw]
   try simp only[X6,KN,Nat.reduceBEq,if_true,if_false,ins,Nat.reduceLT]
   clear hz2 hz3;obtain⟨hq1,hq2,hq3⟩:=hq;have hw2:IntKind.i64.wrap (m1+q1)=m1+q1:=Xa (by omega) (by omega);have hw3:IntKind.i64.wrap (m2+q2)=m2+q2:=Xa (by omega) (by omega);have hw4:IntKind.i64.wrap (m3+q3)=m3+q3:=Xa (by omega) (by omega);have hin2:in3 CR (Qi CR ⟨m1,m2,m3⟩ ⟨q1,q2,q3⟩):=X3c X47 ⟨hin.1,hin.2.2.1,hin.2.2.2.2.1⟩ ⟨hsin.1,hsin.2.1,hsin.2.2⟩;refine X0<|(QS [⟨true,.v (li (mn (m1+q1) 4097)),none⟩] (by simp[*,Qi,CR];first|exact⟨rfl,Iff.rfl⟩|exact⟨rfl,trivial⟩|rfl) ?_ ?_)
   · first|exact Qr _ _ _|exact trivial|simpa[*,Qi,CR]using Qr _ _ _
   refine X0<|(QS [⟨true,.v (li (mn (m2+q2) 9)),none⟩] (by simp[*,Qi,CR];first|exact⟨rfl,Iff.rfl⟩|exact⟨rfl,trivial⟩|rfl) ?_ ?_)
   · first|exact Qr _ _ _|exact trivial|simpa[*,Qi,CR]using Qr _ _ _
   refine(QS [⟨true,.v (li (mn (m3+q3) 67108865)),none⟩] (by simp[*,Qi,CR];first|exact⟨rfl,Iff.rfl⟩|exact⟨rfl,trivial⟩|rfl) ?_ ?_)
   · first|exact Qr _ _ _|exact trivial|simpa[*,Qi,CR]using Qr _ _ _
   refine(Xl (by simp[*,Qi,CR];rfl) ?_);exact⟨(k+1,Qi CR ⟨m1,m2,m3⟩ ⟨q1,q2,q3⟩),⟨hk1,hJ,hin2⟩,by simp only;omega,Xu (fun n=>n) [] rfl (by simp[upS,X6, *,Qi,CR]) (by simp[*,upS,Qi,CR]) (by simp[upS])⟩
 (try simp only[BN]at h5);have hkl:k=l.length:=by omega
 rw[hkl,List.drop_length]at hJ;simp only[bdL]at hJ;subst hJ;refine(Xf ?_);refine X0<|(Xl (by simp[*,Qi,CR];rfl) ?_);exact(Xk (fun h=>⟨.inr rfl,h⟩) _ (by simp[*,Qi,CR];rfl) (by first|rfl|(simp[*];done)|(simp only[XK];(repeat' split)<;>first|rfl|(exfalso;omega)|simp_all)) (by simp))
end Go.Proofs.YtppjennamodfdaaGreat
