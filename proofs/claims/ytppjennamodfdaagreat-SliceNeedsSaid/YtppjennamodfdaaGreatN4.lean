/- Part 4: contracts of functions of the program and of the reference, and plain facts about what they compute; used by the proof of the claimed statement. Conditions: as each theorem states. -/
import Derived.Test.YtppjennamodfdaaGreatProg
import Derived.Test.YtppjennamodfdaaGreatNHmZ
import Derived.KernelRfl
import Derived.Test.YtppjennamodfdaaGreatN1
import Derived.Test.YtppjennamodfdaaGreatN2
set_option linter.unusedSimpArgs false
set_option linter.unusedVariables false
set_option linter.unnecessarySimpa false
set_option maxRecDepth 100000
set_option maxHeartbeats 2000000
namespace Go.Proofs.YtppjennamodfdaaGreat
open Go Go.Hl
def okR (p:Int×Int):Bool:=decide (-1048576≤p.1)&&decide (p.2≤1048576)
def rgV (vars:List Vr) (o n:Int):Option (List (Int×Int))→(Int×Int)×Bool
 |none=>((0,0),false)
 |some k=>(QH vars o n k,okR (QH vars o n k))
def rgW (vars:List Vr) (o n:Int):Option (List (Int×Int))→(Int×Int)×Bool
 |none=>((0,0),false)
 |some k=>(X30 vars o n k,okR (X30 vars o n k))
mutual
def rgP (vars:List Vr):Tm→(Int×Int)×Bool
 | .mk o n ks=>rgV vars o n (X1f vars ks)
def X1f (vars:List Vr):List Tm→Option (List (Int×Int))
 |[]=>some []
 |t::l=>if(rgP vars t).2=true then(X1f vars l).map ((rgP vars t).1:: ·)else none
end
def rgQ (vars:List Vr):Tm→(Int×Int)×Bool
 | .mk o n ks=>rgW vars o n (X1f vars ks)
theorem X7q (vars:List Vr) (t:Tm):(rgQ vars t).2=(rgP vars t).2∧((rgP vars t).2=true→(rgQ vars t).1=(rgP vars t).1):=by
 obtain⟨o,n,ks⟩:=t;simp only[rgQ,rgP];cases X1f vars ks with
 |none=>simp[rgV,rgW]
 | some k=>
   simp only[rgV,rgW,X30];by_cases h:o=0
   · subst h;simp only[if_true,QH];by_cases h2:n< -1048576∨1048576<n
     · rw[if_pos h2];have:okR (n,n)=false:=by simp only[okR,Bool.and_eq_false_iff,decide_eq_false_iff_not];omega
       rw[this];exact⟨by decide,fun h=>by cases h⟩
     rw[if_neg h2];exact⟨rfl,fun _=>rfl⟩
   simp only[if_neg h];exact⟨trivial,fun _=>trivial⟩
def X0d (vars:List Vr):Prop:=∀v∈vars,v.low≤v.high∧-1048576≤v.low∧v.high≤1048576
theorem X5b {p q:Int×Int} (hp:p.1≤p.2) (hq:q.1≤q.2):(Zt p q).1≤(Zt p q).2:=by
 simp only[Zt,mn,mx]
 (repeat' split)<;>omega
theorem X8F:∀{l:List (Int×Int)} {p:Int×Int},(∀q∈l,bnd q)→p.1≤p.2→(X2m l p).1≤(X2m l p).2
 |[],p,_,hp=>hp
 |q::l,p,h,hp=>X8F (l:=l) (p:=Zt p q) (fun r hr=>h r (List.mem_cons_of_mem _ hr)) (X5b hp (h q (by simp)).2.1)
theorem rule_le {vars:List Vr} {inp:Bool} {o n:Int} {k:List (Int×Int)} (hv:X0d vars) (hf:Qh vars inp o n k.length=true) (hk:∀p∈k,bnd p):(QH vars o n k).1≤(QH vars o n k).2:=by
 have har:=X3b hf;have hrf:o=24→0≤n∧∃v,vars[n.toNat]? =some v∧(inp=true→v.kind≠0):=fun h=>X6g (by rw[←h];exact hf)
 have hg:∀i:Nat,(g2 k i).1≤(g2 k i).2∧-1048576≤(g2 k i).1∧(g2 k i).2≤1048576:=by
  intro i;unfold g2;cases hi:k[i]? with
  |none=>simp
  |some p=>have:=hk p (List.mem_of_getElem? hi);exact⟨this.2.1,this.1,this.2.2⟩
 have h0:=hg 0;have h1:=hg 1;unfold QH;generalize g2 k 0=a at*;generalize g2 k 1=b at*;split
 · exact Int.le_refl _
 split
 · rename_i h24;obtain⟨_,v,hv1,_⟩:=hrf h24;rw[hv1];exact(hv v (List.mem_of_getElem? hv1)).1
 split
 · simp only;omega
 split
 · simp only;omega
 split
 · simp only;omega
 split
 · unfold mulP;exact X5b (X5b (X5b (Int.le_refl _) (Int.le_refl _)) (Int.le_refl _)) (Int.le_refl _)
 split
 · simp only[mx]
   (repeat' split)<;>simp only<;>omega
 split
 · simp only[X1n,X4T,mn,mx]
   (repeat' split)<;>omega
 split
 · simp only[mn]
   (repeat' split)<;>omega
 split
 · simp only[mx]
   (repeat' split)<;>omega
 split
 · exact X8F (fun q hq=>hk q (List.mem_of_mem_drop hq)) h1.1
 simp
theorem X97 {vars:List Vr}:∀{l:List Tm} {k:List (Int×Int)},X1f vars l=some k→k.length=l.length
 |[],k,h=>by simp only[X1f]at h;cases h;rfl
 | t::l,k,h=>by
   simp only[X1f]at h;split at h
   · simp only[Option.map_eq_some_iff]at h;obtain⟨k',h',rfl⟩:=h;simp[X97 h']
   cases h
mutual
theorem X8b {vars:List Vr} {inp:Bool} (hv:X0d vars):∀(t:Tm),QS vars inp t=true→(rgP vars t).2=true→bnd (rgP vars t).1
 | .mk o n ks,hf,h=>by
   simp only[QS,Bool.and_eq_true]at hf;simp only[rgP]at h⊢;cases hk:X1f vars ks with
   |none=>rw[hk]at h;cases h
   | some k=>
     rw[hk]at h;simp only[rgV,okR,Bool.and_eq_true,decide_eq_true_eq]at h⊢;have hb:=X8G hv ks hf.2 k hk;have hl:=X97 hk;have:=rule_le hv (by rw[hl];exact hf.1) hb;exact⟨h.1,this,h.2⟩
theorem X8G {vars:List Vr} {inp:Bool} (hv:X0d vars):∀(l:List Tm),WR vars inp l=true→∀k,X1f vars l=some k→∀p∈k,bnd p
 |[],_,k,h,p,hp=>by simp only[X1f]at h;cases h;cases hp
 | t ::l,hf,k,h,p,hp=>by
   simp only[WR,Bool.and_eq_true]at hf;simp only[X1f]at h;split at h
   · rename_i hok;simp only[Option.map_eq_some_iff]at h;obtain⟨k',h',rfl⟩:=h;rcases List.mem_cons.1 hp with rfl|hp
     · exact X8b hv t hf.1 hok
     exact X8G hv l hf.2 k' h' p hp
   cases h
end
@[simp] theorem encP_snoc (a:List (Int×Int)) (r:Int×Int):X1i (a++[r])=X1i a++[[iC r.1,iC r.2]]:=by simp[X1i]
@[simp] theorem lows_snoc (a:List (Int×Int)) (r:Int×Int):X4U (a++[r])=X4U a++[[iC r.1]]:=by simp[X4U]
@[simp] theorem highs_snoc (a:List (Int×Int)) (r:Int×Int):X1l (a++[r])=X1l a++[[iC r.2]]:=by simp[X1l]
theorem Xa8 (vars:List Vr) (inp:Bool) (hv:X0d vars) (t:Tm):QS vars inp t=true→∀d:Nat,
  Con Tryz.prog 189 true [lV vars,aT t] (.tup [aP (rgP vars t).1,lb (rgP vars t).2]) none d:=by
 induction t using Tm.ind with
 |h o n ks ih=>
 intro hf d;simp only[QS,Bool.and_eq_true]at hf;have har:=X3b hf.1
 have hlen:ks.length≤33:=by
  have:(Qn o).2≤33:=by unfold Qn;(repeat' split)<;>simp
  omega
 clear har;obtain⟨res,hres⟩:∃r,rgP vars (.mk o n ks)=r:=⟨_,rfl⟩;rw[hres];simp only[rgP]at hres;have ih':∀t∈ks,∀d,Con Tryz.prog 189 true [lV vars,aT t] (.tup [aP (rgP vars t).1,lb (rgP vars t).2]) none d:=fun t ht d=>ih t ht (X0f hf.2 t ht) d;clear ih;refine X7 Tryz.func189 ?_;simp only[Tryz.f189];simp only[aT,Tm.enc];refine X4 ?_;refine X4 ?_;refine X0<|X0<|X3 ?_;refine X5<|(Xd [0,3,4,13,14] (fun(x:Nat×List (Int×Int))=>[(6,.v (.one (.own 1006))),(15,.v (li x.1))]) (fun(x:Nat×List (Int×Int))=>[(3,.box [.c (iC o),.c (iC n),.c (.sl 3 (Xo ks))]),(4,.box [.c (iC 0),.c (iC 0)]),(1006,.row 230 2 (X1i x.2))]) (fun(x:Nat×List (Int×Int))=>x.1≤ks.length∧x.2.length=x.1∧X1f vars ks=(X1f vars (ks.drop x.1)).map (x.2++ ·)∧∀p∈x.2,bnd p) (fun(x:Nat×List (Int×Int))=>ks.length - x.1) (0,[]) ⟨Nat.zero_le _,rfl,by simp,by simp⟩ ?_ ?_)
 · exact X6 (fun n=>n) [1006]
 rintro⟨k,acc⟩ ⟨hk,hal,hJ,hb⟩;simp only[upS,X8,Xy]
 try simp only[X8,KN,Nat.reduceBEq,if_true,if_false,ins,Nat.reduceLT]
 simp only at hk hal hJ hb;refine X4 ?_;refine X0<|(X9 rfl (fun h5=>Xb ?_) (fun h5=>?_))
 · (try simp only[BN]at h5);have hlt:k<ks.length:=by omega
   obtain⟨⟨eo,en,ek⟩,he,hd⟩:=Xq hlt;have he':=Wt he;simp only[Tm.enc]at he';have hw1:=XA hlt (by omega);rw[hd]at hJ;simp only[X1f]at hJ;have hk1:k+1≤ks.length:=hlt;have hmem:Tm.mk eo en ek∈ks:=List.mem_of_getElem? he;have hpb:=X8b hv _ (X0f hf.2 _ hmem);have hroom:Qa (k+1) 16:=Xx (by omega) (by omega);clear hlt h5;refine X0<|X5<|X0<|X3 ?_;refine Xk [⟨true,.tup [aP (rgP vars (.mk eo en ek)).1,lb (rgP vars (.mk eo en ek)).2],none⟩] ?_ ?_
   · first|exact ih' _ hmem _|exact trivial|simpa[*]using ih' _ hmem _
   refine X0<|X0<|X3 ?_;refine(Xe rfl (fun h9=>?_) fun h9=>?_)
   · (try simp only[BN]at h9);rw[h9]at hJ;simp only[Bool.false_eq_true,if_false,Option.map_none]at hJ;rw[hJ]at hres;subst hres;refine X4 ?_;exact Xh
   (try simp only[BN]at h9);rw[if_pos h9]at hJ;refine X3 ?_;refine X3 ?_
   exact⟨(k+1,acc++[(rgP vars (.mk eo en ek)).1]),⟨hk1,by simp[hal],by rw[hJ,Option.map_map];congr 1;funext z;simp,fun p hp=>by
    rcases List.mem_append.1 hp with h|h
    · exact hb p h
    simp only[List.mem_cons,List.not_mem_nil,or_false]at h;rw[h]
    exact hpb h9⟩,by simp only;omega,X6 (fun n=>if n=1006 then 31 else n) []⟩
 (try simp only[BN]at h5);have hkl:k=ks.length:=by omega
 rw[hkl,List.drop_length]at hJ;simp only[X1f,Option.map_some,List.append_nil]at hJ;rw[hJ]at hres;subst hres;have hf1:Qh vars inp o n acc.length=true:=by rw[hal,hkl];exact hf.1
 refine(Xg ?_);refine Xk [⟨true,.v (aP (QH vars o n acc)),none⟩] ?_ ?_
 · first|exact X8N vars inp o n _ acc hf1 hb _|exact trivial|simpa[*]using X8N vars inp o n _ acc hf1 hb _
 refine X0<|(X5f [(11,11),(38,11),(42,11),(4,4)] (by kernel_rfl) (by kernel_rfl) (by rfl) (by simp[evsH,X2h,Qq, *];rfl) ?_);exact(Xm (fun h=>⟨.inr rfl,h⟩) _ (by simp[*];rfl) (by simp[XN,rgV,okR]) (by simp))
theorem XbZ (vars:List Vr) (inp:Bool) (hv:X0d vars) (t:Tm):QS vars inp t=true→∀d:Nat,
  Con Tryz.prog 97 true [lV vars,aT t] (.tup [li (rgQ vars t).1.1,li (rgQ vars t).1.2,lb (rgQ vars t).2]) none d:=by
 induction t using Tm.ind with
 |h o n ks ih=>
 intro hf d;simp only[QS,Bool.and_eq_true]at hf;have har:=X3b hf.1
 have hlen:ks.length≤33:=by
  have:(Qn o).2≤33:=by unfold Qn;(repeat' split)<;>simp
  omega
 clear har;obtain⟨res,hres⟩:∃r,rgQ vars (.mk o n ks)=r:=⟨_,rfl⟩;rw[hres];simp only[rgQ]at hres;have ih':∀t∈ks,∀d,Con Tryz.prog 97 true [lV vars,aT t] (.tup [li (rgQ vars t).1.1,li (rgQ vars t).1.2,lb (rgQ vars t).2]) none d:=fun t ht d=>ih t ht (X0f hf.2 t ht) d;clear ih;refine X7 Tryz.func97 ?_;simp only[Tryz.f97];simp only[aT,Tm.enc];refine X4 ?_;refine X4 ?_;refine X4 ?_;refine X0<|X0<|X3 ?_;refine X5<|(Xd [0,3] (fun(x:Nat×List (Int×Int))=>[(7,.v (.one (.own 1007))),(8,.v (.one (.own 1008))),(9,.v (li x.1))]) (fun(x:Nat×List (Int×Int))=>[(3,.box [.c (iC o),.c (iC n),.c (.sl 3 (Xo ks))]),(1007,.row 3 1 (X4U x.2)),(1008,.row 3 1 (X1l x.2))]) (fun(x:Nat×List (Int×Int))=>x.1≤ks.length∧x.2.length=x.1∧X1f vars ks=(X1f vars (ks.drop x.1)).map (x.2++ ·)∧∀p∈x.2,bnd p) (fun(x:Nat×List (Int×Int))=>ks.length - x.1) (0,[]) ⟨Nat.zero_le _,rfl,by simp,by simp⟩ ?_ ?_)
 · exact X6 (fun n=>if n=1007 then 15 else if n=1008 then 16 else n) []
 rintro⟨k,acc⟩ ⟨hk,hal,hJ,hb⟩;simp only[upS,X8,Xy]
 try simp only[X8,KN,Nat.reduceBEq,if_true,if_false,ins,Nat.reduceLT]
 simp only at hk hal hJ hb;refine X0<|X0<|X3 ?_;refine(X9 rfl (fun h6=>Xb ?_) (fun h6=>?_))
 · (try simp only[BN]at h6);have hlt:k<ks.length:=by omega
   obtain⟨⟨eo,en,ek⟩,he,hd⟩:=Xq hlt;have he':=Wt he;simp only[Tm.enc]at he';have hw1:=XA hlt (by omega);rw[hd]at hJ;simp only[X1f]at hJ;have hk1:k+1≤ks.length:=hlt;have hmem:Tm.mk eo en ek∈ks:=List.mem_of_getElem? he;have hpb:=X8b hv _ (X0f hf.2 _ hmem);have hroom:Qa (k+1) 8:=Xx (by omega) (by omega);rw[←(X7q vars (.mk eo en ek)).1]at hJ hpb;clear hlt h6;refine X0<|X5<|X0<|(Xp [⟨true,.tup [li (rgQ vars (.mk eo en ek)).1.1,li (rgQ vars (.mk eo en ek)).1.2,lb (rgQ vars (.mk eo en ek)).2],none⟩] ?_ ?_)
   · first|exact ih' _ hmem _|exact trivial|simpa[*]using ih' _ hmem _
   refine X0<|X0<|X3 ?_;refine(Xe rfl (fun h9=>?_) fun h9=>?_)
   · (try simp only[BN]at h9);rw[h9]at hJ;simp only[Bool.false_eq_true,if_false,Option.map_none]at hJ;rw[hJ]at hres;subst hres;refine X4 ?_;exact Xh
   (try simp only[BN]at h9);rw[if_pos h9]at hJ;have hq2:=(X7q vars (.mk eo en ek)).2 (by rw[←(X7q vars (.mk eo en ek)).1];exact h9);refine X4 ?_;refine X3 ?_;refine X3 ?_
   exact⟨(k+1,acc++[(rgP vars (.mk eo en ek)).1]),⟨hk1,by simp[hal],by rw[hJ,Option.map_map];congr 1;funext z;simp,fun p hp=>by
    rcases List.mem_append.1 hp with h|h
    · exact hb p h
    simp only[List.mem_cons,List.not_mem_nil,or_false]at h;rw[h]
    exact hpb h9⟩,by simp only;omega,X6 (fun n=>if n=1007 then 40 else if n=1008 then 44 else n) []⟩
 (try simp only[BN]at h6);have hkl:k=ks.length:=by omega
 rw[hkl,List.drop_length]at hJ;simp only[X1f,Option.map_some,List.append_nil]at hJ;rw[hJ]at hres;subst hres;have hf1:Qh vars inp o n acc.length=true:=by rw[hal,hkl];exact hf.1
 refine(Xg ?_);refine Xk [⟨true,.tup [li (X30 vars o n acc).1,li (X30 vars o n acc).2],none⟩] ?_ ?_
 · first|exact X8s vars inp o n _ acc hf1 hb _|exact trivial|simpa[*]using X8s vars inp o n _ acc hf1 hb _
 refine X4 ?_;exact(Xm (fun h=>⟨.inr rfl,h⟩) _ (by simp[*];rfl) (by simp[XN,rgW,okR]) (by simp))
def X0G (vars:List Vr) (inp:Bool) (t:Tm):Int:=if QS vars inp t=true then(if(rgP vars t).2=true then 0 else 3)else 1
theorem X6s (vars:List Vr) (inp:Bool) (hv:X0d vars) (hl:vars.length≤1000000000) (t:Tm) (hn:t.nodes≤1000000000) (d:Nat):
  Con Tryz.prog 180 true [lV vars,aT t,lb inp] (.v (li (X0G vars inp t))) none d:=by
 have c1:=Xc8 vars inp hl t hn;have c2:=Xa8 vars inp hv t;obtain⟨o,n,ks⟩:=t;obtain⟨F,hF⟩:∃F,QS vars inp (.mk o n ks)=F:=⟨_,rfl⟩;obtain⟨R,hR⟩:∃R,rgP vars (.mk o n ks)=R:=⟨_,rfl⟩;simp only[X0G,hF,hR]at c1 c2⊢;clear hF hR;refine X7 Tryz.func180 ?_;simp only[Tryz.f180];simp only[aT,Tm.enc]at c1 c2⊢;refine X4 ?_;refine X0<|X0<|(Xp [⟨true,.v (lb F),none⟩] ?_ ?_)
 · first|exact c1 _|exact trivial|simpa[*]using c1 _
 refine(Xe rfl (fun h2=>?_) fun h2=>?_)
 · (try simp only[BN]at h2);refine X4 ?_;exact Xh
 (try simp only[BN]at h2);refine X0<|X0<|(Xp [⟨true,.tup [aP R.1,lb R.2],none⟩] ?_ ?_)
 · first|exact c2 h2 _|exact trivial|simpa[*]using c2 h2 _
 refine X4 ?_;refine(Xe rfl (fun h7=>?_) fun h7=>?_)
 · (try simp only[BN]at h7);refine X4 ?_;exact Xh
 (try simp only[BN]at h7);refine X4 ?_;exact Xh
theorem X6n (vars:List Vr) (inp:Bool) (hv:X0d vars) (hl:vars.length≤1000000000) (t:Tm) (hn:t.nodes≤1000000000) (d:Nat):
  Con Tryz.prog 64 true [lV vars,aT t,lb inp] (.v (li (X0G vars inp t))) none d:=by
 have c1:=Xcs vars inp hl t hn;have c2:=XbZ vars inp hv t;rw[(X7q vars t).1]at c2;obtain⟨o,n,ks⟩:=t;obtain⟨F,hF⟩:∃F,QS vars inp (.mk o n ks)=F:=⟨_,rfl⟩;obtain⟨R,hR⟩:∃R,(rgP vars (.mk o n ks)).2=R:=⟨_,rfl⟩;obtain⟨S,hS⟩:∃S,(rgQ vars (.mk o n ks)).1=S:=⟨_,rfl⟩;simp only[X0G,hF,hR,hS]at c1 c2⊢;clear hF hR hS;refine X7 Tryz.func64 ?_;simp only[Tryz.f64];simp only[aT,Tm.enc]at c1 c2⊢;refine X4 ?_;refine X0<|X0<|(Xp [⟨true,.v (lb F),none⟩] ?_ ?_)
 · first|exact c1 _|exact trivial|simpa[*]using c1 _
 refine(Xe rfl (fun h2=>?_) fun h2=>?_)
 · (try simp only[BN]at h2);refine X4 ?_;exact Xh
 (try simp only[BN]at h2);refine Xk [⟨true,.tup [li S.1,li S.2,lb R],none⟩] ?_ ?_
 · first|exact c2 h2 _|exact trivial|simpa[*]using c2 h2 _
 refine X0<|X0<|X3 ?_;refine(Xe rfl (fun h7=>?_) fun h7=>?_)
 · (try simp only[BN]at h7);refine X4 ?_;exact Xh
 (try simp only[BN]at h7);refine X4 ?_;exact Xh
end Go.Proofs.YtppjennamodfdaaGreat

namespace Go.Proofs.YtppjennamodfdaaGreat
open Go Go.Hl
@[simp] theorem take_encV (l:List Vr) (i:Nat):(Xs l).take i=Xs (l.take i):=by simp[Xs]
@[simp] theorem encV_snoc (l:List Vr) (v:Vr):Xs (l++[v])=Xs l++[v.enc]:=by simp[Xs]
theorem ZZ {α:Type} {l:List α} {k:Nat} {x:α} (h:l[k]? =some x):l.take (k+1)=l.take k++[x]:=by
 rw[List.take_add_one,h];rfl
theorem X23 (s:ByteArray) (d:Nat):Con Tryz.prog 62 true [sv s] (.v (lb (ZP s))) none d:=by
 refine X7 Tryz.func62 ?_;simp only[Tryz.f62];refine X4 ?_;refine X0<|X0<|X3 ?_;refine(Xe rfl (fun h2=>?_) fun h2=>?_)
 · try simp only[BN]at h2
   have hz:ZP s=false:=by
    unfold ZP;rw[Bool.and_eq_false_iff,Bool.and_eq_false_iff];simp only[decide_eq_false_iff_not];omega
   refine X4 ?_;exact Xh
 (try simp only[BN]at h2);have h1:1≤s.size:=by omega
 have h40:s.size≤40:=by omega
 refine X0<|X0<|X3 ?_;refine X5<|(Xd [0] (fun(x:Nat)=>[(3,.v (li x))]) (fun x=>[]) (fun x=>x≤s.size∧∀j:Nat,j<x→X3X s j=true) (fun x=>s.size - x) (0:Nat) ⟨Nat.zero_le _,fun j hj=>absurd hj (Nat.not_lt_zero j)⟩ ?_ ?_)
 · exact X6 (fun n=>n) []
 rintro k ⟨hk,hall⟩;simp only[upS,X8,Xy]
 try simp only[X8,KN,Nat.reduceBEq,if_true,if_false,ins,Nat.reduceLT]
 refine X0<|X0<|X3 ?_;refine(X9 rfl (fun h8=>Xb ?_) (fun h8=>?_))
 · (try simp only[BN]at h8);have hlt:k<s.size:=by omega
   obtain⟨b,hb⟩:=X7p hlt;have hw:=XA hlt (by omega);have hk1:k+1≤s.size:=hlt;clear hlt h8;refine X0<|X5<|X0<|X3 ?_;refine X4 ?_;refine X4 ?_;refine X4 ?_;refine(Xe rfl (fun h13=>?_) fun h13=>?_)
   · try simp only[BN]at h13
     have hbad:X3X s k=false:=by
      unfold X3X;rw[hb];simp only[Bool.or_eq_false_iff,Bool.and_eq_false_iff,decide_eq_false_iff_not];omega
     have hz:=X6x hk1 hbad;refine X4 ?_;exact Xh
   try simp only[BN]at h13
   have hgood:X3X s k=true:=by
    unfold X3X;rw[hb];simp only[Bool.or_eq_true,Bool.and_eq_true,decide_eq_true_eq];omega
   refine X3 ?_;exact⟨k+1,⟨by omega,fun j hj=>(Nat.lt_succ_iff_lt_or_eq.1 hj).elim (hall j) (fun e=>e▸hgood)⟩,by omega,X6 (fun n=>n) []⟩
 (try simp only[BN]at h8);have hz:=X6i h1 h40 (fun j hj=>hall j (by omega));refine(Xg ?_);refine X4 ?_;exact Xh
def sz (v:Vr):Int:=v.high - v.low+1
def prV:List Vr→Int→Int
 |[],n=>n
 |v::l,n=>if 4096<n*sz v then 4097 else prV l (n*sz v)
def spc (vars:List Vr) (kind:Int):Int:=prV (vars.filter fun v=>decide (v.kind=kind)) 1
def X06 (vars:List Vr):Prop:=∀v∈vars,v.low≤v.high∧-1048576≤v.low∧v.high≤1048576
theorem sz_in {vars:List Vr} (h:X06 vars) {v:Vr} (hv:v∈vars):1≤sz v∧sz v≤2097153:=by
 have:=h v hv;unfold sz;omega
theorem X7P {n s:Int} (h1:1≤n∧n≤4096) (h2:1≤s∧s≤2097153):1≤n*s∧n*s≤8589938688:=by
 have h3:n.natAbs*s.natAbs≤4096*2097153:=Nat.mul_le_mul (by omega) (by omega);have h4:1*1≤n.natAbs*s.natAbs:=Nat.mul_le_mul (by omega) (by omega);rw[←Int.natAbs_mul]at h3 h4;have h5:0≤n*s:=Int.mul_nonneg (by omega) (by omega);omega
theorem prV_in {vars:List Vr} (h:X06 vars):∀(l:List Vr) (n:Int),(∀v∈l,v∈vars)→1≤n∧n≤4096→1≤prV l n∧prV l n≤4097
 |[],n,_,hn=>by simp only[prV];omega
 | v::l,n,hl,hn=>by
   simp only[prV];have:=X7P hn (sz_in h (hl v (by simp)));split
   · omega
   exact prV_in h l _ (fun w hw=>hl w (List.mem_cons_of_mem _ hw)) (by omega)
theorem X2s (vars:List Vr) (kind:Int) (hv:X06 vars) (hl:vars.length≤1000000000) (d:Nat):Con Tryz.prog 95 true [lV vars,li kind] (.v (li (spc vars kind))) none d:=by
 obtain⟨res,hres⟩:∃r,spc vars kind=r:=⟨_,rfl⟩;rw[hres];unfold spc at hres;refine X7 Tryz.func95 ?_;simp only[Tryz.f95];refine X4 ?_;refine X4 ?_;refine X0<|X0<|X3 ?_;refine X5<|(Xd [0,1] (fun(x:Nat×Int)=>[(5,.v (li x.2)),(6,.v (li x.1))]) (fun x=>[]) (fun x=>x.1≤vars.length∧prV ((vars.drop x.1).filter fun v=>decide (v.kind=kind)) x.2=res∧1≤x.2∧x.2≤4096) (fun x=>vars.length - x.1) (0,1) ⟨Nat.zero_le _,hres,by decide,by decide⟩ ?_ ?_)
 · exact X6 (fun n=>n) []
 rintro⟨k,n⟩ ⟨hk,hJ,hn1,hn2⟩;simp only[upS,X8,Xy]
 try simp only[X8,KN,Nat.reduceBEq,if_true,if_false,ins,Nat.reduceLT]
 simp only at hk hJ hn1 hn2;clear hres;refine X0<|X0<|X3 ?_;refine(X9 rfl (fun h5=>Xb ?_) (fun h5=>?_))
 · (try simp only[BN]at h5);have hlt:k<vars.length:=by omega
   obtain⟨v,he,hd⟩:=Xq hlt;have hw1:=XA hlt (by omega);have hk1:k+1≤vars.length:=hlt;have hmem:v∈vars:=List.mem_of_getElem? he;have hs:=sz_in hv hmem;have hm:=X7P ⟨hn1,hn2⟩ hs;have hb:=hv v hmem;have hw2:IntKind.i64.wrap (v.high - v.low)=v.high - v.low:=Xc (by omega) (by omega);have hw3:IntKind.i64.wrap (v.high - v.low+1)=sz v:=by rw[Xc (by omega) (by omega)];rfl
   have hw4:IntKind.i64.wrap (n*sz v)=n*sz v:=Xc (by omega) (by omega);rw[hd]at hJ;clear hlt h5 hv;refine X0<|X5<|X0<|X0<|X3 ?_;refine(Xe rfl (fun h7=>?_) fun h7=>?_)
   · (try simp only[BN]at h7);rw[List.filter_cons_of_neg (by simpa using h7)]at hJ;refine(Xg ?_);refine X3 ?_;exact⟨(k+1,n),⟨hk1,hJ,hn1,hn2⟩,by simp only;omega,X6 (fun n=>n) []⟩
   (try simp only[BN]at h7);rw[List.filter_cons_of_pos (by simpa using h7)]at hJ;simp only[prV]at hJ;refine X0<|(Q6 (by kernel_rfl) (by kernel_rfl) (by rfl) (by simp[*];rfl) ?_);refine X4 ?_;refine(Xe rfl (fun h12=>?_) fun h12=>?_)
   · (try simp only[BN]at h12);rw[if_pos h12]at hJ;subst hJ;refine X4 ?_;exact Xh
   (try simp only[BN]at h12);rw[if_neg h12]at hJ;refine X3 ?_;exact⟨(k+1,n*sz v),⟨hk1,hJ,hm.1,by simp only;omega⟩,by simp only;omega,X6 (fun n=>n) []⟩
 (try simp only[BN]at h5);have hkl:k=vars.length:=by omega
 rw[hkl,List.drop_length]at hJ;simp only[List.filter_nil,prV]at hJ;refine(Xg ?_);refine X4 ?_;exact(Xm (fun h=>⟨.inr rfl,h⟩) _ (by simp[*];rfl) (by subst hJ;rfl) (by simp))
theorem X75 (v:Vr) (hv:-1048576≤v.low∧v.low≤v.high∧v.high≤1048576) (d:Nat):Con Tryz.prog 197 true [aV v] (.v (li (sz v))) none d:=by
 have hw2:IntKind.i64.wrap (v.high - v.low)=v.high - v.low:=Xc (by omega) (by omega);have hw3:IntKind.i64.wrap (v.high - v.low+1)=sz v:=by rw[Xc (by omega) (by omega)];rfl
 refine X7 Tryz.func197 ?_;simp only[Tryz.f197];refine X4 ?_;refine X4 ?_;exact Xh
def chR (vars:List Vr) (kind:Int):RV:=if spc vars kind≤4096 then .tup [.one (.c (.sl 5 (Xs (vars.filter fun v=>decide (v.kind=kind))))),li (spc vars kind),li 0] else .tup [.one (.c (.lit XY)),li 0,li 4]
theorem XaV (vars:List Vr) (kind:Int) (hkd:1≤kind∧kind≤3) (hv:X06 vars) (hl:vars.length≤1000000) (d:Nat):Con Tryz.prog 186 false [lV vars,li kind] (chR vars kind) none d:=by
 obtain⟨S,hS⟩:∃S,vars.filter (fun v=>decide (v.kind=kind))=S:=⟨_,rfl⟩;obtain⟨res,hres⟩:∃r,spc vars kind=r:=⟨_,rfl⟩;unfold chR;rw[hres,hS];unfold spc at hres;rw[hS]at hres;refine X7 Tryz.func186 ?_;simp only[Tryz.f186];refine X4 ?_;refine(XO [0,1] (fun(z:Unit)=>[]) (fun(z:Unit)=>[]) (fun(z:Unit)=>True) ?_ ?_)
 ·
  refine X4 ?_;refine X5<|(XO [0,1] (fun(z:Bool)=>[(14,.v (lb z))]) (fun(z:Bool)=>[]) (fun(z:Bool)=>z=true) ?_ ?_)
  ·
   refine X4 ?_;refine(X9 rfl (fun h5=>Xb ?_) (fun h5=>?_))
   · (try simp only[BN]at h5);exact⟨true,rfl,X6 (fun n=>n) []⟩
   (try simp only[BN]at h5);refine X4 ?_;refine(X9 rfl (fun h8=>Xb ?_) (fun h8=>?_))
   · (try simp only[BN]at h8);exact⟨true,rfl,X6 (fun n=>n) []⟩
   (try simp only[BN]at h8);refine X4 ?_;refine(X9 rfl (fun h11=>Xb ?_) (fun h11=>?_))
   · (try simp only[BN]at h11);exact⟨true,rfl,X6 (fun n=>n) []⟩
   (try simp only[BN]at h11);refine X3 ?_;have hz:decide (kind=3)=true:=by rw[decide_eq_true_eq];omega
   exact⟨true,rfl,X6 (fun n=>n) []⟩
  rintro _ rfl;simp only[upS,X8,Xy]
  try simp only[X8,KN,Nat.reduceBEq,if_true,if_false,ins,Nat.reduceLT]
  refine(X9 rfl (fun h15=>Xb ?_) (fun h15=>?_))
  · (try simp only[BN]at h15);exact⟨(),trivial,X6 (fun n=>n) []⟩
  exact absurd h15 (by simp)
 rintro z hz;simp only[upS,X8,Xy]
 try simp only[X8,KN,Nat.reduceBEq,if_true,if_false,ins,Nat.reduceLT]
 refine X4 ?_;refine X0<|X0<|X3 ?_;refine X5<|(Xd [1,19,20] (fun(x:Nat×List Vr)=>[(7,.v (.one (.own 1007))),(21,.v (li x.1))]) (fun x=>[(1007,.row 64 5 (Xs x.2))]) (fun x=>x.1≤vars.length∧x.2=(vars.take x.1).filter fun v=>decide (v.kind=kind)) (fun x=>vars.length - x.1) (0,[]) ⟨Nat.zero_le _,by simp⟩ ?_ ?_)
 · exact Xu (fun n=>n) [1007] rfl (by simp[upS,X8]) (by simp[upS,Xs]) (by simp[upS])
 rintro⟨k,acc⟩ ⟨hk,hJ⟩;simp only[upS,X8,Xy]
 try simp only[X8,KN,Nat.reduceBEq,if_true,if_false,ins,Nat.reduceLT]
 simp only at hk hJ;replace hJ:=hJ.symm;refine X4 ?_;refine X0<|(X9 rfl (fun h23=>Xb ?_) (fun h23=>?_))
 · (try simp only[BN]at h23);have hlt:k<vars.length:=by omega
   obtain⟨v,he,hd⟩:=Xq hlt;have hw1:=XA hlt (by omega);have hk1:k+1≤vars.length:=hlt;have hmem:v∈vars:=List.mem_of_getElem? he;have hb:=hv v hmem;have ht:=ZZ he;generalize hT:(vars.take k).filter (fun v=>decide (v.kind=kind))=T at hJ
   have hal:acc.length≤k:=by
    rw[←hJ,←hT];exact Nat.le_trans (List.length_filter_le _ _) (by rw[List.length_take];omega)
   have hroom:Qa (acc.length+1) 48:=Xx (by omega) (by omega);clear hlt h23 hv;refine X0<|X5<|X0<|X3 ?_;refine X0<|X0<|X3 ?_;refine(Xe rfl (fun h26=>?_) fun h26=>?_)
   · (try simp only[BN]at h26);have hf:(vars.take (k+1)).filter (fun v=>decide (v.kind=kind))=acc:=by rw[ht,List.filter_append,hT,hJ,List.filter_cons_of_neg (by simpa using h26)];simp
     clear hS;refine(Xg ?_);refine X3 ?_;exact⟨(k+1,acc),⟨hk1,hf.symm⟩,by simp only;omega,X6 (fun n=>n) []⟩
   (try simp only[BN]at h26);have hf:(vars.take (k+1)).filter (fun v=>decide (v.kind=kind))=acc++[v]:=by rw[ht,List.filter_append,hT,hJ,List.filter_cons_of_pos (by simpa using h26)];simp
   clear hS;refine X0<|X0<|X3 ?_;refine(Xe rfl (fun h30=>?_) fun h30=>?_)
   · exfalso;simp only[Bool.or_eq_true,decide_eq_true_eq]at h30;omega
   (try simp only[BN]at h30);refine X3 ?_;refine X3 ?_;exact⟨(k+1,acc++[v]),⟨hk1,hf.symm⟩,by simp only;omega,X6 (fun n=>if n=1007 then 47 else n) []⟩
 (try simp only[BN]at h23);have hkl:k=vars.length:=by omega
 rw[hkl,List.take_length,hS]at hJ;subst hJ;have hSl:S.length≤1000000:=by rw[←hS];exact Nat.le_trans (List.length_filter_le _ _) hl
 have hSv:∀v∈S,v.low≤v.high∧-1048576≤v.low∧v.high≤1048576:=fun v h=>hv v (by rw[←hS]at h;exact(List.mem_filter.1 h).1);clear hS hv hk hl h23 hkl;refine(Xg ?_);refine X4 ?_;refine X0<|X0<|X3 ?_;refine X5<|(Xd [7,49,50] (fun(x:Nat×Int)=>[(10,.v (li x.2)),(51,.v (li x.1))]) (fun x=>[(1007,.row 64 5 (Xs S))]) (fun x=>x.1≤S.length∧prV (S.drop x.1) x.2=res∧1≤x.2∧x.2≤4096) (fun x=>S.length - x.1) (0,1) ⟨Nat.zero_le _,hres,by decide,by decide⟩ ?_ ?_)
 · exact X6 (fun n=>n) []
 rintro⟨k2,n⟩ ⟨hk2,hJ,hn1,hn2⟩;simp only[upS,X8,Xy]
 try simp only[X8,KN,Nat.reduceBEq,if_true,if_false,ins,Nat.reduceLT]
 simp only at hk2 hJ hn1 hn2;clear hres;refine X4 ?_;refine X0<|(X9 rfl (fun h40=>Xb ?_) (fun h40=>?_))
 · (try simp only[BN]at h40);have hlt:k2<S.length:=by omega
   obtain⟨v,he,hd⟩:=Xq hlt;have hw1:=XA hlt (by omega);have hk1:k2+1≤S.length:=hlt;have hb:=hSv v (List.mem_of_getElem? he);have hs:1≤sz v∧sz v≤2097153:=by unfold sz;omega
   have hm:=X7P ⟨hn1,hn2⟩ hs;have hw4:IntKind.i64.wrap (n*sz v)=n*sz v:=Xc (by omega) (by omega);rw[hd]at hJ;simp only[prV]at hJ;clear hlt h40;refine X0<|X5<|X0<|X3 ?_;refine Xk [⟨true,.v (li (sz v)),none⟩] ?_ ?_
   · first|exact X75 v ⟨hb.2.1,hb.1,hb.2.2⟩ _|exact trivial|simpa[*]using X75 v ⟨hb.2.1,hb.1,hb.2.2⟩ _
   refine X4 ?_;refine(Xe rfl (fun h44=>?_) fun h44=>?_)
   · (try simp only[BN]at h44);rw[if_pos h44]at hJ;subst hJ;refine X4 ?_;exact XU ⟨.inr rfl,_,le_refl _,⟨⟨_,by simp;rfl,by simp[XN]⟩,by simp,fun h=>by cases h⟩⟩
   (try simp only[BN]at h44);rw[if_neg h44]at hJ;refine X3 ?_;exact⟨(k2+1,n*sz v),⟨hk1,hJ,hm.1,by simp only;omega⟩,by simp only;omega,X6 (fun n=>n) []⟩
 (try simp only[BN]at h40);have hkl:k2=S.length:=by omega
 rw[hkl,List.drop_length]at hJ;simp only[prV]at hJ;subst hJ;refine(Xg ?_);refine X4 ?_;exact XU ⟨.inr rfl,_,XR 1007 rfl,⟨⟨_,by simp;rfl,by simp[XN,hn2]⟩,by simp,fun h=>by cases h⟩⟩
theorem Xad (vars:List Vr) (kind:Int) (hkd:1≤kind∧kind≤3) (hv:X06 vars) (hl:vars.length≤1000000) (d:Nat):Con Tryz.prog 177 true [lV vars,li kind]
  (.tup [li (if spc vars kind≤4096 then spc vars kind else 0),li (if spc vars kind≤4096 then 0 else 4)]) none d:=by
 have c:=XaV vars kind hkd hv hl;unfold chR at c;obtain⟨res,hres⟩:∃r,spc vars kind=r:=⟨_,rfl⟩;rw[hres]at c⊢;clear hres;by_cases h:res≤4096
 · rw[if_pos h]at c;rw[if_pos h,if_pos h];refine X7 Tryz.func177 ?_;simp only[Tryz.f177];refine X4 ?_;refine Xk [⟨false,.tup [.one (.c (.sl 5 (Xs (vars.filter fun v=>decide (v.kind=kind))))),li res,li 0],none⟩] ?_ ?_
   · first|exact c _|exact trivial|simpa[*]using c _
   refine X4 ?_;exact Xh
 rw[if_neg h]at c;rw[if_neg h,if_neg h];refine X7 Tryz.func177 ?_;simp only[Tryz.f177];refine X4 ?_;refine Xk [⟨false,.tup [.one (.c (.lit XY)),li 0,li 4],none⟩] ?_ ?_
 · first|exact c _|exact trivial|simpa[*]using c _
 refine X4 ?_;exact Xh
end Go.Proofs.YtppjennamodfdaaGreat

namespace Go.Proofs.YtppjennamodfdaaGreat
open Go Go.Hl
theorem idxV_con (l:List Vr) (g:FuncId) (cap:List CD) (p:Vr→Bool) (hl:l.length≤1000000000) (hp:∀v∈l,∀d,Con Tryz.prog g true (aV v::cap.map fun c=>.one (.c c)) (.v (lb (p v))) none d) (d:Nat):
  ∃r:Int,(∀d,Con Tryz.prog 185 true [lV l,.one (.c (.fn g cap))] (.v (li r)) none d)∧(0≤r↔l.any p=true):=by
 let rec_:List Vr→Int→Int:=fun l k=>match l.findIdx? p with
  |some i=>k+i
  |none=>-1
 refine⟨(match l.findIdx? p with|some i=>(i:Int)|none=>-1),fun d=>?_,?_⟩
 · have hstep:∀k:Nat,(∀j:Nat,j<k→∀v,l[j]? =some v→p v=false)→∀v,l[k]? =some v→p v=true→l.findIdx? p=some k:=by
    intro k hno v hv hpv;rw[List.findIdx?_eq_some_iff_getElem];have hk:k<l.length:=(List.getElem?_eq_some_iff.1 hv).1;refine⟨hk,?_,fun j hj=>?_⟩
    · simp only[List.getElem?_eq_getElem hk,Option.some.injEq]at hv;rw[hv];exact hpv
    have:=hno j hj l[j] (by simp);simp[this]
   have hnone:(∀j:Nat,j<l.length→∀v,l[j]? =some v→p v=false)→l.findIdx? p=none:=by
    intro hno;rw[List.findIdx?_eq_none_iff];intro v hv;obtain⟨j,hj⟩:=List.mem_iff_getElem?.1 hv;exact hno j (List.getElem?_eq_some_iff.1 hj).1 v hj
   clear rec_;refine X7 Tryz.func185 ?_;simp only[Tryz.f185];refine X4 ?_;refine X0<|X0<|X3 ?_;refine X5<|(Xd [0,1,7] (fun(x:Nat)=>[(8,.v (li x))]) (fun x=>[]) (fun x=>x≤l.length∧∀j:Nat,j<x→∀v,l[j]? =some v→p v=false) (fun x=>l.length - x) (0:Nat) ⟨Nat.zero_le _,fun j hj=>absurd hj (Nat.not_lt_zero j)⟩ ?_ ?_)
   · exact X6 (fun n=>n) []
   rintro k ⟨hk,hJ⟩;simp only[upS,X8,Xy]
   try simp only[X8,KN,Nat.reduceBEq,if_true,if_false,ins,Nat.reduceLT]
   refine X4 ?_;refine X0<|(X9 rfl (fun h4=>Xb ?_) (fun h4=>?_))
   · (try simp only[BN]at h4);have hlt:k<l.length:=by omega
     obtain⟨v,he,hd⟩:=Xq hlt;have hw1:=XA hlt (by omega);have hk1:k+1≤l.length:=hlt;have hpv:=hp v (List.mem_of_getElem? he);have hs:=hstep k hJ v he;clear hlt h4 hstep hnone hp;refine X0<|X5<|X0<|X3 ?_;refine Xk [⟨true,.v (lb (p v)),none⟩] ?_ ?_
     · first|exact hpv _|exact trivial|simpa[*]using hpv _
     refine(Xe rfl (fun h7=>?_) fun h7=>?_)
     · (try simp only[BN]at h7);rw[hs h7];refine X4 ?_;exact Xh
     (try simp only[BN]at h7);refine X3 ?_;exact⟨k+1,⟨hk1,fun j hj w hw=>(Nat.lt_succ_iff_lt_or_eq.1 hj).elim (fun h=>hJ j h w hw) (fun e=>by subst e;rw[he]at hw;cases hw;exact h7)⟩,by omega,X6 (fun n=>n) []⟩
   (try simp only[BN]at h4);rw[hnone fun j hj=>hJ j (by omega)];refine(Xg ?_);refine X4 ?_;exact Xh
 rw[List.any_eq];cases h:l.findIdx? p with
 | none=>
   rw[List.findIdx?_eq_none_iff]at h;simp only[decide_eq_true_eq];constructor
   · intro h;omega
   rintro⟨v,hv,hpv⟩;have:=h v hv;rw[hpv]at this;cases this
 | some i=>
   rw[List.findIdx?_eq_some_iff_getElem]at h;obtain⟨hi,hpi,_⟩:=h;simp only[decide_eq_true_eq];exact⟨fun _=>⟨l[i],List.getElem_mem _,hpi⟩,fun _=>by omega⟩
theorem X8C (l:List Vr) (g:FuncId) (cap:List CD) (p:Vr→Bool) (hl:l.length≤1000000000) (hp:∀v∈l,∀d,Con Tryz.prog g true (aV v::cap.map fun c=>.one (.c c)) (.v (lb (p v))) none d) (d:Nat):
  Con Tryz.prog 175 true [lV l,.one (.c (.fn g cap))] (.v (lb (l.any p))) none d:=by
 obtain⟨r,hr,hi⟩:=idxV_con l g cap p hl hp 0;have hd:decide (0≤r)=l.any p:=by rw[Bool.eq_iff_iff,decide_eq_true_eq];exact hi
 clear hi hp;refine X7 Tryz.func175 ?_;simp only[Tryz.f175];refine X4 ?_;refine Xk [⟨true,.v (li r),none⟩] ?_ ?_
 · first|exact hr _|exact trivial|simpa[*]using hr _
 exact Xh
theorem X7o (w v:Vr) (d:Nat):Con Tryz.prog 173 true [aV w,.one (.c (.ptr v.enc))] (.v (lb (decide (w.name=v.name)))) none d:=by
 refine X7 Tryz.func173 ?_;simp only[Tryz.f173];refine X4 ?_;refine X4 ?_;exact Xh
end Go.Proofs.YtppjennamodfdaaGreat

namespace Go.Proofs.YtppjennamodfdaaGreat
open Go Go.Hl
def WP (v:Vr):Prop:=QN v.low v.high=false∨(v.kind≠0∧v.init≠0)∨(v.kind=0∧(v.init<v.low∨v.high<v.init))
instance (v:Vr):Decidable (WP v):=by unfold WP;exact inferInstance
def Zk (seen:List Vr) (v:Vr):Int:=
 if ZP v.name=false then 7 else if(seen.any fun w=>decide (w.name=v.name))=true then 8 else if v.kind<0∨3<v.kind then 1 else if WP v then 3 else 0
def vcs:List Vr→List Vr→Int
 |_,[]=>0
 |seen,v::l=>if Zk seen v=0 then vcs (seen++[v]) l else Zk seen v
def X2M (vars:List Vr) (kind:Int):Bool:=decide (4096<spc vars kind)||(decide (kind=3)&&decide (256<spc vars kind))
def ZI (vars:List Vr):Int:=if vcs [] vars=0 then(if([1,2,3].any (X2M vars))=true then 4 else 0)else vcs [] vars
theorem X3e:∀(l seen:List Vr),vcs seen l=0→X0d l
 |[],_,_,v,hv=>by cases hv
 | w :: l,seen,h,v,hv=>by
   simp only[vcs]at h;split at h
   · rename_i h0;rcases List.mem_cons.1 hv with rfl|hv
     · unfold Zk at h0;split at h0
       · cases h0
       split at h0
       · cases h0
       split at h0
       · cases h0
       split at h0
       · cases h0
       rename_i hk;unfold WP at hk
       have hb:QN v.low v.high=true:=by
        cases hb:QN v.low v.high with
        |true=>rfl
        |false=>exact absurd (.inl hb) hk
       simp only[QN,Bool.and_eq_true,decide_eq_true_eq]at hb;omega
     exact X3e l _ h v hv
   rename_i h0;exact absurd h h0
def X5x (vars:List Vr):List Int→Int
 |[]=>0
 |k::l=>if X2M vars k=true then 4 else X5x vars l
theorem X6z (vars:List Vr):∀l:List Int,X5x vars l=if l.any (X2M vars)=true then 4 else 0
 |[]=>by simp[X5x]
 | k::l=>by
   simp only[X5x,List.any_cons,X6z vars l];by_cases hb:X2M vars k=true
   · simp[hb]
   simp only[Bool.not_eq_true]at hb;simp[hb]
theorem XcE (vars:List Vr) (hl:vars.length≤1000000) (d:Nat):Con Tryz.prog 164 true [lV vars] (.v (li (ZI vars))) none d:=by
 obtain⟨res,hres⟩:∃r,ZI vars=r:=⟨_,rfl⟩;rw[hres];obtain⟨cd,hcd⟩:∃r,vcs [] vars=r:=⟨_,rfl⟩;have hgood:cd=0→X06 vars:=fun h=>X3e vars [] (hcd.trans h);unfold ZI at hres;rw[hcd]at hres;refine X7 Tryz.func164 ?_;simp only[Tryz.f164];refine X4 ?_;refine X0<|X0<|X3 ?_;refine X5<|(Xd [0,10,11] (fun(x:Nat)=>[(12,.v (li x))]) (fun x=>[]) (fun x=>x≤vars.length∧vcs (vars.take x) (vars.drop x)=cd) (fun x=>vars.length - x) (0:Nat) ⟨Nat.zero_le _,hcd⟩ ?_ ?_)
 · exact X6 (fun n=>n) []
 rintro k ⟨hk,hJ⟩;simp only[upS,X8,Xy]
 try simp only[X8,KN,Nat.reduceBEq,if_true,if_false,ins,Nat.reduceLT]
 clear hcd;refine X4 ?_;refine X0<|(X9 rfl (fun h4=>Xb ?_) (fun h4=>?_))
 · (try simp only[BN]at h4);have hlt:k<vars.length:=by omega
   obtain⟨v,he,hd⟩:=Xq hlt;have hw1:=XA hlt (by omega);have hk1:k+1≤vars.length:=hlt;have hkl:(vars.take k).length≤1000000000:=by rw[List.length_take];omega
   rw[hd]at hJ;simp only[vcs]at hJ;rw[←ZZ he]at hJ;clear hlt h4 hgood;refine X0<|X5<|X0<|X3 ?_;refine X4 ?_;refine X5<|X0<|(Xp [⟨true,.v (lb (ZP v.name)),none⟩] ?_ ?_)
   · first|exact X2b _ _|exact trivial|simpa[*]using X2b _ _
   refine(X9 rfl (fun h8=>?_) (fun h8=>?_))
   · (try simp only[BN]at h8);have hc:Zk (vars.take k) v=7:=by unfold Zk;rw[if_pos h8]
     rw[hc,if_neg (by decide)]at hJ;subst hJ;rw[if_neg (by decide)]at hres;subst hres;refine X4 ?_;exact Xh
   (try simp only[BN]at h8);refine Xk [⟨true,.v (lb ((vars.take k).any fun w=>decide (w.name=v.name))),none⟩] ?_ ?_
   · first|exact X8C (vars.take k) 173 [.ptr v.enc] (fun w=>decide (w.name=v.name)) hkl (fun w _ d=>X7o w v d) _|exact trivial|simpa[*]using X8C (vars.take k) 173 [.ptr v.enc] (fun w=>decide (w.name=v.name)) hkl (fun w _ d=>X7o w v d) _
   refine(X9 rfl (fun h12=>?_) (fun h12=>?_))
   · (try simp only[BN]at h12);have hc:Zk (vars.take k) v=8:=by unfold Zk;rw[if_neg (by simp[h8]),if_pos h12]
     rw[hc,if_neg (by decide)]at hJ;subst hJ;rw[if_neg (by decide)]at hres;subst hres;refine X4 ?_;exact Xh
   (try simp only[BN]at h12);refine X4 ?_;refine(X9 rfl (fun h16=>?_) (fun h16=>?_))
   · (try simp only[BN]at h16);have hc:Zk (vars.take k) v=1:=by unfold Zk;rw[if_neg (by simp[h8]),if_neg (by simp[h12]),if_pos h16]
     rw[hc,if_neg (by decide)]at hJ;subst hJ;rw[if_neg (by decide)]at hres;subst hres;refine X4 ?_;exact Xh
   (try simp only[BN]at h16);have hc:Zk (vars.take k) v=if WP v then 3 else 0:=by unfold Zk;rw[if_neg (by simp[h8]),if_neg (by simp[h12]),if_neg (by omega)]
   refine(XO [0,10,11,12] (fun(z:Bool)=>[(38,.v (lb z))]) (fun(z:Bool)=>[]) (fun(z:Bool)=>z=decide (WP v)) ?_ ?_)
   ·
    refine Xk [⟨true,.v (lb (QN v.low v.high)),none⟩] ?_ ?_
    · first|exact ZR _ _ _|exact trivial|simpa[*]using ZR _ _ _
    refine(X9 rfl (fun h21=>Xb ?_) (fun h21=>?_))
    · (try simp only[BN]at h21);exact⟨true,(decide_eq_true (.inl (by simpa using h21))).symm,X6 (fun n=>n) []⟩
    (try simp only[BN]at h21);refine X4 ?_;refine(X9 rfl (fun h24=>Xb ?_) (fun h24=>?_))
    · (try simp only[BN]at h24);exact⟨true,(decide_eq_true (.inr (.inl (by simpa using h24)))).symm,X6 (fun n=>n) []⟩
    try simp only[BN]at h24
    have hz:decide (WP v)=(decide (v.kind=0)&&(decide (v.init<v.low)||decide (v.high<v.init))):=by
     rw[Bool.eq_iff_iff,decide_eq_true_eq];unfold WP;simp only[decide_eq_true_eq,Bool.and_eq_true,Bool.or_eq_true];have h21':QN v.low v.high=true:=by simpa using h21
     rw[h21'];constructor
     · rintro(h|h|h)
       · cases h
       · exfalso;omega
       exact h
     exact fun h=>.inr (.inr h)
    clear h21 h24;refine X3 ?_;exact⟨(decide (v.kind=0)&&(decide (v.init<v.low)||decide (v.high<v.init))),hz.symm,X6 (fun n=>n) []⟩
   rintro _ rfl;simp only[upS,X8,Xy]
   try simp only[X8,KN,Nat.reduceBEq,if_true,if_false,ins,Nat.reduceLT]
   refine(Xe rfl (fun h28=>?_) fun h28=>?_)
   · (try simp only[BN]at h28);rw[if_pos h28]at hc;rw[hc,if_neg (by decide)]at hJ;subst hJ;rw[if_neg (by decide)]at hres;subst hres;refine X4 ?_;exact Xh
   (try simp only[BN]at h28);rw[if_neg h28]at hc;rw[hc,if_pos rfl]at hJ;refine X3 ?_;exact⟨k+1,⟨hk1,hJ⟩,by omega,X6 (fun n=>n) []⟩
 (try simp only[BN]at h4);have hkl:k=vars.length:=by omega
 rw[hkl,List.drop_length]at hJ;simp only[vcs]at hJ;have hv:=hgood hJ.symm;rw[if_pos hJ.symm,←X6z]at hres;clear hgood hJ hkl hk h4;obtain⟨L,hL⟩:∃L:List Int,L=[1,2,3]:=⟨_,rfl⟩;have hL3:L.length=3:=by rw[hL];rfl
 have hLi:∀k∈L,1≤k∧k≤3:=by rw[hL];decide
 rw[←hL]at hres;refine(Xg ?_);refine X0<|X0<|X3 ?_;refine X5<|(Xd [0,71,72] (fun(x:Nat)=>[(73,.v (li x))]) (fun x=>[(71,.row 62 1 (Xj L))]) (fun x=>x≤3∧X5x vars (L.drop x)=res) (fun x=>3 - x) (0:Nat) ⟨Nat.zero_le _,hres⟩ ?_ ?_)
 · exact Xu (fun n=>n) [] rfl (by simp[*,upS,X8]) (by simp[upS,Xj,hL]) (by simp[upS])
 rintro k2 ⟨hk2,hJ2⟩;simp only[upS,X8,Xy]
 try simp only[X8,KN,Nat.reduceBEq,if_true,if_false,ins,Nat.reduceLT]
 clear hres hL;refine X4 ?_;refine X0<|(X9 rfl (fun h36=>Xb ?_) (fun h36=>?_))
 · (try simp only[BN]at h36);have hlt:k2<L.length:=by omega
   obtain⟨kd,he,hd⟩:=Xq hlt;have hw1:=XA hlt (by omega);have hk1:k2+1≤3:=by omega
   have hkd:=hLi kd (List.mem_of_getElem? he);have hsp:=prV_in hv (vars.filter fun v=>decide (v.kind=kd)) 1 (fun v h=>(List.mem_filter.1 h).1) (by decide);have hsp':1≤spc vars kd∧spc vars kd≤4097:=hsp;have c:=Xad vars kd hkd hv hl;rw[hd]at hJ2;simp only[X5x]at hJ2;obtain⟨sv,hsv⟩:∃s,spc vars kd=s:=⟨_,rfl⟩;have hbk:X2M vars kd=(decide (4096<sv)||(decide (kd=3)&&decide (256<sv))):=by unfold X2M;rw[hsv]
   rw[hsv]at c hsp';clear hlt h36 hsp hsv hLi hv;refine X0<|X5<|X0<|X3 ?_;refine Xk [⟨true,.tup [li (if sv≤4096 then sv else 0),li (if sv≤4096 then 0 else 4)],none⟩] ?_ ?_
   · first|exact c _|exact trivial|simpa[*]using c _
   refine X4 ?_;refine(Xe rfl (fun h40=>?_) fun h40=>?_)
   · try simp only[BN]at h40
     have hb:X2M vars kd=true:=by
      rw[hbk];by_cases h:sv≤4096
      · simp[h]at h40;simp[h40]
      simp;omega
     rw[if_pos hb]at hJ2;subst hJ2;refine X4 ?_;exact Xh
   try simp only[BN]at h40
   have hb:X2M vars kd=false:=by
    rw[hbk];by_cases h:sv≤4096
    · simp[h]at h40;simp;omega
    simp[h]at h40
   rw[hb,if_neg (by decide)]at hJ2;refine X3 ?_;exact⟨k2+1,⟨hk1,hJ2⟩,by omega,X6 (fun n=>n) []⟩
 (try simp only[BN]at h36);have hkl:k2=L.length:=by omega
 rw[hkl,List.drop_length]at hJ2;simp only[X5x]at hJ2;subst hJ2;refine(Xg ?_);refine X4 ?_;exact Xh
end Go.Proofs.YtppjennamodfdaaGreat

namespace Go.Proofs.YtppjennamodfdaaGreat
open Go Go.Hl
theorem Xcm (vars:List Vr) (hl:vars.length≤1000000) (d:Nat):Con Tryz.prog 61 true [lV vars] (.v (li (ZI vars))) none d:=by
 obtain⟨res,hres⟩:∃r,ZI vars=r:=⟨_,rfl⟩;rw[hres];obtain⟨cd,hcd⟩:∃r,vcs [] vars=r:=⟨_,rfl⟩;have hgood:cd=0→X06 vars:=fun h=>X3e vars [] (hcd.trans h);unfold ZI at hres;rw[hcd]at hres;refine X7 Tryz.func61 ?_;simp only[Tryz.f61];refine X4 ?_;refine X0<|X0<|X3 ?_;refine X5<|(Xd [0] (fun(x:Nat)=>[(3,.v (li x))]) (fun x=>[]) (fun x=>x≤vars.length∧vcs (vars.take x) (vars.drop x)=cd) (fun x=>vars.length - x) (0:Nat) ⟨Nat.zero_le _,hcd⟩ ?_ ?_)
 · exact X6 (fun n=>n) []
 rintro k ⟨hk,hJ⟩;simp only[upS,X8,Xy]
 try simp only[X8,KN,Nat.reduceBEq,if_true,if_false,ins,Nat.reduceLT]
 clear hcd;refine X0<|X0<|X3 ?_;refine(X9 rfl (fun h4=>Xb ?_) (fun h4=>?_))
 · (try simp only[BN]at h4);have hlt:k<vars.length:=by omega
   obtain⟨v,he,hd⟩:=Xq hlt;have hw1:=XA hlt (by omega);have hk1:k+1≤vars.length:=hlt;have hkl:(vars.take k).length=k:=by rw[List.length_take];omega
   rw[hd]at hJ;simp only[vcs]at hJ;rw[←ZZ he]at hJ;clear hlt h4 hgood hd;refine X0<|X5<|X0<|X3 ?_;refine X0<|X0<|(Xp [⟨true,.v (lb (ZP v.name)),none⟩] ?_ ?_)
   · first|exact X23 _ _|exact trivial|simpa[*]using X23 _ _
   refine(Xe rfl (fun h7=>?_) fun h7=>?_)
   · (try simp only[BN]at h7);have hc:Zk (vars.take k) v=7:=by unfold Zk;rw[if_pos h7]
     rw[hc,if_neg (by decide)]at hJ;subst hJ;rw[if_neg (by decide)]at hres;subst hres;refine X4 ?_;exact Xh
   (try simp only[BN]at h7);refine X0<|X0<|X3 ?_;refine X5<|(Xd [0,3,4] (fun(x:Nat)=>[(5,.v (li x))]) (fun x=>[(4,.box [.c (sC v.name),.c (iC v.kind),.c (iC v.low),.c (iC v.high),.c (iC v.init)])]) (fun x=>x≤k∧∀j:Nat,j<x→∀w,vars[j]? =some w→w.name≠v.name) (fun x=>k - x) (0:Nat) ⟨Nat.zero_le _,fun j hj=>absurd hj (Nat.not_lt_zero j)⟩ ?_ ?_)
   · exact X6 (fun n=>n) []
   rintro j ⟨hj,hno⟩;simp only[upS,X8,Xy]
   try simp only[X8,KN,Nat.reduceBEq,if_true,if_false,ins,Nat.reduceLT]
   refine X0<|X0<|X3 ?_;refine(X9 rfl (fun h13=>Xb ?_) (fun h13=>?_))
   · (try simp only[BN]at h13);have hjk:j<k:=by omega
     obtain⟨w,hw⟩:∃w,vars[j]? =some w:=⟨vars[j],by simp[show j<vars.length by omega]⟩;have hwj:=XA hjk (by omega);have hj1:j+1≤k:=hjk
     have hmemw:w∈vars.take k:=by
      have:(vars.take k)[j]? =some w:=by rw[List.getElem?_take_of_lt hjk];exact hw
      exact List.mem_of_getElem? this
     clear hjk h13;refine X0<|X5<|X0<|(Q6 (by kernel_rfl) (by kernel_rfl) (by rfl) (by simp[*];rfl) ?_);refine(Xe rfl (fun h15=>?_) fun h15=>?_)
     · try simp only[BN]at h15
       have hany:((vars.take k).any fun w=>decide (w.name=v.name))=true:=by
        rw[List.any_eq_true];exact⟨w,hmemw,by simpa using h15⟩
       have hc:Zk (vars.take k) v=8:=by unfold Zk;rw[if_neg (by simp[h7]),if_pos hany]
       rw[hc,if_neg (by decide)]at hJ;subst hJ;rw[if_neg (by decide)]at hres;subst hres;refine X4 ?_;exact Xh
     (try simp only[BN]at h15);refine X3 ?_
     exact⟨j+1,⟨hj1,fun i hi u hu=>by
      rcases Nat.lt_or_eq_of_le (Nat.le_of_lt_succ hi)with h|h
      · exact hno i h u hu
      subst h;rw[hw]at hu;cases hu
      simpa using h15⟩,by omega,X6 (fun n=>n) []⟩
   (try simp only[BN]at h13);have hjk:j=k:=by omega
   subst hjk
   have hany:((vars.take j).any fun w=>decide (w.name=v.name))=false:=by
    rw[List.any_eq_false];intro w hw;obtain⟨i,hi⟩:=List.mem_iff_getElem?.1 hw;have hij:i<j:=by have:=(List.getElem?_eq_some_iff.1 hi).1;omega
    rw[List.getElem?_take_of_lt hij]at hi;simpa using hno i hij w hi
   clear hno hkl;refine(Xg ?_);refine X0<|X0<|X3 ?_;refine(Xe rfl (fun h21=>?_) fun h21=>?_)
   · (try simp only[BN]at h21);have hc:Zk (vars.take j) v=1:=by unfold Zk;rw[if_neg (by simp[h7]),if_neg (by simp[hany]),if_pos (by omega)]
     rw[hc,if_neg (by decide)]at hJ;subst hJ;rw[if_neg (by decide)]at hres;subst hres;refine X4 ?_;exact Xh
   (try simp only[BN]at h21);have hc:Zk (vars.take j) v=if WP v then 3 else 0:=by unfold Zk;rw[if_neg (by simp[h7]),if_neg (by simp[hany]),if_neg (by omega)]
   clear hany;refine X0<|X0<|(Xp [⟨true,.v (lb (QN v.low v.high)),none⟩] ?_ ?_)
   · first|exact ZT _ _ _|exact trivial|simpa[*]using ZT _ _ _
   refine(Xe rfl (fun h25=>?_) fun h25=>?_)
   · (try simp only[BN]at h25);rw[if_pos (.inl h25)]at hc;rw[hc,if_neg (by decide)]at hJ;subst hJ;rw[if_neg (by decide)]at hres;subst hres;refine X4 ?_;exact Xh
   (try simp only[BN]at h25);refine X4 ?_;refine(Xe rfl (fun h29=>?_) fun h29=>?_)
   · try simp only[BN]at h29
     have hkb:WP v:=by
      unfold WP;omega
     rw[if_pos hkb]at hc;rw[hc,if_neg (by decide)]at hJ;subst hJ;rw[if_neg (by decide)]at hres;subst hres;refine X4 ?_;exact Xh
   try simp only[BN]at h29
   have hkb:¬WP v:=by
    unfold WP;rw[h25];rintro(h|h|h)
    · cases h
    · omega
    omega
   rw[if_neg hkb]at hc;rw[hc,if_pos rfl]at hJ;refine X3 ?_;exact⟨j+1,⟨hk1,hJ⟩,by omega,X6 (fun n=>n) []⟩
 (try simp only[BN]at h4);have hkl:k=vars.length:=by omega
 rw[hkl,List.drop_length]at hJ;simp only[vcs]at hJ;have hv:=hgood hJ.symm;rw[if_pos hJ.symm]at hres;clear hgood hJ hkl hk h4;have c1:=X2s vars 1 hv (by omega);have c2:=X2s vars 2 hv (by omega);have c3:=X2s vars 3 hv (by omega);have hb1:X2M vars 1=decide (4096<spc vars 1):=by simp[X2M]
 have hb2:X2M vars 2=decide (4096<spc vars 2):=by simp[X2M]
 have hb3:X2M vars 3=(decide (4096<spc vars 3)||decide (256<spc vars 3)):=by simp[X2M]
 simp only[List.any_cons,List.any_nil,Bool.or_false,hb1,hb2,hb3]at hres;clear hb1 hb2 hb3;generalize spc vars 1=s1 at*;generalize spc vars 2=s2 at*;generalize spc vars 3=s3 at*;refine(Xg ?_);refine X0<|X0<|(Xp [⟨true,.v (li s1),none⟩,⟨true,.v (li s2),none⟩,⟨true,.v (li s3),none⟩] ?_ ?_)
 · first|exact⟨c1 _,c2 _,c3 _⟩|exact trivial|(repeat' first|exact trivial|exact c1 _|exact c2 _|exact c3 _|apply And.intro)
 refine(Xe rfl (fun h35=>?_) fun h35=>?_)
 · try simp only[BN]at h35
   have hz:(decide (4096<s1)||(decide (4096<s2)||(decide (4096<s3)||decide (256<s3))))=true:=by
    simp only[Bool.or_eq_true,decide_eq_true_eq];omega
   rw[if_pos hz]at hres;subst hres;refine X4 ?_;exact Xh
 try simp only[BN]at h35
 have hz:(decide (4096<s1)||(decide (4096<s2)||(decide (4096<s3)||decide (256<s3))))=false:=by
  simp only[Bool.or_eq_false_iff,decide_eq_false_iff_not];omega
 rw[hz,if_neg (by decide)]at hres;subst hres;refine X4 ?_;exact Xh
end Go.Proofs.YtppjennamodfdaaGreat

namespace Go.Proofs.YtppjennamodfdaaGreat
open Go Go.Hl
@[simp] theorem take_encH (l:List Ht) (i:Nat):(Xt l).take i=Xt (l.take i):=by simp[Xt]
theorem idxH_con (l:List Ht) (g:FuncId) (cap:List CD) (p:Ht→Bool) (hl:l.length≤1000000000) (hp:∀v∈l,∀d,Con Tryz.prog g true (aH v::cap.map fun c=>.one (.c c)) (.v (lb (p v))) none d) (d:Nat):
  ∃r:Int,(∀d,Con Tryz.prog 187 true [.one (.c (.sl 6 (Xt l))),.one (.c (.fn g cap))] (.v (li r)) none d)∧(0≤r↔l.any p=true):=by
 refine⟨(match l.findIdx? p with|some i=>(i:Int)|none=>-1),fun d=>?_,?_⟩
 · have hstep:∀k:Nat,(∀j:Nat,j<k→∀v,l[j]? =some v→p v=false)→∀v,l[k]? =some v→p v=true→l.findIdx? p=some k:=by
    intro k hno v hv hpv;rw[List.findIdx?_eq_some_iff_getElem];have hk:k<l.length:=(List.getElem?_eq_some_iff.1 hv).1;refine⟨hk,?_,fun j hj=>?_⟩
    · simp only[List.getElem?_eq_getElem hk,Option.some.injEq]at hv;rw[hv];exact hpv
    have:=hno j hj l[j] (by simp);simp[this]
   have hnone:(∀j:Nat,j<l.length→∀v,l[j]? =some v→p v=false)→l.findIdx? p=none:=by
    intro hno;rw[List.findIdx?_eq_none_iff];intro v hv;obtain⟨j,hj⟩:=List.mem_iff_getElem?.1 hv;exact hno j (List.getElem?_eq_some_iff.1 hj).1 v hj
   refine X7 Tryz.func187 ?_;simp only[Tryz.f187];refine X4 ?_;refine X0<|X0<|X3 ?_;refine X5<|(Xd [0,1,7] (fun(x:Nat)=>[(8,.v (li x))]) (fun x=>[]) (fun x=>x≤l.length∧∀j:Nat,j<x→∀v,l[j]? =some v→p v=false) (fun x=>l.length - x) (0:Nat) ⟨Nat.zero_le _,fun j hj=>absurd hj (Nat.not_lt_zero j)⟩ ?_ ?_)
   · exact X6 (fun n=>n) []
   rintro k ⟨hk,hJ⟩;simp only[upS,X8,Xy]
   try simp only[X8,KN,Nat.reduceBEq,if_true,if_false,ins,Nat.reduceLT]
   refine X4 ?_;refine X0<|(X9 rfl (fun h4=>Xb ?_) (fun h4=>?_))
   · (try simp only[BN]at h4);have hlt:k<l.length:=by omega
     obtain⟨⟨nm,lo,hi,⟨o,tn,ks⟩⟩,he,hd⟩:=Xq hlt;have hw1:=XA hlt (by omega);have hk1:k+1≤l.length:=hlt;have hpv:=hp _ (List.mem_of_getElem? he);have hs:=hstep k hJ _ he;clear hlt h4 hstep hnone hp;refine X0<|X5<|X0<|X3 ?_;refine Xk [⟨true,.v (lb (p ⟨nm,lo,hi,.mk o tn ks⟩)),none⟩] ?_ ?_
     · first|exact hpv _|exact trivial|simpa[*]using hpv _
     refine(Xe rfl (fun h7=>?_) fun h7=>?_)
     · (try simp only[BN]at h7);rw[hs h7];refine X4 ?_;exact Xh
     (try simp only[BN]at h7);refine X3 ?_;exact⟨k+1,⟨hk1,fun j hj w hw=>(Nat.lt_succ_iff_lt_or_eq.1 hj).elim (fun h=>hJ j h w hw) (fun e=>by subst e;rw[he]at hw;cases hw;exact h7)⟩,by omega,X6 (fun n=>n) []⟩
   (try simp only[BN]at h4);rw[hnone fun j hj=>hJ j (by omega)];refine(Xg ?_);refine X4 ?_;exact Xh
 rw[List.any_eq];cases h:l.findIdx? p with
 | none=>
   rw[List.findIdx?_eq_none_iff]at h;simp only[decide_eq_true_eq];constructor
   · intro h;omega
   rintro⟨v,hv,hpv⟩;have:=h v hv;rw[hpv]at this;cases this
 | some i=>
   rw[List.findIdx?_eq_some_iff_getElem]at h;obtain⟨hi,hpi,_⟩:=h;simp only[decide_eq_true_eq];exact⟨fun _=>⟨l[i],List.getElem_mem _,hpi⟩,fun _=>by omega⟩
theorem conH_con (l:List Ht) (g:FuncId) (cap:List CD) (p:Ht→Bool) (hl:l.length≤1000000000) (hp:∀v∈l,∀d,Con Tryz.prog g true (aH v::cap.map fun c=>.one (.c c)) (.v (lb (p v))) none d) (d:Nat):
  Con Tryz.prog 179 true [.one (.c (.sl 6 (Xt l))),.one (.c (.fn g cap))] (.v (lb (l.any p))) none d:=by
 obtain⟨r,hr,hi⟩:=idxH_con l g cap p hl hp 0;have hd:decide (0≤r)=l.any p:=by rw[Bool.eq_iff_iff,decide_eq_true_eq];exact hi
 clear hi hp;refine X7 Tryz.func179 ?_;simp only[Tryz.f179];refine X4 ?_;refine Xk [⟨true,.v (li r),none⟩] ?_ ?_
 · first|exact hr _|exact trivial|simpa[*]using hr _
 exact Xh
theorem XcM (w v:Ht) (d:Nat):Con Tryz.prog 178 true [aH w,.one (.c (.ptr v.enc))] (.v (lb (decide (w.name=v.name)))) none d:=by
 obtain⟨n1,l1,h1,⟨o1,t1,k1⟩⟩:=w;obtain⟨n2,l2,h2,⟨o2,t2,k2⟩⟩:=v;refine X7 Tryz.func178 ?_;simp only[Tryz.f178];simp only[aH,Ht.enc,Tm.enc,List.cons_append,List.nil_append];refine X4 ?_;refine X4 ?_;exact Xh
def X5U (vars:List Vr) (seen:List Ht) (h:Ht):Int:=
 if ZP h.name=false then 7 else if(seen.any fun w=>decide (w.name=h.name))=true then 8 else if QN h.low h.high=false then 3 else X0G vars true h.term
def hcs (vars:List Vr):List Ht→List Ht→Int
 |_,[]=>0
 |seen,h::l=>if X5U vars seen h=0 then hcs vars (seen++[h]) l else X5U vars seen h
theorem Xc7 (f:Fl) (hv:X0d f.vars) (hl:f.vars.length≤1000000) (hh:f.hats.length≤1000000) (hn:∀h∈f.hats,h.term.nodes≤1000000000) (d:Nat):
  Con Tryz.prog 165 true [aF f] (.v (li (hcs f.vars [] f.hats))) none d:=by
 obtain⟨vars,hats,body⟩:=f;simp only at hv hl hh hn⊢;obtain⟨res,hres⟩:∃r,hcs vars [] hats=r:=⟨_,rfl⟩;rw[hres];refine X7 Tryz.func165 ?_;simp only[Tryz.f165];simp only[aF,Fl.enc,List.map_cons,List.map_nil];refine X4 ?_;refine X0<|X0<|X3 ?_;refine X5<|(Xd [1,8,9] (fun(x:Nat)=>[(10,.v (li x))]) (fun x=>[(1,.box [.c (.sl 5 (Xs vars)),.c (.sl 6 (Xt hats)),.c (.sl 10 (Xa body))])]) (fun x=>x≤hats.length∧hcs vars (hats.take x) (hats.drop x)=res) (fun x=>hats.length - x) (0:Nat) ⟨Nat.zero_le _,hres⟩ ?_ ?_)
 · exact X6 (fun n=>n) []
 rintro k ⟨hk,hJ⟩;simp only[upS,X8,Xy]
 try simp only[X8,KN,Nat.reduceBEq,if_true,if_false,ins,Nat.reduceLT]
 clear hres;refine X4 ?_;refine X0<|(X9 rfl (fun h4=>Xb ?_) (fun h4=>?_))
 · (try simp only[BN]at h4);have hlt:k<hats.length:=by omega
   obtain⟨h,he,hd⟩:=Xq hlt;have hw1:=XA hlt (by omega);have hk1:k+1≤hats.length:=hlt;have hkl:(hats.take k).length≤1000000000:=by rw[List.length_take];omega
   rw[hd]at hJ;simp only[hcs]at hJ;rw[←ZZ he]at hJ;have ct:=X6s vars true hv (by omega) h.term (hn h (List.mem_of_getElem? he));have cc:=conH_con (hats.take k) 178 [.ptr h.enc] (fun w=>decide (w.name=h.name)) hkl (fun w _ d=>XcM w h d);obtain⟨nm,lo,hi,⟨o,tn,ks⟩⟩:=h;obtain⟨HC,hHC⟩:∃x,X5U vars (hats.take k) ⟨nm,lo,hi,.mk o tn ks⟩=x:=⟨_,rfl⟩;rw[hHC]at hJ;simp only[X5U]at hHC;simp only[Ht.enc,Tm.enc,List.cons_append,List.nil_append]at cc;simp only at ct;obtain⟨TC,hTC⟩:∃r,X0G vars true (.mk o tn ks)=r:=⟨_,rfl⟩;rw[hTC]at ct hHC;clear hlt h4 hd hn hTC;refine X0<|X5<|X0<|X3 ?_;refine X4 ?_;refine X0<|X5<|X0<|(Xp [⟨true,.v (lb (ZP nm)),none⟩] ?_ ?_)
   · first|exact X2b _ _|exact trivial|simpa[*]using X2b _ _
   refine(X9 rfl (fun h8=>?_) (fun h8=>?_))
   · (try simp only[BN]at h8);rw[if_pos h8]at hHC;subst hHC;rw[if_neg (by decide)]at hJ;subst hJ;refine X4 ?_;exact Xh
   (try simp only[BN]at h8);refine Xk [⟨true,.v (lb ((hats.take k).any fun w=>decide (w.name=nm))),none⟩] ?_ ?_
   · first|exact cc _|exact trivial|simpa[*]using cc _
   refine(X9 rfl (fun h12=>?_) (fun h12=>?_))
   · (try simp only[BN]at h12);rw[if_neg (by simp[h8]),if_pos h12]at hHC;subst hHC;rw[if_neg (by decide)]at hJ;subst hJ;refine X4 ?_;exact Xh
   (try simp only[BN]at h12);refine Xk [⟨true,.v (lb (QN lo hi)),none⟩] ?_ ?_
   · first|exact ZR _ _ _|exact trivial|simpa[*]using ZR _ _ _
   refine(Xe rfl (fun h16=>?_) fun h16=>?_)
   · (try simp only[BN]at h16);rw[if_neg (by simp[h8]),if_neg (by simp[h12]),if_pos h16]at hHC;subst hHC;rw[if_neg (by decide)]at hJ;subst hJ;refine X4 ?_;exact Xh
   (try simp only[BN]at h16);rw[if_neg (by simp[h8]),if_neg (by simp[h12]),if_neg (by simp[h16])]at hHC;subst hHC;refine Xk [⟨true,.v (li TC),none⟩] ?_ ?_
   · first|exact ct _|exact trivial|simpa[*]using ct _
   refine X4 ?_;refine(Xe rfl (fun h21=>?_) fun h21=>?_)
   · (try simp only[BN]at h21);rw[if_neg h21]at hJ;subst hJ;refine X4 ?_;exact Xh
   (try simp only[BN]at h21);rw[if_pos (by simpa using h21)]at hJ;refine X3 ?_;exact⟨k+1,⟨hk1,hJ⟩,by omega,X6 (fun n=>n) []⟩
 (try simp only[BN]at h4);have hkl:k=hats.length:=by omega
 rw[hkl,List.drop_length]at hJ;simp only[hcs]at hJ;subst hJ;refine(Xg ?_);refine X4 ?_;exact Xh
end Go.Proofs.YtppjennamodfdaaGreat

namespace Go.Proofs.YtppjennamodfdaaGreat
open Go Go.Hl
def X2n (l:List Int) (i:Nat):Bool:=
 match l[i]?,l[i+1]? with
 |some a,some b=>decide (a<b)
 |_,_=>true
def X3Q (l:List Int):Bool:=(List.range l.length).all (X2n l)
theorem Xbn {l:List Int} {i:Nat} (hi:i<l.length) (h:X2n l i=false):X3Q l=false:=by
 unfold X3Q;rw[List.all_eq_false];exact⟨i,by simpa using hi,by simp[h]⟩
theorem X9j {l:List Int} (h:∀i:Nat,i+1<l.length→X2n l i=true):X3Q l=true:=by
 unfold X3Q;rw[List.all_eq_true];intro i hi;simp only[List.mem_range]at hi;by_cases h2:i+1<l.length
 · exact h i h2
 unfold X2n;rw[List.getElem?_eq_none (i:=i+1) (by omega)];cases l[i]? <;>rfl
theorem X71 {l:List Int} {k:Nat} (h:k<l.length):∃b,l[k]? =some b:=⟨l[k],by simp[h]⟩
theorem X9z (l:List Int) (hl:l.length≤1000000000) (d:Nat):Con Tryz.prog 194 true [lI l] (.v (lb (X3Q l))) none d:=by
 refine X7 Tryz.func194 ?_;simp only[Tryz.f194];refine X4 ?_;refine X0<|X0<|X3 ?_;refine X5<|(Xd [0,5] (fun(x:Nat)=>[(6,.v (li x))]) (fun x=>[]) (fun x=>x≤l.length∧∀j:Nat,j+1<x→X2n l j=true) (fun x=>l.length - x) (0:Nat) ⟨Nat.zero_le _,fun j hj=>absurd hj (by omega)⟩ ?_ ?_)
 · exact X6 (fun n=>n) []
 rintro k ⟨hk,hJ⟩;simp only[upS,X8,Xy]
 try simp only[X8,KN,Nat.reduceBEq,if_true,if_false,ins,Nat.reduceLT]
 refine X4 ?_;refine X0<|(X9 rfl (fun h4=>Xb ?_) (fun h4=>?_))
 · (try simp only[BN]at h4);have hlt:k<l.length:=by omega
   obtain⟨b,hb⟩:=X71 hlt;have hw:=XA hlt hl;have hk1:k+1≤l.length:=hlt;have hk9:k≤1000000000:=by omega
   clear hlt h4;refine X0<|X5<|X0<|X3 ?_;rcases k with _|j
   · have hw1:IntKind.i64.wrap 1=1:=Xc (by omega) (by omega);refine X0<|(Q6 (by kernel_rfl) (by kernel_rfl) (by rfl) (by simp[*];rfl) ?_);refine(Xe rfl (fun h7=>?_) fun h7=>?_)
     · exact absurd h7 (by simp)
     (try simp only[BN]at h7);refine X3 ?_;exact⟨1,⟨hk1,fun j hj=>absurd hj (by omega)⟩,by omega,X6 (fun n=>n) []⟩
   have hw1:IntKind.i64.wrap ((j:Int)+1+1)=(j:Int)+1+1:=Xc (by omega) (by omega);obtain⟨a,ha⟩:=X71 (show j<l.length by omega);have hwj:IntKind.i64.wrap (j:Int)=j:=Xc (by omega) (by omega);have hri:X2n l j=decide (a<b):=by unfold X2n;rw[ha,hb]
   have hj0:(0:Int)<(j:Int)+1:=by omega
   have hj1:0≤(j:Int)+1:=by omega
   have hj2:((j:Int)+1).toNat=j+1:=by omega
   refine X0<|(Q6 (by kernel_rfl) (by kernel_rfl) (by rfl) (by simp[*];rfl) ?_);refine(Xe rfl (fun h7=>?_) fun h7=>?_)
   · (try simp only[BN]at h7);have hz:X3Q l=false:=Xbn (i:=j) (by omega) (by rw[hri];simpa using h7);refine X4 ?_;exact Xh
   (try simp only[BN]at h7);refine X3 ?_
   exact⟨j+1+1,⟨hk1,fun i hi=>by
    rcases Nat.lt_or_eq_of_le (Nat.le_of_lt_succ hi)with h|h
    · exact hJ i (by omega)
    have:i=j:=by omega
    rw[this,hri]
    simpa using h7⟩,by omega,X6 (fun n=>n) []⟩
 (try simp only[BN]at h4);have hz:X3Q l=true:=X9j fun i hi=>hJ i (by omega);refine(Xg ?_);refine X4 ?_;exact Xh
def X4D (l:List Int):Bool:=
 match l[0]? with
 |some b=>decide (0≤b)
 |none=>false
def ZF (l:List Int):Bool:=(decide (1≤l.length)&&(decide (l.length≤32)&&X4D l))&&X3Q l
theorem XaE (l:List Int):l=[]∨∃b0,l[0]? =some b0:=by
 cases l with
 |nil=>exact .inl rfl
 |cons b r=>exact .inr ⟨b,rfl⟩
theorem X9Z (l:List Int) (hl:l.length≤1000000000) (d:Nat):Con Tryz.prog 131 true [lI l] (.v (lb (ZF l))) none d:=by
 obtain⟨res,hres⟩:∃r,ZF l=r:=⟨_,rfl⟩;rw[hres];refine X7 Tryz.func131 ?_;simp only[Tryz.f131];refine X4 ?_;rcases XaE l with h0|⟨b0,hb0⟩
 · subst h0;replace hres:false=res:=hres;refine X0<|X0<|X3 ?_;refine(Xe rfl (fun h2=>?_) fun h2=>?_)
   · (try simp only[BN]at h2);subst hres;refine X4 ?_;exact Xh
   exact absurd h2 (by simp)
 have hh:X4D l=decide (0≤b0):=by unfold X4D;rw[hb0]
 have hpos:1≤l.length:=(List.getElem?_eq_some_iff.1 hb0).1;refine X0<|X0<|X3 ?_;refine(Xe rfl (fun h2=>?_) fun h2=>?_)
 · try simp only[BN]at h2
   have hz:ZF l=false:=by
    unfold ZF;rw[hh];simp only[Bool.and_eq_false_iff,decide_eq_false_iff_not];omega
   rw[hz]at hres;subst hres;refine X4 ?_;exact Xh
 try simp only[BN]at h2
 have hz:ZF l=X3Q l:=by
  unfold ZF;rw[hh];rw[decide_eq_true (by omega),decide_eq_true (by omega),decide_eq_true (by omega)];rfl
 rw[hz]at hres;have hl32:l.length≤32:=by omega
 clear hz hh h2 hb0;refine X0<|X0<|X3 ?_;refine X5<|(Xd [0] (fun(x:Nat)=>[(3,.v (li ((x:Int)+1)))]) (fun x=>[]) (fun x=>x+1≤l.length∧∀j:Nat,j<x→X2n l j=true) (fun x=>l.length - x) (0:Nat) ⟨hpos,fun j hj=>absurd hj (Nat.not_lt_zero j)⟩ ?_ ?_)
 · exact X6 (fun n=>n) []
 rintro k ⟨hk,hJ⟩;simp only[upS,X8,Xy]
 try simp only[X8,KN,Nat.reduceBEq,if_true,if_false,ins,Nat.reduceLT]
 refine X0<|X0<|X3 ?_;refine(X9 rfl (fun h8=>Xb ?_) (fun h8=>?_))
 · (try simp only[BN]at h8);have hlt:k+1<l.length:=by omega
   obtain⟨b,hb⟩:=X71 hlt;obtain⟨a,ha⟩:=X71 (show k<l.length by omega);have hw:IntKind.i64.wrap ((k:Int)+1+1)=(k:Int)+1+1:=Xc (by omega) (by omega);have hwj:IntKind.i64.wrap (k:Int)=k:=Xc (by omega) (by omega);have hri:X2n l k=decide (a<b):=by unfold X2n;rw[ha,hb]
   have hj1:0≤(k:Int)+1:=by omega
   have hj2:((k:Int)+1).toNat=k+1:=by omega
   have hk1:k+1+1≤l.length:=hlt;clear hlt h8;refine X0<|X5<|X0<|(Q6 (by kernel_rfl) (by kernel_rfl) (by rfl) (by simp[*];rfl) ?_);refine(Xe rfl (fun h10=>?_) fun h10=>?_)
   · (try simp only[BN]at h10);have hz:X3Q l=false:=Xbn (i:=k) (by omega) (by rw[hri];simpa using h10);refine X4 ?_;exact Xh
   (try simp only[BN]at h10);refine X3 ?_
   exact⟨k+1,⟨hk1,fun i hi=>by
    rcases Nat.lt_or_eq_of_le (Nat.le_of_lt_succ hi)with h|h
    · exact hJ i h
    rw[h,hri]
    simpa using h10⟩,by omega,X6 (fun n=>n) []⟩
 (try simp only[BN]at h8);have hz:X3Q l=true:=X9j fun i hi=>hJ i (by omega);refine(Xg ?_);refine X4 ?_;exact Xh
end Go.Proofs.YtppjennamodfdaaGreat

namespace Go.Proofs.YtppjennamodfdaaGreat
open Go Go.Hl
def Z4:Tm→Bool
 | .mk o n ks=>decide (o=0)&&(decide (n=0)&&decide (ks.length=0))
theorem Xae (t:Tm) (d:Nat):Con Tryz.prog 130 true [aT t] (.v (lb (Z4 t))) none d:=by
 obtain⟨o,n,ks⟩:=t;refine X7 Tryz.func130 ?_;simp only[Tryz.f130];simp only[aT,Tm.enc];refine X4 ?_;refine X4 ?_;exact(Xm (fun h=>⟨.inr rfl,h⟩) _ (by simp[*];rfl) (by first|rfl|(simp[*,Z4,Bool.and_assoc];done)|(simp only[XN,Z4,Bool.and_assoc];(repeat' split)<;>first|rfl|(exfalso;omega)|simp_all)) (by simp))
theorem XaC (t:Tm) (d:Nat):Con Tryz.prog 193 true [aT t] (.v (lb (Z4 t))) none d:=by
 obtain⟨o,n,ks⟩:=t;refine X7 Tryz.func193 ?_;simp only[Tryz.f193];simp only[aT,Tm.enc];refine X4 ?_;refine X4 ?_;exact(Xm (fun h=>⟨.inr rfl,h⟩) _ (by simp[*];rfl) (by first|rfl|(simp[*,Z4,Bool.and_assoc];done)|(simp only[XN,Z4,Bool.and_assoc];(repeat' split)<;>first|rfl|(exfalso;omega)|simp_all)) (by simp))
def uVB (d:Int):Bool:=decide (d=0)||decide (d=5)
def uNB (d:Int):Bool:=decide (d=4)||decide (d=5)
def uTB (d:Int):Bool:=decide (d=0)||(decide (d=1)||(decide (d=3)||decide (d=4)))
theorem uV_con (a:Int) (d:Nat):Con Tryz.prog 190 true [li a] (.v (lb (uVB a))) none d:=by
 refine X7 Tryz.func190 ?_;simp only[Tryz.f190];refine X4 ?_;refine X4 ?_;exact(Xm (fun h=>⟨.inr rfl,h⟩) _ (by simp[*];rfl) (by first|rfl|(simp[*,uVB];done)|(simp only[XN,uVB];(repeat' split)<;>first|rfl|(exfalso;omega)|simp_all)) (by simp))
theorem uN_con (a:Int) (d:Nat):Con Tryz.prog 191 true [li a] (.v (lb (uNB a))) none d:=by
 refine X7 Tryz.func191 ?_;simp only[Tryz.f191];refine X4 ?_;refine X4 ?_;exact(Xm (fun h=>⟨.inr rfl,h⟩) _ (by simp[*];rfl) (by first|rfl|(simp[*,uNB];done)|(simp only[XN,uNB];(repeat' split)<;>first|rfl|(exfalso;omega)|simp_all)) (by simp))
theorem uT_con (a:Int) (d:Nat):Con Tryz.prog 192 true [li a] (.v (lb (uTB a))) none d:=by
 refine X7 Tryz.func192 ?_;simp only[Tryz.f192];refine X4 ?_;refine X4 ?_;exact(Xm (fun h=>⟨.inr rfl,h⟩) _ (by simp[*];rfl) (by first|rfl|(simp[*,uTB,Bool.or_assoc];done)|(simp only[XN,uTB,Bool.or_assoc];(repeat' split)<;>first|rfl|(exfalso;omega)|simp_all)) (by simp))
def QV (vars:List Vr) (v:Int):Bool:=decide (0≤v)&&(match vars[v.toNat]? with|some w=>decide (w.kind=0)|none=>false)
def shB (vars:List Vr) (nh:Nat) (d v n:Int) (t:Tm) (la lb_:Nat) (bs:List Int) (last:Bool):Bool:=
 if d=0 then((decide (la=0)&&decide (lb_=0))&&QV vars v&&decide (n=0))&&decide (bs.length=0)
 else if d=1 then((decide (la=0)&&decide (lb_=0))&&decide (v=0)&&decide (n=0))&&decide (bs.length=0)
 else if d=2 then(((decide (la=0)&&decide (lb_=0))&&decide (v=0)&&decide (n=0))&&decide (bs.length=0))&&Z4 t
 else if d=3 then(decide (v=0)&&decide (n=0))&&decide (bs.length=0)
 else if d=4 then(decide (v=0)&&decide (lb_=0))&&decide (bs.length=0)
 else if d=5 then((((decide (la=0)&&decide (lb_=0))&&QV vars v&&decide (0≤n))&&decide (n<nh))&&decide (bs.length=0))&&Z4 t
 else if d=6 then((((decide (la=0)&&decide (lb_=0))&&last&&decide (v=0))&&decide (n=0))&&Z4 t)&&ZF bs
 else false
theorem X9R (f:Fl) (s:St) (last:Bool) (hv:f.vars.length≤1000000000) (hb:s.bounds.length≤1000000000) (e:Nat):
  Con Tryz.prog 98 true [aF f,aS s,lb last] (.v (lb (shB f.vars f.hats.length s.do_ s.var s.n s.term s.then_.length s.else_.length s.bounds last))) none e:=by
 obtain⟨vars,hats,body⟩:=f;obtain⟨d,c,v,n,t,a,b,bs⟩:=s;simp only[St.do_,St.var,St.n,St.term,St.then_,St.else_,St.bounds]at hb⊢;simp only at hv;have c1:=Xae t;have c2:=X9Z bs hb;obtain⟨P,hP⟩:∃p,Z4 t=p:=⟨_,rfl⟩;obtain⟨R,hR⟩:∃p,ZF bs=p:=⟨_,rfl⟩;obtain⟨la,hla⟩:∃k,a.length=k:=⟨_,rfl⟩;obtain⟨lc,hlc⟩:∃k,b.length=k:=⟨_,rfl⟩;obtain⟨nb,hnb⟩:∃k,bs.length=k:=⟨_,rfl⟩;obtain⟨nv,hnv⟩:∃k,vars.length=k:=⟨_,rfl⟩;obtain⟨nh,hnh⟩:∃k,hats.length=k:=⟨_,rfl⟩;obtain⟨res,hres⟩:∃r,shB vars hats.length d v n t a.length b.length bs last=r:=⟨_,rfl⟩;rw[hres];simp only[shB,hP,hR,hla,hlc,hnb,hnh]at hres;rw[hP]at c1;rw[hR]at c2;obtain⟨o,tn,ks⟩:=t;clear hP hR;simp only[aT,Tm.enc,List.map_cons,List.map_nil]at c1;refine X7 Tryz.func98 ?_;simp only[Tryz.f98];simp only[aF,aS,Fl.enc,St.enc,Tm.enc,List.map_cons,List.map_nil,List.cons_append,List.nil_append];refine X4 ?_;refine X4 ?_;refine XO [2,3,4,7] (fun(z:Bool)=>[(8,.v (lb z))]) (fun(z:Bool)=>[(3,.box [.c (.sl 5 (Xs vars)),.c (.sl 6 (Xt hats)),.c (.sl 10 (Xa body))]),(4,.box [.c (iC d),.c (iC c),.c (iC v),.c (iC n),.c (iC o),.c (iC tn),.c (.sl 3 (Xo ks)),.c (.sl 10 (Xa a)),.c (.sl 10 (Xa b)),.c (.sl 1 (Xj bs))])]) (fun(z:Bool)=>z=QV vars v) ?_ ?_
 · by_cases h0:0≤v
   · by_cases h1:v<vars.length
     · obtain⟨w,hw⟩:=X3K ⟨h0,h1⟩;have h2:decide (v<(nv:Int))=true:=decide_eq_true (by omega);have hz:QV vars v=decide (w.kind=0):=by unfold QV;rw[hw];simp[h0]
       clear h1;refine Xn (by simp[*];rfl) ?_;exact⟨decide (w.kind=0),hz.symm,X6 (fun n=>n) []⟩
     have hw:=X0M h0 h1;have h2:¬v<(nv:Int):=by omega
     have hz:QV vars v=false:=by unfold QV;rw[hw];simp
     clear h1;refine Xn (by simp[*];rfl) ?_;exact⟨false,hz.symm,X6 (fun n=>n) []⟩
   have hz:QV vars v=false:=by unfold QV;simp[h0]
   refine Xn (by simp[*];rfl) ?_;exact⟨false,hz.symm,X6 (fun n=>n) []⟩
 rintro LO hLO;simp only[upS,X8,Xy]
 try simp only[X8,KN,Nat.reduceBEq,if_true,if_false,ins,Nat.reduceLT]
 rw[←hLO]at hres;clear hLO;refine X0<|X0<|X3 ?_;refine X5<|X0<|X3 ?_;refine(X9 rfl (fun h5=>?_) (fun h5=>?_))
 · (try simp only[BN]at h5);refine X4 ?_;exact(Xm (fun h=>⟨.inr rfl,h⟩) _ (by simp[*];rfl) (by rw[←hres];simp[*,XN,Bool.and_assoc]) (by simp))
 (try simp only[BN]at h5);refine X4 ?_;refine(X9 rfl (fun h9=>?_) (fun h9=>?_))
 · (try simp only[BN]at h9);refine X4 ?_;exact(Xm (fun h=>⟨.inr rfl,h⟩) _ (by simp[*];rfl) (by rw[←hres];simp[*,XN,Bool.and_assoc]) (by simp))
 (try simp only[BN]at h9);refine X4 ?_;refine(X9 rfl (fun h13=>?_) (fun h13=>?_))
 · (try simp only[BN]at h13);by_cases hg:(la=0∧lc=0)∧v=0∧n=0∧nb=0
   · obtain⟨⟨g1,g2⟩,g3,g4,g5⟩:=hg;refine Xk [⟨true,.v (lb P),none⟩] ?_ ?_
     · first|exact c1 _|exact trivial|simpa[*]using c1 _
     exact(Xm (fun h=>⟨.inr rfl,h⟩) _ (by simp[*];rfl) (by rw[←hres];simp[*,XN,Bool.and_assoc]) (by simp))
   have hgb:(decide (la=0)&&decide (lc=0)&&decide (v=0)&&decide (n=0)&&decide (nb=0))=false:=by simp only[Bool.and_eq_false_iff,decide_eq_false_iff_not];omega
   clear hg
   have hr:false=res:=by
    rw[←hres,if_neg h5,if_neg h9,if_pos h13];rw[hgb];rfl
   subst hr;refine X0<|(Zl [none] (by simp[*];first|exact⟨rfl,trivial⟩|exact⟨rfl,Iff.rfl⟩|rfl) ?_ ?_)
   · trivial
   exact(Xm (fun h=>⟨.inr rfl,h⟩) _ (by simp[*];rfl) (by rfl) (by simp))
 (try simp only[BN]at h13);refine X4 ?_;refine(X9 rfl (fun h17=>?_) (fun h17=>?_))
 · (try simp only[BN]at h17);refine X4 ?_;exact(Xm (fun h=>⟨.inr rfl,h⟩) _ (by simp[*];rfl) (by rw[←hres];simp[*,XN,Bool.and_assoc]) (by simp))
 (try simp only[BN]at h17);refine X4 ?_;refine(X9 rfl (fun h21=>?_) (fun h21=>?_))
 · (try simp only[BN]at h21);refine X4 ?_;exact(Xm (fun h=>⟨.inr rfl,h⟩) _ (by simp[*];rfl) (by rw[←hres];simp[*,XN,Bool.and_assoc]) (by simp))
 (try simp only[BN]at h21);refine X4 ?_;refine(X9 rfl (fun h25=>?_) (fun h25=>?_))
 · (try simp only[BN]at h25);by_cases hg:(la=0∧lc=0)∧LO=true∧0≤n∧n<nh∧nb=0
   · obtain⟨⟨g1,g2⟩,g3,g4,g5,g6⟩:=hg;refine Xk [⟨true,.v (lb P),none⟩] ?_ ?_
     · first|exact c1 _|exact trivial|simpa[*]using c1 _
     exact(Xm (fun h=>⟨.inr rfl,h⟩) _ (by simp[*];rfl) (by rw[←hres];simp[*,XN,Bool.and_assoc]) (by simp))
   have hgb:(decide (la=0)&&decide (lc=0)&&LO&&decide (0≤n)&&decide (n<(nh:Int))&&decide (nb=0))=false:=by
    cases LO
    · simp
    simp only[Bool.and_eq_false_iff,decide_eq_false_iff_not];simp only[true_and]at hg;omega
   clear hg
   have hr:false=res:=by
    rw[←hres,if_neg h5,if_neg h9,if_neg h13,if_neg h17,if_neg h21,if_pos h25];rw[hgb];rfl
   subst hr;refine X0<|(Zl [none] (by simp[*];first|exact⟨rfl,trivial⟩|exact⟨rfl,Iff.rfl⟩|rfl) ?_ ?_)
   · trivial
   exact(Xm (fun h=>⟨.inr rfl,h⟩) _ (by simp[*];rfl) (by rfl) (by simp))
 (try simp only[BN]at h25);refine X4 ?_;refine(Xe rfl (fun h29=>?_) fun h29=>?_)
 · (try simp only[BN]at h29);by_cases hg:(la=0∧lc=0)∧last=true∧v=0∧n=0
   · obtain⟨⟨g1,g2⟩,g3,g4,g5⟩:=hg;refine Xk [⟨true,.v (lb P),none⟩,⟨true,.v (lb R),none⟩] ?_ ?_
     · first|exact⟨c1 _,c2 _⟩|exact trivial|(repeat' first|exact trivial|exact c1 _|exact c2 _|apply And.intro)
     exact(Xm (fun h=>⟨.inr rfl,h⟩) _ (by simp[*];rfl) (by rw[←hres];simp[*,XN,Bool.and_assoc]) (by simp))
   have hgb:(decide (la=0)&&decide (lc=0)&&last&&decide (v=0)&&decide (n=0))=false:=by
    cases last
    · simp
    simp only[Bool.and_eq_false_iff,decide_eq_false_iff_not];simp only[true_and]at hg;omega
   clear hg
   have hr:false=res:=by
    rw[←hres,if_neg h5,if_neg h9,if_neg h13,if_neg h17,if_neg h21,if_neg h25,if_pos h29];rw[hgb];rfl
   subst hr;refine X0<|(Zl [none,none] (by simp[*];first|exact⟨rfl,trivial⟩|exact⟨rfl,Iff.rfl⟩|rfl) ?_ ?_)
   · trivial
   exact(Xm (fun h=>⟨.inr rfl,h⟩) _ (by simp[*];rfl) (by rfl) (by simp))
 (try simp only[BN]at h29);refine X4 ?_;exact(Xm (fun h=>⟨.inr rfl,h⟩) _ (by simp[*];rfl) (by rw[←hres];simp[*,XN,Bool.and_assoc]) (by simp))
end Go.Proofs.YtppjennamodfdaaGreat
