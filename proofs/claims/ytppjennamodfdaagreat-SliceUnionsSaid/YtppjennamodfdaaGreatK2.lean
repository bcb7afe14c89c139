/- Part 2: contracts of functions of the program and of the reference, and plain facts about what they compute; used by the proof of the claimed statement. Conditions: as each theorem states. -/
import Derived.Test.YtppjennamodfdaaGreatK1
set_option linter.unusedSimpArgs false
set_option linter.unusedVariables false
set_option linter.unnecessarySimpa false
set_option maxRecDepth 100000
set_option maxHeartbeats 2000000
namespace Go.Proofs.YtppjennamodfdaaGreat
open Go Go.Hl
def QM (a b:Int):Bool:=decide (a≤b)&&(decide (-1048576≤a)&&decide (b≤1048576))
theorem ZU (a b:Int) (d:Nat):Con Tryz.prog 176 true [li a,li b] (.v (lb (QM a b))) none d:=by
 refine X5 Tryz.func176 ?_;simp only[Tryz.f176];refine X3 ?_;refine X3 ?_;exact(Xl (fun h=>⟨.inr rfl,h⟩) _ (by simp[*];rfl) (by first|rfl|(simp[*,QM,Bool.and_assoc];done)|(simp only[XD,QM,Bool.and_assoc];(repeat' split)<;>first|rfl|(exfalso;omega)|simp_all)) (by simp))
theorem ZT (a b:Int) (d:Nat):Con Tryz.prog 63 true [li a,li b] (.v (lb (QM a b))) none d:=by
 refine X5 Tryz.func63 ?_;simp only[Tryz.f63];refine X3 ?_;refine X3 ?_;exact(Xl (fun h=>⟨.inr rfl,h⟩) _ (by simp[*];rfl) (by first|rfl|(simp[*,QM,Bool.and_assoc];done)|(simp only[XD,QM,Bool.and_assoc];(repeat' split)<;>first|rfl|(exfalso;omega)|simp_all)) (by simp))
def Q8 (o:Int):Int×Int:=if o=0∨o=24 then(0,0)else if o=6∨o=7 then(1,1)else if 8≤o∧o≤22 then(2,2)else if o=23 then(3,3)else if o=25 then(2,33)else(-1,-1)
theorem X75 (o:Int) (d:Nat):Con Tryz.prog 198 true [li o] (.tup [li (Q8 o).1,li (Q8 o).2]) none d:=by
 refine X5 Tryz.func198 ?_;simp only[Tryz.f198];refine X3 ?_;refine X1<|X4<|X1<|X2 ?_;refine(X7 rfl (fun h2=>?_) (fun h2=>?_))
 · (try simp only[BN]at h2);refine X3 ?_;exact(Xl (fun h=>⟨.inr rfl,h⟩) _ (by simp[*];rfl) (by first|rfl|(simp[*,Q8];done)|(simp only[XD,Q8];(repeat' split)<;>first|rfl|(exfalso;omega)|simp_all)) (by simp))
 (try simp only[BN]at h2);refine X3 ?_;refine(X7 rfl (fun h6=>?_) (fun h6=>?_))
 · (try simp only[BN]at h6);refine X3 ?_;exact(Xl (fun h=>⟨.inr rfl,h⟩) _ (by simp[*];rfl) (by first|rfl|(simp[*,Q8];done)|(simp only[XD,Q8];(repeat' split)<;>first|rfl|(exfalso;omega)|simp_all)) (by simp))
 (try simp only[BN]at h6);refine X3 ?_;refine(X7 rfl (fun h10=>?_) (fun h10=>?_))
 · (try simp only[BN]at h10);refine X3 ?_;exact(Xl (fun h=>⟨.inr rfl,h⟩) _ (by simp[*];rfl) (by first|rfl|(simp[*,Q8];done)|(simp only[XD,Q8];(repeat' split)<;>first|rfl|(exfalso;omega)|simp_all)) (by simp))
 (try simp only[BN]at h10);refine X3 ?_;refine(X7 rfl (fun h14=>?_) (fun h14=>?_))
 · (try simp only[BN]at h14);refine X3 ?_;exact(Xl (fun h=>⟨.inr rfl,h⟩) _ (by simp[*];rfl) (by first|rfl|(simp[*,Q8];done)|(simp only[XD,Q8];(repeat' split)<;>first|rfl|(exfalso;omega)|simp_all)) (by simp))
 (try simp only[BN]at h14);refine X3 ?_;refine(Xa rfl (fun h18=>?_) fun h18=>?_)
 · (try simp only[BN]at h18);refine X3 ?_;exact(Xl (fun h=>⟨.inr rfl,h⟩) _ (by simp[*];rfl) (by first|rfl|(simp[*,Q8];done)|(simp only[XD,Q8];(repeat' split)<;>first|rfl|(exfalso;omega)|simp_all)) (by simp))
 (try simp only[BN]at h18);refine X3 ?_;exact(Xl (fun h=>⟨.inr rfl,h⟩) _ (by simp[*];rfl) (by first|rfl|(simp[*,Q8];done)|(simp only[XD,Q8];(repeat' split)<;>first|rfl|(exfalso;omega)|simp_all)) (by simp))
theorem Z1 (n:Int) (b:Bool) (d:Nat):Con Tryz.prog 162 true [.one (.c (.ptr [iC n,bC b]))] (.v (lb (b||decide (1024<n)))) none d:=by
 refine X5 Tryz.func162 ?_;simp only[Tryz.f162];refine X3 ?_;refine X3 ?_;exact Xc
def X4n (s:ByteArray) (i:Nat):Bool:=
 match s[i]? with
 |some b=>(decide (97≤(b.toNat:Int))&&decide ((b.toNat:Int)≤122))||(decide (i≠0)&&((decide (48≤(b.toNat:Int))&&decide ((b.toNat:Int)≤57))||decide ((b.toNat:Int)=46)||decide ((b.toNat:Int)=95)))
 |none=>false
def ZN (s:ByteArray):Bool:=decide (1≤s.size)&&decide (s.size≤40)&&(List.range s.size).all (X4n s)
theorem X7a {s:ByteArray} {k:Nat} (h:k<s.size):∃b,s[k]? =some b:=⟨s[k],by simp[h]⟩
theorem X9Z {s:ByteArray}:s=⟨#[]⟩↔s.size=0:=by
 obtain⟨a⟩:=s;constructor
 · intro h;cases h;rfl
 intro h;have:a= #[]:=Array.eq_empty_of_size_eq_zero h;rw[this]
theorem X7t {s:ByteArray} {k:Nat} (hk:k<s.size) (h:X4n s k=false):ZN s=false:=by
 unfold ZN;rw[Bool.and_eq_false_iff];refine .inr ?_;rw[List.all_eq_false];exact⟨k,by simpa using hk,by simp[h]⟩
theorem X5v {s:ByteArray} (h1:1≤s.size) (h2:s.size≤40) (h:∀j:Nat,j<s.size→X4n s j=true):ZN s=true:=by
 unfold ZN;simp only[h1,h2,decide_true,Bool.true_and,List.all_eq_true,List.mem_range];exact h
theorem X2b (s:ByteArray) (d:Nat):Con Tryz.prog 174 true [sv s] (.v (lb (ZN s))) none d:=by
 refine X5 Tryz.func174 ?_;simp only[Tryz.f174];refine X3 ?_;refine X1<|X1<|X2 ?_;refine(Xa rfl (fun h2=>?_) fun h2=>?_)
 · try simp only[BN]at h2
   have hz:ZN s=false:=by
    unfold ZN;simp only[X9Z]at h2;rw[Bool.and_eq_false_iff,Bool.and_eq_false_iff];simp only[decide_eq_false_iff_not];omega
   refine X3 ?_;exact Xc
 (try simp only[BN]at h2);simp only[X9Z]at h2;have h1:1≤s.size:=by omega
 have h40:s.size≤40:=by omega
 refine X1<|X1<|X2 ?_;refine X4<|(Xf [0,14] (fun(x:Nat)=>[(15,.v (li x))]) (fun x=>[]) (fun x=>x≤s.size∧∀j:Nat,j<x→X4n s j=true) (fun x=>s.size - x) (0:Nat) ⟨Nat.zero_le _,fun j hj=>absurd hj (Nat.not_lt_zero j)⟩ ?_ ?_)
 · exact X6 (fun n=>n) []
 rintro k ⟨hk,hall⟩;simp only[upS,X8,Xw]
 try simp only[X8,KN,Nat.reduceBEq,if_true,if_false,ins,Nat.reduceLT]
 refine X3 ?_;refine X1<|(X7 rfl (fun h8=>Xb ?_) (fun h8=>?_))
 · (try simp only[BN]at h8);have hlt:k<s.size:=by omega
   obtain⟨b,hb⟩:=X7a hlt;have hw:=XA hlt (by omega);have hk1:k+1≤s.size:=hlt;clear hlt h8;refine X1<|X4<|X1<|X2 ?_;refine X3 ?_;refine X3 ?_;refine X3 ?_;refine(Xa rfl (fun h13=>?_) fun h13=>?_)
   · try simp only[BN]at h13
     have hbad:X4n s k=false:=by
      unfold X4n;rw[hb];simp only[Bool.or_eq_false_iff,Bool.and_eq_false_iff,decide_eq_false_iff_not];omega
     have hz:=X7t hk1 hbad;refine X3 ?_;exact Xc
   try simp only[BN]at h13
   have hgood:X4n s k=true:=by
    unfold X4n;rw[hb];simp only[Bool.or_eq_true,Bool.and_eq_true,decide_eq_true_eq];omega
   refine X2 ?_;exact⟨k+1,⟨by omega,fun j hj=>(Nat.lt_succ_iff_lt_or_eq.1 hj).elim (hall j) (fun e=>e▸hgood)⟩,by omega,X6 (fun n=>n) []⟩
 (try simp only[BN]at h8);have hz:=X5v h1 h40 (fun j hj=>hall j (by omega));refine(Xi ?_);refine X3 ?_;exact Xc
end Go.Proofs.YtppjennamodfdaaGreat

namespace Go.Proofs.YtppjennamodfdaaGreat
open Go Go.Hl
mutual
def Tm.nodes:Tm→Nat
 | .mk _ _ ks=>1+Qk ks
def Qk:List Tm→Nat
 |[]=>0
 |t::l=>t.nodes+Qk l
end
mutual
def St.nodes:St→Nat
 | .mk _ _ _ _ t a b bs=>1+t.nodes+Xk a+Xk b
def Xk:List St→Nat
 |[]=>0
 |s::l=>s.nodes+Xk l
end
theorem X7i (t:Tm):1≤t.nodes:=by cases t;simp[Tm.nodes]
theorem Xat (t:St):1≤t.nodes:=by cases t;simp[St.nodes];omega
theorem Wg:∀l:List Tm,l.length≤Qk l
 |[]=>by simp[Qk]
 |t::l=>by have:=Wg l;have:=X7i t;simp only[Qk,List.length_cons];omega
theorem Qg:∀l:List St,l.length≤Xk l
 |[]=>by simp[Xk]
 |t::l=>by have:=Qg l;have:=Xat t;simp only[Xk,List.length_cons];omega
mutual
def mTm:Tm→Int→Int×Bool→Int×Bool
 | .mk _ _ ks,dep,s=>if((s.2||decide (12<dep))||decide (1024<s.1+1))=true then(s.1+1,s.2||decide (12<dep))else X30 ks (dep+1) (s.1+1,s.2||decide (12<dep))
def X30:List Tm→Int→Int×Bool→Int×Bool
 |[],_,s=>s
 |t::l,dep,s=>X30 l dep (mTm t dep s)
end
mutual
theorem X10:∀(t:Tm) (dep:Int) (s:Int×Bool),s.1≤(mTm t dep s).1∧(mTm t dep s).1≤s.1+t.nodes
 | .mk o n ks,dep,s=>by
   have:=Xbu ks (dep+1) (s.1+1,s.2||decide (12<dep));simp only[mTm,Tm.nodes];split
   · simp only;omega
   simp only at this;omega
theorem Xbu:∀(l:List Tm) (dep:Int) (s:Int×Bool),s.1≤(X30 l dep s).1∧(X30 l dep s).1≤s.1+Qk l
 |[],dep,s=>by simp[X30,Qk]
 | t::l,dep,s=>by
   have h1:=X10 t dep s;have h2:=Xbu l dep (mTm t dep s);simp only[X30,Qk];omega
end
theorem X7p (t:Tm):∀(dep c:Int) (b:Bool),0≤dep→0≤c→c+t.nodes≤1000000000→
  X94 Tryz.prog 163 [iC c,bC b] [aT t,li dep] (.tup []) [iC (mTm t dep (c,b)).1,bC (mTm t dep (c,b)).2]:=by
 induction t using Tm.ind with
 |h o n ks ih=>
 intro dep c b hdep hc hn;simp only[Tm.nodes]at hn;obtain⟨res,hres⟩:∃r,mTm (.mk o n ks) dep (c,b)=r:=⟨_,rfl⟩;rw[hres];simp only[mTm]at hres;have hlen:=Wg ks;have hw:IntKind.i64.wrap (c+1)=c+1:=Xd (by omega) (by omega);refine X3K Tryz.func163 rfl (by kernel_rfl) (Nat.le_of_ble_eq_true rfl) ?_;simp only[Tryz.f163,aT,Tm.enc];refine X3 ?_;refine X3 ?_;refine X3 ?_;refine X1<|X1<|(Xm [⟨true,.v (lb ((b||decide (12<dep))||decide (1024<c+1))),none⟩] ?_ ?_)
 · first|exact Z1 _ _ _|exact trivial|simpa[*]using Z1 _ _ _
 refine(Xa rfl (fun h4=>?_) fun h4=>?_)
 · (try simp only[BN]at h4);rw[if_pos (by simpa using h4)]at hres;subst hres;exact XF (⟨.inr rfl,_,le_refl _,⟨_,by simp[*];rfl,by simp[XD]⟩,by simp[*]⟩)
 (try simp only[BN]at h4);rw[if_neg (by simpa using h4)]at hres;have hdep2:dep≤12:=by omega
 have hwd:IntKind.i64.wrap (dep+1)=dep+1:=Xd (by omega) (by omega);refine X3 ?_;refine X4<|(Xf [0,2,29,30] (fun(x:Nat×Int×Bool)=>[(31,.v (li x.1))]) (fun x=>[(1000000,.box [.c (iC x.2.1),.c (bC x.2.2)])]) (fun x=>x.1≤ks.length∧X30 (ks.drop x.1) (dep+1) x.2=res∧0≤x.2.1∧x.2.1+Qk (ks.drop x.1)≤1000000000) (fun x=>ks.length - x.1) (0,c+1,b||decide (12<dep)) ⟨Nat.zero_le _,hres,by simp only;omega,by simp only[List.drop_zero];omega⟩ ?_ ?_)
 · exact X6 (fun n=>n) []
 rintro⟨k,m,q⟩ ⟨hk,hJ,hm,hb⟩;simp only[upS,X8,Xw]
 try simp only[X8,KN,Nat.reduceBEq,if_true,if_false,ins,Nat.reduceLT]
 simp only at hk hJ hm hb;refine X3 ?_;refine X1<|(X7 rfl (fun h9=>Xb ?_) (fun h9=>?_))
 · (try simp only[BN]at h9);have hlt:k<ks.length:=by omega
   obtain⟨⟨eo,en,ek⟩,he,hd⟩:=Xs hlt;have he':=Wd he;simp only[Tm.enc]at he';have hw1:=XA hlt (by omega);rw[hd]at hJ hb;simp only[X30,Qk]at hJ hb;have hk1:k+1≤ks.length:=hlt;have hmem:Tm.mk eo en ek∈ks:=List.mem_of_getElem? he;have hle:=X10 (.mk eo en ek) (dep+1) (m,q);clear hlt h9;refine X1<|X4<|X1<|X2 ?_;refine(X0M 4 (.tup []) ([iC (mTm (.mk eo en ek) (dep+1) (m,q)).1,bC (mTm (.mk eo en ek) (dep+1) (m,q)).2]) rfl (by simp[*];rfl) (by simp[ioOf, *];first|exact⟨rfl,rfl,rfl,rfl,rfl⟩|exact⟨rfl,rfl,rfl,rfl⟩|exact⟨rfl,rfl,rfl⟩|exact⟨rfl,rfl⟩|rfl) (ih _ hmem (dep+1) m q (by omega) hm (by omega)) (by simp) (by simp[*];rfl) ?_);refine X2 ?_;exact⟨(k+1,mTm (.mk eo en ek) (dep+1) (m,q)),⟨hk1,hJ,by simp only at hle⊢;omega,by simp only at hle⊢;omega⟩,by simp only;omega,X6 (fun n=>n) []⟩
 (try simp only[BN]at h9);have hkl:k=ks.length:=by omega
 subst hkl;rw[List.drop_length]at hJ;simp only[X30]at hJ;subst hJ;refine(Xi ?_);exact(⟨.inl rfl,_,le_refl _,⟨_,by simp[*];rfl,by simp[XD]⟩,by simp[*]⟩)
end Go.Proofs.YtppjennamodfdaaGreat

namespace Go.Proofs.YtppjennamodfdaaGreat
open Go Go.Hl
def X1p (k:List (Int×Int)):List (List CD):=k.map fun p=>[iC p.1,iC p.2]
@[simp] theorem len_encP (k:List (Int×Int)):(X1p k).length=k.length:=by simp[X1p]
@[simp] theorem get_encP (k:List (Int×Int)) (i:Nat):(X1p k)[i]? =k[i]?.map fun p=>[iC p.1,iC p.2]:=by simp[X1p]
@[simp] theorem encP_nil:X1p []=[]:=rfl
abbrev aP (p:Int×Int):TV:=.agg [.c (iC p.1),.c (iC p.2)]
def mn (a b:Int):Int:=if b<a then b else a
def mx (a b:Int):Int:=if a<b then b else a
def Zj (p q:Int×Int):Int×Int:=(mn p.1 q.1,mx p.2 q.2)
def X2p:List (Int×Int)→Int×Int→Int×Int
 |[],p=>p
 |q::l,p=>X2p l (Zj p q)
def mulP (a b:Int×Int):Int×Int:=Zj (Zj (Zj (a.1*b.1,a.1*b.1) (a.1*b.2,a.1*b.2)) (a.2*b.1,a.2*b.1)) (a.2*b.2,a.2*b.2)
def bnd (p:Int×Int):Prop:=-1048576≤p.1∧p.1≤p.2∧p.2≤1048576
theorem X3s (p q:Int×Int) (d:Nat):Con Tryz.prog 203 true [aP p,aP q] (.v (aP (Zj p q))) none d:=by
 refine X5 Tryz.func203 ?_;simp only[Tryz.f203];refine X3 ?_;refine X3 ?_;exact(Xl (fun h=>⟨.inr rfl,h⟩) _ (by simp[*];rfl) (by simp[XD,Zj,mn,mx]) (by simp))
theorem X64 {x y:Int} (hx:-1048576≤x∧x≤1048576) (hy:-1048576≤y∧y≤1048576):-1099511627776≤x*y∧x*y≤1099511627776:=by
 have h1:x.natAbs≤1048576:=by omega
 have h2:y.natAbs≤1048576:=by omega
 have h3:=Nat.mul_le_mul h1 h2;rw[←Int.natAbs_mul]at h3;omega
theorem X3i (x y:Int) (hx:-1048576≤x∧x≤1048576) (hy:-1048576≤y∧y≤1048576) (d:Nat):Con Tryz.prog 202 true [li x,li y] (.v (li (x*y))) none d:=by
 have hm:=X64 hx hy;have hw:IntKind.i64.wrap (x*y)=x*y:=Xd (by omega) (by omega);refine X5 Tryz.func202 ?_;simp only[Tryz.f202];refine X3 ?_;refine X3 ?_;exact Xc
def Xa4:List Int→Int×Int→Int×Int
 |[],p=>p
 |q::l,p=>Xa4 l (Zj p (q,q))
theorem X4M (a b:Int×Int) (ha:bnd a) (hb:bnd b) (d:Nat):Con Tryz.prog 201 true [aP a,aP b,.one (.fn 202 [])] (.v (aP (mulP a b))) none d:=by
 obtain⟨a1,a2⟩:=a;obtain⟨b1,b2⟩:=b;simp only[bnd]at ha hb;refine X5 Tryz.func201 ?_;simp only[Tryz.f201];obtain⟨L,hL⟩:∃L,L=[a1*b2,a2*b1,a2*b2]:=⟨_,rfl⟩;have hlen:L.length=3:=by rw[hL];rfl
 obtain⟨res,hres⟩:∃res,mulP (a1,a2) (b1,b2)=res:=⟨_,rfl⟩;rw[hres];have hres2:Xa4 L (a1*b1,a1*b1)=res:=by rw[←hres,hL];rfl
 clear hres;refine X3 ?_;refine Xj [⟨true,.v (li (a1*b1)),none⟩] ?_ ?_
 · first|exact X3i _ _ (by omega) (by omega) _|exact trivial|simpa[*]using X3i _ _ (by omega) (by omega) _
 refine X3 ?_;refine X1<|X1<|(XS [⟨true,.v (li (a1*b2)),none⟩,⟨true,.v (li (a2*b1)),none⟩,⟨true,.v (li (a2*b2)),none⟩] (by kernel_rfl) (by kernel_rfl) (by rfl) (by simp[*];first|exact⟨rfl,Iff.rfl⟩|exact⟨rfl,trivial⟩|rfl) ?_ ?_)
 · first|exact trivial|exact trivial|(repeat' first|exact trivial|exact X3i _ _ (by omega) (by omega) _|exact X3i _ _ (by omega) (by omega) _|exact X3i _ _ (by omega) (by omega) _|apply And.intro)
 refine X4<|(Xf [6,8,38,39] (fun(x:Nat×Int×Int)=>[(40,.v (li x.1))]) (fun x=>[(6,.box [.c (iC 0),.c (iC 0)]),(8,.box [.c (iC x.2.1),.c (iC x.2.2)]),(38,.row 3 1 (Xe L))]) (fun x=>x.1≤3∧Xa4 (L.drop x.1) x.2=res) (fun x=>3 - x.1) (0,a1*b1,a1*b1) ⟨Nat.zero_le _,hres2⟩ ?_ ?_)
 · exact Xx (fun n=>n) [] rfl (by simp[*,upS,X8]) (by simp[upS,Xe,hL]) (by simp[upS])
 rintro⟨k,m,q⟩ ⟨hk,hJ⟩;simp only[upS,X8,Xw]
 try simp only[X8,KN,Nat.reduceBEq,if_true,if_false,ins,Nat.reduceLT]
 simp only at hk hJ;clear hres2 hL;refine X3 ?_;refine X1<|(X7 rfl (fun h6=>Xb ?_) (fun h6=>?_))
 · (try simp only[BN]at h6);have hlt:k<L.length:=by omega
   obtain⟨e,he,hd⟩:=Xs hlt;have hw1:=XA hlt (by omega);rw[hd]at hJ;simp only[Xa4]at hJ;have hk1:k+1≤3:=by omega
   clear hlt h6;refine X1<|X4<|X1<|X2 ?_;refine(Xm [⟨true,.v (aP (Zj (m,q) (e,e))),none⟩] ?_ ?_)
   · first|exact X3s (m,q) (e,e) _|exact trivial|simpa[*]using X3s (m,q) (e,e) _
   refine X2 ?_;exact⟨(k+1,Zj (m,q) (e,e)),⟨hk1,hJ⟩,by simp only;omega,X6 (fun n=>n) []⟩
 (try simp only[BN]at h6);have hkl:k=L.length:=by omega
 rw[hkl,List.drop_length]at hJ;simp only[Xa4]at hJ;refine(Xi ?_);refine X3 ?_;exact(Xl (fun h=>⟨.inr rfl,h⟩) _ (by simp[*];rfl) (by subst hJ;rfl) (by simp))
end Go.Proofs.YtppjennamodfdaaGreat

namespace Go.Proofs.YtppjennamodfdaaGreat
open Go Go.Hl
def X03 (vars:List Vr) (inp:Bool) (n:Int):Bool:=
 decide (0≤n)&&match vars[n.toNat]? with
  |some v=> !(inp&&decide (v.kind=0))
  |none=>false
def Q9 (vars:List Vr) (inp:Bool) (o n:Int) (len:Nat):Bool:=
 (!decide ((Q8 o).1<0)&&(!decide ((len:Int)<(Q8 o).1)&& !decide ((Q8 o).2<(len:Int))))&&(if o=0 then true else if o=24 then X03 vars inp n else decide (n=0))
mutual
def QL (vars:List Vr) (inp:Bool):Tm→Bool
 | .mk o n ks=>Q9 vars inp o n ks.length&&Zf vars inp ks
def Zf (vars:List Vr) (inp:Bool):List Tm→Bool
 |[]=>true
 |t::l=>QL vars inp t&&Zf vars inp l
end
theorem Zs {vars:List Vr} {inp:Bool}:∀{l:List Tm},Zf vars inp l=true→∀t∈l,QL vars inp t=true
 |[],_,t,ht=>by cases ht
 | a::l,h,t,ht=>by
   simp only[Zf,Bool.and_eq_true]at h;rcases List.mem_cons.1 ht with rfl|h1
   · exact h.1
   exact Zs h.2 t h1
theorem X3e {vars:List Vr} {n:Int}:(0≤n∧n<vars.length)→∃v,vars[n.toNat]? =some v:=by
 rintro⟨h1,h2⟩;have:n.toNat<vars.length:=by omega
 exact⟨vars[n.toNat],by simp[this]⟩
theorem X0T {vars:List Vr} {n:Int} (h1:0≤n) (h2:¬n<vars.length):vars[n.toNat]? =none:=by
 rw[List.getElem?_eq_none];omega
theorem XcP (vars:List Vr) (inp:Bool) (hv:vars.length≤1000000000) (t:Tm):t.nodes≤1000000000→∀d:Nat,
  Con Tryz.prog 188 true [lV vars,aT t,lb inp] (.v (lb (QL vars inp t))) none d:=by
 induction t using Tm.ind with
 |h o n ks ih=>
 intro hn d;simp only[Tm.nodes]at hn;have hlen:=Wg ks;obtain⟨res,hres⟩:∃r,QL vars inp (.mk o n ks)=r:=⟨_,rfl⟩;rw[hres];simp only[QL]at hres
 have ih':∀t∈ks,∀d,Con Tryz.prog 188 true [lV vars,aT t,lb inp] (.v (lb (QL vars inp t))) none d:=by
  intro t ht d;refine ih t ht ?_ d
  have:t.nodes≤Qk ks:=by
   clear hres ih hn hlen
   induction ks with
   |nil=>cases ht
   | cons a l ih=>
     simp only[Qk];rcases List.mem_cons.1 ht with rfl|h
     · omega
     have:=ih h;omega
  omega
 clear ih;refine X5 Tryz.func188 ?_;simp only[Tryz.f188];simp only[aT,Tm.enc];refine X3 ?_;refine Xj [⟨true,.tup [li (Q8 o).1,li (Q8 o).2],none⟩] ?_ ?_
 · first|exact X75 o _|exact trivial|simpa[*]using X75 o _
 refine X1<|X1<|X2 ?_;refine(Xa rfl (fun h3=>?_) fun h3=>?_)
 · try simp only[BN]at h3
   have hz:Q9 vars inp o n ks.length=false:=by
    unfold Q9;rw[Bool.and_eq_false_iff];refine .inl ?_;simp only[Bool.and_eq_false_iff,Bool.not_eq_false',decide_eq_true_eq];omega
   rw[hz,Bool.false_and]at hres;refine X3 ?_;exact(Xl (fun h=>⟨.inr rfl,h⟩) _ (by simp[*];rfl) (by first|rfl|simp[*]) (by simp))
 try simp only[BN]at h3
 have hz:(!decide ((Q8 o).1<0)&&(!decide ((ks.length:Int)<(Q8 o).1)&& !decide ((Q8 o).2<(ks.length:Int))))=true:=by
  simp only[Bool.and_eq_true,Bool.not_eq_true',decide_eq_false_iff_not];omega
 refine(XV [0,2,4] (fun(z:Unit)=>[]) (fun(z:Unit)=>[(4,.box [.c (iC o),.c (iC n),.c (.sl 3 (Xo ks))])]) (fun(z:Unit)=>Q9 vars inp o n ks.length=true) ?_ ?_)
 ·
  refine X3 ?_;refine X4<|X1<|X2 ?_;refine(X7 rfl (fun h9=>Xb ?_) (fun h9=>?_))
  · (try simp only[BN]at h9);exact⟨(),by unfold Q9;rw[hz,Bool.true_and,if_pos h9],X6 (fun n=>n) []⟩
  (try simp only[BN]at h9);refine X3 ?_;refine(X7 rfl (fun h12=>?_) (fun h12=>?_))
  · (try simp only[BN]at h12);by_cases hn0:0≤n
    · by_cases hn3:n<vars.length
      · obtain⟨v,hv1⟩:=X3e ⟨hn0,hn3⟩;have hn1:¬(vars.length:Int)≤n:=by omega
        have hn2:¬n<0:=by omega
        clear hn3;refine X3 ?_;refine(Xa rfl (fun h14=>?_) fun h14=>?_)
        · try simp only[BN]at h14
          have hz3:Q9 vars inp o n ks.length=false:=by
           unfold Q9 X03;rw[hz,Bool.true_and,if_neg h9,if_pos h12,hv1];simp[h14]
          rw[hz3,Bool.false_and]at hres;refine X3 ?_;exact(Xl (fun h=>⟨.inr rfl,h⟩) _ (by simp[*];rfl) (by first|rfl|simp[*]) (by simp))
        try simp only[BN]at h14
        exact⟨(),by
         unfold Q9 X03;rw[hz,Bool.true_and,if_neg h9,if_pos h12,hv1];simp only[Bool.and_eq_true,Bool.not_eq_true',Bool.and_eq_false_iff,decide_eq_true_eq,decide_eq_false_iff_not]
         exact⟨hn0,h14⟩,X6 (fun n=>n) []⟩
      cases inp
      · have hv1:=X0T hn0 hn3;have hn1:(vars.length:Int)≤n:=by omega
        have hn2:¬n<0:=by omega
        have hz2:∀i,X03 vars i n=false:=by intro i;simp[X03,hv1]
        clear hn3;refine X3 ?_;refine(Xa rfl (fun h14=>?_) fun h14=>?_)
        · try simp only[BN]at h14
          have hz3:∀i,Q9 vars i o n ks.length=false:=by
           intro i;unfold Q9;rw[hz,Bool.true_and,if_neg h9,if_pos h12,hz2]
          rw[hz3,Bool.false_and]at hres;refine X3 ?_;exact(Xl (fun h=>⟨.inr rfl,h⟩) _ (by simp[*];rfl) (by first|rfl|simp[*]) (by simp))
        exact absurd h14 (by simp)
      have hv1:=X0T hn0 hn3;have hn1:(vars.length:Int)≤n:=by omega
      have hn2:¬n<0:=by omega
      have hz2:∀i,X03 vars i n=false:=by intro i;simp[X03,hv1]
      clear hn3;refine X3 ?_;refine(Xa rfl (fun h14=>?_) fun h14=>?_)
      · try simp only[BN]at h14
        have hz3:∀i,Q9 vars i o n ks.length=false:=by
         intro i;unfold Q9;rw[hz,Bool.true_and,if_neg h9,if_pos h12,hz2]
        rw[hz3,Bool.false_and]at hres;refine X3 ?_;exact(Xl (fun h=>⟨.inr rfl,h⟩) _ (by simp[*];rfl) (by first|rfl|simp[*]) (by simp))
      exact absurd h14 (by simp)
    cases inp
    · have hn2:n<0:=by omega
      have hz2:∀i,X03 vars i n=false:=by intro i;simp[X03,hn0]
      refine X3 ?_;refine(Xa rfl (fun h14=>?_) fun h14=>?_)
      · try simp only[BN]at h14
        have hz3:∀i,Q9 vars i o n ks.length=false:=by
         intro i;unfold Q9;rw[hz,Bool.true_and,if_neg h9,if_pos h12,hz2]
        rw[hz3,Bool.false_and]at hres;refine X3 ?_;exact(Xl (fun h=>⟨.inr rfl,h⟩) _ (by simp[*];rfl) (by first|rfl|simp[*]) (by simp))
      exact absurd h14 (by simp)
    have hn2:n<0:=by omega
    have hz2:∀i,X03 vars i n=false:=by intro i;simp[X03,hn0]
    refine X3 ?_;refine(Xa rfl (fun h14=>?_) fun h14=>?_)
    · try simp only[BN]at h14
      have hz3:∀i,Q9 vars i o n ks.length=false:=by
       intro i;unfold Q9;rw[hz,Bool.true_and,if_neg h9,if_pos h12,hz2]
      rw[hz3,Bool.false_and]at hres;refine X3 ?_;exact(Xl (fun h=>⟨.inr rfl,h⟩) _ (by simp[*];rfl) (by first|rfl|simp[*]) (by simp))
    exact absurd h14 (by simp)
  (try simp only[BN]at h12);refine X3 ?_;refine(Xa rfl (fun h19=>?_) fun h19=>?_)
  · try simp only[BN]at h19
    have hz3:Q9 vars inp o n ks.length=false:=by
     unfold Q9;rw[hz,Bool.true_and,if_neg h9,if_neg h12];simpa using h19
    rw[hz3,Bool.false_and]at hres;refine X3 ?_;exact(Xl (fun h=>⟨.inr rfl,h⟩) _ (by simp[*];rfl) (by first|rfl|simp[*]) (by simp))
  try simp only[BN]at h19
  exact⟨(),by
   unfold Q9;rw[hz,Bool.true_and,if_neg h9,if_neg h12]
   simpa using h19,X6 (fun n=>n) []⟩
 rintro z hz;simp only[upS,X8,Xw]
 try simp only[X8,KN,Nat.reduceBEq,if_true,if_false,ins,Nat.reduceLT]
 rw[hz,Bool.true_and]at hres;refine X1<|X1<|X2 ?_;refine X4<|(Xf [0,2,65,66] (fun(x:Nat)=>[(67,.v (li x))]) (fun x=>[]) (fun x=>x≤ks.length∧Zf vars inp (ks.drop x)=res) (fun x=>ks.length - x) (0:Nat) ⟨Nat.zero_le _,hres⟩ ?_ ?_)
 · exact X6 (fun n=>n) []
 rintro k ⟨hk,hJ⟩;simp only[upS,X8,Xw]
 try simp only[X8,KN,Nat.reduceBEq,if_true,if_false,ins,Nat.reduceLT]
 refine X3 ?_;refine X1<|(X7 rfl (fun h26=>Xb ?_) (fun h26=>?_))
 · (try simp only[BN]at h26);have hlt:k<ks.length:=by omega
   obtain⟨⟨eo,en,ek⟩,he,hd⟩:=Xs hlt;have he':=Wd he;simp only[Tm.enc]at he';have hw1:=XA hlt (by omega);rw[hd]at hJ;simp only[Zf]at hJ;have hk1:k+1≤ks.length:=hlt;have hmem:Tm.mk eo en ek∈ks:=List.mem_of_getElem? he;clear hlt h26;refine X1<|X4<|X1<|X2 ?_;refine Xj [⟨true,.v (lb (QL vars inp (.mk eo en ek))),none⟩] ?_ ?_
   · first|exact ih' _ hmem _|exact trivial|simpa[*]using ih' _ hmem _
   refine(Xa rfl (fun h29=>?_) fun h29=>?_)
   · (try simp only[BN]at h29);rw[h29,Bool.false_and]at hJ;subst hJ;refine X3 ?_;exact(Xl (fun h=>⟨.inr rfl,h⟩) _ (by simp[*];rfl) (by first|rfl|simp[*]) (by simp))
   (try simp only[BN]at h29);rw[h29,Bool.true_and]at hJ;refine X2 ?_;exact⟨k+1,⟨hk1,hJ⟩,by omega,X6 (fun n=>n) []⟩
 (try simp only[BN]at h26);have hkl:k=ks.length:=by omega
 subst hkl;rw[List.drop_length]at hJ;simp only[Zf]at hJ;subst hJ;refine(Xi ?_);refine X3 ?_;exact(Xl (fun h=>⟨.inr rfl,h⟩) _ (by simp[*];rfl) (by first|rfl|simp[*]) (by simp))
end Go.Proofs.YtppjennamodfdaaGreat

namespace Go.Proofs.YtppjennamodfdaaGreat
open Go Go.Hl
theorem takeM {α β:Type} (f:α→β) (l:List α):(l.map f).take l.length=l.map f:=by
 rw[List.take_of_length_le (by simp)]
def X1v (b:Int×Int):Int:=if b.1<0 then mn (b.1+1) 0 else 0
def X52 (b:Int×Int):Int:=if 0<b.2 then mx (b.2 - 1) 0 else 0
@[simp] def g2 (k:List (Int×Int)) (i:Nat):Int×Int:=k[i]?.getD ((0:Int),(0:Int))
def QD (vars:List Vr) (o n:Int) (k:List (Int×Int)):Int×Int:=
 if o=0 then(n,n)else if o=24 then(match vars[n.toNat]? with|some v=>(v.low,v.high)|none=>(0,0))
 else if o=6 then(-(g2 k 0).2,-(g2 k 0).1)
 else if o=8 then((g2 k 0).1+(g2 k 1).1,(g2 k 0).2+(g2 k 1).2)
 else if o=9 then((g2 k 0).1 - (g2 k 1).2,(g2 k 0).2 - (g2 k 1).1)
 else if o=10 then mulP (g2 k 0) (g2 k 1)
 else if o=11 then(if 0≤(g2 k 0).1∧0≤(g2 k 1).1 then(0,mx (g2 k 0).2 (-(g2 k 0).1))else(-(mx (g2 k 0).2 (-(g2 k 0).1)),mx (g2 k 0).2 (-(g2 k 0).1)))
 else if o=12 then(X1v (g2 k 1),X52 (g2 k 1))
 else if o=21 then(mn (g2 k 0).1 (g2 k 1).1,mn (g2 k 0).2 (g2 k 1).2)
 else if o=22 then(mx (g2 k 0).1 (g2 k 1).1,mx (g2 k 0).2 (g2 k 1).2)
 else if o=23∨o=25 then X2p (k.drop 2) (g2 k 1)else(0,1)
theorem kid {k:List (Int×Int)} (hk:∀p∈k,bnd p) {i:Nat} (h:i+1≤k.length):∃a1 a2,k[i]? =some (a1,a2)∧-1048576≤a1∧a1≤a2∧a2≤1048576:=by
 have:k[i]? =some k[i]:=by simp[show i<k.length from h]
 have h2:=hk k[i] (List.getElem_mem _);exact⟨k[i].1,k[i].2,this,h2⟩
theorem ZQ {vars:List Vr} {inp:Bool} {o n:Int} {len:Nat} (h:Q9 vars inp o n len=true):0≤(Q8 o).1∧(Q8 o).1≤len∧(len:Int)≤(Q8 o).2:=by
 unfold Q9 at h;simp only[Bool.and_eq_true,Bool.not_eq_true',decide_eq_false_iff_not]at h;omega
theorem X3L {vars:List Vr} {inp:Bool} {n:Int} {len:Nat} (h:Q9 vars inp 24 n len=true):0≤n∧∃v,vars[n.toNat]? =some v∧(inp=true→v.kind≠0):=by
 unfold Q9 X03 at h;simp only[Bool.and_eq_true,Int.reduceEq,if_false,if_true,decide_eq_true_eq]at h;obtain⟨_,h0,h⟩:=h;refine⟨h0,?_⟩;split at h
 · rename_i v hv;refine⟨v,hv,fun hi hk=>?_⟩;simp[hi,hk]at h
 cases h
theorem kids1 {o:Int} (h:o=6∨o=7):Q8 o=(1,1):=by
 unfold Q8;rw[if_neg (by omega),if_pos h]
theorem kids2 {o:Int} (h:8≤o∧o≤22):Q8 o=(2,2):=by
 unfold Q8;rw[if_neg (by omega),if_neg (by omega),if_pos h]
theorem kids3:Q8 23=(3,3):=by decide
theorem kids4:Q8 25=(2,33):=by decide
theorem X96 (vars:List Vr) (inp:Bool) (o n:Int) (K:CD) (k:List (Int×Int)) (hf:Q9 vars inp o n k.length=true) (hk:∀p∈k,bnd p) (d:Nat):
  Con Tryz.prog 199 true [lV vars,.agg [.c (iC o),.c (iC n),.c K],.one (.c (.sl 2 (X1p k)))] (.v (aP (QD vars o n k))) none d:=by
 have har:=ZQ hf;have hrf:o=24→0≤n∧∃v,vars[n.toNat]? =some v∧(inp=true→v.kind≠0):=fun h=>X3L (by rw[←h];exact hf);clear hf;have ar1:o=6→0+1≤k.length:=fun h=>by have:=kids1 (.inl h);rw[this]at har;simp only at har;omega
 have ar2:8≤o∧o≤22→0+1≤k.length∧1+1≤k.length:=fun h=>by have:=kids2 h;rw[this]at har;simp only at har;omega
 have ar3:o=23∨o=25→2≤k.length∧k.length≤33:=fun h=>by
  rcases h with h|h
  · have:=kids3;rw[h,this]at har;simp only at har;omega
  have:=kids4;rw[h,this]at har;simp only at har;omega
 clear har;refine X5 Tryz.func199 ?_;simp only[Tryz.f199];refine X3 ?_;refine X1<|X1<|X2 ?_;refine X4<|X1<|X2 ?_;refine(X7 rfl (fun h3=>?_) (fun h3=>?_))
 · (try simp only[BN]at h3);refine X3 ?_;exact(Xl (fun h=>⟨.inr rfl,h⟩) _ (by simp[*];rfl) (by first|rfl|(simp[*,QD];done)|(simp only[XD,QD];(repeat' split)<;>first|rfl|(exfalso;omega)|simp_all)) (by simp))
 (try simp only[BN]at h3);refine X3 ?_;refine(X7 rfl (fun h7=>?_) (fun h7=>?_))
 · (try simp only[BN]at h7);obtain⟨hn0,v,hv,_⟩:=hrf h7;clear hrf;refine X1<|(Qc (by kernel_rfl) (by kernel_rfl) (by rfl) (by simp[*];rfl) ?_);exact(Xl (fun h=>⟨.inr rfl,h⟩) _ (by simp[*];rfl) (by first|rfl|(simp[*,QD];done)|(simp only[XD,QD];(repeat' split)<;>first|rfl|(exfalso;omega)|simp_all)) (by simp))
 (try simp only[BN]at h7);refine X3 ?_;refine(X7 rfl (fun h11=>?_) (fun h11=>?_))
 · (try simp only[BN]at h11);obtain⟨a1,a2,ha,hb1,hb2,hb3⟩:=kid hk (ar1 h11);have hw1:IntKind.i64.wrap (-a1)=-a1:=Xd (by omega) (by omega);have hw2:IntKind.i64.wrap (-a2)=-a2:=Xd (by omega) (by omega);clear ar1 ar2 ar3;refine X1<|(Qc (by kernel_rfl) (by kernel_rfl) (by rfl) (by simp[*];rfl) ?_);exact(Xl (fun h=>⟨.inr rfl,h⟩) _ (by simp[*];rfl) (by first|rfl|(simp[*,QD];done)|(simp only[XD,QD];(repeat' split)<;>first|rfl|(exfalso;omega)|simp_all)) (by simp))
 (try simp only[BN]at h11);refine X3 ?_;refine(X7 rfl (fun h15=>?_) (fun h15=>?_))
 · (try simp only[BN]at h15);obtain⟨a1,a2,ha,hb1,hb2,hb3⟩:=kid hk (ar2 (by omega)).1;obtain⟨c1,c2,hc,hc1,hc2,hc3⟩:=kid hk (ar2 (by omega)).2;have hw1:IntKind.i64.wrap (a1+c1)=a1+c1:=Xd (by omega) (by omega);have hw2:IntKind.i64.wrap (a2+c2)=a2+c2:=Xd (by omega) (by omega);clear ar1 ar2 ar3;refine X1<|(Qc (by kernel_rfl) (by kernel_rfl) (by rfl) (by simp[*];rfl) ?_);exact(Xl (fun h=>⟨.inr rfl,h⟩) _ (by simp[*];rfl) (by first|rfl|(simp[*,QD];done)|(simp only[XD,QD];(repeat' split)<;>first|rfl|(exfalso;omega)|simp_all)) (by simp))
 (try simp only[BN]at h15);refine X3 ?_;refine(X7 rfl (fun h19=>?_) (fun h19=>?_))
 · (try simp only[BN]at h19);obtain⟨a1,a2,ha,hb1,hb2,hb3⟩:=kid hk (ar2 (by omega)).1;obtain⟨c1,c2,hc,hc1,hc2,hc3⟩:=kid hk (ar2 (by omega)).2;have hw1:IntKind.i64.wrap (a1 - c2)=a1 - c2:=Xd (by omega) (by omega);have hw2:IntKind.i64.wrap (a2 - c1)=a2 - c1:=Xd (by omega) (by omega);clear ar1 ar2 ar3;refine X1<|(Qc (by kernel_rfl) (by kernel_rfl) (by rfl) (by simp[*];rfl) ?_);exact(Xl (fun h=>⟨.inr rfl,h⟩) _ (by simp[*];rfl) (by first|rfl|(simp[*,QD];done)|(simp only[XD,QD];(repeat' split)<;>first|rfl|(exfalso;omega)|simp_all)) (by simp))
 (try simp only[BN]at h19);refine X3 ?_;refine(X7 rfl (fun h23=>?_) (fun h23=>?_))
 · (try simp only[BN]at h23);obtain⟨a1,a2,ha,hb1,hb2,hb3⟩:=kid hk (ar2 (by omega)).1;obtain⟨c1,c2,hc,hc1,hc2,hc3⟩:=kid hk (ar2 (by omega)).2;clear ar1 ar2 ar3;refine X1<|(XS [⟨true,.v (aP (mulP (a1,a2) (c1,c2))),none⟩] (by kernel_rfl) (by kernel_rfl) (by rfl) (by simp[*];first|exact⟨rfl,Iff.rfl⟩|exact⟨rfl,trivial⟩|rfl) ?_ ?_)
   · first|exact X4M (a1,a2) (c1,c2) ⟨hb1,hb2,hb3⟩ ⟨hc1,hc2,hc3⟩ _|exact trivial|simpa[*]using X4M (a1,a2) (c1,c2) ⟨hb1,hb2,hb3⟩ ⟨hc1,hc2,hc3⟩ _
   exact(Xl (fun h=>⟨.inr rfl,h⟩) _ (by simp[*];rfl) (by first|rfl|(simp[*,QD];done)|(simp only[XD,QD];(repeat' split)<;>first|rfl|(exfalso;omega)|simp_all)) (by simp))
 (try simp only[BN]at h23);refine X3 ?_;refine(X7 rfl (fun h27=>?_) (fun h27=>?_))
 · (try simp only[BN]at h27);obtain⟨a1,a2,ha,hb1,hb2,hb3⟩:=kid hk (ar2 (by omega)).1;obtain⟨c1,c2,hc,hc1,hc2,hc3⟩:=kid hk (ar2 (by omega)).2;have hw1:IntKind.i64.wrap (-a1)=-a1:=Xd (by omega) (by omega);have hm:-1048576≤mx a2 (-a1)∧mx a2 (-a1)≤1048576:=by unfold mx;split<;>omega
   have hw2:IntKind.i64.wrap (-(mx a2 (-a1)))=-(mx a2 (-a1)):=Xd (by omega) (by omega);have hmx:(if a2< -a1 then -a1 else a2)=mx a2 (-a1):=rfl;clear ar1 ar2 ar3;refine X1<|(Qc (by kernel_rfl) (by kernel_rfl) (by rfl) (by simp[*];rfl) ?_);refine X1<|X1<|X2 ?_;refine(Xa rfl (fun h30=>?_) fun h30=>?_)
   · (try simp only[BN]at h30);refine X3 ?_;exact(Xl (fun h=>⟨.inr rfl,h⟩) _ (by simp[*];rfl) (by first|rfl|(simp[*,QD];done)|(simp only[XD,QD];(repeat' split)<;>first|rfl|(exfalso;omega)|simp_all)) (by simp))
   (try simp only[BN]at h30);have hng:¬(0≤a1∧0≤c1):=by omega
   refine X3 ?_;exact(Xl (fun h=>⟨.inr rfl,h⟩) _ (by simp[*];rfl) (by first|rfl|(simp[*,QD];done)|(simp only[XD,QD];(repeat' split)<;>first|rfl|(exfalso;omega)|simp_all)) (by simp))
 (try simp only[BN]at h27);refine X3 ?_;refine(X7 rfl (fun h36=>?_) (fun h36=>?_))
 · (try simp only[BN]at h36);obtain⟨c1,c2,hc,hc1,hc2,hc3⟩:=kid hk (ar2 (by omega)).2;have hw1:IntKind.i64.wrap (c1+1)=c1+1:=Xd (by omega) (by omega);have hw2:IntKind.i64.wrap (c2 - 1)=c2 - 1:=Xd (by omega) (by omega);have hmn:(if 0<c1+1 then 0 else c1+1)=mn (c1+1) 0:=rfl;have hmx:(if c2 - 1<0 then 0 else c2 - 1)=mx (c2 - 1) 0:=rfl;clear ar1 ar2 ar3;refine X3 ?_;refine(XV [2,6,8] (fun(z:Int)=>[]) (fun(z:Int)=>[(6,.box [.c (iC 0),.c (iC 0)]),(8,.box [.c (iC z),.c (iC 0)])]) (fun(z:Int)=>z=X1v (c1,c2)) ?_ ?_)
   ·
    refine X3 ?_;refine(Xa rfl (fun h40=>?_) fun h40=>?_)
    · (try simp only[BN]at h40);have hml:mn (c1+1) 0=X1v (c1,c2):=by simp only[X1v];rw[if_pos h40]
      refine X2 ?_;exact⟨X1v (c1,c2),rfl,X6 (fun n=>n) []⟩
    (try simp only[BN]at h40);have hml:(0:Int)=X1v (c1,c2):=by simp only[X1v];rw[if_neg h40]
    exact⟨X1v (c1,c2),rfl,X6 (fun n=>n) []⟩
   rintro _ rfl;simp only[upS,X8,Xw]
   try simp only[X8,KN,Nat.reduceBEq,if_true,if_false,ins,Nat.reduceLT]
   refine X1<|X1<|X2 ?_;refine(Xa rfl (fun h45=>?_) fun h45=>?_)
   · (try simp only[BN]at h45);have hmh:mx (c2 - 1) 0=X52 (c1,c2):=by simp only[X52];rw[if_pos h45]
     refine X2 ?_;refine X3 ?_;exact(Xl (fun h=>⟨.inr rfl,h⟩) _ (by simp[*];rfl) (by first|rfl|(simp[*,QD];done)|(simp only[XD,QD];(repeat' split)<;>first|rfl|(exfalso;omega)|simp_all)) (by simp))
   (try simp only[BN]at h45);have hmh:X52 (c1,c2)=0:=by simp only[X52];rw[if_neg h45]
   refine X3 ?_;exact(Xl (fun h=>⟨.inr rfl,h⟩) _ (by simp[*];rfl) (by first|rfl|(simp[*,QD];done)|(simp only[XD,QD];(repeat' split)<;>first|rfl|(exfalso;omega)|simp_all)) (by simp))
 (try simp only[BN]at h36);refine X3 ?_;refine(X7 rfl (fun h52=>?_) (fun h52=>?_))
 · (try simp only[BN]at h52);obtain⟨a1,a2,ha,hb1,hb2,hb3⟩:=kid hk (ar2 (by omega)).1;obtain⟨c1,c2,hc,hc1,hc2,hc3⟩:=kid hk (ar2 (by omega)).2;clear ar1 ar2 ar3;refine X1<|(Qc (by kernel_rfl) (by kernel_rfl) (by rfl) (by simp[*];rfl) ?_);exact(Xl (fun h=>⟨.inr rfl,h⟩) _ (by simp[*];rfl) (by simp[*,QD,XD,mn]) (by simp))
 (try simp only[BN]at h52);refine X3 ?_;refine(X7 rfl (fun h56=>?_) (fun h56=>?_))
 · (try simp only[BN]at h56);obtain⟨a1,a2,ha,hb1,hb2,hb3⟩:=kid hk (ar2 (by omega)).1;obtain⟨c1,c2,hc,hc1,hc2,hc3⟩:=kid hk (ar2 (by omega)).2;clear ar1 ar2 ar3;refine X1<|(Qc (by kernel_rfl) (by kernel_rfl) (by rfl) (by simp[*];rfl) ?_);exact(Xl (fun h=>⟨.inr rfl,h⟩) _ (by simp[*];rfl) (by simp[*,QD,XD,mx]) (by simp))
 (try simp only[BN]at h56);refine(XV [2,6] (fun(z:Bool)=>[(200,.v (lb z))]) (fun(z:Bool)=>[(6,.box [.c (iC 0),.c (iC 0)])]) (fun(z:Bool)=>z=decide (o=23∨o=25)) ?_ ?_)
 ·
  refine X3 ?_;refine(X7 rfl (fun h61=>Xb ?_) (fun h61=>?_))
  · (try simp only[BN]at h61);exact⟨true,by simp[h61],X6 (fun n=>n) []⟩
  (try simp only[BN]at h61);refine X2 ?_;exact⟨decide (o=25),by simp[h61],X6 (fun n=>n) []⟩
 rintro z hz;simp only[upS,X8,Xw]
 try simp only[X8,KN,Nat.reduceBEq,if_true,if_false,ins,Nat.reduceLT]
 subst hz;obtain⟨res,hres⟩:∃r,QD vars o n k=r:=⟨_,rfl⟩;rw[hres];simp only[QD,h3,h7,h11,h15,h19,h23,h27,h36,h52,h56,if_false]at hres;refine(Xa rfl (fun h65=>?_) fun h65=>?_)
 · (try simp only[BN]at h65);have h2:=ar3 h65;rw[if_pos h65]at hres;clear ar1 ar2 ar3 h65;rcases k with _|⟨a,_|⟨c,r⟩⟩
   · simp at h2
   · simp at h2
   have hr33:r.length≤31:=by simp only[List.length_cons]at h2;omega
   clear h2;simp at hres;refine X1<|(Xq (by simp[*,X1p];rfl) ?_);refine X1<|X1<|(Xq (by simp[*,X1p,takeM];rfl) ?_);refine X4<|(Xf [6,9,207,208] (fun(x:Nat×Int×Int)=>[(209,.v (li x.1))]) (fun x=>[(6,.box [.c (iC 0),.c (iC 0)]),(9,.box [.c (iC x.2.1),.c (iC x.2.2)])]) (fun x=>x.1≤r.length∧X2p (r.drop x.1) x.2=res) (fun x=>r.length - x.1) (0,c) ⟨Nat.zero_le _,hres⟩ ?_ ?_)
   · exact X6 (fun n=>n) []
   rintro⟨k,m,q⟩ ⟨hk',hJ⟩;simp only[upS,X8,Xw]
   try simp only[X8,KN,Nat.reduceBEq,if_true,if_false,ins,Nat.reduceLT]
   simp only at hk' hJ;clear hres;refine X3 ?_;refine X1<|(X7 rfl (fun h70=>Xb ?_) (fun h70=>?_))
   · (try simp only[BN]at h70);have hlt:k<r.length:=by omega
     obtain⟨⟨e1,e2⟩,he,hd⟩:=Xs hlt;have hw1:=XA hlt (by omega);rw[hd]at hJ;simp only[X2p]at hJ;have hk1:k+1≤r.length:=hlt;clear hlt h70;refine X1<|X4<|X1<|X2 ?_;refine(Xm [⟨true,.v (aP (Zj (m,q) (e1,e2))),none⟩] ?_ ?_)
     · first|exact X3s (m,q) (e1,e2) _|exact trivial|simpa[*]using X3s (m,q) (e1,e2) _
     refine X2 ?_;exact⟨(k+1,Zj (m,q) (e1,e2)),⟨hk1,hJ⟩,by simp only;omega,X6 (fun n=>n) []⟩
   (try simp only[BN]at h70);have hkl:k=r.length:=by omega
   rw[hkl,List.drop_length]at hJ;simp only[X2p]at hJ;refine(Xi ?_);refine X3 ?_;exact(Xl (fun h=>⟨.inr rfl,h⟩) _ (by simp[*];rfl) (by subst hJ;rfl) (by simp))
 (try simp only[BN]at h65);rw[if_neg h65]at hres;subst hres;refine X3 ?_;exact(Xl (fun h=>⟨.inr rfl,h⟩) _ (by simp[*];rfl) (by first|rfl|(simp[*,QD];done)|(simp only[XD,QD];(repeat' split)<;>first|rfl|(exfalso;omega)|simp_all)) (by simp))
end Go.Proofs.YtppjennamodfdaaGreat

namespace Go.Proofs.YtppjennamodfdaaGreat
open Go Go.Hl
theorem X27 {ks:List Tm} {t:Tm} (ht:t∈ks):t.nodes≤Qk ks:=by
 induction ks with
 |nil=>cases ht
 | cons a l ih=>
   simp only[Qk];rcases List.mem_cons.1 ht with rfl|h
   · omega
   have:=ih h;omega
theorem Qh (a b:Int) (d:Nat):Con Tryz.prog 100 true [li a,li b] (.v (li (mn a b))) none d:=by
 refine X5 Tryz.func100 ?_;simp only[Tryz.f100];refine X3 ?_;refine X1<|X1<|X2 ?_;refine(Xa rfl (fun h2=>?_) fun h2=>?_)
 · (try simp only[BN]at h2);have hz:mn a b=a:=by unfold mn;split<;>omega
   refine X3 ?_;exact Xc
 (try simp only[BN]at h2);have hz:mn a b=b:=by unfold mn;split<;>omega
 refine X3 ?_;exact Xc
theorem Qm (a b:Int) (d:Nat):Con Tryz.prog 99 true [li a,li b] (.v (li (mx a b))) none d:=by
 refine X5 Tryz.func99 ?_;simp only[Tryz.f99];refine X3 ?_;refine X1<|X1<|X2 ?_;refine(Xa rfl (fun h2=>?_) fun h2=>?_)
 · (try simp only[BN]at h2);have hz:mx a b=a:=by unfold mx;split<;>omega
   refine X3 ?_;exact Xc
 (try simp only[BN]at h2);have hz:mx a b=b:=by unfold mx;split<;>omega
 refine X3 ?_;exact Xc
def X3E (a:Int):Int:=if a<0 then -a else a
theorem X8P (a:Int) (h:-1048576≤a∧a≤1048576) (d:Nat):Con Tryz.prog 155 true [li a] (.v (li (X3E a))) none d:=by
 have hw:IntKind.i64.wrap (-a)=-a:=Xd (by omega) (by omega);refine X5 Tryz.func155 ?_;simp only[Tryz.f155];refine X3 ?_;refine X1<|X1<|X2 ?_;refine(Xa rfl (fun h2=>?_) fun h2=>?_)
 · (try simp only[BN]at h2);refine X3 ?_;exact(Xl (fun h=>⟨.inr rfl,h⟩) _ (by simp[*];rfl) (by first|rfl|(simp[*,X3E];done)|(simp only[XD,X3E];(repeat' split)<;>first|rfl|(exfalso;omega)|simp_all)) (by simp))
 (try simp only[BN]at h2);refine X3 ?_;exact(Xl (fun h=>⟨.inr rfl,h⟩) _ (by simp[*];rfl) (by first|rfl|(simp[*,X3E];done)|(simp only[XD,X3E];(repeat' split)<;>first|rfl|(exfalso;omega)|simp_all)) (by simp))
def Z4 (o:Int):Int:=if o=0∨o=24 then 0 else if o=6∨o=7 then 1 else if 8≤o∧o≤22 then 2 else if o=23 then 3 else if o=25 then -2 else -1
theorem X7l (o:Int) (d:Nat):Con Tryz.prog 128 true [li o] (.v (li (Z4 o))) none d:=by
 refine X5 Tryz.func128 ?_;simp only[Tryz.f128];refine X3 ?_;refine X1<|X1<|X2 ?_;refine X4<|(XV [3] (fun(z:Bool)=>[(4,.v (lb z))]) (fun(z:Bool)=>[]) (fun(z:Bool)=>z=decide (o=0∨o=24)) ?_ ?_)
 ·
  refine X3 ?_;refine(X7 rfl (fun h4=>Xb ?_) (fun h4=>?_))
  · (try simp only[BN]at h4);exact⟨decide (o=0∨o=24),rfl,X6 (fun n=>n) []⟩
  (try simp only[BN]at h4);refine X2 ?_;exact⟨decide (o=0∨o=24),rfl,X6 (fun n=>n) []⟩
 rintro _ rfl;simp only[upS,X8,Xw]
 try simp only[X8,KN,Nat.reduceBEq,if_true,if_false,ins,Nat.reduceLT]
 refine(X7 rfl (fun h8=>?_) (fun h8=>?_))
 · (try simp only[BN]at h8);refine X3 ?_;exact(Xl (fun h=>⟨.inr rfl,h⟩) _ (by simp[*];rfl) (by first|rfl|(simp[*,Z4];done)|(simp only[XD,Z4];(repeat' split)<;>first|rfl|(exfalso;omega)|simp_all)) (by simp))
 (try simp only[BN]at h8);refine(XV [3] (fun(z:Bool)=>[(7,.v (lb z))]) (fun(z:Bool)=>[]) (fun(z:Bool)=>z=decide (o=6∨o=7)) ?_ ?_)
 ·
  refine X3 ?_;refine(X7 rfl (fun h13=>Xb ?_) (fun h13=>?_))
  · (try simp only[BN]at h13);exact⟨decide (o=6∨o=7),rfl,X6 (fun n=>n) []⟩
  (try simp only[BN]at h13);refine X2 ?_;exact⟨decide (o=6∨o=7),rfl,X6 (fun n=>n) []⟩
 rintro _ rfl;simp only[upS,X8,Xw]
 try simp only[X8,KN,Nat.reduceBEq,if_true,if_false,ins,Nat.reduceLT]
 refine(X7 rfl (fun h17=>?_) (fun h17=>?_))
 · (try simp only[BN]at h17);refine X3 ?_;exact(Xl (fun h=>⟨.inr rfl,h⟩) _ (by simp[*];rfl) (by first|rfl|(simp[*,Z4];done)|(simp only[XD,Z4];(repeat' split)<;>first|rfl|(exfalso;omega)|simp_all)) (by simp))
 (try simp only[BN]at h17);refine(XV [3] (fun(z:Bool)=>[(10,.v (lb z))]) (fun(z:Bool)=>[]) (fun(z:Bool)=>z=decide (8≤o∧o≤22)) ?_ ?_)
 ·
  refine X3 ?_;refine(X7 rfl (fun h22=>Xb ?_) (fun h22=>?_))
  · (try simp only[BN]at h22);exact⟨decide (8≤o∧o≤22),rfl,X6 (fun n=>n) []⟩
  (try simp only[BN]at h22);refine X3 ?_;refine(X7 rfl (fun h25=>Xb ?_) (fun h25=>?_))
  · (try simp only[BN]at h25);exact⟨decide (8≤o∧o≤22),rfl,X6 (fun n=>n) []⟩
  (try simp only[BN]at h25);refine X3 ?_;refine(X7 rfl (fun h28=>Xb ?_) (fun h28=>?_))
  · (try simp only[BN]at h28);exact⟨decide (8≤o∧o≤22),rfl,X6 (fun n=>n) []⟩
  (try simp only[BN]at h28);refine X3 ?_;refine(X7 rfl (fun h31=>Xb ?_) (fun h31=>?_))
  · (try simp only[BN]at h31);exact⟨decide (8≤o∧o≤22),rfl,X6 (fun n=>n) []⟩
  (try simp only[BN]at h31);refine X3 ?_;refine(X7 rfl (fun h34=>Xb ?_) (fun h34=>?_))
  · (try simp only[BN]at h34);exact⟨decide (8≤o∧o≤22),rfl,X6 (fun n=>n) []⟩
  (try simp only[BN]at h34);refine X3 ?_;refine(X7 rfl (fun h37=>Xb ?_) (fun h37=>?_))
  · (try simp only[BN]at h37);exact⟨decide (8≤o∧o≤22),rfl,X6 (fun n=>n) []⟩
  (try simp only[BN]at h37);refine X3 ?_;refine(X7 rfl (fun h40=>Xb ?_) (fun h40=>?_))
  · (try simp only[BN]at h40);exact⟨decide (8≤o∧o≤22),rfl,X6 (fun n=>n) []⟩
  (try simp only[BN]at h40);refine X3 ?_;refine(X7 rfl (fun h43=>Xb ?_) (fun h43=>?_))
  · (try simp only[BN]at h43);exact⟨decide (8≤o∧o≤22),rfl,X6 (fun n=>n) []⟩
  (try simp only[BN]at h43);refine X3 ?_;refine(X7 rfl (fun h46=>Xb ?_) (fun h46=>?_))
  · (try simp only[BN]at h46);exact⟨decide (8≤o∧o≤22),rfl,X6 (fun n=>n) []⟩
  (try simp only[BN]at h46);refine X3 ?_;refine(X7 rfl (fun h49=>Xb ?_) (fun h49=>?_))
  · (try simp only[BN]at h49);exact⟨decide (8≤o∧o≤22),rfl,X6 (fun n=>n) []⟩
  (try simp only[BN]at h49);refine X3 ?_;refine(X7 rfl (fun h52=>Xb ?_) (fun h52=>?_))
  · (try simp only[BN]at h52);exact⟨decide (8≤o∧o≤22),rfl,X6 (fun n=>n) []⟩
  (try simp only[BN]at h52);refine X3 ?_;refine(X7 rfl (fun h55=>Xb ?_) (fun h55=>?_))
  · (try simp only[BN]at h55);exact⟨decide (8≤o∧o≤22),rfl,X6 (fun n=>n) []⟩
  (try simp only[BN]at h55);refine X3 ?_;refine(X7 rfl (fun h58=>Xb ?_) (fun h58=>?_))
  · (try simp only[BN]at h58);exact⟨decide (8≤o∧o≤22),rfl,X6 (fun n=>n) []⟩
  (try simp only[BN]at h58);refine X3 ?_;refine(X7 rfl (fun h61=>Xb ?_) (fun h61=>?_))
  · (try simp only[BN]at h61);exact⟨decide (8≤o∧o≤22),rfl,X6 (fun n=>n) []⟩
  (try simp only[BN]at h61);refine X2 ?_;have hz:decide (o=22)=(decide (8≤o)&&decide (o≤22)):=by rw[←Bool.decide_and,decide_eq_decide];omega
  exact⟨decide (8≤o∧o≤22),rfl,X6 (fun n=>n) []⟩
 rintro _ rfl;simp only[upS,X8,Xw]
 try simp only[X8,KN,Nat.reduceBEq,if_true,if_false,ins,Nat.reduceLT]
 refine(X7 rfl (fun h65=>?_) (fun h65=>?_))
 · (try simp only[BN]at h65);refine X3 ?_;exact(Xl (fun h=>⟨.inr rfl,h⟩) _ (by simp[*];rfl) (by first|rfl|(simp[*,Z4];done)|(simp only[XD,Z4];(repeat' split)<;>first|rfl|(exfalso;omega)|simp_all)) (by simp))
 (try simp only[BN]at h65);refine X3 ?_;refine(X7 rfl (fun h69=>?_) (fun h69=>?_))
 · (try simp only[BN]at h69);refine X3 ?_;exact(Xl (fun h=>⟨.inr rfl,h⟩) _ (by simp[*];rfl) (by first|rfl|(simp[*,Z4];done)|(simp only[XD,Z4];(repeat' split)<;>first|rfl|(exfalso;omega)|simp_all)) (by simp))
 (try simp only[BN]at h69);refine X3 ?_;refine(Xa rfl (fun h73=>?_) fun h73=>?_)
 · (try simp only[BN]at h73);refine X3 ?_;exact(Xl (fun h=>⟨.inr rfl,h⟩) _ (by simp[*];rfl) (by first|rfl|(simp[*,Z4];done)|(simp only[XD,Z4];(repeat' split)<;>first|rfl|(exfalso;omega)|simp_all)) (by simp))
 (try simp only[BN]at h73);refine X3 ?_;exact(Xl (fun h=>⟨.inr rfl,h⟩) _ (by simp[*];rfl) (by first|rfl|(simp[*,Z4];done)|(simp only[XD,Z4];(repeat' split)<;>first|rfl|(exfalso;omega)|simp_all)) (by simp))
end Go.Proofs.YtppjennamodfdaaGreat

namespace Go.Proofs.YtppjennamodfdaaGreat
open Go Go.Hl
theorem kids_eq (o:Int) (len:Nat):(!decide (Z4 o=-1)&&((!decide (0≤Z4 o)||decide ((len:Int)=Z4 o))&&(!decide (Z4 o=-2)||(!decide ((len:Int)<2)&& !decide (33<(len:Int))))))=(!decide ((Q8 o).1<0)&&(!decide ((len:Int)<(Q8 o).1)&& !decide ((Q8 o).2<(len:Int)))):=by
 unfold Z4 Q8
 (repeat' split)<;>simp<;>(try omega)
 all_goals(rw[Bool.eq_iff_iff];simp only[Bool.and_eq_true,Bool.or_eq_true,Bool.not_eq_true',decide_eq_true_eq,decide_eq_false_iff_not];omega)
theorem XcA (vars:List Vr) (inp:Bool) (hv:vars.length≤1000000000) (t:Tm):t.nodes≤1000000000→∀d:Nat,
  Con Tryz.prog 96 true [lV vars,aT t,lb inp] (.v (lb (QL vars inp t))) none d:=by
 induction t using Tm.ind with
 |h o n ks ih=>
 intro hn d;simp only[Tm.nodes]at hn;have hlen:=Wg ks;obtain⟨res,hres⟩:∃r,QL vars inp (.mk o n ks)=r:=⟨_,rfl⟩;rw[hres];simp only[QL]at hres;have ih':∀t∈ks,∀d,Con Tryz.prog 96 true [lV vars,aT t,lb inp] (.v (lb (QL vars inp t))) none d:=fun t ht d=>ih t ht (by have:=X27 ht;omega) d;clear ih;have hke:=kids_eq o ks.length;refine X5 Tryz.func96 ?_;simp only[Tryz.f96];simp only[aT,Tm.enc];refine X3 ?_;refine Xj [⟨true,.v (li (Z4 o)),none⟩] ?_ ?_
 · first|exact X7l o _|exact trivial|simpa[*]using X7l o _
 refine X1<|X1<|X2 ?_;refine(Xa rfl (fun h3=>?_) fun h3=>?_)
 · try simp only[BN]at h3
   have hz:Q9 vars inp o n ks.length=false:=by
    unfold Q9;rw[←hke,Bool.and_eq_false_iff];refine .inl ?_;simp only[Bool.and_eq_false_iff,Bool.or_eq_false_iff,Bool.not_eq_false',decide_eq_true_eq,decide_eq_false_iff_not];omega
   rw[hz,Bool.false_and]at hres;refine X3 ?_;exact(Xl (fun h=>⟨.inr rfl,h⟩) _ (by simp[*];rfl) (by first|rfl|simp[*]) (by simp))
 try simp only[BN]at h3
 have hz:(!decide ((Q8 o).1<0)&&(!decide ((ks.length:Int)<(Q8 o).1)&& !decide ((Q8 o).2<(ks.length:Int))))=true:=by
  rw[←hke];simp only[Bool.and_eq_true,Bool.or_eq_true,Bool.not_eq_true',decide_eq_false_iff_not,decide_eq_true_eq];omega
 clear hke;refine(XV [0,2,4] (fun(z:Unit)=>[]) (fun(z:Unit)=>[(4,.box [.c (iC o),.c (iC n),.c (.sl 3 (Xo ks))])]) (fun(z:Unit)=>Q9 vars inp o n ks.length=true) ?_ ?_)
 ·
  refine X3 ?_;refine(X7 rfl (fun h8=>?_) (fun h8=>?_))
  · (try simp only[BN]at h8);by_cases hn0:0≤n
    · by_cases hn3:n<vars.length
      · obtain⟨v,hv1⟩:=X3e ⟨hn0,hn3⟩;have hn1:¬(vars.length:Int)≤n:=by omega
        have hn2:¬n<0:=by omega
        clear hn3;refine X3 ?_;refine(Xa rfl (fun h10=>?_) fun h10=>?_)
        · try simp only[BN]at h10
          have hz3:Q9 vars inp o n ks.length=false:=by
           unfold Q9 X03;rw[hz,Bool.true_and,if_neg (by omega),if_pos h8,hv1];simp[h10]
          rw[hz3,Bool.false_and]at hres;refine X3 ?_;exact(Xl (fun h=>⟨.inr rfl,h⟩) _ (by simp[*];rfl) (by first|rfl|simp[*]) (by simp))
        try simp only[BN]at h10
        exact⟨(),by
         unfold Q9 X03;rw[hz,Bool.true_and,if_neg (by omega),if_pos h8,hv1];simp only[Bool.and_eq_true,Bool.not_eq_true',Bool.and_eq_false_iff,decide_eq_true_eq,decide_eq_false_iff_not]
         exact⟨hn0,h10⟩,X6 (fun n=>n) []⟩
      cases inp
      · have hv1:=X0T hn0 hn3;have hn1:(vars.length:Int)≤n:=by omega
        have hn2:¬n<0:=by omega
        have hz2:∀i,X03 vars i n=false:=by intro i;simp[X03,hv1]
        clear hn3;refine X3 ?_;refine(Xa rfl (fun h10=>?_) fun h10=>?_)
        · try simp only[BN]at h10
          have hz3:∀i,Q9 vars i o n ks.length=false:=by
           intro i;unfold Q9;rw[hz,Bool.true_and,if_neg (by omega),if_pos h8,hz2]
          rw[hz3,Bool.false_and]at hres;refine X3 ?_;exact(Xl (fun h=>⟨.inr rfl,h⟩) _ (by simp[*];rfl) (by first|rfl|simp[*]) (by simp))
        exact absurd h10 (by simp)
      have hv1:=X0T hn0 hn3;have hn1:(vars.length:Int)≤n:=by omega
      have hn2:¬n<0:=by omega
      have hz2:∀i,X03 vars i n=false:=by intro i;simp[X03,hv1]
      clear hn3;refine X3 ?_;refine(Xa rfl (fun h10=>?_) fun h10=>?_)
      · try simp only[BN]at h10
        have hz3:∀i,Q9 vars i o n ks.length=false:=by
         intro i;unfold Q9;rw[hz,Bool.true_and,if_neg (by omega),if_pos h8,hz2]
        rw[hz3,Bool.false_and]at hres;refine X3 ?_;exact(Xl (fun h=>⟨.inr rfl,h⟩) _ (by simp[*];rfl) (by first|rfl|simp[*]) (by simp))
      exact absurd h10 (by simp)
    cases inp
    · have hn2:n<0:=by omega
      have hz2:∀i,X03 vars i n=false:=by intro i;simp[X03,hn0]
      refine X3 ?_;refine(Xa rfl (fun h10=>?_) fun h10=>?_)
      · try simp only[BN]at h10
        have hz3:∀i,Q9 vars i o n ks.length=false:=by
         intro i;unfold Q9;rw[hz,Bool.true_and,if_neg (by omega),if_pos h8,hz2]
        rw[hz3,Bool.false_and]at hres;refine X3 ?_;exact(Xl (fun h=>⟨.inr rfl,h⟩) _ (by simp[*];rfl) (by first|rfl|simp[*]) (by simp))
      exact absurd h10 (by simp)
    have hn2:n<0:=by omega
    have hz2:∀i,X03 vars i n=false:=by intro i;simp[X03,hn0]
    refine X3 ?_;refine(Xa rfl (fun h10=>?_) fun h10=>?_)
    · try simp only[BN]at h10
      have hz3:∀i,Q9 vars i o n ks.length=false:=by
       intro i;unfold Q9;rw[hz,Bool.true_and,if_neg (by omega),if_pos h8,hz2]
      rw[hz3,Bool.false_and]at hres;refine X3 ?_;exact(Xl (fun h=>⟨.inr rfl,h⟩) _ (by simp[*];rfl) (by first|rfl|simp[*]) (by simp))
    exact absurd h10 (by simp)
  (try simp only[BN]at h8);refine X3 ?_;refine(Xa rfl (fun h15=>?_) fun h15=>?_)
  · try simp only[BN]at h15
    have hz3:Q9 vars inp o n ks.length=false:=by
     unfold Q9;rw[hz,Bool.true_and,if_neg (by omega),if_neg h8];simp only[decide_eq_false_iff_not];omega
    rw[hz3,Bool.false_and]at hres;refine X3 ?_;exact(Xl (fun h=>⟨.inr rfl,h⟩) _ (by simp[*];rfl) (by first|rfl|simp[*]) (by simp))
  try simp only[BN]at h15
  exact⟨(),by
   unfold Q9;rw[hz,Bool.true_and];split
   · rfl
   simp only[decide_eq_true_eq]
   omega,X6 (fun n=>n) []⟩
 rintro z hz;simp only[upS,X8,Xw]
 try simp only[X8,KN,Nat.reduceBEq,if_true,if_false,ins,Nat.reduceLT]
 rw[hz,Bool.true_and]at hres;refine X1<|X1<|X2 ?_;refine X4<|(Xf [0,2,4] (fun(x:Nat)=>[(8,.v (li x))]) (fun x=>[(4,.box [.c (iC o),.c (iC n),.c (.sl 3 (Xo ks))])]) (fun x=>x≤ks.length∧Zf vars inp (ks.drop x)=res) (fun x=>ks.length - x) (0:Nat) ⟨Nat.zero_le _,hres⟩ ?_ ?_)
 · exact X6 (fun n=>n) []
 rintro k ⟨hk,hJ⟩;simp only[upS,X8,Xw]
 try simp only[X8,KN,Nat.reduceBEq,if_true,if_false,ins,Nat.reduceLT]
 refine X1<|X1<|X2 ?_;refine(X7 rfl (fun h22=>Xb ?_) (fun h22=>?_))
 · (try simp only[BN]at h22);have hlt:k<ks.length:=by omega
   obtain⟨⟨eo,en,ek⟩,he,hd⟩:=Xs hlt;have he':=Wd he;simp only[Tm.enc]at he';have hw1:=XA hlt (by omega);rw[hd]at hJ;simp only[Zf]at hJ;have hk1:k+1≤ks.length:=hlt;have hmem:Tm.mk eo en ek∈ks:=List.mem_of_getElem? he;clear hlt h22;refine X1<|X4<|X1<|(Xm [⟨true,.v (lb (QL vars inp (.mk eo en ek))),none⟩] ?_ ?_)
   · first|exact ih' _ hmem _|exact trivial|simpa[*]using ih' _ hmem _
   refine(Xa rfl (fun h24=>?_) fun h24=>?_)
   · (try simp only[BN]at h24);rw[h24,Bool.false_and]at hJ;subst hJ;refine X3 ?_;exact(Xl (fun h=>⟨.inr rfl,h⟩) _ (by simp[*];rfl) (by first|rfl|simp[*]) (by simp))
   (try simp only[BN]at h24);rw[h24,Bool.true_and]at hJ;refine X2 ?_;exact⟨k+1,⟨hk1,hJ⟩,by omega,X6 (fun n=>n) []⟩
 (try simp only[BN]at h22);have hkl:k=ks.length:=by omega
 subst hkl;rw[List.drop_length]at hJ;simp only[Zf]at hJ;subst hJ;refine(Xi ?_);refine X3 ?_;exact(Xl (fun h=>⟨.inr rfl,h⟩) _ (by simp[*];rfl) (by first|rfl|simp[*]) (by simp))
end Go.Proofs.YtppjennamodfdaaGreat
