/- Part 2: contracts of functions of the program and of the reference, and plain facts about what they compute; used by the proof of the claimed statement. Conditions: as each theorem states. -/
import Derived.Test.YtppjennamodfdaaGreatK1
set_option linter.unusedSimpArgs false
set_option linter.unusedVariables false
set_option linter.unnecessarySimpa false
set_option maxRecDepth 100000
set_option maxHeartbeats 2000000
namespace Go.Proofs.YtppjennamodfdaaGreat
open Go Go.Hl
mutual
def Tm.nodes:Tm→Nat
 | .mk _ _ ks=>1+Qp ks
def Qp:List Tm→Nat
 |[]=>0
 |t::l=>t.nodes+Qp l
end
mutual
def St.nodes:St→Nat
 | .mk _ _ _ _ t a b bs=>1+t.nodes+Xj a+Xj b
def Xj:List St→Nat
 |[]=>0
 |s::l=>s.nodes+Xj l
end
theorem X7m (t:Tm):1≤t.nodes:=by cases t;simp[Tm.nodes]
theorem XaI (t:St):1≤t.nodes:=by cases t;simp[St.nodes];omega
theorem W5:∀l:List Tm,l.length≤Qp l
 |[]=>by simp[Qp]
 |t::l=>by have:=W5 l;have:=X7m t;simp only[Qp,List.length_cons];omega
theorem Q5:∀l:List St,l.length≤Xj l
 |[]=>by simp[Xj]
 |t::l=>by have:=Q5 l;have:=XaI t;simp only[Xj,List.length_cons];omega
mutual
def mTm:Tm→Int→Int×Bool→Int×Bool
 | .mk _ _ ks,dep,s=>if((s.2||decide (12<dep))||decide (1024<s.1+1))=true then(s.1+1,s.2||decide (12<dep))else X2O ks (dep+1) (s.1+1,s.2||decide (12<dep))
def X2O:List Tm→Int→Int×Bool→Int×Bool
 |[],_,s=>s
 |t::l,dep,s=>X2O l dep (mTm t dep s)
end
mutual
theorem X1a:∀(t:Tm) (dep:Int) (s:Int×Bool),s.1≤(mTm t dep s).1∧(mTm t dep s).1≤s.1+t.nodes
 | .mk o n ks,dep,s=>by
   have:=Xb3 ks (dep+1) (s.1+1,s.2||decide (12<dep));simp only[mTm,Tm.nodes];split
   · simp only;omega
   simp only at this;omega
theorem Xb3:∀(l:List Tm) (dep:Int) (s:Int×Bool),s.1≤(X2O l dep s).1∧(X2O l dep s).1≤s.1+Qp l
 |[],dep,s=>by simp[X2O,Qp]
 | t::l,dep,s=>by
   have h1:=X1a t dep s;have h2:=Xb3 l dep (mTm t dep s);simp only[X2O,Qp];omega
end
theorem X6J (t:Tm):∀(dep c:Int) (b:Bool),0≤dep→0≤c→c+t.nodes≤1000000000→
  X9G Tryz.prog 163 [iC c,bC b] [aT t,li dep] (.tup []) [iC (mTm t dep (c,b)).1,bC (mTm t dep (c,b)).2]:=by
 induction t using Tm.ind with
 |h o n ks ih=>
 intro dep c b hdep hc hn;simp only[Tm.nodes]at hn;obtain⟨res,hres⟩:∃r,mTm (.mk o n ks) dep (c,b)=r:=⟨_,rfl⟩;rw[hres];simp only[mTm]at hres;have hlen:=W5 ks;have hw:IntKind.i64.wrap (c+1)=c+1:=Xa (by omega) (by omega);refine X3C Tryz.func163 rfl (by kernel_rfl) (Nat.le_of_ble_eq_true rfl) ?_;simp only[Tryz.f163,aT,Tm.enc];refine X2 ?_;refine X2 ?_;refine X2 ?_;refine X0<|X0<|(Xm [⟨true,.v (lb ((b||decide (12<dep))||decide (1024<c+1))),none⟩] ?_ ?_)
 · first|exact Z6 _ _ _|exact trivial|simpa[*]using Z6 _ _ _
 refine(Xc rfl (fun h4=>?_) fun h4=>?_)
 · (try simp only[BN]at h4);rw[if_pos (by simpa using h4)]at hres;subst hres;exact XR (⟨.inr rfl,_,le_refl _,⟨_,by simp[*];rfl,by simp[XK]⟩,by simp[*]⟩)
 (try simp only[BN]at h4);rw[if_neg (by simpa using h4)]at hres;have hdep2:dep≤12:=by omega
 have hwd:IntKind.i64.wrap (dep+1)=dep+1:=Xa (by omega) (by omega);refine X2 ?_;refine X3<|(Xb [0,2,29,30] (fun(x:Nat×Int×Bool)=>[(31,.v (li x.1))]) (fun x=>[(1000000,.box [.c (iC x.2.1),.c (bC x.2.2)])]) (fun x=>x.1≤ks.length∧X2O (ks.drop x.1) (dep+1) x.2=res∧0≤x.2.1∧x.2.1+Qp (ks.drop x.1)≤1000000000) (fun x=>ks.length - x.1) (0,c+1,b||decide (12<dep)) ⟨Nat.zero_le _,hres,by simp only;omega,by simp only[List.drop_zero];omega⟩ ?_ ?_)
 · exact X4 (fun n=>n) []
 rintro⟨k,m,q⟩ ⟨hk,hJ,hm,hb⟩;simp only[upS,X6,Xw]
 try simp only[X6,KN,Nat.reduceBEq,if_true,if_false,ins,Nat.reduceLT]
 simp only at hk hJ hm hb;refine X2 ?_;refine X0<|(X7 rfl (fun h9=>X9 ?_) (fun h9=>?_))
 · (try simp only[BN]at h9);have hlt:k<ks.length:=by omega
   obtain⟨⟨eo,en,ek⟩,he,hd⟩:=Xo hlt;have he':=Wn he;simp only[Tm.enc]at he';have hw1:=Xy hlt (by omega);rw[hd]at hJ hb;simp only[X2O,Qp]at hJ hb;have hk1:k+1≤ks.length:=hlt;have hmem:Tm.mk eo en ek∈ks:=List.mem_of_getElem? he;have hle:=X1a (.mk eo en ek) (dep+1) (m,q);clear hlt h9;refine X0<|X3<|X0<|X1 ?_;refine(X0C 4 (.tup []) ([iC (mTm (.mk eo en ek) (dep+1) (m,q)).1,bC (mTm (.mk eo en ek) (dep+1) (m,q)).2]) rfl (by simp[*];rfl) (by simp[ioOf, *];first|exact⟨rfl,rfl,rfl,rfl,rfl⟩|exact⟨rfl,rfl,rfl,rfl⟩|exact⟨rfl,rfl,rfl⟩|exact⟨rfl,rfl⟩|rfl) (ih _ hmem (dep+1) m q (by omega) hm (by omega)) (by simp) (by simp[*];rfl) ?_);refine X1 ?_;exact⟨(k+1,mTm (.mk eo en ek) (dep+1) (m,q)),⟨hk1,hJ,by simp only at hle⊢;omega,by simp only at hle⊢;omega⟩,by simp only;omega,X4 (fun n=>n) []⟩
 (try simp only[BN]at h9);have hkl:k=ks.length:=by omega
 subst hkl;rw[List.drop_length]at hJ;simp only[X2O]at hJ;subst hJ;refine(Xf ?_);exact(⟨.inl rfl,_,le_refl _,⟨_,by simp[*];rfl,by simp[XK]⟩,by simp[*]⟩)
end Go.Proofs.YtppjennamodfdaaGreat

namespace Go.Proofs.YtppjennamodfdaaGreat
open Go Go.Hl
def X1h (k:List (Int×Int)):List (List CD):=k.map fun p=>[iC p.1,iC p.2]
@[simp] theorem len_encP (k:List (Int×Int)):(X1h k).length=k.length:=by simp[X1h]
@[simp] theorem get_encP (k:List (Int×Int)) (i:Nat):(X1h k)[i]? =k[i]?.map fun p=>[iC p.1,iC p.2]:=by simp[X1h]
@[simp] theorem encP_nil:X1h []=[]:=rfl
abbrev aP (p:Int×Int):TV:=.agg [.c (iC p.1),.c (iC p.2)]
def mn (a b:Int):Int:=if b<a then b else a
def mx (a b:Int):Int:=if a<b then b else a
def Zn (p q:Int×Int):Int×Int:=(mn p.1 q.1,mx p.2 q.2)
def X2i:List (Int×Int)→Int×Int→Int×Int
 |[],p=>p
 |q::l,p=>X2i l (Zn p q)
def mulP (a b:Int×Int):Int×Int:=Zn (Zn (Zn (a.1*b.1,a.1*b.1) (a.1*b.2,a.1*b.2)) (a.2*b.1,a.2*b.1)) (a.2*b.2,a.2*b.2)
def bnd (p:Int×Int):Prop:=-1048576≤p.1∧p.1≤p.2∧p.2≤1048576
theorem X31 (p q:Int×Int) (d:Nat):Con Tryz.prog 203 true [aP p,aP q] (.v (aP (Zn p q))) none d:=by
 refine X5 Tryz.func203 ?_;simp only[Tryz.f203];refine X2 ?_;refine X2 ?_;exact(Xk (fun h=>⟨.inr rfl,h⟩) _ (by simp[*];rfl) (by simp[XK,Zn,mn,mx]) (by simp))
theorem X5e {x y:Int} (hx:-1048576≤x∧x≤1048576) (hy:-1048576≤y∧y≤1048576):-1099511627776≤x*y∧x*y≤1099511627776:=by
 have h1:x.natAbs≤1048576:=by omega
 have h2:y.natAbs≤1048576:=by omega
 have h3:=Nat.mul_le_mul h1 h2;rw[←Int.natAbs_mul]at h3;omega
theorem X35 (x y:Int) (hx:-1048576≤x∧x≤1048576) (hy:-1048576≤y∧y≤1048576) (d:Nat):Con Tryz.prog 202 true [li x,li y] (.v (li (x*y))) none d:=by
 have hm:=X5e hx hy;have hw:IntKind.i64.wrap (x*y)=x*y:=Xa (by omega) (by omega);refine X5 Tryz.func202 ?_;simp only[Tryz.f202];refine X2 ?_;refine X2 ?_;exact Xe
def X9O:List Int→Int×Int→Int×Int
 |[],p=>p
 |q::l,p=>X9O l (Zn p (q,q))
theorem X4C (a b:Int×Int) (ha:bnd a) (hb:bnd b) (d:Nat):Con Tryz.prog 201 true [aP a,aP b,.one (.fn 202 [])] (.v (aP (mulP a b))) none d:=by
 obtain⟨a1,a2⟩:=a;obtain⟨b1,b2⟩:=b;simp only[bnd]at ha hb;refine X5 Tryz.func201 ?_;simp only[Tryz.f201];obtain⟨L,hL⟩:∃L,L=[a1*b2,a2*b1,a2*b2]:=⟨_,rfl⟩;have hlen:L.length=3:=by rw[hL];rfl
 obtain⟨res,hres⟩:∃res,mulP (a1,a2) (b1,b2)=res:=⟨_,rfl⟩;rw[hres];have hres2:X9O L (a1*b1,a1*b1)=res:=by rw[←hres,hL];rfl
 clear hres;refine X2 ?_;refine Xh [⟨true,.v (li (a1*b1)),none⟩] ?_ ?_
 · first|exact X35 _ _ (by omega) (by omega) _|exact trivial|simpa[*]using X35 _ _ (by omega) (by omega) _
 refine X2 ?_;refine X0<|X0<|(Q7 [⟨true,.v (li (a1*b2)),none⟩,⟨true,.v (li (a2*b1)),none⟩,⟨true,.v (li (a2*b2)),none⟩] (by kernel_rfl) (by kernel_rfl) (by rfl) (by simp[*];first|exact⟨rfl,Iff.rfl⟩|exact⟨rfl,trivial⟩|rfl) ?_ ?_)
 · first|exact trivial|exact trivial|(repeat' first|exact trivial|exact X35 _ _ (by omega) (by omega) _|exact X35 _ _ (by omega) (by omega) _|exact X35 _ _ (by omega) (by omega) _|apply And.intro)
 refine X3<|(Xb [6,8,38,39] (fun(x:Nat×Int×Int)=>[(40,.v (li x.1))]) (fun x=>[(6,.box [.c (iC 0),.c (iC 0)]),(8,.box [.c (iC x.2.1),.c (iC x.2.2)]),(38,.row 3 1 (Xi L))]) (fun x=>x.1≤3∧X9O (L.drop x.1) x.2=res) (fun x=>3 - x.1) (0,a1*b1,a1*b1) ⟨Nat.zero_le _,hres2⟩ ?_ ?_)
 · exact Xu (fun n=>n) [] rfl (by simp[*,upS,X6]) (by simp[upS,Xi,hL]) (by simp[upS])
 rintro⟨k,m,q⟩ ⟨hk,hJ⟩;simp only[upS,X6,Xw]
 try simp only[X6,KN,Nat.reduceBEq,if_true,if_false,ins,Nat.reduceLT]
 simp only at hk hJ;clear hres2 hL;refine X2 ?_;refine X0<|(X7 rfl (fun h6=>X9 ?_) (fun h6=>?_))
 · (try simp only[BN]at h6);have hlt:k<L.length:=by omega
   obtain⟨e,he,hd⟩:=Xo hlt;have hw1:=Xy hlt (by omega);rw[hd]at hJ;simp only[X9O]at hJ;have hk1:k+1≤3:=by omega
   clear hlt h6;refine X0<|X3<|X0<|X1 ?_;refine(Xm [⟨true,.v (aP (Zn (m,q) (e,e))),none⟩] ?_ ?_)
   · first|exact X31 (m,q) (e,e) _|exact trivial|simpa[*]using X31 (m,q) (e,e) _
   refine X1 ?_;exact⟨(k+1,Zn (m,q) (e,e)),⟨hk1,hJ⟩,by simp only;omega,X4 (fun n=>n) []⟩
 (try simp only[BN]at h6);have hkl:k=L.length:=by omega
 rw[hkl,List.drop_length]at hJ;simp only[X9O]at hJ;refine(Xf ?_);refine X2 ?_;exact(Xk (fun h=>⟨.inr rfl,h⟩) _ (by simp[*];rfl) (by subst hJ;rfl) (by simp))
end Go.Proofs.YtppjennamodfdaaGreat

namespace Go.Proofs.YtppjennamodfdaaGreat
open Go Go.Hl
def X0k (vars:List Vr) (inp:Bool) (n:Int):Bool:=
 decide (0≤n)&&match vars[n.toNat]? with
  |some v=> !(inp&&decide (v.kind=0))
  |none=>false
def Qh (vars:List Vr) (inp:Bool) (o n:Int) (len:Nat):Bool:=
 (!decide ((Qm o).1<0)&&(!decide ((len:Int)<(Qm o).1)&& !decide ((Qm o).2<(len:Int))))&&(if o=0 then true else if o=24 then X0k vars inp n else decide (n=0))
mutual
def W3 (vars:List Vr) (inp:Bool):Tm→Bool
 | .mk o n ks=>Qh vars inp o n ks.length&&Zk vars inp ks
def Zk (vars:List Vr) (inp:Bool):List Tm→Bool
 |[]=>true
 |t::l=>W3 vars inp t&&Zk vars inp l
end
theorem ZW {vars:List Vr} {inp:Bool}:∀{l:List Tm},Zk vars inp l=true→∀t∈l,W3 vars inp t=true
 |[],_,t,ht=>by cases ht
 | a::l,h,t,ht=>by
   simp only[Zk,Bool.and_eq_true]at h;rcases List.mem_cons.1 ht with rfl|h1
   · exact h.1
   exact ZW h.2 t h1
theorem X3k {vars:List Vr} {n:Int}:(0≤n∧n<vars.length)→∃v,vars[n.toNat]? =some v:=by
 rintro⟨h1,h2⟩;have:n.toNat<vars.length:=by omega
 exact⟨vars[n.toNat],by simp[this]⟩
theorem X0P {vars:List Vr} {n:Int} (h1:0≤n) (h2:¬n<vars.length):vars[n.toNat]? =none:=by
 rw[List.getElem?_eq_none];omega
theorem Xcy (vars:List Vr) (inp:Bool) (hv:vars.length≤1000000000) (t:Tm):t.nodes≤1000000000→∀d:Nat,
  Con Tryz.prog 188 true [lV vars,aT t,lb inp] (.v (lb (W3 vars inp t))) none d:=by
 induction t using Tm.ind with
 |h o n ks ih=>
 intro hn d;simp only[Tm.nodes]at hn;have hlen:=W5 ks;obtain⟨res,hres⟩:∃r,W3 vars inp (.mk o n ks)=r:=⟨_,rfl⟩;rw[hres];simp only[W3]at hres
 have ih':∀t∈ks,∀d,Con Tryz.prog 188 true [lV vars,aT t,lb inp] (.v (lb (W3 vars inp t))) none d:=by
  intro t ht d;refine ih t ht ?_ d
  have:t.nodes≤Qp ks:=by
   clear hres ih hn hlen
   induction ks with
   |nil=>cases ht
   | cons a l ih=>
     simp only[Qp];rcases List.mem_cons.1 ht with rfl|h
     · omega
     have:=ih h;omega
  omega
 clear ih;refine X5 Tryz.func188 ?_;simp only[Tryz.f188];simp only[aT,Tm.enc];refine X2 ?_;refine Xh [⟨true,.tup [li (Qm o).1,li (Qm o).2],none⟩] ?_ ?_
 · first|exact X6A o _|exact trivial|simpa[*]using X6A o _
 refine X0<|X0<|X1 ?_;refine(Xc rfl (fun h3=>?_) fun h3=>?_)
 · try simp only[BN]at h3
   have hz:Qh vars inp o n ks.length=false:=by
    unfold Qh;rw[Bool.and_eq_false_iff];refine .inl ?_;simp only[Bool.and_eq_false_iff,Bool.not_eq_false',decide_eq_true_eq];omega
   rw[hz,Bool.false_and]at hres;refine X2 ?_;exact(Xk (fun h=>⟨.inr rfl,h⟩) _ (by simp[*];rfl) (by first|rfl|simp[*]) (by simp))
 try simp only[BN]at h3
 have hz:(!decide ((Qm o).1<0)&&(!decide ((ks.length:Int)<(Qm o).1)&& !decide ((Qm o).2<(ks.length:Int))))=true:=by
  simp only[Bool.and_eq_true,Bool.not_eq_true',decide_eq_false_iff_not];omega
 refine(XL [0,2,4] (fun(z:Unit)=>[]) (fun(z:Unit)=>[(4,.box [.c (iC o),.c (iC n),.c (.sl 3 (Xn ks))])]) (fun(z:Unit)=>Qh vars inp o n ks.length=true) ?_ ?_)
 ·
  refine X2 ?_;refine X3<|X0<|X1 ?_;refine(X7 rfl (fun h9=>X9 ?_) (fun h9=>?_))
  · (try simp only[BN]at h9);exact⟨(),by unfold Qh;rw[hz,Bool.true_and,if_pos h9],X4 (fun n=>n) []⟩
  (try simp only[BN]at h9);refine X2 ?_;refine(X7 rfl (fun h12=>?_) (fun h12=>?_))
  · (try simp only[BN]at h12);by_cases hn0:0≤n
    · by_cases hn3:n<vars.length
      · obtain⟨v,hv1⟩:=X3k ⟨hn0,hn3⟩;have hn1:¬(vars.length:Int)≤n:=by omega
        have hn2:¬n<0:=by omega
        clear hn3;refine X2 ?_;refine(Xc rfl (fun h14=>?_) fun h14=>?_)
        · try simp only[BN]at h14
          have hz3:Qh vars inp o n ks.length=false:=by
           unfold Qh X0k;rw[hz,Bool.true_and,if_neg h9,if_pos h12,hv1];simp[h14]
          rw[hz3,Bool.false_and]at hres;refine X2 ?_;exact(Xk (fun h=>⟨.inr rfl,h⟩) _ (by simp[*];rfl) (by first|rfl|simp[*]) (by simp))
        try simp only[BN]at h14
        exact⟨(),by
         unfold Qh X0k;rw[hz,Bool.true_and,if_neg h9,if_pos h12,hv1];simp only[Bool.and_eq_true,Bool.not_eq_true',Bool.and_eq_false_iff,decide_eq_true_eq,decide_eq_false_iff_not]
         exact⟨hn0,h14⟩,X4 (fun n=>n) []⟩
      cases inp
      · have hv1:=X0P hn0 hn3;have hn1:(vars.length:Int)≤n:=by omega
        have hn2:¬n<0:=by omega
        have hz2:∀i,X0k vars i n=false:=by intro i;simp[X0k,hv1]
        clear hn3;refine X2 ?_;refine(Xc rfl (fun h14=>?_) fun h14=>?_)
        · try simp only[BN]at h14
          have hz3:∀i,Qh vars i o n ks.length=false:=by
           intro i;unfold Qh;rw[hz,Bool.true_and,if_neg h9,if_pos h12,hz2]
          rw[hz3,Bool.false_and]at hres;refine X2 ?_;exact(Xk (fun h=>⟨.inr rfl,h⟩) _ (by simp[*];rfl) (by first|rfl|simp[*]) (by simp))
        exact absurd h14 (by simp)
      have hv1:=X0P hn0 hn3;have hn1:(vars.length:Int)≤n:=by omega
      have hn2:¬n<0:=by omega
      have hz2:∀i,X0k vars i n=false:=by intro i;simp[X0k,hv1]
      clear hn3;refine X2 ?_;refine(Xc rfl (fun h14=>?_) fun h14=>?_)
      · try simp only[BN]at h14
        have hz3:∀i,Qh vars i o n ks.length=false:=by
         intro i;unfold Qh;rw[hz,Bool.true_and,if_neg h9,if_pos h12,hz2]
        rw[hz3,Bool.false_and]at hres;refine X2 ?_;exact(Xk (fun h=>⟨.inr rfl,h⟩) _ (by simp[*];rfl) (by first|rfl|simp[*]) (by simp))
      exact absurd h14 (by simp)
    cases inp
    · have hn2:n<0:=by omega
      have hz2:∀i,X0k vars i n=false:=by intro i;simp[X0k,hn0]
      refine X2 ?_;refine(Xc rfl (fun h14=>?_) fun h14=>?_)
      · try simp only[BN]at h14
        have hz3:∀i,Qh vars i o n ks.length=false:=by
         intro i;unfold Qh;rw[hz,Bool.true_and,if_neg h9,if_pos h12,hz2]
        rw[hz3,Bool.false_and]at hres;refine X2 ?_;exact(Xk (fun h=>⟨.inr rfl,h⟩) _ (by simp[*];rfl) (by first|rfl|simp[*]) (by simp))
      exact absurd h14 (by simp)
    have hn2:n<0:=by omega
    have hz2:∀i,X0k vars i n=false:=by intro i;simp[X0k,hn0]
    refine X2 ?_;refine(Xc rfl (fun h14=>?_) fun h14=>?_)
    · try simp only[BN]at h14
      have hz3:∀i,Qh vars i o n ks.length=false:=by
       intro i;unfold Qh;rw[hz,Bool.true_and,if_neg h9,if_pos h12,hz2]
      rw[hz3,Bool.false_and]at hres;refine X2 ?_;exact(Xk (fun h=>⟨.inr rfl,h⟩) _ (by simp[*];rfl) (by first|rfl|simp[*]) (by simp))
    exact absurd h14 (by simp)
  (try simp only[BN]at h12);refine X2 ?_;refine(Xc rfl (fun h19=>?_) fun h19=>?_)
  · try simp only[BN]at h19
    have hz3:Qh vars inp o n ks.length=false:=by
     unfold Qh;rw[hz,Bool.true_and,if_neg h9,if_neg h12];simpa using h19
    rw[hz3,Bool.false_and]at hres;refine X2 ?_;exact(Xk (fun h=>⟨.inr rfl,h⟩) _ (by simp[*];rfl) (by first|rfl|simp[*]) (by simp))
  try simp only[BN]at h19
  exact⟨(),by
   unfold Qh;rw[hz,Bool.true_and,if_neg h9,if_neg h12]
   simpa using h19,X4 (fun n=>n) []⟩
 rintro z hz;simp only[upS,X6,Xw]
 try simp only[X6,KN,Nat.reduceBEq,if_true,if_false,ins,Nat.reduceLT]
 rw[hz,Bool.true_and]at hres;refine X0<|X0<|X1 ?_;refine X3<|(Xb [0,2,65,66] (fun(x:Nat)=>[(67,.v (li x))]) (fun x=>[]) (fun x=>x≤ks.length∧Zk vars inp (ks.drop x)=res) (fun x=>ks.length - x) (0:Nat) ⟨Nat.zero_le _,hres⟩ ?_ ?_)
 · exact X4 (fun n=>n) []
 rintro k ⟨hk,hJ⟩;simp only[upS,X6,Xw]
 try simp only[X6,KN,Nat.reduceBEq,if_true,if_false,ins,Nat.reduceLT]
 refine X2 ?_;refine X0<|(X7 rfl (fun h26=>X9 ?_) (fun h26=>?_))
 · (try simp only[BN]at h26);have hlt:k<ks.length:=by omega
   obtain⟨⟨eo,en,ek⟩,he,hd⟩:=Xo hlt;have he':=Wn he;simp only[Tm.enc]at he';have hw1:=Xy hlt (by omega);rw[hd]at hJ;simp only[Zk]at hJ;have hk1:k+1≤ks.length:=hlt;have hmem:Tm.mk eo en ek∈ks:=List.mem_of_getElem? he;clear hlt h26;refine X0<|X3<|X0<|X1 ?_;refine Xh [⟨true,.v (lb (W3 vars inp (.mk eo en ek))),none⟩] ?_ ?_
   · first|exact ih' _ hmem _|exact trivial|simpa[*]using ih' _ hmem _
   refine(Xc rfl (fun h29=>?_) fun h29=>?_)
   · (try simp only[BN]at h29);rw[h29,Bool.false_and]at hJ;subst hJ;refine X2 ?_;exact(Xk (fun h=>⟨.inr rfl,h⟩) _ (by simp[*];rfl) (by first|rfl|simp[*]) (by simp))
   (try simp only[BN]at h29);rw[h29,Bool.true_and]at hJ;refine X1 ?_;exact⟨k+1,⟨hk1,hJ⟩,by omega,X4 (fun n=>n) []⟩
 (try simp only[BN]at h26);have hkl:k=ks.length:=by omega
 subst hkl;rw[List.drop_length]at hJ;simp only[Zk]at hJ;subst hJ;refine(Xf ?_);refine X2 ?_;exact(Xk (fun h=>⟨.inr rfl,h⟩) _ (by simp[*];rfl) (by first|rfl|simp[*]) (by simp))
end Go.Proofs.YtppjennamodfdaaGreat

namespace Go.Proofs.YtppjennamodfdaaGreat
open Go Go.Hl
theorem takeM {α β:Type} (f:α→β) (l:List α):(l.map f).take l.length=l.map f:=by
 rw[List.take_of_length_le (by simp)]
def X1n (b:Int×Int):Int:=if b.1<0 then mn (b.1+1) 0 else 0
def X4X (b:Int×Int):Int:=if 0<b.2 then mx (b.2 - 1) 0 else 0
@[simp] def g2 (k:List (Int×Int)) (i:Nat):Int×Int:=k[i]?.getD ((0:Int),(0:Int))
def QB (vars:List Vr) (o n:Int) (k:List (Int×Int)):Int×Int:=
 if o=0 then(n,n)else if o=24 then(match vars[n.toNat]? with|some v=>(v.low,v.high)|none=>(0,0))
 else if o=6 then(-(g2 k 0).2,-(g2 k 0).1)
 else if o=8 then((g2 k 0).1+(g2 k 1).1,(g2 k 0).2+(g2 k 1).2)
 else if o=9 then((g2 k 0).1 - (g2 k 1).2,(g2 k 0).2 - (g2 k 1).1)
 else if o=10 then mulP (g2 k 0) (g2 k 1)
 else if o=11 then(if 0≤(g2 k 0).1∧0≤(g2 k 1).1 then(0,mx (g2 k 0).2 (-(g2 k 0).1))else(-(mx (g2 k 0).2 (-(g2 k 0).1)),mx (g2 k 0).2 (-(g2 k 0).1)))
 else if o=12 then(X1n (g2 k 1),X4X (g2 k 1))
 else if o=21 then(mn (g2 k 0).1 (g2 k 1).1,mn (g2 k 0).2 (g2 k 1).2)
 else if o=22 then(mx (g2 k 0).1 (g2 k 1).1,mx (g2 k 0).2 (g2 k 1).2)
 else if o=23∨o=25 then X2i (k.drop 2) (g2 k 1)else(0,1)
theorem kid {k:List (Int×Int)} (hk:∀p∈k,bnd p) {i:Nat} (h:i+1≤k.length):∃a1 a2,k[i]? =some (a1,a2)∧-1048576≤a1∧a1≤a2∧a2≤1048576:=by
 have:k[i]? =some k[i]:=by simp[show i<k.length from h]
 have h2:=hk k[i] (List.getElem_mem _);exact⟨k[i].1,k[i].2,this,h2⟩
theorem X3n {vars:List Vr} {inp:Bool} {o n:Int} {len:Nat} (h:Qh vars inp o n len=true):0≤(Qm o).1∧(Qm o).1≤len∧(len:Int)≤(Qm o).2:=by
 unfold Qh at h;simp only[Bool.and_eq_true,Bool.not_eq_true',decide_eq_false_iff_not]at h;omega
theorem X63 {vars:List Vr} {inp:Bool} {n:Int} {len:Nat} (h:Qh vars inp 24 n len=true):0≤n∧∃v,vars[n.toNat]? =some v∧(inp=true→v.kind≠0):=by
 unfold Qh X0k at h;simp only[Bool.and_eq_true,Int.reduceEq,if_false,if_true,decide_eq_true_eq]at h;obtain⟨_,h0,h⟩:=h;refine⟨h0,?_⟩;split at h
 · rename_i v hv;refine⟨v,hv,fun hi hk=>?_⟩;simp[hi,hk]at h
 cases h
theorem kids1 {o:Int} (h:o=6∨o=7):Qm o=(1,1):=by
 unfold Qm;rw[if_neg (by omega),if_pos h]
theorem kids2 {o:Int} (h:8≤o∧o≤22):Qm o=(2,2):=by
 unfold Qm;rw[if_neg (by omega),if_neg (by omega),if_pos h]
theorem kids3:Qm 23=(3,3):=by decide
theorem kids4:Qm 25=(2,33):=by decide
theorem X92 (vars:List Vr) (inp:Bool) (o n:Int) (K:CD) (k:List (Int×Int)) (hf:Qh vars inp o n k.length=true) (hk:∀p∈k,bnd p) (d:Nat):
  Con Tryz.prog 199 true [lV vars,.agg [.c (iC o),.c (iC n),.c K],.one (.c (.sl 2 (X1h k)))] (.v (aP (QB vars o n k))) none d:=by
 have har:=X3n hf;have hrf:o=24→0≤n∧∃v,vars[n.toNat]? =some v∧(inp=true→v.kind≠0):=fun h=>X63 (by rw[←h];exact hf);clear hf;have ar1:o=6→0+1≤k.length:=fun h=>by have:=kids1 (.inl h);rw[this]at har;simp only at har;omega
 have ar2:8≤o∧o≤22→0+1≤k.length∧1+1≤k.length:=fun h=>by have:=kids2 h;rw[this]at har;simp only at har;omega
 have ar3:o=23∨o=25→2≤k.length∧k.length≤33:=fun h=>by
  rcases h with h|h
  · have:=kids3;rw[h,this]at har;simp only at har;omega
  have:=kids4;rw[h,this]at har;simp only at har;omega
 clear har;refine X5 Tryz.func199 ?_;simp only[Tryz.f199];refine X2 ?_;refine X0<|X0<|X1 ?_;refine X3<|X0<|X1 ?_;refine(X7 rfl (fun h3=>?_) (fun h3=>?_))
 · (try simp only[BN]at h3);refine X2 ?_;exact(Xk (fun h=>⟨.inr rfl,h⟩) _ (by simp[*];rfl) (by first|rfl|(simp[*,QB];done)|(simp only[XK,QB];(repeat' split)<;>first|rfl|(exfalso;omega)|simp_all)) (by simp))
 (try simp only[BN]at h3);refine X2 ?_;refine(X7 rfl (fun h7=>?_) (fun h7=>?_))
 · (try simp only[BN]at h7);obtain⟨hn0,v,hv,_⟩:=hrf h7;clear hrf;refine X0<|(Q4 (by kernel_rfl) (by kernel_rfl) (by rfl) (by simp[*];rfl) ?_);exact(Xk (fun h=>⟨.inr rfl,h⟩) _ (by simp[*];rfl) (by first|rfl|(simp[*,QB];done)|(simp only[XK,QB];(repeat' split)<;>first|rfl|(exfalso;omega)|simp_all)) (by simp))
 (try simp only[BN]at h7);refine X2 ?_;refine(X7 rfl (fun h11=>?_) (fun h11=>?_))
 · (try simp only[BN]at h11);obtain⟨a1,a2,ha,hb1,hb2,hb3⟩:=kid hk (ar1 h11);have hw1:IntKind.i64.wrap (-a1)=-a1:=Xa (by omega) (by omega);have hw2:IntKind.i64.wrap (-a2)=-a2:=Xa (by omega) (by omega);clear ar1 ar2 ar3;refine X0<|(Q4 (by kernel_rfl) (by kernel_rfl) (by rfl) (by simp[*];rfl) ?_);exact(Xk (fun h=>⟨.inr rfl,h⟩) _ (by simp[*];rfl) (by first|rfl|(simp[*,QB];done)|(simp only[XK,QB];(repeat' split)<;>first|rfl|(exfalso;omega)|simp_all)) (by simp))
 (try simp only[BN]at h11);refine X2 ?_;refine(X7 rfl (fun h15=>?_) (fun h15=>?_))
 · (try simp only[BN]at h15);obtain⟨a1,a2,ha,hb1,hb2,hb3⟩:=kid hk (ar2 (by omega)).1;obtain⟨c1,c2,hc,hc1,hc2,hc3⟩:=kid hk (ar2 (by omega)).2;have hw1:IntKind.i64.wrap (a1+c1)=a1+c1:=Xa (by omega) (by omega);have hw2:IntKind.i64.wrap (a2+c2)=a2+c2:=Xa (by omega) (by omega);clear ar1 ar2 ar3;refine X0<|(Q4 (by kernel_rfl) (by kernel_rfl) (by rfl) (by simp[*];rfl) ?_);exact(Xk (fun h=>⟨.inr rfl,h⟩) _ (by simp[*];rfl) (by first|rfl|(simp[*,QB];done)|(simp only[XK,QB];(repeat' split)<;>first|rfl|(exfalso;omega)|simp_all)) (by simp))
 (try simp only[BN]at h15);refine X2 ?_;refine(X7 rfl (fun h19=>?_) (fun h19=>?_))
 · (try simp only[BN]at h19);obtain⟨a1,a2,ha,hb1,hb2,hb3⟩:=kid hk (ar2 (by omega)).1;obtain⟨c1,c2,hc,hc1,hc2,hc3⟩:=kid hk (ar2 (by omega)).2;have hw1:IntKind.i64.wrap (a1 - c2)=a1 - c2:=Xa (by omega) (by omega);have hw2:IntKind.i64.wrap (a2 - c1)=a2 - c1:=Xa (by omega) (by omega);clear ar1 ar2 ar3;refine X0<|(Q4 (by kernel_rfl) (by kernel_rfl) (by rfl) (by simp[*];rfl) ?_);exact(Xk (fun h=>⟨.inr rfl,h⟩) _ (by simp[*];rfl) (by first|rfl|(simp[*,QB];done)|(simp only[XK,QB];(repeat' split)<;>first|rfl|(exfalso;omega)|simp_all)) (by simp))
 (try simp only[BN]at h19);refine X2 ?_;refine(X7 rfl (fun h23=>?_) (fun h23=>?_))
 · (try simp only[BN]at h23);obtain⟨a1,a2,ha,hb1,hb2,hb3⟩:=kid hk (ar2 (by omega)).1;obtain⟨c1,c2,hc,hc1,hc2,hc3⟩:=kid hk (ar2 (by omega)).2;clear ar1 ar2 ar3;refine X0<|(Q7 [⟨true,.v (aP (mulP (a1,a2) (c1,c2))),none⟩] (by kernel_rfl) (by kernel_rfl) (by rfl) (by simp[*];first|exact⟨rfl,Iff.rfl⟩|exact⟨rfl,trivial⟩|rfl) ?_ ?_)
   · first|exact X4C (a1,a2) (c1,c2) ⟨hb1,hb2,hb3⟩ ⟨hc1,hc2,hc3⟩ _|exact trivial|simpa[*]using X4C (a1,a2) (c1,c2) ⟨hb1,hb2,hb3⟩ ⟨hc1,hc2,hc3⟩ _
   exact(Xk (fun h=>⟨.inr rfl,h⟩) _ (by simp[*];rfl) (by first|rfl|(simp[*,QB];done)|(simp only[XK,QB];(repeat' split)<;>first|rfl|(exfalso;omega)|simp_all)) (by simp))
 (try simp only[BN]at h23);refine X2 ?_;refine(X7 rfl (fun h27=>?_) (fun h27=>?_))
 · (try simp only[BN]at h27);obtain⟨a1,a2,ha,hb1,hb2,hb3⟩:=kid hk (ar2 (by omega)).1;obtain⟨c1,c2,hc,hc1,hc2,hc3⟩:=kid hk (ar2 (by omega)).2;have hw1:IntKind.i64.wrap (-a1)=-a1:=Xa (by omega) (by omega);have hm:-1048576≤mx a2 (-a1)∧mx a2 (-a1)≤1048576:=by unfold mx;split<;>omega
   have hw2:IntKind.i64.wrap (-(mx a2 (-a1)))=-(mx a2 (-a1)):=Xa (by omega) (by omega);have hmx:(if a2< -a1 then -a1 else a2)=mx a2 (-a1):=rfl;clear ar1 ar2 ar3;refine X0<|(Q4 (by kernel_rfl) (by kernel_rfl) (by rfl) (by simp[*];rfl) ?_);refine X0<|X0<|X1 ?_;refine(Xc rfl (fun h30=>?_) fun h30=>?_)
   · (try simp only[BN]at h30);refine X2 ?_;exact(Xk (fun h=>⟨.inr rfl,h⟩) _ (by simp[*];rfl) (by first|rfl|(simp[*,QB];done)|(simp only[XK,QB];(repeat' split)<;>first|rfl|(exfalso;omega)|simp_all)) (by simp))
   (try simp only[BN]at h30);have hng:¬(0≤a1∧0≤c1):=by omega
   refine X2 ?_;exact(Xk (fun h=>⟨.inr rfl,h⟩) _ (by simp[*];rfl) (by first|rfl|(simp[*,QB];done)|(simp only[XK,QB];(repeat' split)<;>first|rfl|(exfalso;omega)|simp_all)) (by simp))
 (try simp only[BN]at h27);refine X2 ?_;refine(X7 rfl (fun h36=>?_) (fun h36=>?_))
 · (try simp only[BN]at h36);obtain⟨c1,c2,hc,hc1,hc2,hc3⟩:=kid hk (ar2 (by omega)).2;have hw1:IntKind.i64.wrap (c1+1)=c1+1:=Xa (by omega) (by omega);have hw2:IntKind.i64.wrap (c2 - 1)=c2 - 1:=Xa (by omega) (by omega);have hmn:(if 0<c1+1 then 0 else c1+1)=mn (c1+1) 0:=rfl;have hmx:(if c2 - 1<0 then 0 else c2 - 1)=mx (c2 - 1) 0:=rfl;clear ar1 ar2 ar3;refine X2 ?_;refine(XL [2,6,8] (fun(z:Int)=>[]) (fun(z:Int)=>[(6,.box [.c (iC 0),.c (iC 0)]),(8,.box [.c (iC z),.c (iC 0)])]) (fun(z:Int)=>z=X1n (c1,c2)) ?_ ?_)
   ·
    refine X2 ?_;refine(Xc rfl (fun h40=>?_) fun h40=>?_)
    · (try simp only[BN]at h40);have hml:mn (c1+1) 0=X1n (c1,c2):=by simp only[X1n];rw[if_pos h40]
      refine X1 ?_;exact⟨X1n (c1,c2),rfl,X4 (fun n=>n) []⟩
    (try simp only[BN]at h40);have hml:(0:Int)=X1n (c1,c2):=by simp only[X1n];rw[if_neg h40]
    exact⟨X1n (c1,c2),rfl,X4 (fun n=>n) []⟩
   rintro _ rfl;simp only[upS,X6,Xw]
   try simp only[X6,KN,Nat.reduceBEq,if_true,if_false,ins,Nat.reduceLT]
   refine X0<|X0<|X1 ?_;refine(Xc rfl (fun h45=>?_) fun h45=>?_)
   · (try simp only[BN]at h45);have hmh:mx (c2 - 1) 0=X4X (c1,c2):=by simp only[X4X];rw[if_pos h45]
     refine X1 ?_;refine X2 ?_;exact(Xk (fun h=>⟨.inr rfl,h⟩) _ (by simp[*];rfl) (by first|rfl|(simp[*,QB];done)|(simp only[XK,QB];(repeat' split)<;>first|rfl|(exfalso;omega)|simp_all)) (by simp))
   (try simp only[BN]at h45);have hmh:X4X (c1,c2)=0:=by simp only[X4X];rw[if_neg h45]
   refine X2 ?_;exact(Xk (fun h=>⟨.inr rfl,h⟩) _ (by simp[*];rfl) (by first|rfl|(simp[*,QB];done)|(simp only[XK,QB];(repeat' split)<;>first|rfl|(exfalso;omega)|simp_all)) (by simp))
 (try simp only[BN]at h36);refine X2 ?_;refine(X7 rfl (fun h52=>?_) (fun h52=>?_))
 · (try simp only[BN]at h52);obtain⟨a1,a2,ha,hb1,hb2,hb3⟩:=kid hk (ar2 (by omega)).1;obtain⟨c1,c2,hc,hc1,hc2,hc3⟩:=kid hk (ar2 (by omega)).2;clear ar1 ar2 ar3;refine X0<|(Q4 (by kernel_rfl) (by kernel_rfl) (by rfl) (by simp[*];rfl) ?_);exact(Xk (fun h=>⟨.inr rfl,h⟩) _ (by simp[*];rfl) (by simp[*,QB,XK,mn]) (by simp))
 (try simp only[BN]at h52);refine X2 ?_;refine(X7 rfl (fun h56=>?_) (fun h56=>?_))
 · (try simp only[BN]at h56);obtain⟨a1,a2,ha,hb1,hb2,hb3⟩:=kid hk (ar2 (by omega)).1;obtain⟨c1,c2,hc,hc1,hc2,hc3⟩:=kid hk (ar2 (by omega)).2;clear ar1 ar2 ar3;refine X0<|(Q4 (by kernel_rfl) (by kernel_rfl) (by rfl) (by simp[*];rfl) ?_);exact(Xk (fun h=>⟨.inr rfl,h⟩) _ (by simp[*];rfl) (by simp[*,QB,XK,mx]) (by simp))
 (try simp only[BN]at h56);refine(XL [2,6] (fun(z:Bool)=>[(200,.v (lb z))]) (fun(z:Bool)=>[(6,.box [.c (iC 0),.c (iC 0)])]) (fun(z:Bool)=>z=decide (o=23∨o=25)) ?_ ?_)
 ·
  refine X2 ?_;refine(X7 rfl (fun h61=>X9 ?_) (fun h61=>?_))
  · (try simp only[BN]at h61);exact⟨true,by simp[h61],X4 (fun n=>n) []⟩
  (try simp only[BN]at h61);refine X1 ?_;exact⟨decide (o=25),by simp[h61],X4 (fun n=>n) []⟩
 rintro z hz;simp only[upS,X6,Xw]
 try simp only[X6,KN,Nat.reduceBEq,if_true,if_false,ins,Nat.reduceLT]
 subst hz;obtain⟨res,hres⟩:∃r,QB vars o n k=r:=⟨_,rfl⟩;rw[hres];simp only[QB,h3,h7,h11,h15,h19,h23,h27,h36,h52,h56,if_false]at hres;refine(Xc rfl (fun h65=>?_) fun h65=>?_)
 · (try simp only[BN]at h65);have h2:=ar3 h65;rw[if_pos h65]at hres;clear ar1 ar2 ar3 h65;rcases k with _|⟨a,_|⟨c,r⟩⟩
   · simp at h2
   · simp at h2
   have hr33:r.length≤31:=by simp only[List.length_cons]at h2;omega
   clear h2;simp at hres;refine X0<|(Xl (by simp[*,X1h];rfl) ?_);refine X0<|X0<|(Xl (by simp[*,X1h,takeM];rfl) ?_);refine X3<|(Xb [6,9,207,208] (fun(x:Nat×Int×Int)=>[(209,.v (li x.1))]) (fun x=>[(6,.box [.c (iC 0),.c (iC 0)]),(9,.box [.c (iC x.2.1),.c (iC x.2.2)])]) (fun x=>x.1≤r.length∧X2i (r.drop x.1) x.2=res) (fun x=>r.length - x.1) (0,c) ⟨Nat.zero_le _,hres⟩ ?_ ?_)
   · exact X4 (fun n=>n) []
   rintro⟨k,m,q⟩ ⟨hk',hJ⟩;simp only[upS,X6,Xw]
   try simp only[X6,KN,Nat.reduceBEq,if_true,if_false,ins,Nat.reduceLT]
   simp only at hk' hJ;clear hres;refine X2 ?_;refine X0<|(X7 rfl (fun h70=>X9 ?_) (fun h70=>?_))
   · (try simp only[BN]at h70);have hlt:k<r.length:=by omega
     obtain⟨⟨e1,e2⟩,he,hd⟩:=Xo hlt;have hw1:=Xy hlt (by omega);rw[hd]at hJ;simp only[X2i]at hJ;have hk1:k+1≤r.length:=hlt;clear hlt h70;refine X0<|X3<|X0<|X1 ?_;refine(Xm [⟨true,.v (aP (Zn (m,q) (e1,e2))),none⟩] ?_ ?_)
     · first|exact X31 (m,q) (e1,e2) _|exact trivial|simpa[*]using X31 (m,q) (e1,e2) _
     refine X1 ?_;exact⟨(k+1,Zn (m,q) (e1,e2)),⟨hk1,hJ⟩,by simp only;omega,X4 (fun n=>n) []⟩
   (try simp only[BN]at h70);have hkl:k=r.length:=by omega
   rw[hkl,List.drop_length]at hJ;simp only[X2i]at hJ;refine(Xf ?_);refine X2 ?_;exact(Xk (fun h=>⟨.inr rfl,h⟩) _ (by simp[*];rfl) (by subst hJ;rfl) (by simp))
 (try simp only[BN]at h65);rw[if_neg h65]at hres;subst hres;refine X2 ?_;exact(Xk (fun h=>⟨.inr rfl,h⟩) _ (by simp[*];rfl) (by first|rfl|(simp[*,QB];done)|(simp only[XK,QB];(repeat' split)<;>first|rfl|(exfalso;omega)|simp_all)) (by simp))
end Go.Proofs.YtppjennamodfdaaGreat

namespace Go.Proofs.YtppjennamodfdaaGreat
open Go Go.Hl
theorem X0O {ks:List Tm} {t:Tm} (ht:t∈ks):t.nodes≤Qp ks:=by
 induction ks with
 |nil=>cases ht
 | cons a l ih=>
   simp only[Qp];rcases List.mem_cons.1 ht with rfl|h
   · omega
   have:=ih h;omega
theorem Qr (a b:Int) (d:Nat):Con Tryz.prog 100 true [li a,li b] (.v (li (mn a b))) none d:=by
 refine X5 Tryz.func100 ?_;simp only[Tryz.f100];refine X2 ?_;refine X0<|X0<|X1 ?_;refine(Xc rfl (fun h2=>?_) fun h2=>?_)
 · (try simp only[BN]at h2);have hz:mn a b=a:=by unfold mn;split<;>omega
   refine X2 ?_;exact Xe
 (try simp only[BN]at h2);have hz:mn a b=b:=by unfold mn;split<;>omega
 refine X2 ?_;exact Xe
theorem Qy (a b:Int) (d:Nat):Con Tryz.prog 99 true [li a,li b] (.v (li (mx a b))) none d:=by
 refine X5 Tryz.func99 ?_;simp only[Tryz.f99];refine X2 ?_;refine X0<|X0<|X1 ?_;refine(Xc rfl (fun h2=>?_) fun h2=>?_)
 · (try simp only[BN]at h2);have hz:mx a b=a:=by unfold mx;split<;>omega
   refine X2 ?_;exact Xe
 (try simp only[BN]at h2);have hz:mx a b=b:=by unfold mx;split<;>omega
 refine X2 ?_;exact Xe
def X3v (a:Int):Int:=if a<0 then -a else a
theorem X8o (a:Int) (h:-1048576≤a∧a≤1048576) (d:Nat):Con Tryz.prog 155 true [li a] (.v (li (X3v a))) none d:=by
 have hw:IntKind.i64.wrap (-a)=-a:=Xa (by omega) (by omega);refine X5 Tryz.func155 ?_;simp only[Tryz.f155];refine X2 ?_;refine X0<|X0<|X1 ?_;refine(Xc rfl (fun h2=>?_) fun h2=>?_)
 · (try simp only[BN]at h2);refine X2 ?_;exact(Xk (fun h=>⟨.inr rfl,h⟩) _ (by simp[*];rfl) (by first|rfl|(simp[*,X3v];done)|(simp only[XK,X3v];(repeat' split)<;>first|rfl|(exfalso;omega)|simp_all)) (by simp))
 (try simp only[BN]at h2);refine X2 ?_;exact(Xk (fun h=>⟨.inr rfl,h⟩) _ (by simp[*];rfl) (by first|rfl|(simp[*,X3v];done)|(simp only[XK,X3v];(repeat' split)<;>first|rfl|(exfalso;omega)|simp_all)) (by simp))
def Zc (o:Int):Int:=if o=0∨o=24 then 0 else if o=6∨o=7 then 1 else if 8≤o∧o≤22 then 2 else if o=23 then 3 else if o=25 then -2 else -1
theorem X6y (o:Int) (d:Nat):Con Tryz.prog 128 true [li o] (.v (li (Zc o))) none d:=by
 refine X5 Tryz.func128 ?_;simp only[Tryz.f128];refine X2 ?_;refine X0<|X0<|X1 ?_;refine X3<|(XL [3] (fun(z:Bool)=>[(4,.v (lb z))]) (fun(z:Bool)=>[]) (fun(z:Bool)=>z=decide (o=0∨o=24)) ?_ ?_)
 ·
  refine X2 ?_;refine(X7 rfl (fun h4=>X9 ?_) (fun h4=>?_))
  · (try simp only[BN]at h4);exact⟨decide (o=0∨o=24),rfl,X4 (fun n=>n) []⟩
  (try simp only[BN]at h4);refine X1 ?_;exact⟨decide (o=0∨o=24),rfl,X4 (fun n=>n) []⟩
 rintro _ rfl;simp only[upS,X6,Xw]
 try simp only[X6,KN,Nat.reduceBEq,if_true,if_false,ins,Nat.reduceLT]
 refine(X7 rfl (fun h8=>?_) (fun h8=>?_))
 · (try simp only[BN]at h8);refine X2 ?_;exact(Xk (fun h=>⟨.inr rfl,h⟩) _ (by simp[*];rfl) (by first|rfl|(simp[*,Zc];done)|(simp only[XK,Zc];(repeat' split)<;>first|rfl|(exfalso;omega)|simp_all)) (by simp))
 (try simp only[BN]at h8);refine(XL [3] (fun(z:Bool)=>[(7,.v (lb z))]) (fun(z:Bool)=>[]) (fun(z:Bool)=>z=decide (o=6∨o=7)) ?_ ?_)
 ·
  refine X2 ?_;refine(X7 rfl (fun h13=>X9 ?_) (fun h13=>?_))
  · (try simp only[BN]at h13);exact⟨decide (o=6∨o=7),rfl,X4 (fun n=>n) []⟩
  (try simp only[BN]at h13);refine X1 ?_;exact⟨decide (o=6∨o=7),rfl,X4 (fun n=>n) []⟩
 rintro _ rfl;simp only[upS,X6,Xw]
 try simp only[X6,KN,Nat.reduceBEq,if_true,if_false,ins,Nat.reduceLT]
 refine(X7 rfl (fun h17=>?_) (fun h17=>?_))
 · (try simp only[BN]at h17);refine X2 ?_;exact(Xk (fun h=>⟨.inr rfl,h⟩) _ (by simp[*];rfl) (by first|rfl|(simp[*,Zc];done)|(simp only[XK,Zc];(repeat' split)<;>first|rfl|(exfalso;omega)|simp_all)) (by simp))
 (try simp only[BN]at h17);refine(XL [3] (fun(z:Bool)=>[(10,.v (lb z))]) (fun(z:Bool)=>[]) (fun(z:Bool)=>z=decide (8≤o∧o≤22)) ?_ ?_)
 ·
  refine X2 ?_;refine(X7 rfl (fun h22=>X9 ?_) (fun h22=>?_))
  · (try simp only[BN]at h22);exact⟨decide (8≤o∧o≤22),rfl,X4 (fun n=>n) []⟩
  (try simp only[BN]at h22);refine X2 ?_;refine(X7 rfl (fun h25=>X9 ?_) (fun h25=>?_))
  · (try simp only[BN]at h25);exact⟨decide (8≤o∧o≤22),rfl,X4 (fun n=>n) []⟩
  (try simp only[BN]at h25);refine X2 ?_;refine(X7 rfl (fun h28=>X9 ?_) (fun h28=>?_))
  · (try simp only[BN]at h28);exact⟨decide (8≤o∧o≤22),rfl,X4 (fun n=>n) []⟩
  (try simp only[BN]at h28);refine X2 ?_;refine(X7 rfl (fun h31=>X9 ?_) (fun h31=>?_))
  · (try simp only[BN]at h31);exact⟨decide (8≤o∧o≤22),rfl,X4 (fun n=>n) []⟩
  (try simp only[BN]at h31);refine X2 ?_;refine(X7 rfl (fun h34=>X9 ?_) (fun h34=>?_))
  · (try simp only[BN]at h34);exact⟨decide (8≤o∧o≤22),rfl,X4 (fun n=>n) []⟩
  (try simp only[BN]at h34);refine X2 ?_;refine(X7 rfl (fun h37=>X9 ?_) (fun h37=>?_))
  · (try simp only[BN]at h37);exact⟨decide (8≤o∧o≤22),rfl,X4 (fun n=>n) []⟩
  (try simp only[BN]at h37);refine X2 ?_;refine(X7 rfl (fun h40=>X9 ?_) (fun h40=>?_))
  · (try simp only[BN]at h40);exact⟨decide (8≤o∧o≤22),rfl,X4 (fun n=>n) []⟩
  (try simp only[BN]at h40);refine X2 ?_;refine(X7 rfl (fun h43=>X9 ?_) (fun h43=>?_))
  · (try simp only[BN]at h43);exact⟨decide (8≤o∧o≤22),rfl,X4 (fun n=>n) []⟩
  (try simp only[BN]at h43);refine X2 ?_;refine(X7 rfl (fun h46=>X9 ?_) (fun h46=>?_))
  · (try simp only[BN]at h46);exact⟨decide (8≤o∧o≤22),rfl,X4 (fun n=>n) []⟩
  (try simp only[BN]at h46);refine X2 ?_;refine(X7 rfl (fun h49=>X9 ?_) (fun h49=>?_))
  · (try simp only[BN]at h49);exact⟨decide (8≤o∧o≤22),rfl,X4 (fun n=>n) []⟩
  (try simp only[BN]at h49);refine X2 ?_;refine(X7 rfl (fun h52=>X9 ?_) (fun h52=>?_))
  · (try simp only[BN]at h52);exact⟨decide (8≤o∧o≤22),rfl,X4 (fun n=>n) []⟩
  (try simp only[BN]at h52);refine X2 ?_;refine(X7 rfl (fun h55=>X9 ?_) (fun h55=>?_))
  · (try simp only[BN]at h55);exact⟨decide (8≤o∧o≤22),rfl,X4 (fun n=>n) []⟩
  (try simp only[BN]at h55);refine X2 ?_;refine(X7 rfl (fun h58=>X9 ?_) (fun h58=>?_))
  · (try simp only[BN]at h58);exact⟨decide (8≤o∧o≤22),rfl,X4 (fun n=>n) []⟩
  (try simp only[BN]at h58);refine X2 ?_;refine(X7 rfl (fun h61=>X9 ?_) (fun h61=>?_))
  · (try simp only[BN]at h61);exact⟨decide (8≤o∧o≤22),rfl,X4 (fun n=>n) []⟩
  (try simp only[BN]at h61);refine X1 ?_;have hz:decide (o=22)=(decide (8≤o)&&decide (o≤22)):=by rw[←Bool.decide_and,decide_eq_decide];omega
  exact⟨decide (8≤o∧o≤22),rfl,X4 (fun n=>n) []⟩
 rintro _ rfl;simp only[upS,X6,Xw]
 try simp only[X6,KN,Nat.reduceBEq,if_true,if_false,ins,Nat.reduceLT]
 refine(X7 rfl (fun h65=>?_) (fun h65=>?_))
 · (try simp only[BN]at h65);refine X2 ?_;exact(Xk (fun h=>⟨.inr rfl,h⟩) _ (by simp[*];rfl) (by first|rfl|(simp[*,Zc];done)|(simp only[XK,Zc];(repeat' split)<;>first|rfl|(exfalso;omega)|simp_all)) (by simp))
 (try simp only[BN]at h65);refine X2 ?_;refine(X7 rfl (fun h69=>?_) (fun h69=>?_))
 · (try simp only[BN]at h69);refine X2 ?_;exact(Xk (fun h=>⟨.inr rfl,h⟩) _ (by simp[*];rfl) (by first|rfl|(simp[*,Zc];done)|(simp only[XK,Zc];(repeat' split)<;>first|rfl|(exfalso;omega)|simp_all)) (by simp))
 (try simp only[BN]at h69);refine X2 ?_;refine(Xc rfl (fun h73=>?_) fun h73=>?_)
 · (try simp only[BN]at h73);refine X2 ?_;exact(Xk (fun h=>⟨.inr rfl,h⟩) _ (by simp[*];rfl) (by first|rfl|(simp[*,Zc];done)|(simp only[XK,Zc];(repeat' split)<;>first|rfl|(exfalso;omega)|simp_all)) (by simp))
 (try simp only[BN]at h73);refine X2 ?_;exact(Xk (fun h=>⟨.inr rfl,h⟩) _ (by simp[*];rfl) (by first|rfl|(simp[*,Zc];done)|(simp only[XK,Zc];(repeat' split)<;>first|rfl|(exfalso;omega)|simp_all)) (by simp))
end Go.Proofs.YtppjennamodfdaaGreat

namespace Go.Proofs.YtppjennamodfdaaGreat
open Go Go.Hl
theorem kids_eq (o:Int) (len:Nat):(!decide (Zc o=-1)&&((!decide (0≤Zc o)||decide ((len:Int)=Zc o))&&(!decide (Zc o=-2)||(!decide ((len:Int)<2)&& !decide (33<(len:Int))))))=(!decide ((Qm o).1<0)&&(!decide ((len:Int)<(Qm o).1)&& !decide ((Qm o).2<(len:Int)))):=by
 unfold Zc Qm
 (repeat' split)<;>simp<;>(try omega)
 all_goals(rw[Bool.eq_iff_iff];simp only[Bool.and_eq_true,Bool.or_eq_true,Bool.not_eq_true',decide_eq_true_eq,decide_eq_false_iff_not];omega)
theorem Xc4 (vars:List Vr) (inp:Bool) (hv:vars.length≤1000000000) (t:Tm):t.nodes≤1000000000→∀d:Nat,
  Con Tryz.prog 96 true [lV vars,aT t,lb inp] (.v (lb (W3 vars inp t))) none d:=by
 induction t using Tm.ind with
 |h o n ks ih=>
 intro hn d;simp only[Tm.nodes]at hn;have hlen:=W5 ks;obtain⟨res,hres⟩:∃r,W3 vars inp (.mk o n ks)=r:=⟨_,rfl⟩;rw[hres];simp only[W3]at hres;have ih':∀t∈ks,∀d,Con Tryz.prog 96 true [lV vars,aT t,lb inp] (.v (lb (W3 vars inp t))) none d:=fun t ht d=>ih t ht (by have:=X0O ht;omega) d;clear ih;have hke:=kids_eq o ks.length;refine X5 Tryz.func96 ?_;simp only[Tryz.f96];simp only[aT,Tm.enc];refine X2 ?_;refine Xh [⟨true,.v (li (Zc o)),none⟩] ?_ ?_
 · first|exact X6y o _|exact trivial|simpa[*]using X6y o _
 refine X0<|X0<|X1 ?_;refine(Xc rfl (fun h3=>?_) fun h3=>?_)
 · try simp only[BN]at h3
   have hz:Qh vars inp o n ks.length=false:=by
    unfold Qh;rw[←hke,Bool.and_eq_false_iff];refine .inl ?_;simp only[Bool.and_eq_false_iff,Bool.or_eq_false_iff,Bool.not_eq_false',decide_eq_true_eq,decide_eq_false_iff_not];omega
   rw[hz,Bool.false_and]at hres;refine X2 ?_;exact(Xk (fun h=>⟨.inr rfl,h⟩) _ (by simp[*];rfl) (by first|rfl|simp[*]) (by simp))
 try simp only[BN]at h3
 have hz:(!decide ((Qm o).1<0)&&(!decide ((ks.length:Int)<(Qm o).1)&& !decide ((Qm o).2<(ks.length:Int))))=true:=by
  rw[←hke];simp only[Bool.and_eq_true,Bool.or_eq_true,Bool.not_eq_true',decide_eq_false_iff_not,decide_eq_true_eq];omega
 clear hke;refine(XL [0,2,4] (fun(z:Unit)=>[]) (fun(z:Unit)=>[(4,.box [.c (iC o),.c (iC n),.c (.sl 3 (Xn ks))])]) (fun(z:Unit)=>Qh vars inp o n ks.length=true) ?_ ?_)
 ·
  refine X2 ?_;refine(X7 rfl (fun h8=>?_) (fun h8=>?_))
  · (try simp only[BN]at h8);by_cases hn0:0≤n
    · by_cases hn3:n<vars.length
      · obtain⟨v,hv1⟩:=X3k ⟨hn0,hn3⟩;have hn1:¬(vars.length:Int)≤n:=by omega
        have hn2:¬n<0:=by omega
        clear hn3;refine X2 ?_;refine(Xc rfl (fun h10=>?_) fun h10=>?_)
        · try simp only[BN]at h10
          have hz3:Qh vars inp o n ks.length=false:=by
           unfold Qh X0k;rw[hz,Bool.true_and,if_neg (by omega),if_pos h8,hv1];simp[h10]
          rw[hz3,Bool.false_and]at hres;refine X2 ?_;exact(Xk (fun h=>⟨.inr rfl,h⟩) _ (by simp[*];rfl) (by first|rfl|simp[*]) (by simp))
        try simp only[BN]at h10
        exact⟨(),by
         unfold Qh X0k;rw[hz,Bool.true_and,if_neg (by omega),if_pos h8,hv1];simp only[Bool.and_eq_true,Bool.not_eq_true',Bool.and_eq_false_iff,decide_eq_true_eq,decide_eq_false_iff_not]
         exact⟨hn0,h10⟩,X4 (fun n=>n) []⟩
      cases inp
      · have hv1:=X0P hn0 hn3;have hn1:(vars.length:Int)≤n:=by omega
        have hn2:¬n<0:=by omega
        have hz2:∀i,X0k vars i n=false:=by intro i;simp[X0k,hv1]
        clear hn3;refine X2 ?_;refine(Xc rfl (fun h10=>?_) fun h10=>?_)
        · try simp only[BN]at h10
          have hz3:∀i,Qh vars i o n ks.length=false:=by
           intro i;unfold Qh;rw[hz,Bool.true_and,if_neg (by omega),if_pos h8,hz2]
          rw[hz3,Bool.false_and]at hres;refine X2 ?_;exact(Xk (fun h=>⟨.inr rfl,h⟩) _ (by simp[*];rfl) (by first|rfl|simp[*]) (by simp))
        exact absurd h10 (by simp)
      have hv1:=X0P hn0 hn3;have hn1:(vars.length:Int)≤n:=by omega
      have hn2:¬n<0:=by omega
      have hz2:∀i,X0k vars i n=false:=by intro i;simp[X0k,hv1]
      clear hn3;refine X2 ?_;refine(Xc rfl (fun h10=>?_) fun h10=>?_)
      · try simp only[BN]at h10
        have hz3:∀i,Qh vars i o n ks.length=false:=by
         intro i;unfold Qh;rw[hz,Bool.true_and,if_neg (by omega),if_pos h8,hz2]
        rw[hz3,Bool.false_and]at hres;refine X2 ?_;exact(Xk (fun h=>⟨.inr rfl,h⟩) _ (by simp[*];rfl) (by first|rfl|simp[*]) (by simp))
      exact absurd h10 (by simp)
    cases inp
    · have hn2:n<0:=by omega
      have hz2:∀i,X0k vars i n=false:=by intro i;simp[X0k,hn0]
      refine X2 ?_;refine(Xc rfl (fun h10=>?_) fun h10=>?_)
      · try simp only[BN]at h10
        have hz3:∀i,Qh vars i o n ks.length=false:=by
         intro i;unfold Qh;rw[hz,Bool.true_and,if_neg (by omega),if_pos h8,hz2]
        rw[hz3,Bool.false_and]at hres;refine X2 ?_;exact(Xk (fun h=>⟨.inr rfl,h⟩) _ (by simp[*];rfl) (by first|rfl|simp[*]) (by simp))
      exact absurd h10 (by simp)
    have hn2:n<0:=by omega
    have hz2:∀i,X0k vars i n=false:=by intro i;simp[X0k,hn0]
    refine X2 ?_;refine(Xc rfl (fun h10=>?_) fun h10=>?_)
    · try simp only[BN]at h10
      have hz3:∀i,Qh vars i o n ks.length=false:=by
       intro i;unfold Qh;rw[hz,Bool.true_and,if_neg (by omega),if_pos h8,hz2]
      rw[hz3,Bool.false_and]at hres;refine X2 ?_;exact(Xk (fun h=>⟨.inr rfl,h⟩) _ (by simp[*];rfl) (by first|rfl|simp[*]) (by simp))
    exact absurd h10 (by simp)
  (try simp only[BN]at h8);refine X2 ?_;refine(Xc rfl (fun h15=>?_) fun h15=>?_)
  · try simp only[BN]at h15
    have hz3:Qh vars inp o n ks.length=false:=by
     unfold Qh;rw[hz,Bool.true_and,if_neg (by omega),if_neg h8];simp only[decide_eq_false_iff_not];omega
    rw[hz3,Bool.false_and]at hres;refine X2 ?_;exact(Xk (fun h=>⟨.inr rfl,h⟩) _ (by simp[*];rfl) (by first|rfl|simp[*]) (by simp))
  try simp only[BN]at h15
  exact⟨(),by
   unfold Qh;rw[hz,Bool.true_and];split
   · rfl
   simp only[decide_eq_true_eq]
   omega,X4 (fun n=>n) []⟩
 rintro z hz;simp only[upS,X6,Xw]
 try simp only[X6,KN,Nat.reduceBEq,if_true,if_false,ins,Nat.reduceLT]
 rw[hz,Bool.true_and]at hres;refine X0<|X0<|X1 ?_;refine X3<|(Xb [0,2,4] (fun(x:Nat)=>[(8,.v (li x))]) (fun x=>[(4,.box [.c (iC o),.c (iC n),.c (.sl 3 (Xn ks))])]) (fun x=>x≤ks.length∧Zk vars inp (ks.drop x)=res) (fun x=>ks.length - x) (0:Nat) ⟨Nat.zero_le _,hres⟩ ?_ ?_)
 · exact X4 (fun n=>n) []
 rintro k ⟨hk,hJ⟩;simp only[upS,X6,Xw]
 try simp only[X6,KN,Nat.reduceBEq,if_true,if_false,ins,Nat.reduceLT]
 refine X0<|X0<|X1 ?_;refine(X7 rfl (fun h22=>X9 ?_) (fun h22=>?_))
 · (try simp only[BN]at h22);have hlt:k<ks.length:=by omega
   obtain⟨⟨eo,en,ek⟩,he,hd⟩:=Xo hlt;have he':=Wn he;simp only[Tm.enc]at he';have hw1:=Xy hlt (by omega);rw[hd]at hJ;simp only[Zk]at hJ;have hk1:k+1≤ks.length:=hlt;have hmem:Tm.mk eo en ek∈ks:=List.mem_of_getElem? he;clear hlt h22;refine X0<|X3<|X0<|(Xm [⟨true,.v (lb (W3 vars inp (.mk eo en ek))),none⟩] ?_ ?_)
   · first|exact ih' _ hmem _|exact trivial|simpa[*]using ih' _ hmem _
   refine(Xc rfl (fun h24=>?_) fun h24=>?_)
   · (try simp only[BN]at h24);rw[h24,Bool.false_and]at hJ;subst hJ;refine X2 ?_;exact(Xk (fun h=>⟨.inr rfl,h⟩) _ (by simp[*];rfl) (by first|rfl|simp[*]) (by simp))
   (try simp only[BN]at h24);rw[h24,Bool.true_and]at hJ;refine X1 ?_;exact⟨k+1,⟨hk1,hJ⟩,by omega,X4 (fun n=>n) []⟩
 (try simp only[BN]at h22);have hkl:k=ks.length:=by omega
 subst hkl;rw[List.drop_length]at hJ;simp only[Zk]at hJ;subst hJ;refine(Xf ?_);refine X2 ?_;exact(Xk (fun h=>⟨.inr rfl,h⟩) _ (by simp[*];rfl) (by first|rfl|simp[*]) (by simp))
end Go.Proofs.YtppjennamodfdaaGreat

namespace Go.Proofs.YtppjennamodfdaaGreat
open Go Go.Hl
theorem X9E (b:Int×Int) (hb:-1048576≤b.1∧b.1≤b.2∧b.2≤1048576) (d:Nat):Con Tryz.prog 156 true [li b.1,li b.2] (.tup [li (X1n b),li (X4X b)]) none d:=by
 obtain⟨c1,c2⟩:=b;simp only at hb;have hw1:IntKind.i64.wrap (c1+1)=c1+1:=Xa (by omega) (by omega);have hw2:IntKind.i64.wrap (c2 - 1)=c2 - 1:=Xa (by omega) (by omega);refine X5 Tryz.func156 ?_;simp only[Tryz.f156];refine X2 ?_;refine X2 ?_;refine(XL [1,7] (fun(z:Int)=>[(6,.v (li z))]) (fun(z:Int)=>[]) (fun(z:Int)=>z=X1n (c1,c2)) ?_ ?_)
 ·
  refine X2 ?_;refine(Xc rfl (fun h4=>?_) fun h4=>?_)
  · (try simp only[BN]at h4);have hml:mn 0 (c1+1)=X1n (c1,c2):=by simp only[X1n];rw[if_pos h4];unfold mn;(repeat' split)<;>omega
    refine(Xm [⟨true,.v (li (mn 0 (c1+1))),none⟩] ?_ ?_)
    · first|exact Qr 0 (c1+1) _|exact trivial|simpa[*]using Qr 0 (c1+1) _
    exact⟨X1n (c1,c2),rfl,X4 (fun n=>n) []⟩
  (try simp only[BN]at h4);have hml:(0:Int)=X1n (c1,c2):=by simp only[X1n];rw[if_neg h4]
  exact⟨X1n (c1,c2),rfl,X4 (fun n=>n) []⟩
 rintro _ rfl;simp only[upS,X6,Xw]
 try simp only[X6,KN,Nat.reduceBEq,if_true,if_false,ins,Nat.reduceLT]
 refine X0<|X0<|X1 ?_;refine(Xc rfl (fun h9=>?_) fun h9=>?_)
 · (try simp only[BN]at h9);have hmh:mx 0 (c2 - 1)=X4X (c1,c2):=by simp only[X4X];rw[if_pos h9];unfold mx;(repeat' split)<;>omega
   refine(Xm [⟨true,.v (li (mx 0 (c2 - 1))),none⟩] ?_ ?_)
   · first|exact Qy 0 (c2 - 1) _|exact trivial|simpa[*]using Qy 0 (c2 - 1) _
   refine X2 ?_;exact Xe
 (try simp only[BN]at h9);have hmh:X4X (c1,c2)=0:=by simp only[X4X];rw[if_neg h9]
 refine X2 ?_;exact Xe
def X4Q (k:List (Int×Int)):List (List CD):=k.map fun p=>[iC p.1]
def X1g (k:List (Int×Int)):List (List CD):=k.map fun p=>[iC p.2]
@[simp] theorem lows_nil:X4Q []=[]:=rfl
@[simp] theorem highs_nil:X1g []=[]:=rfl
@[simp] theorem len_lows (k:List (Int×Int)):(X4Q k).length=k.length:=by simp[X4Q]
@[simp] theorem get_lows (k:List (Int×Int)) (i:Nat):(X4Q k)[i]? =k[i]?.map fun p=>[iC p.1]:=by simp[X4Q]
@[simp] theorem len_highs (k:List (Int×Int)):(X1g k).length=k.length:=by simp[X1g]
@[simp] theorem get_highs (k:List (Int×Int)) (i:Nat):(X1g k)[i]? =k[i]?.map fun p=>[iC p.2]:=by simp[X1g]
def X2Z (vars:List Vr) (o n:Int) (k:List (Int×Int)):Int×Int:=
 if o=0 then(if n< -1048576∨1048576<n then(-1048577,1048577)else(n,n))else QB vars o n k
theorem X8g (vars:List Vr) (inp:Bool) (o n:Int) (K:CD) (k:List (Int×Int)) (hf:Qh vars inp o n k.length=true) (hk:∀p∈k,bnd p) (d:Nat):
  Con Tryz.prog 129 true [lV vars,.agg [.c (iC o),.c (iC n),.c K],.one (.c (.sl 1 (X4Q k))),.one (.c (.sl 1 (X1g k)))] (.tup [li (X2Z vars o n k).1,li (X2Z vars o n k).2]) none d:=by
 have har:=X3n hf;have hrf:o=24→0≤n∧∃v,vars[n.toNat]? =some v∧(inp=true→v.kind≠0):=fun h=>X63 (by rw[←h];exact hf);clear hf;have ar1:o=6→0+1≤k.length:=fun h=>by have:=kids1 (.inl h);rw[this]at har;simp only at har;omega
 have ar2:8≤o∧o≤22→0+1≤k.length∧1+1≤k.length:=fun h=>by have:=kids2 h;rw[this]at har;simp only at har;omega
 have ar3:o=23∨o=25→2≤k.length∧k.length≤33:=fun h=>by
  rcases h with h|h
  · have:=kids3;rw[h,this]at har;simp only at har;omega
  have:=kids4;rw[h,this]at har;simp only at har;omega
 clear har;obtain⟨res,hres⟩:∃r,X2Z vars o n k=r:=⟨_,rfl⟩;rw[hres];simp only[X2Z,QB]at hres;refine X5 Tryz.func129 ?_;simp only[Tryz.f129];refine X2 ?_;refine X0<|X0<|X1 ?_;refine X3<|X0<|X1 ?_;refine(X7 rfl (fun h3=>?_) (fun h3=>?_))
 · (try simp only[BN]at h3);rw[if_pos h3]at hres;refine X0<|X0<|X1 ?_;refine(Xc rfl (fun h5=>?_) fun h5=>?_)
   · (try simp only[BN]at h5);rw[if_pos h5]at hres;subst hres;refine X2 ?_;exact Xe
   (try simp only[BN]at h5);rw[if_neg (by omega)]at hres;subst hres;refine X0<|(Q4 (by kernel_rfl) (by kernel_rfl) (by rfl) (by simp[*];rfl) ?_);exact Xe
 (try simp only[BN]at h3);rw[if_neg h3,if_neg h3]at hres;refine X2 ?_;refine(X7 rfl (fun h11=>?_) (fun h11=>?_))
 · (try simp only[BN]at h11);obtain⟨hn0,v,hv,_⟩:=hrf h11;rw[if_pos h11,hv]at hres;subst hres;clear hrf;refine X0<|(Q4 (by kernel_rfl) (by kernel_rfl) (by rfl) (by simp[*];rfl) ?_);exact Xe
 (try simp only[BN]at h11);rw[if_neg h11]at hres;refine X2 ?_;refine(X7 rfl (fun h15=>?_) (fun h15=>?_))
 · (try simp only[BN]at h15);obtain⟨a1,a2,ha,hb1,hb2,hb3⟩:=kid hk (ar1 h15);have hw1:IntKind.i64.wrap (-a1)=-a1:=Xa (by omega) (by omega);have hw2:IntKind.i64.wrap (-a2)=-a2:=Xa (by omega) (by omega);rw[if_pos h15]at hres;simp only[g2,ha,Option.getD_some]at hres;subst hres;clear ar1 ar2 ar3;refine X0<|(Q4 (by kernel_rfl) (by kernel_rfl) (by rfl) (by simp[*];rfl) ?_);exact Xe
 (try simp only[BN]at h15);rw[if_neg h15]at hres;refine X2 ?_;refine(X7 rfl (fun h19=>?_) (fun h19=>?_))
 · (try simp only[BN]at h19);obtain⟨a1,a2,ha,hb1,hb2,hb3⟩:=kid hk (ar2 (by omega)).1;obtain⟨c1,c2,hc,hc1,hc2,hc3⟩:=kid hk (ar2 (by omega)).2;have hw1:IntKind.i64.wrap (a1+c1)=a1+c1:=Xa (by omega) (by omega);have hw2:IntKind.i64.wrap (a2+c2)=a2+c2:=Xa (by omega) (by omega);rw[if_pos h19]at hres;simp only[g2,ha,hc,Option.getD_some]at hres;subst hres;clear ar1 ar2 ar3;refine X0<|(Q4 (by kernel_rfl) (by kernel_rfl) (by rfl) (by simp[*];rfl) ?_);exact Xe
 (try simp only[BN]at h19);rw[if_neg h19]at hres;refine X2 ?_;refine(X7 rfl (fun h23=>?_) (fun h23=>?_))
 · (try simp only[BN]at h23);obtain⟨a1,a2,ha,hb1,hb2,hb3⟩:=kid hk (ar2 (by omega)).1;obtain⟨c1,c2,hc,hc1,hc2,hc3⟩:=kid hk (ar2 (by omega)).2;have hw1:IntKind.i64.wrap (a1 - c2)=a1 - c2:=Xa (by omega) (by omega);have hw2:IntKind.i64.wrap (a2 - c1)=a2 - c1:=Xa (by omega) (by omega);rw[if_pos h23]at hres;simp only[g2,ha,hc,Option.getD_some]at hres;subst hres;clear ar1 ar2 ar3;refine X0<|(Q4 (by kernel_rfl) (by kernel_rfl) (by rfl) (by simp[*];rfl) ?_);exact Xe
 (try simp only[BN]at h23);rw[if_neg h23]at hres;refine X2 ?_;refine(X7 rfl (fun h27=>?_) (fun h27=>?_))
 · (try simp only[BN]at h27);obtain⟨a1,a2,ha,hb1,hb2,hb3⟩:=kid hk (ar2 (by omega)).1;obtain⟨c1,c2,hc,hc1,hc2,hc3⟩:=kid hk (ar2 (by omega)).2;rw[if_pos h27]at hres;simp only[g2,ha,hc,Option.getD_some]at hres;clear ar1 ar2 ar3;have hm1:=X5e ⟨hb1,by omega⟩ ⟨hc1,by omega⟩ (x:=a1) (y:=c1);have hm2:=X5e ⟨hb1,by omega⟩ ⟨by omega,hc3⟩ (x:=a1) (y:=c2);have hm3:=X5e ⟨by omega,hb3⟩ ⟨hc1,by omega⟩ (x:=a2) (y:=c1);have hm4:=X5e ⟨by omega,hb3⟩ ⟨by omega,hc3⟩ (x:=a2) (y:=c2);have hw1:IntKind.i64.wrap (a1*c1)=a1*c1:=Xa (by omega) (by omega);have hw2:IntKind.i64.wrap (a1*c2)=a1*c2:=Xa (by omega) (by omega);have hw3:IntKind.i64.wrap (a2*c1)=a2*c1:=Xa (by omega) (by omega);have hw4:IntKind.i64.wrap (a2*c2)=a2*c2:=Xa (by omega) (by omega)
   have he1:mn (mn (a1*c1) (a1*c2)) (mn (a2*c1) (a2*c2))=res.1:=by
    rw[←hres];simp only[mulP,Zn,mn];generalize a1*c1=p at*;generalize a1*c2=q at*;generalize a2*c1=r at*;generalize a2*c2=s at*
    (repeat' split)<;>omega
   have he2:mx (mx (a1*c1) (a1*c2)) (mx (a2*c1) (a2*c2))=res.2:=by
    rw[←hres];simp only[mulP,Zn,mx];generalize a1*c1=p at*;generalize a1*c2=q at*;generalize a2*c1=r at*;generalize a2*c2=s at*
    (repeat' split)<;>omega
   clear hres hm1 hm2 hm3 hm4;refine X0<|(Q4 (by kernel_rfl) (by kernel_rfl) (by rfl) (by simp[*];rfl) ?_);refine Xh [⟨true,.v (li (mn (a1*c1) (a1*c2))),none⟩,⟨true,.v (li (mn (a2*c1) (a2*c2))),none⟩,⟨true,.v (li (mn (mn (a1*c1) (a1*c2)) (mn (a2*c1) (a2*c2)))),none⟩,⟨true,.v (li (mx (a1*c1) (a1*c2))),none⟩,⟨true,.v (li (mx (a2*c1) (a2*c2))),none⟩,⟨true,.v (li (mx (mx (a1*c1) (a1*c2)) (mx (a2*c1) (a2*c2)))),none⟩] ?_ ?_
   · first|exact trivial|exact trivial|(repeat' first|exact trivial|exact Qr _ _ _|exact Qr _ _ _|(simpa[he1]using Qr (mn (a1*c1) (a1*c2)) (mn (a2*c1) (a2*c2)) _)|exact Qy _ _ _|exact Qy _ _ _|(simpa[he2]using Qy (mx (a1*c1) (a1*c2)) (mx (a2*c1) (a2*c2)) _)|apply And.intro)
   exact Xe
 (try simp only[BN]at h27);rw[if_neg h27]at hres;refine X2 ?_;refine(X7 rfl (fun h32=>?_) (fun h32=>?_))
 · (try simp only[BN]at h32);obtain⟨a1,a2,ha,hb1,hb2,hb3⟩:=kid hk (ar2 (by omega)).1;obtain⟨c1,c2,hc,hc1,hc2,hc3⟩:=kid hk (ar2 (by omega)).2;rw[if_pos h32]at hres;simp only[g2,ha,hc,Option.getD_some]at hres
   have hmm:mx (X3v a1) (X3v a2)=mx a2 (-a1):=by
    unfold mx X3v
    (repeat' split)<;>omega
   have hm:-1048576≤mx a2 (-a1)∧mx a2 (-a1)≤1048576:=by unfold mx;split<;>omega
   have hw2:IntKind.i64.wrap (-(mx a2 (-a1)))=-(mx a2 (-a1)):=Xa (by omega) (by omega);clear ar1 ar2 ar3;refine X0<|(Q7 [⟨true,.v (li (X3v a1)),none⟩,⟨true,.v (li (X3v a2)),none⟩,⟨true,.v (li (mx (X3v a1) (X3v a2))),none⟩] (by kernel_rfl) (by kernel_rfl) (by rfl) (by simp[*];first|exact⟨rfl,Iff.rfl⟩|exact⟨rfl,trivial⟩|rfl) ?_ ?_)
   · first|exact trivial|exact trivial|(repeat' first|exact trivial|exact X8o a1 (by omega) _|exact X8o a2 (by omega) _|(simpa[hmm]using Qy (X3v a1) (X3v a2) _)|apply And.intro)
   refine X0<|X0<|X1 ?_;refine(Xc rfl (fun h35=>?_) fun h35=>?_)
   · (try simp only[BN]at h35);rw[if_pos h35]at hres;subst hres;refine X2 ?_;exact Xe
   (try simp only[BN]at h35);rw[if_neg (by omega)]at hres;subst hres;refine X2 ?_;exact Xe
 (try simp only[BN]at h32);rw[if_neg h32]at hres;refine X2 ?_;refine(X7 rfl (fun h41=>?_) (fun h41=>?_))
 · (try simp only[BN]at h41);obtain⟨c1,c2,hc,hc1,hc2,hc3⟩:=kid hk (ar2 (by omega)).2;rw[if_pos h41]at hres;simp only[g2,hc,Option.getD_some]at hres;subst hres;clear ar1 ar2 ar3;refine X0<|(Q7 [⟨true,.tup [li (X1n (c1,c2)),li (X4X (c1,c2))],none⟩] (by kernel_rfl) (by kernel_rfl) (by rfl) (by simp[*];first|exact⟨rfl,Iff.rfl⟩|exact⟨rfl,trivial⟩|rfl) ?_ ?_)
   · first|exact X9E (c1,c2) ⟨hc1,hc2,hc3⟩ _|exact trivial|simpa[*]using X9E (c1,c2) ⟨hc1,hc2,hc3⟩ _
   exact Xe
 (try simp only[BN]at h41);rw[if_neg h41]at hres;refine X2 ?_;refine(X7 rfl (fun h45=>?_) (fun h45=>?_))
 · (try simp only[BN]at h45);obtain⟨a1,a2,ha,hb1,hb2,hb3⟩:=kid hk (ar2 (by omega)).1;obtain⟨c1,c2,hc,hc1,hc2,hc3⟩:=kid hk (ar2 (by omega)).2;rw[if_pos h45]at hres;simp only[g2,ha,hc,Option.getD_some]at hres;subst hres;clear ar1 ar2 ar3;refine X0<|(Q7 [⟨true,.v (li (mn a1 c1)),none⟩,⟨true,.v (li (mn a2 c2)),none⟩] (by kernel_rfl) (by kernel_rfl) (by rfl) (by simp[*];first|exact⟨rfl,Iff.rfl⟩|exact⟨rfl,trivial⟩|rfl) ?_ ?_)
   · first|exact⟨Qr _ _ _,Qr _ _ _⟩|exact trivial|(repeat' first|exact trivial|exact Qr _ _ _|exact Qr _ _ _|apply And.intro)
   exact Xe
 (try simp only[BN]at h45);rw[if_neg h45]at hres;refine X2 ?_;refine(X7 rfl (fun h49=>?_) (fun h49=>?_))
 · (try simp only[BN]at h49);obtain⟨a1,a2,ha,hb1,hb2,hb3⟩:=kid hk (ar2 (by omega)).1;obtain⟨c1,c2,hc,hc1,hc2,hc3⟩:=kid hk (ar2 (by omega)).2;rw[if_pos h49]at hres;simp only[g2,ha,hc,Option.getD_some]at hres;subst hres;clear ar1 ar2 ar3;refine X0<|(Q7 [⟨true,.v (li (mx a1 c1)),none⟩,⟨true,.v (li (mx a2 c2)),none⟩] (by kernel_rfl) (by kernel_rfl) (by rfl) (by simp[*];first|exact⟨rfl,Iff.rfl⟩|exact⟨rfl,trivial⟩|rfl) ?_ ?_)
   · first|exact⟨Qy _ _ _,Qy _ _ _⟩|exact trivial|(repeat' first|exact trivial|exact Qy _ _ _|exact Qy _ _ _|apply And.intro)
   exact Xe
 (try simp only[BN]at h49);rw[if_neg h49]at hres;refine(XL [2,3] (fun(z:Bool)=>[(202,.v (lb z))]) (fun(z:Bool)=>[]) (fun(z:Bool)=>z=decide (o=23∨o=25)) ?_ ?_)
 ·
  refine X2 ?_;refine(X7 rfl (fun h54=>X9 ?_) (fun h54=>?_))
  · (try simp only[BN]at h54);exact⟨true,by simp[h54],X4 (fun n=>n) []⟩
  (try simp only[BN]at h54);refine X1 ?_;exact⟨decide (o=25),by simp[h54],X4 (fun n=>n) []⟩
 rintro z hz;simp only[upS,X6,Xw]
 try simp only[X6,KN,Nat.reduceBEq,if_true,if_false,ins,Nat.reduceLT]
 subst hz;refine(Xc rfl (fun h58=>?_) fun h58=>?_)
 · (try simp only[BN]at h58);have h2:=ar3 h58;rw[if_pos h58]at hres;clear ar1 ar2 ar3 h58;rcases k with _|⟨⟨a1,a2⟩,_|⟨⟨c1,c2⟩,r⟩⟩
   · simp at h2
   · simp at h2
   have hr33:r.length≤31:=by simp only[List.length_cons]at h2;omega
   clear h2;simp at hres;refine X0<|(Q4 (by kernel_rfl) (by kernel_rfl) (by rfl) (by simp[*,X4Q,X1g];rfl) ?_);refine X0<|X0<|X1 ?_;refine X3<|(Xb [2,3] (fun(x:Nat×Int×Int)=>[(15,.v (li x.2.1)),(16,.v (li x.2.2)),(17,.v (li ((x.1+2:Nat):Int)))]) (fun x=>[]) (fun x=>x.1≤r.length∧X2i (r.drop x.1) x.2=res) (fun x=>r.length - x.1) (0,c1,c2) ⟨Nat.zero_le _,hres⟩ ?_ ?_)
   · exact X4 (fun n=>n) []
   rintro⟨k,m,q⟩ ⟨hk',hJ⟩;simp only[upS,X6,Xw]
   try simp only[X6,KN,Nat.reduceBEq,if_true,if_false,ins,Nat.reduceLT]
   simp only at hk' hJ;clear hres;have hdec:decide (((k+2:Nat):Int)<((r.length+1+1:Nat):Int))=decide (k<r.length):=by rw[decide_eq_decide];omega
   refine X0<|X0<|(Xl (by simp[*,X4Q,X1g];rfl) ?_);refine(X7 rfl (fun h63=>X9 ?_) (fun h63=>?_))
   · (try simp only[BN]at h63);have hlt:k<r.length:=by omega
     obtain⟨⟨e1,e2⟩,he,hd⟩:=Xo hlt;have hw1:IntKind.i64.wrap ((k:Int)+2+1)=(k:Int)+1+2:=by rw[Xa (by omega) (by omega)];omega
     have htn:((k:Int)+2).toNat=k+2:=by omega
     have h02:0≤(k:Int)+2:=by omega
     rw[hd]at hJ;simp only[X2i,Zn]at hJ;have hk1:k+1≤r.length:=hlt;clear hlt h63;refine X0<|X3<|(Q7 [⟨true,.v (li (mn m e1)),none⟩,⟨true,.v (li (mx q e2)),none⟩] (by kernel_rfl) (by kernel_rfl) (by rfl) (by simp[*];first|exact⟨rfl,Iff.rfl⟩|exact⟨rfl,trivial⟩|rfl) ?_ ?_)
     · first|exact⟨Qr _ _ _,Qy _ _ _⟩|exact trivial|(repeat' first|exact trivial|exact Qr _ _ _|exact Qy _ _ _|apply And.intro)
     refine X1 ?_;exact⟨(k+1,mn m e1,mx q e2),⟨hk1,hJ⟩,by simp only;omega,X4 (fun n=>n) []⟩
   (try simp only[BN]at h63);have hkl:k=r.length:=by omega
   rw[hkl,List.drop_length]at hJ;simp only[X2i]at hJ;refine(Xf ?_);refine X2 ?_;exact(Xk (fun h=>⟨.inr rfl,h⟩) _ (by simp[*];rfl) (by subst hJ;rfl) (by simp))
 (try simp only[BN]at h58);rw[if_neg h58]at hres;subst hres;refine X2 ?_;exact Xe
end Go.Proofs.YtppjennamodfdaaGreat
