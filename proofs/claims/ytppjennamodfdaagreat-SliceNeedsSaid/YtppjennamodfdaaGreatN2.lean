/- Part 2: contracts of functions of the program and of the reference, and plain facts about what they compute; used by the proof of the claimed statement. Conditions: as each theorem states. -/
import Derived.Test.YtppjennamodfdaaGreatN1
set_option linter.unusedSimpArgs false
set_option linter.unusedVariables false
set_option linter.unnecessarySimpa false
set_option maxRecDepth 100000
set_option maxHeartbeats 2000000
namespace Go.Proofs.YtppjennamodfdaaGreat
open Go Go.Hl
mutual
def Tm.nodes:Tm→Nat
 | .mk _ _ ks=>1+Qr ks
def Qr:List Tm→Nat
 |[]=>0
 |t::l=>t.nodes+Qr l
end
mutual
def St.nodes:St→Nat
 | .mk _ _ _ _ t a b bs=>1+t.nodes+Xl a+Xl b
def Xl:List St→Nat
 |[]=>0
 |s::l=>s.nodes+Xl l
end
theorem X73 (t:Tm):1≤t.nodes:=by cases t;simp[Tm.nodes]
theorem XaB (t:St):1≤t.nodes:=by cases t;simp[St.nodes];omega
theorem W8:∀l:List Tm,l.length≤Qr l
 |[]=>by simp[Qr]
 |t::l=>by have:=W8 l;have:=X73 t;simp only[Qr,List.length_cons];omega
theorem Q9:∀l:List St,l.length≤Xl l
 |[]=>by simp[Xl]
 |t::l=>by have:=Q9 l;have:=XaB t;simp only[Xl,List.length_cons];omega
mutual
def mTm:Tm→Int→Int×Bool→Int×Bool
 | .mk _ _ ks,dep,s=>if((s.2||decide (12<dep))||decide (1024<s.1+1))=true then(s.1+1,s.2||decide (12<dep))else X3w ks (dep+1) (s.1+1,s.2||decide (12<dep))
def X3w:List Tm→Int→Int×Bool→Int×Bool
 |[],_,s=>s
 |t::l,dep,s=>X3w l dep (mTm t dep s)
end
mutual
theorem X1h:∀(t:Tm) (dep:Int) (s:Int×Bool),s.1≤(mTm t dep s).1∧(mTm t dep s).1≤s.1+t.nodes
 | .mk o n ks,dep,s=>by
   have:=XbJ ks (dep+1) (s.1+1,s.2||decide (12<dep));simp only[mTm,Tm.nodes];split
   · simp only;omega
   simp only at this;omega
theorem XbJ:∀(l:List Tm) (dep:Int) (s:Int×Bool),s.1≤(X3w l dep s).1∧(X3w l dep s).1≤s.1+Qr l
 |[],dep,s=>by simp[X3w,Qr]
 | t::l,dep,s=>by
   have h1:=X1h t dep s;have h2:=XbJ l dep (mTm t dep s);simp only[X3w,Qr];omega
end
theorem X7h (t:Tm):∀(dep c:Int) (b:Bool),0≤dep→0≤c→c+t.nodes≤1000000000→
  X8q Tryz.prog 163 [iC c,bC b] [aT t,li dep] (.tup []) [iC (mTm t dep (c,b)).1,bC (mTm t dep (c,b)).2]:=by
 induction t using Tm.ind with
 |h o n ks ih=>
 intro dep c b hdep hc hn;simp only[Tm.nodes]at hn;obtain⟨res,hres⟩:∃r,mTm (.mk o n ks) dep (c,b)=r:=⟨_,rfl⟩;rw[hres];simp only[mTm]at hres;have hlen:=W8 ks;have hw:IntKind.i64.wrap (c+1)=c+1:=Xc (by omega) (by omega);refine X2R Tryz.func163 rfl (by kernel_rfl) (Nat.le_of_ble_eq_true rfl) ?_;simp only[Tryz.f163,aT,Tm.enc];refine X4 ?_;refine X4 ?_;refine X4 ?_;refine X0<|X0<|(Xp [⟨true,.v (lb ((b||decide (12<dep))||decide (1024<c+1))),none⟩] ?_ ?_)
 · first|exact Za _ _ _|exact trivial|simpa[*]using Za _ _ _
 refine(Xe rfl (fun h4=>?_) fun h4=>?_)
 · (try simp only[BN]at h4);rw[if_pos (by simpa using h4)]at hres;subst hres;exact XU (⟨.inr rfl,_,le_refl _,⟨_,by simp[*];rfl,by simp[XN]⟩,by simp[*]⟩)
 (try simp only[BN]at h4);rw[if_neg (by simpa using h4)]at hres;have hdep2:dep≤12:=by omega
 have hwd:IntKind.i64.wrap (dep+1)=dep+1:=Xc (by omega) (by omega);refine X4 ?_;refine X5<|(Xd [0,2,29,30] (fun(x:Nat×Int×Bool)=>[(31,.v (li x.1))]) (fun x=>[(1000000,.box [.c (iC x.2.1),.c (bC x.2.2)])]) (fun x=>x.1≤ks.length∧X3w (ks.drop x.1) (dep+1) x.2=res∧0≤x.2.1∧x.2.1+Qr (ks.drop x.1)≤1000000000) (fun x=>ks.length - x.1) (0,c+1,b||decide (12<dep)) ⟨Nat.zero_le _,hres,by simp only;omega,by simp only[List.drop_zero];omega⟩ ?_ ?_)
 · exact X6 (fun n=>n) []
 rintro⟨k,m,q⟩ ⟨hk,hJ,hm,hb⟩;simp only[upS,X8,Xy]
 try simp only[X8,KN,Nat.reduceBEq,if_true,if_false,ins,Nat.reduceLT]
 simp only at hk hJ hm hb;refine X4 ?_;refine X0<|(X9 rfl (fun h9=>Xb ?_) (fun h9=>?_))
 · (try simp only[BN]at h9);have hlt:k<ks.length:=by omega
   obtain⟨⟨eo,en,ek⟩,he,hd⟩:=Xq hlt;have he':=Wt he;simp only[Tm.enc]at he';have hw1:=XA hlt (by omega);rw[hd]at hJ hb;simp only[X3w,Qr]at hJ hb;have hk1:k+1≤ks.length:=hlt;have hmem:Tm.mk eo en ek∈ks:=List.mem_of_getElem? he;have hle:=X1h (.mk eo en ek) (dep+1) (m,q);clear hlt h9;refine X0<|X5<|X0<|X3 ?_;refine(X0P 4 (.tup []) ([iC (mTm (.mk eo en ek) (dep+1) (m,q)).1,bC (mTm (.mk eo en ek) (dep+1) (m,q)).2]) rfl (by simp[*];rfl) (by simp[ioOf, *];first|exact⟨rfl,rfl,rfl,rfl,rfl⟩|exact⟨rfl,rfl,rfl,rfl⟩|exact⟨rfl,rfl,rfl⟩|exact⟨rfl,rfl⟩|rfl) (ih _ hmem (dep+1) m q (by omega) hm (by omega)) (by simp) (by simp[*];rfl) ?_);refine X3 ?_;exact⟨(k+1,mTm (.mk eo en ek) (dep+1) (m,q)),⟨hk1,hJ,by simp only at hle⊢;omega,by simp only at hle⊢;omega⟩,by simp only;omega,X6 (fun n=>n) []⟩
 (try simp only[BN]at h9);have hkl:k=ks.length:=by omega
 subst hkl;rw[List.drop_length]at hJ;simp only[X3w]at hJ;subst hJ;refine(Xg ?_);exact(⟨.inl rfl,_,le_refl _,⟨_,by simp[*];rfl,by simp[XN]⟩,by simp[*]⟩)
end Go.Proofs.YtppjennamodfdaaGreat

namespace Go.Proofs.YtppjennamodfdaaGreat
open Go Go.Hl
def X1i (k:List (Int×Int)):List (List CD):=k.map fun p=>[iC p.1,iC p.2]
@[simp] theorem len_encP (k:List (Int×Int)):(X1i k).length=k.length:=by simp[X1i]
@[simp] theorem get_encP (k:List (Int×Int)) (i:Nat):(X1i k)[i]? =k[i]?.map fun p=>[iC p.1,iC p.2]:=by simp[X1i]
@[simp] theorem encP_nil:X1i []=[]:=rfl
abbrev aP (p:Int×Int):TV:=.agg [.c (iC p.1),.c (iC p.2)]
def mn (a b:Int):Int:=if b<a then b else a
def mx (a b:Int):Int:=if a<b then b else a
def Zt (p q:Int×Int):Int×Int:=(mn p.1 q.1,mx p.2 q.2)
def X2m:List (Int×Int)→Int×Int→Int×Int
 |[],p=>p
 |q::l,p=>X2m l (Zt p q)
def mulP (a b:Int×Int):Int×Int:=Zt (Zt (Zt (a.1*b.1,a.1*b.1) (a.1*b.2,a.1*b.2)) (a.2*b.1,a.2*b.1)) (a.2*b.2,a.2*b.2)
def bnd (p:Int×Int):Prop:=-1048576≤p.1∧p.1≤p.2∧p.2≤1048576
theorem X36 (p q:Int×Int) (d:Nat):Con Tryz.prog 203 true [aP p,aP q] (.v (aP (Zt p q))) none d:=by
 refine X7 Tryz.func203 ?_;simp only[Tryz.f203];refine X4 ?_;refine X4 ?_;exact(Xm (fun h=>⟨.inr rfl,h⟩) _ (by simp[*];rfl) (by simp[XN,Zt,mn,mx]) (by simp))
theorem X5y {x y:Int} (hx:-1048576≤x∧x≤1048576) (hy:-1048576≤y∧y≤1048576):-1099511627776≤x*y∧x*y≤1099511627776:=by
 have h1:x.natAbs≤1048576:=by omega
 have h2:y.natAbs≤1048576:=by omega
 have h3:=Nat.mul_le_mul h1 h2;rw[←Int.natAbs_mul]at h3;omega
theorem X38 (x y:Int) (hx:-1048576≤x∧x≤1048576) (hy:-1048576≤y∧y≤1048576) (d:Nat):Con Tryz.prog 202 true [li x,li y] (.v (li (x*y))) none d:=by
 have hm:=X5y hx hy;have hw:IntKind.i64.wrap (x*y)=x*y:=Xc (by omega) (by omega);refine X7 Tryz.func202 ?_;simp only[Tryz.f202];refine X4 ?_;refine X4 ?_;exact Xh
def X8h:List Int→Int×Int→Int×Int
 |[],p=>p
 |q::l,p=>X8h l (Zt p (q,q))
theorem X4J (a b:Int×Int) (ha:bnd a) (hb:bnd b) (d:Nat):Con Tryz.prog 201 true [aP a,aP b,.one (.fn 202 [])] (.v (aP (mulP a b))) none d:=by
 obtain⟨a1,a2⟩:=a;obtain⟨b1,b2⟩:=b;simp only[bnd]at ha hb;refine X7 Tryz.func201 ?_;simp only[Tryz.f201];obtain⟨L,hL⟩:∃L,L=[a1*b2,a2*b1,a2*b2]:=⟨_,rfl⟩;have hlen:L.length=3:=by rw[hL];rfl
 obtain⟨res,hres⟩:∃res,mulP (a1,a2) (b1,b2)=res:=⟨_,rfl⟩;rw[hres];have hres2:X8h L (a1*b1,a1*b1)=res:=by rw[←hres,hL];rfl
 clear hres;refine X4 ?_;refine Xk [⟨true,.v (li (a1*b1)),none⟩] ?_ ?_
 · first|exact X38 _ _ (by omega) (by omega) _|exact trivial|simpa[*]using X38 _ _ (by omega) (by omega) _
 refine X4 ?_;refine X0<|X0<|(Qk [⟨true,.v (li (a1*b2)),none⟩,⟨true,.v (li (a2*b1)),none⟩,⟨true,.v (li (a2*b2)),none⟩] (by kernel_rfl) (by kernel_rfl) (by rfl) (by simp[*];first|exact⟨rfl,Iff.rfl⟩|exact⟨rfl,trivial⟩|rfl) ?_ ?_)
 · first|exact trivial|exact trivial|(repeat' first|exact trivial|exact X38 _ _ (by omega) (by omega) _|exact X38 _ _ (by omega) (by omega) _|exact X38 _ _ (by omega) (by omega) _|apply And.intro)
 refine X5<|(Xd [6,8,38,39] (fun(x:Nat×Int×Int)=>[(40,.v (li x.1))]) (fun x=>[(6,.box [.c (iC 0),.c (iC 0)]),(8,.box [.c (iC x.2.1),.c (iC x.2.2)]),(38,.row 3 1 (Xj L))]) (fun x=>x.1≤3∧X8h (L.drop x.1) x.2=res) (fun x=>3 - x.1) (0,a1*b1,a1*b1) ⟨Nat.zero_le _,hres2⟩ ?_ ?_)
 · exact Xu (fun n=>n) [] rfl (by simp[*,upS,X8]) (by simp[upS,Xj,hL]) (by simp[upS])
 rintro⟨k,m,q⟩ ⟨hk,hJ⟩;simp only[upS,X8,Xy]
 try simp only[X8,KN,Nat.reduceBEq,if_true,if_false,ins,Nat.reduceLT]
 simp only at hk hJ;clear hres2 hL;refine X4 ?_;refine X0<|(X9 rfl (fun h6=>Xb ?_) (fun h6=>?_))
 · (try simp only[BN]at h6);have hlt:k<L.length:=by omega
   obtain⟨e,he,hd⟩:=Xq hlt;have hw1:=XA hlt (by omega);rw[hd]at hJ;simp only[X8h]at hJ;have hk1:k+1≤3:=by omega
   clear hlt h6;refine X0<|X5<|X0<|X3 ?_;refine(Xp [⟨true,.v (aP (Zt (m,q) (e,e))),none⟩] ?_ ?_)
   · first|exact X36 (m,q) (e,e) _|exact trivial|simpa[*]using X36 (m,q) (e,e) _
   refine X3 ?_;exact⟨(k+1,Zt (m,q) (e,e)),⟨hk1,hJ⟩,by simp only;omega,X6 (fun n=>n) []⟩
 (try simp only[BN]at h6);have hkl:k=L.length:=by omega
 rw[hkl,List.drop_length]at hJ;simp only[X8h]at hJ;refine(Xg ?_);refine X4 ?_;exact(Xm (fun h=>⟨.inr rfl,h⟩) _ (by simp[*];rfl) (by subst hJ;rfl) (by simp))
end Go.Proofs.YtppjennamodfdaaGreat

namespace Go.Proofs.YtppjennamodfdaaGreat
open Go Go.Hl
def X0h (vars:List Vr) (inp:Bool) (n:Int):Bool:=
 decide (0≤n)&&match vars[n.toNat]? with
  |some v=> !(inp&&decide (v.kind=0))
  |none=>false
def Qh (vars:List Vr) (inp:Bool) (o n:Int) (len:Nat):Bool:=
 (!decide ((Qn o).1<0)&&(!decide ((len:Int)<(Qn o).1)&& !decide ((Qn o).2<(len:Int))))&&(if o=0 then true else if o=24 then X0h vars inp n else decide (n=0))
mutual
def QS (vars:List Vr) (inp:Bool):Tm→Bool
 | .mk o n ks=>Qh vars inp o n ks.length&&WR vars inp ks
def WR (vars:List Vr) (inp:Bool):List Tm→Bool
 |[]=>true
 |t::l=>QS vars inp t&&WR vars inp l
end
theorem X0f {vars:List Vr} {inp:Bool}:∀{l:List Tm},WR vars inp l=true→∀t∈l,QS vars inp t=true
 |[],_,t,ht=>by cases ht
 | a::l,h,t,ht=>by
   simp only[WR,Bool.and_eq_true]at h;rcases List.mem_cons.1 ht with rfl|h1
   · exact h.1
   exact X0f h.2 t h1
theorem X3K {vars:List Vr} {n:Int}:(0≤n∧n<vars.length)→∃v,vars[n.toNat]? =some v:=by
 rintro⟨h1,h2⟩;have:n.toNat<vars.length:=by omega
 exact⟨vars[n.toNat],by simp[this]⟩
theorem X0M {vars:List Vr} {n:Int} (h1:0≤n) (h2:¬n<vars.length):vars[n.toNat]? =none:=by
 rw[List.getElem?_eq_none];omega
theorem Xc8 (vars:List Vr) (inp:Bool) (hv:vars.length≤1000000000) (t:Tm):t.nodes≤1000000000→∀d:Nat,
  Con Tryz.prog 188 true [lV vars,aT t,lb inp] (.v (lb (QS vars inp t))) none d:=by
 induction t using Tm.ind with
 |h o n ks ih=>
 intro hn d;simp only[Tm.nodes]at hn;have hlen:=W8 ks;obtain⟨res,hres⟩:∃r,QS vars inp (.mk o n ks)=r:=⟨_,rfl⟩;rw[hres];simp only[QS]at hres
 have ih':∀t∈ks,∀d,Con Tryz.prog 188 true [lV vars,aT t,lb inp] (.v (lb (QS vars inp t))) none d:=by
  intro t ht d;refine ih t ht ?_ d
  have:t.nodes≤Qr ks:=by
   clear hres ih hn hlen
   induction ks with
   |nil=>cases ht
   | cons a l ih=>
     simp only[Qr];rcases List.mem_cons.1 ht with rfl|h
     · omega
     have:=ih h;omega
  omega
 clear ih;refine X7 Tryz.func188 ?_;simp only[Tryz.f188];simp only[aT,Tm.enc];refine X4 ?_;refine Xk [⟨true,.tup [li (Qn o).1,li (Qn o).2],none⟩] ?_ ?_
 · first|exact X6M o _|exact trivial|simpa[*]using X6M o _
 refine X0<|X0<|X3 ?_;refine(Xe rfl (fun h3=>?_) fun h3=>?_)
 · try simp only[BN]at h3
   have hz:Qh vars inp o n ks.length=false:=by
    unfold Qh;rw[Bool.and_eq_false_iff];refine .inl ?_;simp only[Bool.and_eq_false_iff,Bool.not_eq_false',decide_eq_true_eq];omega
   rw[hz,Bool.false_and]at hres;refine X4 ?_;exact(Xm (fun h=>⟨.inr rfl,h⟩) _ (by simp[*];rfl) (by first|rfl|simp[*]) (by simp))
 try simp only[BN]at h3
 have hz:(!decide ((Qn o).1<0)&&(!decide ((ks.length:Int)<(Qn o).1)&& !decide ((Qn o).2<(ks.length:Int))))=true:=by
  simp only[Bool.and_eq_true,Bool.not_eq_true',decide_eq_false_iff_not];omega
 refine(XO [0,2,4] (fun(z:Unit)=>[]) (fun(z:Unit)=>[(4,.box [.c (iC o),.c (iC n),.c (.sl 3 (Xo ks))])]) (fun(z:Unit)=>Qh vars inp o n ks.length=true) ?_ ?_)
 ·
  refine X4 ?_;refine X5<|X0<|X3 ?_;refine(X9 rfl (fun h9=>Xb ?_) (fun h9=>?_))
  · (try simp only[BN]at h9);exact⟨(),by unfold Qh;rw[hz,Bool.true_and,if_pos h9],X6 (fun n=>n) []⟩
  (try simp only[BN]at h9);refine X4 ?_;refine(X9 rfl (fun h12=>?_) (fun h12=>?_))
  · (try simp only[BN]at h12);by_cases hn0:0≤n
    · by_cases hn3:n<vars.length
      · obtain⟨v,hv1⟩:=X3K ⟨hn0,hn3⟩;have hn1:¬(vars.length:Int)≤n:=by omega
        have hn2:¬n<0:=by omega
        clear hn3;refine X4 ?_;refine(Xe rfl (fun h14=>?_) fun h14=>?_)
        · try simp only[BN]at h14
          have hz3:Qh vars inp o n ks.length=false:=by
           unfold Qh X0h;rw[hz,Bool.true_and,if_neg h9,if_pos h12,hv1];simp[h14]
          rw[hz3,Bool.false_and]at hres;refine X4 ?_;exact(Xm (fun h=>⟨.inr rfl,h⟩) _ (by simp[*];rfl) (by first|rfl|simp[*]) (by simp))
        try simp only[BN]at h14
        exact⟨(),by
         unfold Qh X0h;rw[hz,Bool.true_and,if_neg h9,if_pos h12,hv1];simp only[Bool.and_eq_true,Bool.not_eq_true',Bool.and_eq_false_iff,decide_eq_true_eq,decide_eq_false_iff_not]
         exact⟨hn0,h14⟩,X6 (fun n=>n) []⟩
      cases inp
      · have hv1:=X0M hn0 hn3;have hn1:(vars.length:Int)≤n:=by omega
        have hn2:¬n<0:=by omega
        have hz2:∀i,X0h vars i n=false:=by intro i;simp[X0h,hv1]
        clear hn3;refine X4 ?_;refine(Xe rfl (fun h14=>?_) fun h14=>?_)
        · try simp only[BN]at h14
          have hz3:∀i,Qh vars i o n ks.length=false:=by
           intro i;unfold Qh;rw[hz,Bool.true_and,if_neg h9,if_pos h12,hz2]
          rw[hz3,Bool.false_and]at hres;refine X4 ?_;exact(Xm (fun h=>⟨.inr rfl,h⟩) _ (by simp[*];rfl) (by first|rfl|simp[*]) (by simp))
        exact absurd h14 (by simp)
      have hv1:=X0M hn0 hn3;have hn1:(vars.length:Int)≤n:=by omega
      have hn2:¬n<0:=by omega
      have hz2:∀i,X0h vars i n=false:=by intro i;simp[X0h,hv1]
      clear hn3;refine X4 ?_;refine(Xe rfl (fun h14=>?_) fun h14=>?_)
      · try simp only[BN]at h14
        have hz3:∀i,Qh vars i o n ks.length=false:=by
         intro i;unfold Qh;rw[hz,Bool.true_and,if_neg h9,if_pos h12,hz2]
        rw[hz3,Bool.false_and]at hres;refine X4 ?_;exact(Xm (fun h=>⟨.inr rfl,h⟩) _ (by simp[*];rfl) (by first|rfl|simp[*]) (by simp))
      exact absurd h14 (by simp)
    cases inp
    · have hn2:n<0:=by omega
      have hz2:∀i,X0h vars i n=false:=by intro i;simp[X0h,hn0]
      refine X4 ?_;refine(Xe rfl (fun h14=>?_) fun h14=>?_)
      · try simp only[BN]at h14
        have hz3:∀i,Qh vars i o n ks.length=false:=by
         intro i;unfold Qh;rw[hz,Bool.true_and,if_neg h9,if_pos h12,hz2]
        rw[hz3,Bool.false_and]at hres;refine X4 ?_;exact(Xm (fun h=>⟨.inr rfl,h⟩) _ (by simp[*];rfl) (by first|rfl|simp[*]) (by simp))
      exact absurd h14 (by simp)
    have hn2:n<0:=by omega
    have hz2:∀i,X0h vars i n=false:=by intro i;simp[X0h,hn0]
    refine X4 ?_;refine(Xe rfl (fun h14=>?_) fun h14=>?_)
    · try simp only[BN]at h14
      have hz3:∀i,Qh vars i o n ks.length=false:=by
       intro i;unfold Qh;rw[hz,Bool.true_and,if_neg h9,if_pos h12,hz2]
      rw[hz3,Bool.false_and]at hres;refine X4 ?_;exact(Xm (fun h=>⟨.inr rfl,h⟩) _ (by simp[*];rfl) (by first|rfl|simp[*]) (by simp))
    exact absurd h14 (by simp)
  (try simp only[BN]at h12);refine X4 ?_;refine(Xe rfl (fun h19=>?_) fun h19=>?_)
  · try simp only[BN]at h19
    have hz3:Qh vars inp o n ks.length=false:=by
     unfold Qh;rw[hz,Bool.true_and,if_neg h9,if_neg h12];simpa using h19
    rw[hz3,Bool.false_and]at hres;refine X4 ?_;exact(Xm (fun h=>⟨.inr rfl,h⟩) _ (by simp[*];rfl) (by first|rfl|simp[*]) (by simp))
  try simp only[BN]at h19
  exact⟨(),by
   unfold Qh;rw[hz,Bool.true_and,if_neg h9,if_neg h12]
   simpa using h19,X6 (fun n=>n) []⟩
 rintro z hz;simp only[upS,X8,Xy]
 try simp only[X8,KN,Nat.reduceBEq,if_true,if_false,ins,Nat.reduceLT]
 rw[hz,Bool.true_and]at hres;refine X0<|X0<|X3 ?_;refine X5<|(Xd [0,2,65,66] (fun(x:Nat)=>[(67,.v (li x))]) (fun x=>[]) (fun x=>x≤ks.length∧WR vars inp (ks.drop x)=res) (fun x=>ks.length - x) (0:Nat) ⟨Nat.zero_le _,hres⟩ ?_ ?_)
 · exact X6 (fun n=>n) []
 rintro k ⟨hk,hJ⟩;simp only[upS,X8,Xy]
 try simp only[X8,KN,Nat.reduceBEq,if_true,if_false,ins,Nat.reduceLT]
 refine X4 ?_;refine X0<|(X9 rfl (fun h26=>Xb ?_) (fun h26=>?_))
 · (try simp only[BN]at h26);have hlt:k<ks.length:=by omega
   obtain⟨⟨eo,en,ek⟩,he,hd⟩:=Xq hlt;have he':=Wt he;simp only[Tm.enc]at he';have hw1:=XA hlt (by omega);rw[hd]at hJ;simp only[WR]at hJ;have hk1:k+1≤ks.length:=hlt;have hmem:Tm.mk eo en ek∈ks:=List.mem_of_getElem? he;clear hlt h26;refine X0<|X5<|X0<|X3 ?_;refine Xk [⟨true,.v (lb (QS vars inp (.mk eo en ek))),none⟩] ?_ ?_
   · first|exact ih' _ hmem _|exact trivial|simpa[*]using ih' _ hmem _
   refine(Xe rfl (fun h29=>?_) fun h29=>?_)
   · (try simp only[BN]at h29);rw[h29,Bool.false_and]at hJ;subst hJ;refine X4 ?_;exact(Xm (fun h=>⟨.inr rfl,h⟩) _ (by simp[*];rfl) (by first|rfl|simp[*]) (by simp))
   (try simp only[BN]at h29);rw[h29,Bool.true_and]at hJ;refine X3 ?_;exact⟨k+1,⟨hk1,hJ⟩,by omega,X6 (fun n=>n) []⟩
 (try simp only[BN]at h26);have hkl:k=ks.length:=by omega
 subst hkl;rw[List.drop_length]at hJ;simp only[WR]at hJ;subst hJ;refine(Xg ?_);refine X4 ?_;exact(Xm (fun h=>⟨.inr rfl,h⟩) _ (by simp[*];rfl) (by first|rfl|simp[*]) (by simp))
end Go.Proofs.YtppjennamodfdaaGreat

namespace Go.Proofs.YtppjennamodfdaaGreat
open Go Go.Hl
theorem takeM {α β:Type} (f:α→β) (l:List α):(l.map f).take l.length=l.map f:=by
 rw[List.take_of_length_le (by simp)]
def X1n (b:Int×Int):Int:=if b.1<0 then mn (b.1+1) 0 else 0
def X4T (b:Int×Int):Int:=if 0<b.2 then mx (b.2 - 1) 0 else 0
@[simp] def g2 (k:List (Int×Int)) (i:Nat):Int×Int:=k[i]?.getD ((0:Int),(0:Int))
def QH (vars:List Vr) (o n:Int) (k:List (Int×Int)):Int×Int:=
 if o=0 then(n,n)else if o=24 then(match vars[n.toNat]? with|some v=>(v.low,v.high)|none=>(0,0))
 else if o=6 then(-(g2 k 0).2,-(g2 k 0).1)
 else if o=8 then((g2 k 0).1+(g2 k 1).1,(g2 k 0).2+(g2 k 1).2)
 else if o=9 then((g2 k 0).1 - (g2 k 1).2,(g2 k 0).2 - (g2 k 1).1)
 else if o=10 then mulP (g2 k 0) (g2 k 1)
 else if o=11 then(if 0≤(g2 k 0).1∧0≤(g2 k 1).1 then(0,mx (g2 k 0).2 (-(g2 k 0).1))else(-(mx (g2 k 0).2 (-(g2 k 0).1)),mx (g2 k 0).2 (-(g2 k 0).1)))
 else if o=12 then(X1n (g2 k 1),X4T (g2 k 1))
 else if o=21 then(mn (g2 k 0).1 (g2 k 1).1,mn (g2 k 0).2 (g2 k 1).2)
 else if o=22 then(mx (g2 k 0).1 (g2 k 1).1,mx (g2 k 0).2 (g2 k 1).2)
 else if o=23∨o=25 then X2m (k.drop 2) (g2 k 1)else(0,1)
theorem kid {k:List (Int×Int)} (hk:∀p∈k,bnd p) {i:Nat} (h:i+1≤k.length):∃a1 a2,k[i]? =some (a1,a2)∧-1048576≤a1∧a1≤a2∧a2≤1048576:=by
 have:k[i]? =some k[i]:=by simp[show i<k.length from h]
 have h2:=hk k[i] (List.getElem_mem _);exact⟨k[i].1,k[i].2,this,h2⟩
theorem X3b {vars:List Vr} {inp:Bool} {o n:Int} {len:Nat} (h:Qh vars inp o n len=true):0≤(Qn o).1∧(Qn o).1≤len∧(len:Int)≤(Qn o).2:=by
 unfold Qh at h;simp only[Bool.and_eq_true,Bool.not_eq_true',decide_eq_false_iff_not]at h;omega
theorem X6g {vars:List Vr} {inp:Bool} {n:Int} {len:Nat} (h:Qh vars inp 24 n len=true):0≤n∧∃v,vars[n.toNat]? =some v∧(inp=true→v.kind≠0):=by
 unfold Qh X0h at h;simp only[Bool.and_eq_true,Int.reduceEq,if_false,if_true,decide_eq_true_eq]at h;obtain⟨_,h0,h⟩:=h;refine⟨h0,?_⟩;split at h
 · rename_i v hv;refine⟨v,hv,fun hi hk=>?_⟩;simp[hi,hk]at h
 cases h
theorem kids1 {o:Int} (h:o=6∨o=7):Qn o=(1,1):=by
 unfold Qn;rw[if_neg (by omega),if_pos h]
theorem kids2 {o:Int} (h:8≤o∧o≤22):Qn o=(2,2):=by
 unfold Qn;rw[if_neg (by omega),if_neg (by omega),if_pos h]
theorem kids3:Qn 23=(3,3):=by decide
theorem kids4:Qn 25=(2,33):=by decide
theorem X8N (vars:List Vr) (inp:Bool) (o n:Int) (K:CD) (k:List (Int×Int)) (hf:Qh vars inp o n k.length=true) (hk:∀p∈k,bnd p) (d:Nat):
  Con Tryz.prog 199 true [lV vars,.agg [.c (iC o),.c (iC n),.c K],.one (.c (.sl 2 (X1i k)))] (.v (aP (QH vars o n k))) none d:=by
 have har:=X3b hf;have hrf:o=24→0≤n∧∃v,vars[n.toNat]? =some v∧(inp=true→v.kind≠0):=fun h=>X6g (by rw[←h];exact hf);clear hf;have ar1:o=6→0+1≤k.length:=fun h=>by have:=kids1 (.inl h);rw[this]at har;simp only at har;omega
 have ar2:8≤o∧o≤22→0+1≤k.length∧1+1≤k.length:=fun h=>by have:=kids2 h;rw[this]at har;simp only at har;omega
 have ar3:o=23∨o=25→2≤k.length∧k.length≤33:=fun h=>by
  rcases h with h|h
  · have:=kids3;rw[h,this]at har;simp only at har;omega
  have:=kids4;rw[h,this]at har;simp only at har;omega
 clear har;refine X7 Tryz.func199 ?_;simp only[Tryz.f199];refine X4 ?_;refine X0<|X0<|X3 ?_;refine X5<|X0<|X3 ?_;refine(X9 rfl (fun h3=>?_) (fun h3=>?_))
 · (try simp only[BN]at h3);refine X4 ?_;exact(Xm (fun h=>⟨.inr rfl,h⟩) _ (by simp[*];rfl) (by first|rfl|(simp[*,QH];done)|(simp only[XN,QH];(repeat' split)<;>first|rfl|(exfalso;omega)|simp_all)) (by simp))
 (try simp only[BN]at h3);refine X4 ?_;refine(X9 rfl (fun h7=>?_) (fun h7=>?_))
 · (try simp only[BN]at h7);obtain⟨hn0,v,hv,_⟩:=hrf h7;clear hrf;refine X0<|(Q6 (by kernel_rfl) (by kernel_rfl) (by rfl) (by simp[*];rfl) ?_);exact(Xm (fun h=>⟨.inr rfl,h⟩) _ (by simp[*];rfl) (by first|rfl|(simp[*,QH];done)|(simp only[XN,QH];(repeat' split)<;>first|rfl|(exfalso;omega)|simp_all)) (by simp))
 (try simp only[BN]at h7);refine X4 ?_;refine(X9 rfl (fun h11=>?_) (fun h11=>?_))
 · (try simp only[BN]at h11);obtain⟨a1,a2,ha,hb1,hb2,hb3⟩:=kid hk (ar1 h11);have hw1:IntKind.i64.wrap (-a1)=-a1:=Xc (by omega) (by omega);have hw2:IntKind.i64.wrap (-a2)=-a2:=Xc (by omega) (by omega);clear ar1 ar2 ar3;refine X0<|(Q6 (by kernel_rfl) (by kernel_rfl) (by rfl) (by simp[*];rfl) ?_);exact(Xm (fun h=>⟨.inr rfl,h⟩) _ (by simp[*];rfl) (by first|rfl|(simp[*,QH];done)|(simp only[XN,QH];(repeat' split)<;>first|rfl|(exfalso;omega)|simp_all)) (by simp))
 (try simp only[BN]at h11);refine X4 ?_;refine(X9 rfl (fun h15=>?_) (fun h15=>?_))
 · (try simp only[BN]at h15);obtain⟨a1,a2,ha,hb1,hb2,hb3⟩:=kid hk (ar2 (by omega)).1;obtain⟨c1,c2,hc,hc1,hc2,hc3⟩:=kid hk (ar2 (by omega)).2;have hw1:IntKind.i64.wrap (a1+c1)=a1+c1:=Xc (by omega) (by omega);have hw2:IntKind.i64.wrap (a2+c2)=a2+c2:=Xc (by omega) (by omega);clear ar1 ar2 ar3;refine X0<|(Q6 (by kernel_rfl) (by kernel_rfl) (by rfl) (by simp[*];rfl) ?_);exact(Xm (fun h=>⟨.inr rfl,h⟩) _ (by simp[*];rfl) (by first|rfl|(simp[*,QH];done)|(simp only[XN,QH];(repeat' split)<;>first|rfl|(exfalso;omega)|simp_all)) (by simp))
 (try simp only[BN]at h15);refine X4 ?_;refine(X9 rfl (fun h19=>?_) (fun h19=>?_))
 · (try simp only[BN]at h19);obtain⟨a1,a2,ha,hb1,hb2,hb3⟩:=kid hk (ar2 (by omega)).1;obtain⟨c1,c2,hc,hc1,hc2,hc3⟩:=kid hk (ar2 (by omega)).2;have hw1:IntKind.i64.wrap (a1 - c2)=a1 - c2:=Xc (by omega) (by omega);have hw2:IntKind.i64.wrap (a2 - c1)=a2 - c1:=Xc (by omega) (by omega);clear ar1 ar2 ar3;refine X0<|(Q6 (by kernel_rfl) (by kernel_rfl) (by rfl) (by simp[*];rfl) ?_);exact(Xm (fun h=>⟨.inr rfl,h⟩) _ (by simp[*];rfl) (by first|rfl|(simp[*,QH];done)|(simp only[XN,QH];(repeat' split)<;>first|rfl|(exfalso;omega)|simp_all)) (by simp))
 (try simp only[BN]at h19);refine X4 ?_;refine(X9 rfl (fun h23=>?_) (fun h23=>?_))
 · (try simp only[BN]at h23);obtain⟨a1,a2,ha,hb1,hb2,hb3⟩:=kid hk (ar2 (by omega)).1;obtain⟨c1,c2,hc,hc1,hc2,hc3⟩:=kid hk (ar2 (by omega)).2;clear ar1 ar2 ar3;refine X0<|(Qk [⟨true,.v (aP (mulP (a1,a2) (c1,c2))),none⟩] (by kernel_rfl) (by kernel_rfl) (by rfl) (by simp[*];first|exact⟨rfl,Iff.rfl⟩|exact⟨rfl,trivial⟩|rfl) ?_ ?_)
   · first|exact X4J (a1,a2) (c1,c2) ⟨hb1,hb2,hb3⟩ ⟨hc1,hc2,hc3⟩ _|exact trivial|simpa[*]using X4J (a1,a2) (c1,c2) ⟨hb1,hb2,hb3⟩ ⟨hc1,hc2,hc3⟩ _
   exact(Xm (fun h=>⟨.inr rfl,h⟩) _ (by simp[*];rfl) (by first|rfl|(simp[*,QH];done)|(simp only[XN,QH];(repeat' split)<;>first|rfl|(exfalso;omega)|simp_all)) (by simp))
 (try simp only[BN]at h23);refine X4 ?_;refine(X9 rfl (fun h27=>?_) (fun h27=>?_))
 · (try simp only[BN]at h27);obtain⟨a1,a2,ha,hb1,hb2,hb3⟩:=kid hk (ar2 (by omega)).1;obtain⟨c1,c2,hc,hc1,hc2,hc3⟩:=kid hk (ar2 (by omega)).2;have hw1:IntKind.i64.wrap (-a1)=-a1:=Xc (by omega) (by omega);have hm:-1048576≤mx a2 (-a1)∧mx a2 (-a1)≤1048576:=by unfold mx;split<;>omega
   have hw2:IntKind.i64.wrap (-(mx a2 (-a1)))=-(mx a2 (-a1)):=Xc (by omega) (by omega);have hmx:(if a2< -a1 then -a1 else a2)=mx a2 (-a1):=rfl;clear ar1 ar2 ar3;refine X0<|(Q6 (by kernel_rfl) (by kernel_rfl) (by rfl) (by simp[*];rfl) ?_);refine X0<|X0<|X3 ?_;refine(Xe rfl (fun h30=>?_) fun h30=>?_)
   · (try simp only[BN]at h30);refine X4 ?_;exact(Xm (fun h=>⟨.inr rfl,h⟩) _ (by simp[*];rfl) (by first|rfl|(simp[*,QH];done)|(simp only[XN,QH];(repeat' split)<;>first|rfl|(exfalso;omega)|simp_all)) (by simp))
   (try simp only[BN]at h30);have hng:¬(0≤a1∧0≤c1):=by omega
   refine X4 ?_;exact(Xm (fun h=>⟨.inr rfl,h⟩) _ (by simp[*];rfl) (by first|rfl|(simp[*,QH];done)|(simp only[XN,QH];(repeat' split)<;>first|rfl|(exfalso;omega)|simp_all)) (by simp))
 (try simp only[BN]at h27);refine X4 ?_;refine(X9 rfl (fun h36=>?_) (fun h36=>?_))
 · (try simp only[BN]at h36);obtain⟨c1,c2,hc,hc1,hc2,hc3⟩:=kid hk (ar2 (by omega)).2;have hw1:IntKind.i64.wrap (c1+1)=c1+1:=Xc (by omega) (by omega);have hw2:IntKind.i64.wrap (c2 - 1)=c2 - 1:=Xc (by omega) (by omega);have hmn:(if 0<c1+1 then 0 else c1+1)=mn (c1+1) 0:=rfl;have hmx:(if c2 - 1<0 then 0 else c2 - 1)=mx (c2 - 1) 0:=rfl;clear ar1 ar2 ar3;refine X4 ?_;refine(XO [2,6,8] (fun(z:Int)=>[]) (fun(z:Int)=>[(6,.box [.c (iC 0),.c (iC 0)]),(8,.box [.c (iC z),.c (iC 0)])]) (fun(z:Int)=>z=X1n (c1,c2)) ?_ ?_)
   ·
    refine X4 ?_;refine(Xe rfl (fun h40=>?_) fun h40=>?_)
    · (try simp only[BN]at h40);have hml:mn (c1+1) 0=X1n (c1,c2):=by simp only[X1n];rw[if_pos h40]
      refine X3 ?_;exact⟨X1n (c1,c2),rfl,X6 (fun n=>n) []⟩
    (try simp only[BN]at h40);have hml:(0:Int)=X1n (c1,c2):=by simp only[X1n];rw[if_neg h40]
    exact⟨X1n (c1,c2),rfl,X6 (fun n=>n) []⟩
   rintro _ rfl;simp only[upS,X8,Xy]
   try simp only[X8,KN,Nat.reduceBEq,if_true,if_false,ins,Nat.reduceLT]
   refine X0<|X0<|X3 ?_;refine(Xe rfl (fun h45=>?_) fun h45=>?_)
   · (try simp only[BN]at h45);have hmh:mx (c2 - 1) 0=X4T (c1,c2):=by simp only[X4T];rw[if_pos h45]
     refine X3 ?_;refine X4 ?_;exact(Xm (fun h=>⟨.inr rfl,h⟩) _ (by simp[*];rfl) (by first|rfl|(simp[*,QH];done)|(simp only[XN,QH];(repeat' split)<;>first|rfl|(exfalso;omega)|simp_all)) (by simp))
   (try simp only[BN]at h45);have hmh:X4T (c1,c2)=0:=by simp only[X4T];rw[if_neg h45]
   refine X4 ?_;exact(Xm (fun h=>⟨.inr rfl,h⟩) _ (by simp[*];rfl) (by first|rfl|(simp[*,QH];done)|(simp only[XN,QH];(repeat' split)<;>first|rfl|(exfalso;omega)|simp_all)) (by simp))
 (try simp only[BN]at h36);refine X4 ?_;refine(X9 rfl (fun h52=>?_) (fun h52=>?_))
 · (try simp only[BN]at h52);obtain⟨a1,a2,ha,hb1,hb2,hb3⟩:=kid hk (ar2 (by omega)).1;obtain⟨c1,c2,hc,hc1,hc2,hc3⟩:=kid hk (ar2 (by omega)).2;clear ar1 ar2 ar3;refine X0<|(Q6 (by kernel_rfl) (by kernel_rfl) (by rfl) (by simp[*];rfl) ?_);exact(Xm (fun h=>⟨.inr rfl,h⟩) _ (by simp[*];rfl) (by simp[*,QH,XN,mn]) (by simp))
 (try simp only[BN]at h52);refine X4 ?_;refine(X9 rfl (fun h56=>?_) (fun h56=>?_))
 · (try simp only[BN]at h56);obtain⟨a1,a2,ha,hb1,hb2,hb3⟩:=kid hk (ar2 (by omega)).1;obtain⟨c1,c2,hc,hc1,hc2,hc3⟩:=kid hk (ar2 (by omega)).2;clear ar1 ar2 ar3;refine X0<|(Q6 (by kernel_rfl) (by kernel_rfl) (by rfl) (by simp[*];rfl) ?_);exact(Xm (fun h=>⟨.inr rfl,h⟩) _ (by simp[*];rfl) (by simp[*,QH,XN,mx]) (by simp))
 (try simp only[BN]at h56);refine(XO [2,6] (fun(z:Bool)=>[(200,.v (lb z))]) (fun(z:Bool)=>[(6,.box [.c (iC 0),.c (iC 0)])]) (fun(z:Bool)=>z=decide (o=23∨o=25)) ?_ ?_)
 ·
  refine X4 ?_;refine(X9 rfl (fun h61=>Xb ?_) (fun h61=>?_))
  · (try simp only[BN]at h61);exact⟨true,by simp[h61],X6 (fun n=>n) []⟩
  (try simp only[BN]at h61);refine X3 ?_;exact⟨decide (o=25),by simp[h61],X6 (fun n=>n) []⟩
 rintro z hz;simp only[upS,X8,Xy]
 try simp only[X8,KN,Nat.reduceBEq,if_true,if_false,ins,Nat.reduceLT]
 subst hz;obtain⟨res,hres⟩:∃r,QH vars o n k=r:=⟨_,rfl⟩;rw[hres];simp only[QH,h3,h7,h11,h15,h19,h23,h27,h36,h52,h56,if_false]at hres;refine(Xe rfl (fun h65=>?_) fun h65=>?_)
 · (try simp only[BN]at h65);have h2:=ar3 h65;rw[if_pos h65]at hres;clear ar1 ar2 ar3 h65;rcases k with _|⟨a,_|⟨c,r⟩⟩
   · simp at h2
   · simp at h2
   have hr33:r.length≤31:=by simp only[List.length_cons]at h2;omega
   clear h2;simp at hres;refine X0<|(Xn (by simp[*,X1i];rfl) ?_);refine X0<|X0<|(Xn (by simp[*,X1i,takeM];rfl) ?_);refine X5<|(Xd [6,9,207,208] (fun(x:Nat×Int×Int)=>[(209,.v (li x.1))]) (fun x=>[(6,.box [.c (iC 0),.c (iC 0)]),(9,.box [.c (iC x.2.1),.c (iC x.2.2)])]) (fun x=>x.1≤r.length∧X2m (r.drop x.1) x.2=res) (fun x=>r.length - x.1) (0,c) ⟨Nat.zero_le _,hres⟩ ?_ ?_)
   · exact X6 (fun n=>n) []
   rintro⟨k,m,q⟩ ⟨hk',hJ⟩;simp only[upS,X8,Xy]
   try simp only[X8,KN,Nat.reduceBEq,if_true,if_false,ins,Nat.reduceLT]
   simp only at hk' hJ;clear hres;refine X4 ?_;refine X0<|(X9 rfl (fun h70=>Xb ?_) (fun h70=>?_))
   · (try simp only[BN]at h70);have hlt:k<r.length:=by omega
     obtain⟨⟨e1,e2⟩,he,hd⟩:=Xq hlt;have hw1:=XA hlt (by omega);rw[hd]at hJ;simp only[X2m]at hJ;have hk1:k+1≤r.length:=hlt;clear hlt h70;refine X0<|X5<|X0<|X3 ?_;refine(Xp [⟨true,.v (aP (Zt (m,q) (e1,e2))),none⟩] ?_ ?_)
     · first|exact X36 (m,q) (e1,e2) _|exact trivial|simpa[*]using X36 (m,q) (e1,e2) _
     refine X3 ?_;exact⟨(k+1,Zt (m,q) (e1,e2)),⟨hk1,hJ⟩,by simp only;omega,X6 (fun n=>n) []⟩
   (try simp only[BN]at h70);have hkl:k=r.length:=by omega
   rw[hkl,List.drop_length]at hJ;simp only[X2m]at hJ;refine(Xg ?_);refine X4 ?_;exact(Xm (fun h=>⟨.inr rfl,h⟩) _ (by simp[*];rfl) (by subst hJ;rfl) (by simp))
 (try simp only[BN]at h65);rw[if_neg h65]at hres;subst hres;refine X4 ?_;exact(Xm (fun h=>⟨.inr rfl,h⟩) _ (by simp[*];rfl) (by first|rfl|(simp[*,QH];done)|(simp only[XN,QH];(repeat' split)<;>first|rfl|(exfalso;omega)|simp_all)) (by simp))
end Go.Proofs.YtppjennamodfdaaGreat

namespace Go.Proofs.YtppjennamodfdaaGreat
open Go Go.Hl
theorem X0D {ks:List Tm} {t:Tm} (ht:t∈ks):t.nodes≤Qr ks:=by
 induction ks with
 |nil=>cases ht
 | cons a l ih=>
   simp only[Qr];rcases List.mem_cons.1 ht with rfl|h
   · omega
   have:=ih h;omega
theorem Qv (a b:Int) (d:Nat):Con Tryz.prog 100 true [li a,li b] (.v (li (mn a b))) none d:=by
 refine X7 Tryz.func100 ?_;simp only[Tryz.f100];refine X4 ?_;refine X0<|X0<|X3 ?_;refine(Xe rfl (fun h2=>?_) fun h2=>?_)
 · (try simp only[BN]at h2);have hz:mn a b=a:=by unfold mn;split<;>omega
   refine X4 ?_;exact Xh
 (try simp only[BN]at h2);have hz:mn a b=b:=by unfold mn;split<;>omega
 refine X4 ?_;exact Xh
theorem QB (a b:Int) (d:Nat):Con Tryz.prog 99 true [li a,li b] (.v (li (mx a b))) none d:=by
 refine X7 Tryz.func99 ?_;simp only[Tryz.f99];refine X4 ?_;refine X0<|X0<|X3 ?_;refine(Xe rfl (fun h2=>?_) fun h2=>?_)
 · (try simp only[BN]at h2);have hz:mx a b=a:=by unfold mx;split<;>omega
   refine X4 ?_;exact Xh
 (try simp only[BN]at h2);have hz:mx a b=b:=by unfold mx;split<;>omega
 refine X4 ?_;exact Xh
def X3k (a:Int):Int:=if a<0 then -a else a
theorem X8D (a:Int) (h:-1048576≤a∧a≤1048576) (d:Nat):Con Tryz.prog 155 true [li a] (.v (li (X3k a))) none d:=by
 have hw:IntKind.i64.wrap (-a)=-a:=Xc (by omega) (by omega);refine X7 Tryz.func155 ?_;simp only[Tryz.f155];refine X4 ?_;refine X0<|X0<|X3 ?_;refine(Xe rfl (fun h2=>?_) fun h2=>?_)
 · (try simp only[BN]at h2);refine X4 ?_;exact(Xm (fun h=>⟨.inr rfl,h⟩) _ (by simp[*];rfl) (by first|rfl|(simp[*,X3k];done)|(simp only[XN,X3k];(repeat' split)<;>first|rfl|(exfalso;omega)|simp_all)) (by simp))
 (try simp only[BN]at h2);refine X4 ?_;exact(Xm (fun h=>⟨.inr rfl,h⟩) _ (by simp[*];rfl) (by first|rfl|(simp[*,X3k];done)|(simp only[XN,X3k];(repeat' split)<;>first|rfl|(exfalso;omega)|simp_all)) (by simp))
def Zc (o:Int):Int:=if o=0∨o=24 then 0 else if o=6∨o=7 then 1 else if 8≤o∧o≤22 then 2 else if o=23 then 3 else if o=25 then -2 else -1
theorem X6K (o:Int) (d:Nat):Con Tryz.prog 128 true [li o] (.v (li (Zc o))) none d:=by
 refine X7 Tryz.func128 ?_;simp only[Tryz.f128];refine X4 ?_;refine X0<|X0<|X3 ?_;refine X5<|(XO [3] (fun(z:Bool)=>[(4,.v (lb z))]) (fun(z:Bool)=>[]) (fun(z:Bool)=>z=decide (o=0∨o=24)) ?_ ?_)
 ·
  refine X4 ?_;refine(X9 rfl (fun h4=>Xb ?_) (fun h4=>?_))
  · (try simp only[BN]at h4);exact⟨decide (o=0∨o=24),rfl,X6 (fun n=>n) []⟩
  (try simp only[BN]at h4);refine X3 ?_;exact⟨decide (o=0∨o=24),rfl,X6 (fun n=>n) []⟩
 rintro _ rfl;simp only[upS,X8,Xy]
 try simp only[X8,KN,Nat.reduceBEq,if_true,if_false,ins,Nat.reduceLT]
 refine(X9 rfl (fun h8=>?_) (fun h8=>?_))
 · (try simp only[BN]at h8);refine X4 ?_;exact(Xm (fun h=>⟨.inr rfl,h⟩) _ (by simp[*];rfl) (by first|rfl|(simp[*,Zc];done)|(simp only[XN,Zc];(repeat' split)<;>first|rfl|(exfalso;omega)|simp_all)) (by simp))
 (try simp only[BN]at h8);refine(XO [3] (fun(z:Bool)=>[(7,.v (lb z))]) (fun(z:Bool)=>[]) (fun(z:Bool)=>z=decide (o=6∨o=7)) ?_ ?_)
 ·
  refine X4 ?_;refine(X9 rfl (fun h13=>Xb ?_) (fun h13=>?_))
  · (try simp only[BN]at h13);exact⟨decide (o=6∨o=7),rfl,X6 (fun n=>n) []⟩
  (try simp only[BN]at h13);refine X3 ?_;exact⟨decide (o=6∨o=7),rfl,X6 (fun n=>n) []⟩
 rintro _ rfl;simp only[upS,X8,Xy]
 try simp only[X8,KN,Nat.reduceBEq,if_true,if_false,ins,Nat.reduceLT]
 refine(X9 rfl (fun h17=>?_) (fun h17=>?_))
 · (try simp only[BN]at h17);refine X4 ?_;exact(Xm (fun h=>⟨.inr rfl,h⟩) _ (by simp[*];rfl) (by first|rfl|(simp[*,Zc];done)|(simp only[XN,Zc];(repeat' split)<;>first|rfl|(exfalso;omega)|simp_all)) (by simp))
 (try simp only[BN]at h17);refine(XO [3] (fun(z:Bool)=>[(10,.v (lb z))]) (fun(z:Bool)=>[]) (fun(z:Bool)=>z=decide (8≤o∧o≤22)) ?_ ?_)
 ·
  refine X4 ?_;refine(X9 rfl (fun h22=>Xb ?_) (fun h22=>?_))
  · (try simp only[BN]at h22);exact⟨decide (8≤o∧o≤22),rfl,X6 (fun n=>n) []⟩
  (try simp only[BN]at h22);refine X4 ?_;refine(X9 rfl (fun h25=>Xb ?_) (fun h25=>?_))
  · (try simp only[BN]at h25);exact⟨decide (8≤o∧o≤22),rfl,X6 (fun n=>n) []⟩
  (try simp only[BN]at h25);refine X4 ?_;refine(X9 rfl (fun h28=>Xb ?_) (fun h28=>?_))
  · (try simp only[BN]at h28);exact⟨decide (8≤o∧o≤22),rfl,X6 (fun n=>n) []⟩
  (try simp only[BN]at h28);refine X4 ?_;refine(X9 rfl (fun h31=>Xb ?_) (fun h31=>?_))
  · (try simp only[BN]at h31);exact⟨decide (8≤o∧o≤22),rfl,X6 (fun n=>n) []⟩
  (try simp only[BN]at h31);refine X4 ?_;refine(X9 rfl (fun h34=>Xb ?_) (fun h34=>?_))
  · (try simp only[BN]at h34);exact⟨decide (8≤o∧o≤22),rfl,X6 (fun n=>n) []⟩
  (try simp only[BN]at h34);refine X4 ?_;refine(X9 rfl (fun h37=>Xb ?_) (fun h37=>?_))
  · (try simp only[BN]at h37);exact⟨decide (8≤o∧o≤22),rfl,X6 (fun n=>n) []⟩
  (try simp only[BN]at h37);refine X4 ?_;refine(X9 rfl (fun h40=>Xb ?_) (fun h40=>?_))
  · (try simp only[BN]at h40);exact⟨decide (8≤o∧o≤22),rfl,X6 (fun n=>n) []⟩
  (try simp only[BN]at h40);refine X4 ?_;refine(X9 rfl (fun h43=>Xb ?_) (fun h43=>?_))
  · (try simp only[BN]at h43);exact⟨decide (8≤o∧o≤22),rfl,X6 (fun n=>n) []⟩
  (try simp only[BN]at h43);refine X4 ?_;refine(X9 rfl (fun h46=>Xb ?_) (fun h46=>?_))
  · (try simp only[BN]at h46);exact⟨decide (8≤o∧o≤22),rfl,X6 (fun n=>n) []⟩
  (try simp only[BN]at h46);refine X4 ?_;refine(X9 rfl (fun h49=>Xb ?_) (fun h49=>?_))
  · (try simp only[BN]at h49);exact⟨decide (8≤o∧o≤22),rfl,X6 (fun n=>n) []⟩
  (try simp only[BN]at h49);refine X4 ?_;refine(X9 rfl (fun h52=>Xb ?_) (fun h52=>?_))
  · (try simp only[BN]at h52);exact⟨decide (8≤o∧o≤22),rfl,X6 (fun n=>n) []⟩
  (try simp only[BN]at h52);refine X4 ?_;refine(X9 rfl (fun h55=>Xb ?_) (fun h55=>?_))
  · (try simp only[BN]at h55);exact⟨decide (8≤o∧o≤22),rfl,X6 (fun n=>n) []⟩
  (try simp only[BN]at h55);refine X4 ?_;refine(X9 rfl (fun h58=>Xb ?_) (fun h58=>?_))
  · (try simp only[BN]at h58);exact⟨decide (8≤o∧o≤22),rfl,X6 (fun n=>n) []⟩
  (try simp only[BN]at h58);refine X4 ?_;refine(X9 rfl (fun h61=>Xb ?_) (fun h61=>?_))
  · (try simp only[BN]at h61);exact⟨decide (8≤o∧o≤22),rfl,X6 (fun n=>n) []⟩
  (try simp only[BN]at h61);refine X3 ?_;have hz:decide (o=22)=(decide (8≤o)&&decide (o≤22)):=by rw[←Bool.decide_and,decide_eq_decide];omega
  exact⟨decide (8≤o∧o≤22),rfl,X6 (fun n=>n) []⟩
 rintro _ rfl;simp only[upS,X8,Xy]
 try simp only[X8,KN,Nat.reduceBEq,if_true,if_false,ins,Nat.reduceLT]
 refine(X9 rfl (fun h65=>?_) (fun h65=>?_))
 · (try simp only[BN]at h65);refine X4 ?_;exact(Xm (fun h=>⟨.inr rfl,h⟩) _ (by simp[*];rfl) (by first|rfl|(simp[*,Zc];done)|(simp only[XN,Zc];(repeat' split)<;>first|rfl|(exfalso;omega)|simp_all)) (by simp))
 (try simp only[BN]at h65);refine X4 ?_;refine(X9 rfl (fun h69=>?_) (fun h69=>?_))
 · (try simp only[BN]at h69);refine X4 ?_;exact(Xm (fun h=>⟨.inr rfl,h⟩) _ (by simp[*];rfl) (by first|rfl|(simp[*,Zc];done)|(simp only[XN,Zc];(repeat' split)<;>first|rfl|(exfalso;omega)|simp_all)) (by simp))
 (try simp only[BN]at h69);refine X4 ?_;refine(Xe rfl (fun h73=>?_) fun h73=>?_)
 · (try simp only[BN]at h73);refine X4 ?_;exact(Xm (fun h=>⟨.inr rfl,h⟩) _ (by simp[*];rfl) (by first|rfl|(simp[*,Zc];done)|(simp only[XN,Zc];(repeat' split)<;>first|rfl|(exfalso;omega)|simp_all)) (by simp))
 (try simp only[BN]at h73);refine X4 ?_;exact(Xm (fun h=>⟨.inr rfl,h⟩) _ (by simp[*];rfl) (by first|rfl|(simp[*,Zc];done)|(simp only[XN,Zc];(repeat' split)<;>first|rfl|(exfalso;omega)|simp_all)) (by simp))
end Go.Proofs.YtppjennamodfdaaGreat

namespace Go.Proofs.YtppjennamodfdaaGreat
open Go Go.Hl
theorem kids_eq (o:Int) (len:Nat):(!decide (Zc o=-1)&&((!decide (0≤Zc o)||decide ((len:Int)=Zc o))&&(!decide (Zc o=-2)||(!decide ((len:Int)<2)&& !decide (33<(len:Int))))))=(!decide ((Qn o).1<0)&&(!decide ((len:Int)<(Qn o).1)&& !decide ((Qn o).2<(len:Int)))):=by
 unfold Zc Qn
 (repeat' split)<;>simp<;>(try omega)
 all_goals(rw[Bool.eq_iff_iff];simp only[Bool.and_eq_true,Bool.or_eq_true,Bool.not_eq_true',decide_eq_true_eq,decide_eq_false_iff_not];omega)
theorem Xcs (vars:List Vr) (inp:Bool) (hv:vars.length≤1000000000) (t:Tm):t.nodes≤1000000000→∀d:Nat,
  Con Tryz.prog 96 true [lV vars,aT t,lb inp] (.v (lb (QS vars inp t))) none d:=by
 induction t using Tm.ind with
 |h o n ks ih=>
 intro hn d;simp only[Tm.nodes]at hn;have hlen:=W8 ks;obtain⟨res,hres⟩:∃r,QS vars inp (.mk o n ks)=r:=⟨_,rfl⟩;rw[hres];simp only[QS]at hres;have ih':∀t∈ks,∀d,Con Tryz.prog 96 true [lV vars,aT t,lb inp] (.v (lb (QS vars inp t))) none d:=fun t ht d=>ih t ht (by have:=X0D ht;omega) d;clear ih;have hke:=kids_eq o ks.length;refine X7 Tryz.func96 ?_;simp only[Tryz.f96];simp only[aT,Tm.enc];refine X4 ?_;refine Xk [⟨true,.v (li (Zc o)),none⟩] ?_ ?_
 · first|exact X6K o _|exact trivial|simpa[*]using X6K o _
 refine X0<|X0<|X3 ?_;refine(Xe rfl (fun h3=>?_) fun h3=>?_)
 · try simp only[BN]at h3
   have hz:Qh vars inp o n ks.length=false:=by
    unfold Qh;rw[←hke,Bool.and_eq_false_iff];refine .inl ?_;simp only[Bool.and_eq_false_iff,Bool.or_eq_false_iff,Bool.not_eq_false',decide_eq_true_eq,decide_eq_false_iff_not];omega
   rw[hz,Bool.false_and]at hres;refine X4 ?_;exact(Xm (fun h=>⟨.inr rfl,h⟩) _ (by simp[*];rfl) (by first|rfl|simp[*]) (by simp))
 try simp only[BN]at h3
 have hz:(!decide ((Qn o).1<0)&&(!decide ((ks.length:Int)<(Qn o).1)&& !decide ((Qn o).2<(ks.length:Int))))=true:=by
  rw[←hke];simp only[Bool.and_eq_true,Bool.or_eq_true,Bool.not_eq_true',decide_eq_false_iff_not,decide_eq_true_eq];omega
 clear hke;refine(XO [0,2,4] (fun(z:Unit)=>[]) (fun(z:Unit)=>[(4,.box [.c (iC o),.c (iC n),.c (.sl 3 (Xo ks))])]) (fun(z:Unit)=>Qh vars inp o n ks.length=true) ?_ ?_)
 ·
  refine X4 ?_;refine(X9 rfl (fun h8=>?_) (fun h8=>?_))
  · (try simp only[BN]at h8);by_cases hn0:0≤n
    · by_cases hn3:n<vars.length
      · obtain⟨v,hv1⟩:=X3K ⟨hn0,hn3⟩;have hn1:¬(vars.length:Int)≤n:=by omega
        have hn2:¬n<0:=by omega
        clear hn3;refine X4 ?_;refine(Xe rfl (fun h10=>?_) fun h10=>?_)
        · try simp only[BN]at h10
          have hz3:Qh vars inp o n ks.length=false:=by
           unfold Qh X0h;rw[hz,Bool.true_and,if_neg (by omega),if_pos h8,hv1];simp[h10]
          rw[hz3,Bool.false_and]at hres;refine X4 ?_;exact(Xm (fun h=>⟨.inr rfl,h⟩) _ (by simp[*];rfl) (by first|rfl|simp[*]) (by simp))
        try simp only[BN]at h10
        exact⟨(),by
         unfold Qh X0h;rw[hz,Bool.true_and,if_neg (by omega),if_pos h8,hv1];simp only[Bool.and_eq_true,Bool.not_eq_true',Bool.and_eq_false_iff,decide_eq_true_eq,decide_eq_false_iff_not]
         exact⟨hn0,h10⟩,X6 (fun n=>n) []⟩
      cases inp
      · have hv1:=X0M hn0 hn3;have hn1:(vars.length:Int)≤n:=by omega
        have hn2:¬n<0:=by omega
        have hz2:∀i,X0h vars i n=false:=by intro i;simp[X0h,hv1]
        clear hn3;refine X4 ?_;refine(Xe rfl (fun h10=>?_) fun h10=>?_)
        · try simp only[BN]at h10
          have hz3:∀i,Qh vars i o n ks.length=false:=by
           intro i;unfold Qh;rw[hz,Bool.true_and,if_neg (by omega),if_pos h8,hz2]
          rw[hz3,Bool.false_and]at hres;refine X4 ?_;exact(Xm (fun h=>⟨.inr rfl,h⟩) _ (by simp[*];rfl) (by first|rfl|simp[*]) (by simp))
        exact absurd h10 (by simp)
      have hv1:=X0M hn0 hn3;have hn1:(vars.length:Int)≤n:=by omega
      have hn2:¬n<0:=by omega
      have hz2:∀i,X0h vars i n=false:=by intro i;simp[X0h,hv1]
      clear hn3;refine X4 ?_;refine(Xe rfl (fun h10=>?_) fun h10=>?_)
      · try simp only[BN]at h10
        have hz3:∀i,Qh vars i o n ks.length=false:=by
         intro i;unfold Qh;rw[hz,Bool.true_and,if_neg (by omega),if_pos h8,hz2]
        rw[hz3,Bool.false_and]at hres;refine X4 ?_;exact(Xm (fun h=>⟨.inr rfl,h⟩) _ (by simp[*];rfl) (by first|rfl|simp[*]) (by simp))
      exact absurd h10 (by simp)
    cases inp
    · have hn2:n<0:=by omega
      have hz2:∀i,X0h vars i n=false:=by intro i;simp[X0h,hn0]
      refine X4 ?_;refine(Xe rfl (fun h10=>?_) fun h10=>?_)
      · try simp only[BN]at h10
        have hz3:∀i,Qh vars i o n ks.length=false:=by
         intro i;unfold Qh;rw[hz,Bool.true_and,if_neg (by omega),if_pos h8,hz2]
        rw[hz3,Bool.false_and]at hres;refine X4 ?_;exact(Xm (fun h=>⟨.inr rfl,h⟩) _ (by simp[*];rfl) (by first|rfl|simp[*]) (by simp))
      exact absurd h10 (by simp)
    have hn2:n<0:=by omega
    have hz2:∀i,X0h vars i n=false:=by intro i;simp[X0h,hn0]
    refine X4 ?_;refine(Xe rfl (fun h10=>?_) fun h10=>?_)
    · try simp only[BN]at h10
      have hz3:∀i,Qh vars i o n ks.length=false:=by
       intro i;unfold Qh;rw[hz,Bool.true_and,if_neg (by omega),if_pos h8,hz2]
      rw[hz3,Bool.false_and]at hres;refine X4 ?_;exact(Xm (fun h=>⟨.inr rfl,h⟩) _ (by simp[*];rfl) (by first|rfl|simp[*]) (by simp))
    exact absurd h10 (by simp)
  (try simp only[BN]at h8);refine X4 ?_;refine(Xe rfl (fun h15=>?_) fun h15=>?_)
  · try simp only[BN]at h15
    have hz3:Qh vars inp o n ks.length=false:=by
     unfold Qh;rw[hz,Bool.true_and,if_neg (by omega),if_neg h8];simp only[decide_eq_false_iff_not];omega
    rw[hz3,Bool.false_and]at hres;refine X4 ?_;exact(Xm (fun h=>⟨.inr rfl,h⟩) _ (by simp[*];rfl) (by first|rfl|simp[*]) (by simp))
  try simp only[BN]at h15
  exact⟨(),by
   unfold Qh;rw[hz,Bool.true_and];split
   · rfl
   simp only[decide_eq_true_eq]
   omega,X6 (fun n=>n) []⟩
 rintro z hz;simp only[upS,X8,Xy]
 try simp only[X8,KN,Nat.reduceBEq,if_true,if_false,ins,Nat.reduceLT]
 rw[hz,Bool.true_and]at hres;refine X0<|X0<|X3 ?_;refine X5<|(Xd [0,2,4] (fun(x:Nat)=>[(8,.v (li x))]) (fun x=>[(4,.box [.c (iC o),.c (iC n),.c (.sl 3 (Xo ks))])]) (fun x=>x≤ks.length∧WR vars inp (ks.drop x)=res) (fun x=>ks.length - x) (0:Nat) ⟨Nat.zero_le _,hres⟩ ?_ ?_)
 · exact X6 (fun n=>n) []
 rintro k ⟨hk,hJ⟩;simp only[upS,X8,Xy]
 try simp only[X8,KN,Nat.reduceBEq,if_true,if_false,ins,Nat.reduceLT]
 refine X0<|X0<|X3 ?_;refine(X9 rfl (fun h22=>Xb ?_) (fun h22=>?_))
 · (try simp only[BN]at h22);have hlt:k<ks.length:=by omega
   obtain⟨⟨eo,en,ek⟩,he,hd⟩:=Xq hlt;have he':=Wt he;simp only[Tm.enc]at he';have hw1:=XA hlt (by omega);rw[hd]at hJ;simp only[WR]at hJ;have hk1:k+1≤ks.length:=hlt;have hmem:Tm.mk eo en ek∈ks:=List.mem_of_getElem? he;clear hlt h22;refine X0<|X5<|X0<|(Xp [⟨true,.v (lb (QS vars inp (.mk eo en ek))),none⟩] ?_ ?_)
   · first|exact ih' _ hmem _|exact trivial|simpa[*]using ih' _ hmem _
   refine(Xe rfl (fun h24=>?_) fun h24=>?_)
   · (try simp only[BN]at h24);rw[h24,Bool.false_and]at hJ;subst hJ;refine X4 ?_;exact(Xm (fun h=>⟨.inr rfl,h⟩) _ (by simp[*];rfl) (by first|rfl|simp[*]) (by simp))
   (try simp only[BN]at h24);rw[h24,Bool.true_and]at hJ;refine X3 ?_;exact⟨k+1,⟨hk1,hJ⟩,by omega,X6 (fun n=>n) []⟩
 (try simp only[BN]at h22);have hkl:k=ks.length:=by omega
 subst hkl;rw[List.drop_length]at hJ;simp only[WR]at hJ;subst hJ;refine(Xg ?_);refine X4 ?_;exact(Xm (fun h=>⟨.inr rfl,h⟩) _ (by simp[*];rfl) (by first|rfl|simp[*]) (by simp))
end Go.Proofs.YtppjennamodfdaaGreat

namespace Go.Proofs.YtppjennamodfdaaGreat
open Go Go.Hl
theorem X8A (b:Int×Int) (hb:-1048576≤b.1∧b.1≤b.2∧b.2≤1048576) (d:Nat):Con Tryz.prog 156 true [li b.1,li b.2] (.tup [li (X1n b),li (X4T b)]) none d:=by
 obtain⟨c1,c2⟩:=b;simp only at hb;have hw1:IntKind.i64.wrap (c1+1)=c1+1:=Xc (by omega) (by omega);have hw2:IntKind.i64.wrap (c2 - 1)=c2 - 1:=Xc (by omega) (by omega);refine X7 Tryz.func156 ?_;simp only[Tryz.f156];refine X4 ?_;refine X4 ?_;refine(XO [1,7] (fun(z:Int)=>[(6,.v (li z))]) (fun(z:Int)=>[]) (fun(z:Int)=>z=X1n (c1,c2)) ?_ ?_)
 ·
  refine X4 ?_;refine(Xe rfl (fun h4=>?_) fun h4=>?_)
  · (try simp only[BN]at h4);have hml:mn 0 (c1+1)=X1n (c1,c2):=by simp only[X1n];rw[if_pos h4];unfold mn;(repeat' split)<;>omega
    refine(Xp [⟨true,.v (li (mn 0 (c1+1))),none⟩] ?_ ?_)
    · first|exact Qv 0 (c1+1) _|exact trivial|simpa[*]using Qv 0 (c1+1) _
    exact⟨X1n (c1,c2),rfl,X6 (fun n=>n) []⟩
  (try simp only[BN]at h4);have hml:(0:Int)=X1n (c1,c2):=by simp only[X1n];rw[if_neg h4]
  exact⟨X1n (c1,c2),rfl,X6 (fun n=>n) []⟩
 rintro _ rfl;simp only[upS,X8,Xy]
 try simp only[X8,KN,Nat.reduceBEq,if_true,if_false,ins,Nat.reduceLT]
 refine X0<|X0<|X3 ?_;refine(Xe rfl (fun h9=>?_) fun h9=>?_)
 · (try simp only[BN]at h9);have hmh:mx 0 (c2 - 1)=X4T (c1,c2):=by simp only[X4T];rw[if_pos h9];unfold mx;(repeat' split)<;>omega
   refine(Xp [⟨true,.v (li (mx 0 (c2 - 1))),none⟩] ?_ ?_)
   · first|exact QB 0 (c2 - 1) _|exact trivial|simpa[*]using QB 0 (c2 - 1) _
   refine X4 ?_;exact Xh
 (try simp only[BN]at h9);have hmh:X4T (c1,c2)=0:=by simp only[X4T];rw[if_neg h9]
 refine X4 ?_;exact Xh
def X4U (k:List (Int×Int)):List (List CD):=k.map fun p=>[iC p.1]
def X1l (k:List (Int×Int)):List (List CD):=k.map fun p=>[iC p.2]
@[simp] theorem lows_nil:X4U []=[]:=rfl
@[simp] theorem highs_nil:X1l []=[]:=rfl
@[simp] theorem len_lows (k:List (Int×Int)):(X4U k).length=k.length:=by simp[X4U]
@[simp] theorem get_lows (k:List (Int×Int)) (i:Nat):(X4U k)[i]? =k[i]?.map fun p=>[iC p.1]:=by simp[X4U]
@[simp] theorem len_highs (k:List (Int×Int)):(X1l k).length=k.length:=by simp[X1l]
@[simp] theorem get_highs (k:List (Int×Int)) (i:Nat):(X1l k)[i]? =k[i]?.map fun p=>[iC p.2]:=by simp[X1l]
def X30 (vars:List Vr) (o n:Int) (k:List (Int×Int)):Int×Int:=
 if o=0 then(if n< -1048576∨1048576<n then(-1048577,1048577)else(n,n))else QH vars o n k
theorem X8s (vars:List Vr) (inp:Bool) (o n:Int) (K:CD) (k:List (Int×Int)) (hf:Qh vars inp o n k.length=true) (hk:∀p∈k,bnd p) (d:Nat):
  Con Tryz.prog 129 true [lV vars,.agg [.c (iC o),.c (iC n),.c K],.one (.c (.sl 1 (X4U k))),.one (.c (.sl 1 (X1l k)))] (.tup [li (X30 vars o n k).1,li (X30 vars o n k).2]) none d:=by
 have har:=X3b hf;have hrf:o=24→0≤n∧∃v,vars[n.toNat]? =some v∧(inp=true→v.kind≠0):=fun h=>X6g (by rw[←h];exact hf);clear hf;have ar1:o=6→0+1≤k.length:=fun h=>by have:=kids1 (.inl h);rw[this]at har;simp only at har;omega
 have ar2:8≤o∧o≤22→0+1≤k.length∧1+1≤k.length:=fun h=>by have:=kids2 h;rw[this]at har;simp only at har;omega
 have ar3:o=23∨o=25→2≤k.length∧k.length≤33:=fun h=>by
  rcases h with h|h
  · have:=kids3;rw[h,this]at har;simp only at har;omega
  have:=kids4;rw[h,this]at har;simp only at har;omega
 clear har;obtain⟨res,hres⟩:∃r,X30 vars o n k=r:=⟨_,rfl⟩;rw[hres];simp only[X30,QH]at hres;refine X7 Tryz.func129 ?_;simp only[Tryz.f129];refine X4 ?_;refine X0<|X0<|X3 ?_;refine X5<|X0<|X3 ?_;refine(X9 rfl (fun h3=>?_) (fun h3=>?_))
 · (try simp only[BN]at h3);rw[if_pos h3]at hres;refine X0<|X0<|X3 ?_;refine(Xe rfl (fun h5=>?_) fun h5=>?_)
   · (try simp only[BN]at h5);rw[if_pos h5]at hres;subst hres;refine X4 ?_;exact Xh
   (try simp only[BN]at h5);rw[if_neg (by omega)]at hres;subst hres;refine X0<|(Q6 (by kernel_rfl) (by kernel_rfl) (by rfl) (by simp[*];rfl) ?_);exact Xh
 (try simp only[BN]at h3);rw[if_neg h3,if_neg h3]at hres;refine X4 ?_;refine(X9 rfl (fun h11=>?_) (fun h11=>?_))
 · (try simp only[BN]at h11);obtain⟨hn0,v,hv,_⟩:=hrf h11;rw[if_pos h11,hv]at hres;subst hres;clear hrf;refine X0<|(Q6 (by kernel_rfl) (by kernel_rfl) (by rfl) (by simp[*];rfl) ?_);exact Xh
 (try simp only[BN]at h11);rw[if_neg h11]at hres;refine X4 ?_;refine(X9 rfl (fun h15=>?_) (fun h15=>?_))
 · (try simp only[BN]at h15);obtain⟨a1,a2,ha,hb1,hb2,hb3⟩:=kid hk (ar1 h15);have hw1:IntKind.i64.wrap (-a1)=-a1:=Xc (by omega) (by omega);have hw2:IntKind.i64.wrap (-a2)=-a2:=Xc (by omega) (by omega);rw[if_pos h15]at hres;simp only[g2,ha,Option.getD_some]at hres;subst hres;clear ar1 ar2 ar3;refine X0<|(Q6 (by kernel_rfl) (by kernel_rfl) (by rfl) (by simp[*];rfl) ?_);exact Xh
 (try simp only[BN]at h15);rw[if_neg h15]at hres;refine X4 ?_;refine(X9 rfl (fun h19=>?_) (fun h19=>?_))
 · (try simp only[BN]at h19);obtain⟨a1,a2,ha,hb1,hb2,hb3⟩:=kid hk (ar2 (by omega)).1;obtain⟨c1,c2,hc,hc1,hc2,hc3⟩:=kid hk (ar2 (by omega)).2;have hw1:IntKind.i64.wrap (a1+c1)=a1+c1:=Xc (by omega) (by omega);have hw2:IntKind.i64.wrap (a2+c2)=a2+c2:=Xc (by omega) (by omega);rw[if_pos h19]at hres;simp only[g2,ha,hc,Option.getD_some]at hres;subst hres;clear ar1 ar2 ar3;refine X0<|(Q6 (by kernel_rfl) (by kernel_rfl) (by rfl) (by simp[*];rfl) ?_);exact Xh
 (try simp only[BN]at h19);rw[if_neg h19]at hres;refine X4 ?_;refine(X9 rfl (fun h23=>?_) (fun h23=>?_))
 · (try simp only[BN]at h23);obtain⟨a1,a2,ha,hb1,hb2,hb3⟩:=kid hk (ar2 (by omega)).1;obtain⟨c1,c2,hc,hc1,hc2,hc3⟩:=kid hk (ar2 (by omega)).2;have hw1:IntKind.i64.wrap (a1 - c2)=a1 - c2:=Xc (by omega) (by omega);have hw2:IntKind.i64.wrap (a2 - c1)=a2 - c1:=Xc (by omega) (by omega);rw[if_pos h23]at hres;simp only[g2,ha,hc,Option.getD_some]at hres;subst hres;clear ar1 ar2 ar3;refine X0<|(Q6 (by kernel_rfl) (by kernel_rfl) (by rfl) (by simp[*];rfl) ?_);exact Xh
 (try simp only[BN]at h23);rw[if_neg h23]at hres;refine X4 ?_;refine(X9 rfl (fun h27=>?_) (fun h27=>?_))
 · (try simp only[BN]at h27);obtain⟨a1,a2,ha,hb1,hb2,hb3⟩:=kid hk (ar2 (by omega)).1;obtain⟨c1,c2,hc,hc1,hc2,hc3⟩:=kid hk (ar2 (by omega)).2;rw[if_pos h27]at hres;simp only[g2,ha,hc,Option.getD_some]at hres;clear ar1 ar2 ar3;have hm1:=X5y ⟨hb1,by omega⟩ ⟨hc1,by omega⟩ (x:=a1) (y:=c1);have hm2:=X5y ⟨hb1,by omega⟩ ⟨by omega,hc3⟩ (x:=a1) (y:=c2);have hm3:=X5y ⟨by omega,hb3⟩ ⟨hc1,by omega⟩ (x:=a2) (y:=c1);have hm4:=X5y ⟨by omega,hb3⟩ ⟨by omega,hc3⟩ (x:=a2) (y:=c2);have hw1:IntKind.i64.wrap (a1*c1)=a1*c1:=Xc (by omega) (by omega);have hw2:IntKind.i64.wrap (a1*c2)=a1*c2:=Xc (by omega) (by omega);have hw3:IntKind.i64.wrap (a2*c1)=a2*c1:=Xc (by omega) (by omega);have hw4:IntKind.i64.wrap (a2*c2)=a2*c2:=Xc (by omega) (by omega)
   have he1:mn (mn (a1*c1) (a1*c2)) (mn (a2*c1) (a2*c2))=res.1:=by
    rw[←hres];simp only[mulP,Zt,mn];generalize a1*c1=p at*;generalize a1*c2=q at*;generalize a2*c1=r at*;generalize a2*c2=s at*
    (repeat' split)<;>omega
   have he2:mx (mx (a1*c1) (a1*c2)) (mx (a2*c1) (a2*c2))=res.2:=by
    rw[←hres];simp only[mulP,Zt,mx];generalize a1*c1=p at*;generalize a1*c2=q at*;generalize a2*c1=r at*;generalize a2*c2=s at*
    (repeat' split)<;>omega
   clear hres hm1 hm2 hm3 hm4;refine X0<|(Q6 (by kernel_rfl) (by kernel_rfl) (by rfl) (by simp[*];rfl) ?_);refine Xk [⟨true,.v (li (mn (a1*c1) (a1*c2))),none⟩,⟨true,.v (li (mn (a2*c1) (a2*c2))),none⟩,⟨true,.v (li (mn (mn (a1*c1) (a1*c2)) (mn (a2*c1) (a2*c2)))),none⟩,⟨true,.v (li (mx (a1*c1) (a1*c2))),none⟩,⟨true,.v (li (mx (a2*c1) (a2*c2))),none⟩,⟨true,.v (li (mx (mx (a1*c1) (a1*c2)) (mx (a2*c1) (a2*c2)))),none⟩] ?_ ?_
   · first|exact trivial|exact trivial|(repeat' first|exact trivial|exact Qv _ _ _|exact Qv _ _ _|(simpa[he1]using Qv (mn (a1*c1) (a1*c2)) (mn (a2*c1) (a2*c2)) _)|exact QB _ _ _|exact QB _ _ _|(simpa[he2]using QB (mx (a1*c1) (a1*c2)) (mx (a2*c1) (a2*c2)) _)|apply And.intro)
   exact Xh
 (try simp only[BN]at h27);rw[if_neg h27]at hres;refine X4 ?_;refine(X9 rfl (fun h32=>?_) (fun h32=>?_))
 · (try simp only[BN]at h32);obtain⟨a1,a2,ha,hb1,hb2,hb3⟩:=kid hk (ar2 (by omega)).1;obtain⟨c1,c2,hc,hc1,hc2,hc3⟩:=kid hk (ar2 (by omega)).2;rw[if_pos h32]at hres;simp only[g2,ha,hc,Option.getD_some]at hres
   have hmm:mx (X3k a1) (X3k a2)=mx a2 (-a1):=by
    unfold mx X3k
    (repeat' split)<;>omega
   have hm:-1048576≤mx a2 (-a1)∧mx a2 (-a1)≤1048576:=by unfold mx;split<;>omega
   have hw2:IntKind.i64.wrap (-(mx a2 (-a1)))=-(mx a2 (-a1)):=Xc (by omega) (by omega);clear ar1 ar2 ar3;refine X0<|(Qk [⟨true,.v (li (X3k a1)),none⟩,⟨true,.v (li (X3k a2)),none⟩,⟨true,.v (li (mx (X3k a1) (X3k a2))),none⟩] (by kernel_rfl) (by kernel_rfl) (by rfl) (by simp[*];first|exact⟨rfl,Iff.rfl⟩|exact⟨rfl,trivial⟩|rfl) ?_ ?_)
   · first|exact trivial|exact trivial|(repeat' first|exact trivial|exact X8D a1 (by omega) _|exact X8D a2 (by omega) _|(simpa[hmm]using QB (X3k a1) (X3k a2) _)|apply And.intro)
   refine X0<|X0<|X3 ?_;refine(Xe rfl (fun h35=>?_) fun h35=>?_)
   · (try simp only[BN]at h35);rw[if_pos h35]at hres;subst hres;refine X4 ?_;exact Xh
   (try simp only[BN]at h35);rw[if_neg (by omega)]at hres;subst hres;refine X4 ?_;exact Xh
 (try simp only[BN]at h32);rw[if_neg h32]at hres;refine X4 ?_;refine(X9 rfl (fun h41=>?_) (fun h41=>?_))
 · (try simp only[BN]at h41);obtain⟨c1,c2,hc,hc1,hc2,hc3⟩:=kid hk (ar2 (by omega)).2;rw[if_pos h41]at hres;simp only[g2,hc,Option.getD_some]at hres;subst hres;clear ar1 ar2 ar3;refine X0<|(Qk [⟨true,.tup [li (X1n (c1,c2)),li (X4T (c1,c2))],none⟩] (by kernel_rfl) (by kernel_rfl) (by rfl) (by simp[*];first|exact⟨rfl,Iff.rfl⟩|exact⟨rfl,trivial⟩|rfl) ?_ ?_)
   · first|exact X8A (c1,c2) ⟨hc1,hc2,hc3⟩ _|exact trivial|simpa[*]using X8A (c1,c2) ⟨hc1,hc2,hc3⟩ _
   exact Xh
 (try simp only[BN]at h41);rw[if_neg h41]at hres;refine X4 ?_;refine(X9 rfl (fun h45=>?_) (fun h45=>?_))
 · (try simp only[BN]at h45);obtain⟨a1,a2,ha,hb1,hb2,hb3⟩:=kid hk (ar2 (by omega)).1;obtain⟨c1,c2,hc,hc1,hc2,hc3⟩:=kid hk (ar2 (by omega)).2;rw[if_pos h45]at hres;simp only[g2,ha,hc,Option.getD_some]at hres;subst hres;clear ar1 ar2 ar3;refine X0<|(Qk [⟨true,.v (li (mn a1 c1)),none⟩,⟨true,.v (li (mn a2 c2)),none⟩] (by kernel_rfl) (by kernel_rfl) (by rfl) (by simp[*];first|exact⟨rfl,Iff.rfl⟩|exact⟨rfl,trivial⟩|rfl) ?_ ?_)
   · first|exact⟨Qv _ _ _,Qv _ _ _⟩|exact trivial|(repeat' first|exact trivial|exact Qv _ _ _|exact Qv _ _ _|apply And.intro)
   exact Xh
 (try simp only[BN]at h45);rw[if_neg h45]at hres;refine X4 ?_;refine(X9 rfl (fun h49=>?_) (fun h49=>?_))
 · (try simp only[BN]at h49);obtain⟨a1,a2,ha,hb1,hb2,hb3⟩:=kid hk (ar2 (by omega)).1;obtain⟨c1,c2,hc,hc1,hc2,hc3⟩:=kid hk (ar2 (by omega)).2;rw[if_pos h49]at hres;simp only[g2,ha,hc,Option.getD_some]at hres;subst hres;clear ar1 ar2 ar3;refine X0<|(Qk [⟨true,.v (li (mx a1 c1)),none⟩,⟨true,.v (li (mx a2 c2)),none⟩] (by kernel_rfl) (by kernel_rfl) (by rfl) (by simp[*];first|exact⟨rfl,Iff.rfl⟩|exact⟨rfl,trivial⟩|rfl) ?_ ?_)
   · first|exact⟨QB _ _ _,QB _ _ _⟩|exact trivial|(repeat' first|exact trivial|exact QB _ _ _|exact QB _ _ _|apply And.intro)
   exact Xh
 (try simp only[BN]at h49);rw[if_neg h49]at hres;refine(XO [2,3] (fun(z:Bool)=>[(202,.v (lb z))]) (fun(z:Bool)=>[]) (fun(z:Bool)=>z=decide (o=23∨o=25)) ?_ ?_)
 ·
  refine X4 ?_;refine(X9 rfl (fun h54=>Xb ?_) (fun h54=>?_))
  · (try simp only[BN]at h54);exact⟨true,by simp[h54],X6 (fun n=>n) []⟩
  (try simp only[BN]at h54);refine X3 ?_;exact⟨decide (o=25),by simp[h54],X6 (fun n=>n) []⟩
 rintro z hz;simp only[upS,X8,Xy]
 try simp only[X8,KN,Nat.reduceBEq,if_true,if_false,ins,Nat.reduceLT]
 subst hz;refine(Xe rfl (fun h58=>?_) fun h58=>?_)
 · (try simp only[BN]at h58);have h2:=ar3 h58;rw[if_pos h58]at hres;clear ar1 ar2 ar3 h58;rcases k with _|⟨⟨a1,a2⟩,_|⟨⟨c1,c2⟩,r⟩⟩
   · simp at h2
   · simp at h2
   have hr33:r.length≤31:=by simp only[List.length_cons]at h2;omega
   clear h2;simp at hres;refine X0<|(Q6 (by kernel_rfl) (by kernel_rfl) (by rfl) (by simp[*,X4U,X1l];rfl) ?_);refine X0<|X0<|X3 ?_;refine X5<|(Xd [2,3] (fun(x:Nat×Int×Int)=>[(15,.v (li x.2.1)),(16,.v (li x.2.2)),(17,.v (li ((x.1+2:Nat):Int)))]) (fun x=>[]) (fun x=>x.1≤r.length∧X2m (r.drop x.1) x.2=res) (fun x=>r.length - x.1) (0,c1,c2) ⟨Nat.zero_le _,hres⟩ ?_ ?_)
   · exact X6 (fun n=>n) []
   rintro⟨k,m,q⟩ ⟨hk',hJ⟩;simp only[upS,X8,Xy]
   try simp only[X8,KN,Nat.reduceBEq,if_true,if_false,ins,Nat.reduceLT]
   simp only at hk' hJ;clear hres;have hdec:decide (((k+2:Nat):Int)<((r.length+1+1:Nat):Int))=decide (k<r.length):=by rw[decide_eq_decide];omega
   refine X0<|X0<|(Xn (by simp[*,X4U,X1l];rfl) ?_);refine(X9 rfl (fun h63=>Xb ?_) (fun h63=>?_))
   · (try simp only[BN]at h63);have hlt:k<r.length:=by omega
     obtain⟨⟨e1,e2⟩,he,hd⟩:=Xq hlt;have hw1:IntKind.i64.wrap ((k:Int)+2+1)=(k:Int)+1+2:=by rw[Xc (by omega) (by omega)];omega
     have htn:((k:Int)+2).toNat=k+2:=by omega
     have h02:0≤(k:Int)+2:=by omega
     rw[hd]at hJ;simp only[X2m,Zt]at hJ;have hk1:k+1≤r.length:=hlt;clear hlt h63;refine X0<|X5<|(Qk [⟨true,.v (li (mn m e1)),none⟩,⟨true,.v (li (mx q e2)),none⟩] (by kernel_rfl) (by kernel_rfl) (by rfl) (by simp[*];first|exact⟨rfl,Iff.rfl⟩|exact⟨rfl,trivial⟩|rfl) ?_ ?_)
     · first|exact⟨Qv _ _ _,QB _ _ _⟩|exact trivial|(repeat' first|exact trivial|exact Qv _ _ _|exact QB _ _ _|apply And.intro)
     refine X3 ?_;exact⟨(k+1,mn m e1,mx q e2),⟨hk1,hJ⟩,by simp only;omega,X6 (fun n=>n) []⟩
   (try simp only[BN]at h63);have hkl:k=r.length:=by omega
   rw[hkl,List.drop_length]at hJ;simp only[X2m]at hJ;refine(Xg ?_);refine X4 ?_;exact(Xm (fun h=>⟨.inr rfl,h⟩) _ (by simp[*];rfl) (by subst hJ;rfl) (by simp))
 (try simp only[BN]at h58);rw[if_neg h58]at hres;subst hres;refine X4 ?_;exact Xh
end Go.Proofs.YtppjennamodfdaaGreat
