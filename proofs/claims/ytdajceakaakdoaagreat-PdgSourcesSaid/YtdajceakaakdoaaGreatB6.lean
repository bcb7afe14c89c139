/- Contracts of functions and plain facts about what they compute. Conditions: as each theorem states. -/
import Derived.Test.YtdajceakaakdoaaGreatB1
set_option linter.unusedSimpArgs false
set_option linter.unusedVariables false
set_option linter.unnecessarySimpa false
set_option maxRecDepth 100000
set_option maxHeartbeats 2000000
namespace Go.Proofs.YtdajceakaakdoaaGreat
open Go Go.Hl
open Tryz(prog)
theorem kids_eq (o:Int) (len:Nat):(!decide (Zq o=-1)&&((!decide (0<=Zq o)||decide ((len:Int)=Zq o))&&(!decide (Zq o=-2)||(!decide ((len:Int)<2)&& !decide (33<(len:Int))))))=(!decide ((Qp o).1<0)&&(!decide ((len:Int)<(Qp o).1)&& !decide ((Qp o).2<(len:Int)))):=by
 unfold Zq Qp
 (repeat' split)<;>simp<;>(try omega)
 all_goals(rw[Dk];simp only[N4,Nl,Nw,N6,Nj];omega)
theorem XcI (vars:List Vr) (inp:Bool) (hv:vars.length<=1000000000) (t:Tm):t.nodes<=1000000000->∀d:Nat,
  Con prog 96 true [lV vars,aT t,lb inp] (.v (lb (QT vars inp t))) none d:=by
 induction t using Tm.ind with
 |h o n ks ih=>
 intro hn d;simp only[Tm.nodes]at hn;have hlen:=Wh ks;obtain⟨res,hres⟩:∃r,QT vars inp (.mk o n ks)=r:=⟨_,rfl⟩;rw[hres];simp only[QT]at hres;have ih':∀t∈ks,∀d,Con prog 96 true [lV vars,aT t,lb inp] (.v (lb (QT vars inp t))) none d:=fun t ht d=>ih t ht (by have:=ZD ht;omega) d;clear ih;have hke:=kids_eq o ks.length;refine X6 Tryz.func96 ?_;simp only[Tryz.f96];simp only[aT,Tm.enc];refine X1 ?_;refine Xk [⟨true,.v (li (Zq o)),none⟩] ?_ ?_
 .first|exact X73 o _|exact trivial|simpa[*]using X73 o _
 refine X0<|X0<|X2 ?_;refine(Xc rfl (fun h3=>?_) fun h3=>?_)
 .try simp only[BN]at h3
  have hz:Qi vars inp o n ks.length=false:=by
   unfold Qi;rw[<-hke,NB];refine .inl ?_;simp only[NB,NV,Bool.not_eq_false',N6,Nj];omega
  rw[hz,Dh]at hres;refine X1 ?_;exact(Xf (he:=by first|rfl|simp[*]))
 try simp only[BN]at h3
 have hz:(!decide ((Qp o).1<0)&&(!decide ((ks.length:Int)<(Qp o).1)&& !decide ((Qp o).2<(ks.length:Int))))=true:=by
  rw[<-hke];simp only[N4,Nl,Nw,Nj,N6];omega
 clear hke;refine(XM [0,2,4] (fun(z:Unit)=>[]) (fun(z:Unit)=>[(4,.box [.c (iC o),.c (iC n),.c (.sl 3 (XA ks))])]) (fun(z:Unit)=>Qi vars inp o n ks.length=true) ?_ ?_)
 ·
  refine X1 ?_;refine(X8 rfl (fun h8=>?_) (fun h8=>?_))
  ·(try simp only[BN]at h8);by_cases hn0:0<=n
   .by_cases hn3:n<vars.length
    .obtain⟨v,hv1⟩:=X3X ⟨hn0,hn3⟩;have hn1:¬(vars.length:Int)<=n:=by omega
     have hn2:¬n<0:=by omega
     clear hn3;refine X1 ?_;refine(Xc rfl (fun h10=>?_) fun h10=>?_)
     .try simp only[BN]at h10
      have hz3:Qi vars inp o n ks.length=false:=by
       unfold Qi ZX;rw[hz,NW,N7 (by omega),Na h8,hv1];simp[h10]
      rw[hz3,Dh]at hres;refine X1 ?_;exact(Xf (he:=by first|rfl|simp[*]))
     try simp only[BN]at h10
     exact⟨(),by
      unfold Qi ZX;rw[hz,NW,N7 (by omega),Na h8,hv1];simp only[N4,Nw,NB,N6,Nj]
      exact⟨hn0,h10⟩,X4 (fun n=>n) []⟩
    cases inp
    .have hv1:=X0H hn0 hn3;have hn1:(vars.length:Int)<=n:=by omega
     have hn2:¬n<0:=by omega
     have hz2:∀i,ZX vars i n=false:=by intro i;simp[ZX,hv1]
     clear hn3;refine X1 ?_;refine(Xc rfl (fun h10=>?_) fun h10=>?_)
     .try simp only[BN]at h10
      have hz3:∀i,Qi vars i o n ks.length=false:=by
       intro i;unfold Qi;rw[hz,NW,N7 (by omega),Na h8,hz2]
      rw[hz3,Dh]at hres;refine X1 ?_;exact(Xf (he:=by first|rfl|simp[*]))
     exact absurd h10 (by simp)
    have hv1:=X0H hn0 hn3;have hn1:(vars.length:Int)<=n:=by omega
    have hn2:¬n<0:=by omega
    have hz2:∀i,ZX vars i n=false:=by intro i;simp[ZX,hv1]
    clear hn3;refine X1 ?_;refine(Xc rfl (fun h10=>?_) fun h10=>?_)
    .try simp only[BN]at h10
     have hz3:∀i,Qi vars i o n ks.length=false:=by
      intro i;unfold Qi;rw[hz,NW,N7 (by omega),Na h8,hz2]
     rw[hz3,Dh]at hres;refine X1 ?_;exact(Xf (he:=by first|rfl|simp[*]))
    exact absurd h10 (by simp)
   cases inp
   .have hn2:n<0:=by omega
    have hz2:∀i,ZX vars i n=false:=by intro i;simp[ZX,hn0]
    refine X1 ?_;refine(Xc rfl (fun h10=>?_) fun h10=>?_)
    .try simp only[BN]at h10
     have hz3:∀i,Qi vars i o n ks.length=false:=by
      intro i;unfold Qi;rw[hz,NW,N7 (by omega),Na h8,hz2]
     rw[hz3,Dh]at hres;refine X1 ?_;exact(Xf (he:=by first|rfl|simp[*]))
    exact absurd h10 (by simp)
   have hn2:n<0:=by omega
   have hz2:∀i,ZX vars i n=false:=by intro i;simp[ZX,hn0]
   refine X1 ?_;refine(Xc rfl (fun h10=>?_) fun h10=>?_)
   .try simp only[BN]at h10
    have hz3:∀i,Qi vars i o n ks.length=false:=by
     intro i;unfold Qi;rw[hz,NW,N7 (by omega),Na h8,hz2]
    rw[hz3,Dh]at hres;refine X1 ?_;exact(Xf (he:=by first|rfl|simp[*]))
   exact absurd h10 (by simp)
  (try simp only[BN]at h8);refine X1 ?_;refine(Xc rfl (fun h15=>?_) fun h15=>?_)
  .try simp only[BN]at h15
   have hz3:Qi vars inp o n ks.length=false:=by
    unfold Qi;rw[hz,NW,N7 (by omega),N7 h8];simp only[Nj];omega
   rw[hz3,Dh]at hres;refine X1 ?_;exact(Xf (he:=by first|rfl|simp[*]))
  try simp only[BN]at h15
  exact⟨(),by
   unfold Qi;rw[hz,NW];split
   .rfl
   simp only[N6]
   omega,X4 (fun n=>n) []⟩
 rintro z hz;simp only[upS,X5,Xy]
 try simp only[X5,KN,Nat.reduceBEq,Nf,Nc,ins,Nat.reduceLT]
 rw[hz,NW]at hres;refine X0<|X0<|X2 ?_;refine X3<|(Xd [0,2,4] (fun(x:Nat)=>[(8,.v (li x))]) (fun x=>[(4,.box [.c (iC o),.c (iC n),.c (.sl 3 (XA ks))])]) (fun x=>x<=ks.length/\WC vars inp (ks.drop x)=res) (fun x=>ks.length - x) (0:Nat) ⟨Nq _,hres⟩ ?_ ?_)
 .exact X4 (fun n=>n) []
 rintro k ⟨hk,hJ⟩;simp only[upS,X5,Xy]
 try simp only[X5,KN,Nat.reduceBEq,Nf,Nc,ins,Nat.reduceLT]
 refine X0<|X0<|X2 ?_;refine(X8 rfl (fun h22=>Xb ?_) (fun h22=>?_))
 ·(try simp only[BN]at h22);have hlt:k<ks.length:=by omega
  obtain⟨⟨eo,en,ek⟩,he,hd⟩:=Xu hlt;have he':=Wx he;simp only[Tm.enc]at he';have hw1:=XE hlt (by omega);rw[hd]at hJ;simp only[WC]at hJ;have hk1:k+1<=ks.length:=hlt;have hmem:Tm.mk eo en ek∈ks:=N3 he;clear hlt h22;refine X0<|X3<|X0<|(Xo [⟨true,.v (lb (QT vars inp (.mk eo en ek))),none⟩] ?_ ?_)
  .first|exact ih' _ hmem _|exact trivial|simpa[*]using ih' _ hmem _
  refine(Xc rfl (fun h24=>?_) fun h24=>?_)
  ·(try simp only[BN]at h24);rw[h24,Dh]at hJ;subst hJ;refine X1 ?_;exact(Xf (he:=by first|rfl|simp[*]))
  (try simp only[BN]at h24);rw[h24,NW]at hJ;refine X2 ?_;exact⟨k+1,⟨hk1,hJ⟩,by omega,X4 (fun n=>n) []⟩
 (try simp only[BN]at h22);have hkl:k=ks.length:=by omega
 subst hkl;rw[Nt]at hJ;simp only[WC]at hJ;subst hJ;refine(Xg ?_);refine X1 ?_;exact(Xf (he:=by first|rfl|simp[*]))
end Go.Proofs.YtdajceakaakdoaaGreat
