/- Part 5: contracts of functions of the program and of the reference, and plain facts about what they compute; used by the proof of the claimed statement. Conditions: as each theorem states. -/
import Derived.Test.YtdajceakaakdoaaGreatI2
import Derived.Test.YtdajceakaakdoaaGreatI3
import Derived.Test.YtdajceakaakdoaaGreatI1
set_option linter.unusedSimpArgs false
set_option linter.unusedVariables false
set_option linter.unnecessarySimpa false
set_option maxRecDepth 100000
set_option maxHeartbeats 2000000
namespace Go.Proofs.YtdajceakaakdoaaGreat
open Go Go.Hl
def WH (v:Vr):Prop:=QI v.low v.high=false∨(v.kind≠0∧v.init≠0)∨(v.kind=0∧(v.init<v.low∨v.high<v.init))
instance (v:Vr):Decidable (WH v):=by unfold WH;exact inferInstance
def Ze (seen:List Vr) (v:Vr):Int:=
 if ZJ v.name=false then 7 else if(seen.any fun w=>decide (w.name=v.name))=true then 8 else if v.kind<0∨3<v.kind then 1 else if WH v then 3 else 0
def vcs:List Vr→List Vr→Int
 |_,[]=>0
 |seen,v::l=>if Ze seen v=0 then vcs (seen++[v]) l else Ze seen v
def X2P (vars:List Vr) (kind:Int):Bool:=decide (4096<spc vars kind)||(decide (kind=3)&&decide (256<spc vars kind))
def ZZ (vars:List Vr):Int:=if vcs [] vars=0 then(if([1,2,3].any (X2P vars))=true then 4 else 0)else vcs [] vars
theorem X3y:∀(l seen:List Vr),vcs seen l=0→X08 l
 |[],_,_,v,hv=>by cases hv
 | w :: l,seen,h,v,hv=>by
   simp only[vcs]at h;split at h
   · rename_i h0;rcases List.mem_cons.1 hv with rfl|hv
     · unfold Ze at h0;split at h0
       · cases h0
       split at h0
       · cases h0
       split at h0
       · cases h0
       split at h0
       · cases h0
       rename_i hk;unfold WH at hk
       have hb:QI v.low v.high=true:=by
        cases hb:QI v.low v.high with
        |true=>rfl
        |false=>exact absurd (.inl hb) hk
       simp only[QI,Bool.and_eq_true,decide_eq_true_eq]at hb;omega
     exact X3y l _ h v hv
   rename_i h0;exact absurd h h0
def X5O (vars:List Vr):List Int→Int
 |[]=>0
 |k::l=>if X2P vars k=true then 4 else X5O vars l
theorem X6k (vars:List Vr):∀l:List Int,X5O vars l=if l.any (X2P vars)=true then 4 else 0
 |[]=>by simp[X5O]
 | k::l=>by
   simp only[X5O,List.any_cons,X6k vars l];by_cases hb:X2P vars k=true
   · simp[hb]
   simp only[Bool.not_eq_true]at hb;simp[hb]
theorem Xc7 (vars:List Vr) (hl:vars.length≤1000000) (d:Nat):Con Tryz.prog 115 true [lV vars] (.v (li (ZZ vars))) none d:=by
 obtain⟨res,hres⟩:∃r,ZZ vars=r:=⟨_,rfl⟩;rw[hres];obtain⟨cd,hcd⟩:∃r,vcs [] vars=r:=⟨_,rfl⟩;have hgood:cd=0→X1S vars:=fun h=>X3y vars [] (hcd.trans h);unfold ZZ at hres;rw[hcd]at hres;refine X5 Tryz.func115 ?_;simp only[Tryz.f115];refine X1 ?_;refine X0<|X0<|X2 ?_;refine X3<|(Xf [0,10,11] (fun(x:Nat)=>[(12,.v (li x))]) (fun x=>[]) (fun x=>x≤vars.length∧vcs (vars.take x) (vars.drop x)=cd) (fun x=>vars.length - x) (0:Nat) ⟨Nat.zero_le _,hcd⟩ ?_ ?_)
 · exact X4 (fun n=>n) []
 rintro k ⟨hk,hJ⟩;simp only[upS,X6,XB]
 try simp only[X6,KN,Nat.reduceBEq,if_true,if_false,ins,Nat.reduceLT]
 clear hcd;refine X1 ?_;refine X0<|(X7 rfl (fun h4=>Xb ?_) (fun h4=>?_))
 · (try simp only[BN]at h4);have hlt:k<vars.length:=by omega
   obtain⟨v,he,hd⟩:=Xt hlt;have hw1:=XE hlt (by omega);have hk1:k+1≤vars.length:=hlt;have hkl:(vars.take k).length≤1000000000:=by rw[List.length_take];omega
   rw[hd]at hJ;simp only[vcs]at hJ;rw[←X0L he]at hJ;clear hlt h4 hgood;refine X0<|X3<|X0<|X2 ?_;refine X1 ?_;refine X3<|X0<|(Xp [⟨true,.v (lb (ZJ v.name)),none⟩] ?_ ?_)
   · first|exact X24 _ _|exact trivial|simpa[*]using X24 _ _
   refine(X7 rfl (fun h8=>?_) (fun h8=>?_))
   · (try simp only[BN]at h8);have hc:Ze (vars.take k) v=7:=by unfold Ze;rw[if_pos h8]
     rw[hc,if_neg (by decide)]at hJ;subst hJ;rw[if_neg (by decide)]at hres;subst hres;refine X1 ?_;exact Xe
   (try simp only[BN]at h8);refine Xm [⟨true,.v (lb ((vars.take k).any fun w=>decide (w.name=v.name))),none⟩] ?_ ?_
   · first|exact X7Z (vars.take k) 178 [.ptr v.enc] (fun w=>decide (w.name=v.name)) hkl (fun w _ d=>X6x w v d) _|exact trivial|simpa[*]using X7Z (vars.take k) 178 [.ptr v.enc] (fun w=>decide (w.name=v.name)) hkl (fun w _ d=>X6x w v d) _
   refine(X7 rfl (fun h12=>?_) (fun h12=>?_))
   · (try simp only[BN]at h12);have hc:Ze (vars.take k) v=8:=by unfold Ze;rw[if_neg (by simp[h8]),if_pos h12]
     rw[hc,if_neg (by decide)]at hJ;subst hJ;rw[if_neg (by decide)]at hres;subst hres;refine X1 ?_;exact Xe
   (try simp only[BN]at h12);refine X1 ?_;refine(X7 rfl (fun h16=>?_) (fun h16=>?_))
   · (try simp only[BN]at h16);have hc:Ze (vars.take k) v=1:=by unfold Ze;rw[if_neg (by simp[h8]),if_neg (by simp[h12]),if_pos h16]
     rw[hc,if_neg (by decide)]at hJ;subst hJ;rw[if_neg (by decide)]at hres;subst hres;refine X1 ?_;exact Xe
   (try simp only[BN]at h16);have hc:Ze (vars.take k) v=if WH v then 3 else 0:=by unfold Ze;rw[if_neg (by simp[h8]),if_neg (by simp[h12]),if_neg (by omega)]
   refine(XV [0,10,11,12] (fun(z:Bool)=>[(38,.v (lb z))]) (fun(z:Bool)=>[]) (fun(z:Bool)=>z=decide (WH v)) ?_ ?_)
   ·
    refine Xm [⟨true,.v (lb (QI v.low v.high)),none⟩] ?_ ?_
    · first|exact ZK _ _ _|exact trivial|simpa[*]using ZK _ _ _
    refine(X7 rfl (fun h21=>Xb ?_) (fun h21=>?_))
    · (try simp only[BN]at h21);exact⟨true,(decide_eq_true (.inl (by simpa using h21))).symm,X4 (fun n=>n) []⟩
    (try simp only[BN]at h21);refine X1 ?_;refine(X7 rfl (fun h24=>Xb ?_) (fun h24=>?_))
    · (try simp only[BN]at h24);exact⟨true,(decide_eq_true (.inr (.inl (by simpa using h24)))).symm,X4 (fun n=>n) []⟩
    try simp only[BN]at h24
    have hz:decide (WH v)=(decide (v.kind=0)&&(decide (v.init<v.low)||decide (v.high<v.init))):=by
     rw[Bool.eq_iff_iff,decide_eq_true_eq];unfold WH;simp only[decide_eq_true_eq,Bool.and_eq_true,Bool.or_eq_true];have h21':QI v.low v.high=true:=by simpa using h21
     rw[h21'];constructor
     · rintro(h|h|h)
       · cases h
       · exfalso;omega
       exact h
     exact fun h=>.inr (.inr h)
    clear h21 h24;refine X2 ?_;exact⟨(decide (v.kind=0)&&(decide (v.init<v.low)||decide (v.high<v.init))),hz.symm,X4 (fun n=>n) []⟩
   rintro _ rfl;simp only[upS,X6,XB]
   try simp only[X6,KN,Nat.reduceBEq,if_true,if_false,ins,Nat.reduceLT]
   refine(Xc rfl (fun h28=>?_) fun h28=>?_)
   · (try simp only[BN]at h28);rw[if_pos h28]at hc;rw[hc,if_neg (by decide)]at hJ;subst hJ;rw[if_neg (by decide)]at hres;subst hres;refine X1 ?_;exact Xe
   (try simp only[BN]at h28);rw[if_neg h28]at hc;rw[hc,if_pos rfl]at hJ;refine X2 ?_;exact⟨k+1,⟨hk1,hJ⟩,by omega,X4 (fun n=>n) []⟩
 (try simp only[BN]at h4);have hkl:k=vars.length:=by omega
 rw[hkl,List.drop_length]at hJ;simp only[vcs]at hJ;have hv:=hgood hJ.symm;rw[if_pos hJ.symm,←X6k]at hres;clear hgood hJ hkl hk h4;obtain⟨L,hL⟩:∃L:List Int,L=[1,2,3]:=⟨_,rfl⟩;have hL3:L.length=3:=by rw[hL];rfl
 have hLi:∀k∈L,1≤k∧k≤3:=by rw[hL];decide
 rw[←hL]at hres;refine(Xg ?_);refine X0<|X0<|X2 ?_;refine X3<|(Xf [0,71,72] (fun(x:Nat)=>[(73,.v (li x))]) (fun x=>[(71,.row 87 1 (Xi L))]) (fun x=>x≤3∧X5O vars (L.drop x)=res) (fun x=>3 - x) (0:Nat) ⟨Nat.zero_le _,hres⟩ ?_ ?_)
 · exact Xx (fun n=>n) [] rfl (by simp[*,upS,X6]) (by simp[upS,Xi,hL]) (by simp[upS])
 rintro k2 ⟨hk2,hJ2⟩;simp only[upS,X6,XB]
 try simp only[X6,KN,Nat.reduceBEq,if_true,if_false,ins,Nat.reduceLT]
 clear hres hL;refine X1 ?_;refine X0<|(X7 rfl (fun h36=>Xb ?_) (fun h36=>?_))
 · (try simp only[BN]at h36);have hlt:k2<L.length:=by omega
   obtain⟨kd,he,hd⟩:=Xt hlt;have hw1:=XE hlt (by omega);have hk1:k2+1≤3:=by omega
   have hkd:=hLi kd (List.mem_of_getElem? he);have hsp:=prV_in hv (vars.filter fun v=>decide (v.kind=kd)) 1 (fun v h=>(List.mem_filter.1 h).1) (by decide);have hsp':1≤spc vars kd∧spc vars kd≤4097:=hsp;have c:=X9R vars kd hkd hv hl;rw[hd]at hJ2;simp only[X5O]at hJ2;obtain⟨sv,hsv⟩:∃s,spc vars kd=s:=⟨_,rfl⟩;have hbk:X2P vars kd=(decide (4096<sv)||(decide (kd=3)&&decide (256<sv))):=by unfold X2P;rw[hsv]
   rw[hsv]at c hsp';clear hlt h36 hsp hsv hLi hv;refine X0<|X3<|X0<|X2 ?_;refine Xm [⟨true,.tup [li (if sv≤4096 then sv else 0),li (if sv≤4096 then 0 else 4)],none⟩] ?_ ?_
   · first|exact c _|exact trivial|simpa[*]using c _
   refine X1 ?_;refine(Xc rfl (fun h40=>?_) fun h40=>?_)
   · try simp only[BN]at h40
     have hb:X2P vars kd=true:=by
      rw[hbk];by_cases h:sv≤4096
      · simp[h]at h40;simp[h40]
      simp;omega
     rw[if_pos hb]at hJ2;subst hJ2;refine X1 ?_;exact Xe
   try simp only[BN]at h40
   have hb:X2P vars kd=false:=by
    rw[hbk];by_cases h:sv≤4096
    · simp[h]at h40;simp;omega
    simp[h]at h40
   rw[hb,if_neg (by decide)]at hJ2;refine X2 ?_;exact⟨k2+1,⟨hk1,hJ2⟩,by omega,X4 (fun n=>n) []⟩
 (try simp only[BN]at h36);have hkl:k2=L.length:=by omega
 rw[hkl,List.drop_length]at hJ2;simp only[X5O]at hJ2;subst hJ2;refine(Xg ?_);refine X1 ?_;exact Xe
end Go.Proofs.YtdajceakaakdoaaGreat

namespace Go.Proofs.YtdajceakaakdoaaGreat
open Go Go.Hl
structure B3 where
 s:Int
 o:Int
 t:Int
def bd1 (d c n:Int) (x y:B3):B3:=
 if d=4 then⟨1+n*(1+x.s),n*x.o,n*(c+x.t)⟩
 else if d=3 then⟨1+mx x.s y.s,mx x.o y.o,c+mx x.t y.t⟩
 else if d=1 then⟨1,1,c⟩ else⟨1,0,c⟩
def Qa (C:B3) (x y:B3):B3:=⟨mn (x.s+y.s) C.s,mn (x.o+y.o) C.o,mn (x.t+y.t) C.t⟩
mutual
def bdS (C:B3):St→B3
 | .mk d c _ n _ a b _=>bd1 d c n (bdL C a ⟨0,0,0⟩) (bdL C b ⟨0,0,0⟩)
def bdL (C:B3):List St→B3→B3
 |[],p=>p
 |s::l,p=>bdL C l (Qa C p (bdS C s))
end
mutual
def okS:St→Bool
 | .mk d c _ n _ a b _=>(decide (0≤c)&&(decide (c≤67108864)&&(decide (d≠4)||(decide (0≤n)&&decide (n≤4096)))))&&((decide (d=3)||(decide (d=4)||(a.isEmpty&&b.isEmpty)))&&(okL a&&okL b))
def okL:List St→Bool
 |[]=>true
 |s::l=>okS s&&okL l
end
def CP:B3:=⟨1099511627776,1099511627776,1099511627776⟩
def CR:B3:=⟨4097,9,67108865⟩
def in3 (C p:B3):Prop:=0≤p.s∧p.s≤C.s∧0≤p.o∧p.o≤C.o∧0≤p.t∧p.t≤C.t
def nn3 (p:B3):Prop:=0≤p.s∧0≤p.o∧0≤p.t
theorem mulN {n z:Int} (hn:0≤n∧n≤4096) (hz:0≤z∧z≤1099578736641):0≤n*z∧n*z≤4503874505281536:=by
 have h1:n.natAbs*z.natAbs≤4096*1099578736641:=Nat.mul_le_mul (by omega) (by omega);rw[←Int.natAbs_mul]at h1;have h2:=Int.mul_nonneg hn.1 hz.1;omega
theorem bd1_nn {d c n:Int} {x y:B3} (hc:0≤c) (hn:d=4→0≤n) (hx:nn3 x) (hy:nn3 y):nn3 (bd1 d c n x y):=by
 unfold nn3 at*;unfold bd1;split
 · rename_i h4;have h0:=hn h4;refine⟨?_,Int.mul_nonneg h0 hx.2.1,Int.mul_nonneg h0 (by omega)⟩;have:=Int.mul_nonneg h0 (show(0:Int)≤1+x.s by omega);simp only;omega
 split
 · simp only[mx];refine⟨?_,?_,?_⟩<;>split<;>omega
 split<;>simp only<;>omega
theorem X3g {C p q:B3} (hC:nn3 C) (hp:nn3 p) (hq:nn3 q):in3 C (Qa C p q):=by
 unfold in3 Qa nn3 at*;simp only[mn];refine⟨?_,?_,?_,?_,?_,?_⟩<;>split<;>omega
theorem Zq {C p:B3} (h:in3 C p):nn3 p:=⟨h.1,h.2.2.1,h.2.2.2.2.1⟩
theorem Z4 {C:B3} (hC:nn3 C):in3 C ⟨0,0,0⟩:=⟨Int.le_refl _,hC.1,Int.le_refl _,hC.2.1,Int.le_refl _,hC.2.2⟩
mutual
theorem X2K {C:B3} (hC:nn3 C):∀s:St,okS s=true→nn3 (bdS C s)
 | .mk d c v n t a b bs,h=>by
   simp only[okS,Bool.and_eq_true,Bool.or_eq_true,decide_eq_true_eq]at h;simp only[bdS];exact bd1_nn h.1.1 (fun h4=>by omega) (Zq (Zn hC a _ h.2.2.1 (Z4 hC))) (Zq (Zn hC b _ h.2.2.2 (Z4 hC)))
theorem Zn {C:B3} (hC:nn3 C):∀(l:List St) (p:B3),okL l=true→in3 C p→in3 C (bdL C l p)
 |[],p,_,h=>h
 | s::l,p,h,hp=>by
   simp only[okL,Bool.and_eq_true]at h;simp only[bdL];exact Zn hC l _ h.2 (X3g hC (Zq hp) (X2K hC s h.1))
end
def X0n (C p:B3):B3:=⟨mn p.s C.s,mn p.o C.o,mn p.t C.t⟩
theorem X4O {n a b k k' C:Int} (hn:0≤n) (ha:0≤a) (hb:0≤b) (hk:0≤k) (hk':0≤k') (h:mn a C=mn b C):mn (k'+n*(k+a)) C=mn (k'+n*(k+b)) C:=by
 by_cases hac:a<C
 · have:a=b:=by
    unfold mn at h
    (repeat' split at h)<;>omega
   rw[this]
 have hbc:C≤b:=by
  unfold mn at h
  (repeat' split at h)<;>omega
 rcases Int.lt_or_le 0 n with h0|h0
 · have h1:=Int.mul_le_mul_of_nonneg_right (show(1:Int)≤n by omega) (show 0≤k+a by omega);have h2:=Int.mul_le_mul_of_nonneg_right (show(1:Int)≤n by omega) (show 0≤k+b by omega);unfold mn
   (repeat' split)<;>omega
 have:n=0:=by omega
 subst this;simp
theorem bd1_cut {C x x' y y':B3} {d c n:Int} (hc:0≤c) (hn:d=4→0≤n) (hx:nn3 x) (hx':nn3 x') (hy:nn3 y) (hy':nn3 y') (h1:X0n C x=X0n C x') (h2:X0n C y=X0n C y'):X0n C (bd1 d c n x y)=X0n C (bd1 d c n x' y'):=by
 unfold X0n at*;unfold nn3 at*;simp only[B3.mk.injEq]at h1 h2⊢;unfold bd1;split
 · rename_i h4;have h0:=hn h4;have e1:=X4O h0 hx.1 hx'.1 (show(0:Int)≤1 by decide) (show(0:Int)≤1 by decide) h1.1;have e2:=X4O h0 hx.2.1 hx'.2.1 (Int.le_refl 0) (Int.le_refl 0) h1.2.1;have e3:=X4O h0 hx.2.2 hx'.2.2 hc (Int.le_refl 0) h1.2.2;simp only[Int.zero_add]at e2 e3;exact⟨e1,e2,e3⟩
 obtain⟨a1,a2,a3⟩:=h1;obtain⟨b1,b2,b3⟩:=h2;split
 · simp only[mx];refine⟨?_,?_,?_⟩
   · clear a2 a3 b2 b3;unfold mn at*;(repeat' split at a1)<;>(repeat' split at b1)<;>(repeat' split)<;>omega
   · clear a1 a3 b1 b3;unfold mn at*;(repeat' split at a2)<;>(repeat' split at b2)<;>(repeat' split)<;>omega
   clear a1 a2 b1 b2;unfold mn at*;(repeat' split at a3)<;>(repeat' split at b3)<;>(repeat' split)<;>omega
 split<;>exact⟨rfl,rfl,rfl⟩
theorem add3_cut {C D p p' x x':B3} (hC:nn3 C) (hD:C.s≤D.s∧C.o≤D.o∧C.t≤D.t) (hp:nn3 p) (hp':nn3 p') (hx:nn3 x) (hx':nn3 x') (h1:X0n C p=X0n C p') (h2:X0n C x=X0n C x'):X0n C (Qa D p x)=X0n C (Qa C p' x'):=by
 unfold X0n at*;unfold nn3 at*;simp only[B3.mk.injEq,Qa]at h1 h2⊢;obtain⟨a1,a2,a3⟩:=h1;obtain⟨b1,b2,b3⟩:=h2;obtain⟨d1,d2,d3⟩:=hD;obtain⟨p1,p2,p3⟩:=hp;obtain⟨q1,q2,q3⟩:=hp';obtain⟨r1,r2,r3⟩:=hx;obtain⟨s1,s2,s3⟩:=hx';obtain⟨c1,c2,c3⟩:=hC;refine⟨?_,?_,?_⟩
 · clear a2 a3 b2 b3;unfold mn at*;(repeat' split at a1)<;>(repeat' split at b1)<;>(repeat' split)<;>omega
 · clear a1 a3 b1 b3;unfold mn at*;(repeat' split at a2)<;>(repeat' split at b2)<;>(repeat' split)<;>omega
 clear a1 a2 b1 b2;unfold mn at*;(repeat' split at a3)<;>(repeat' split at b3)<;>(repeat' split)<;>omega
mutual
theorem bdS_cut {C D:B3} (hC:nn3 C) (hDn:nn3 D) (hD:C.s≤D.s∧C.o≤D.o∧C.t≤D.t):∀s:St,okS s=true→X0n C (bdS D s)=X0n C (bdS C s)
 | .mk d c v n t a b bs,h=>by
   simp only[okS,Bool.and_eq_true,Bool.or_eq_true,decide_eq_true_eq]at h;simp only[bdS];have ha:=Zq (Zn hDn a _ h.2.2.1 (Z4 hDn));have hb:=Zq (Zn hDn b _ h.2.2.2 (Z4 hDn));have ha':=Zq (Zn hC a _ h.2.2.1 (Z4 hC));have hb':=Zq (Zn hC b _ h.2.2.2 (Z4 hC));have h0:nn3 ⟨0,0,0⟩:=⟨Int.le_refl _,Int.le_refl _,Int.le_refl _⟩;exact bd1_cut h.1.1 (fun h4=>by omega) ha ha' hb hb' (X4U hC hDn hD a _ _ h.2.2.1 (Z4 hDn) (Z4 hC) rfl) (X4U hC hDn hD b _ _ h.2.2.2 (Z4 hDn) (Z4 hC) rfl)
theorem X4U {C D:B3} (hC:nn3 C) (hDn:nn3 D) (hD:C.s≤D.s∧C.o≤D.o∧C.t≤D.t):∀(l:List St) (p q:B3),okL l=true→in3 D p→in3 C q→X0n C p=X0n C q→X0n C (bdL D l p)=X0n C (bdL C l q)
 |[],p,q,_,_,_,h=>h
 | s::l,p,q,h,hp,hq,hpq=>by
   simp only[okL,Bool.and_eq_true]at h;simp only[bdL]
   exact X4U hC hDn hD l _ _ h.2 (X3g hDn (Zq hp) (X2K hDn s h.1)) (X3g hC (Zq hq) (X2K hC s h.1))
    (add3_cut hC hD (Zq hp) (Zq hq) (X2K hDn s h.1) (X2K hC s h.1) hpq (bdS_cut hC hDn hD s h.1))
end
theorem nnCP:nn3 CP:=by unfold nn3 CP;decide
theorem X4j:nn3 CR:=by unfold nn3 CR;decide
theorem bd_cmp {l:List St} (h:okL l=true):(4096<(bdL CP l ⟨0,0,0⟩).s↔4096<(bdL CR l ⟨0,0,0⟩).s)∧(8<(bdL CP l ⟨0,0,0⟩).o↔8<(bdL CR l ⟨0,0,0⟩).o)∧(67108864<(bdL CP l ⟨0,0,0⟩).t↔67108864<(bdL CR l ⟨0,0,0⟩).t):=by
 have:=X4U X4j nnCP (by decide) l _ _ h (Z4 nnCP) (Z4 X4j) rfl;unfold X0n at this;simp only[B3.mk.injEq]at this;obtain⟨h1,h2,h3⟩:=this;generalize bdL CP l ⟨0,0,0⟩=p at*;generalize bdL CR l ⟨0,0,0⟩=q at*;unfold CR at h1 h2 h3;refine⟨?_,?_,?_⟩
 · clear h2 h3;unfold mn at*;simp only at h1;(repeat' split at h1)<;>omega
 · clear h1 h3;unfold mn at*;simp only at h2;(repeat' split at h2)<;>omega
 clear h1 h2;unfold mn at*;simp only at h3;(repeat' split at h3)<;>omega
end Go.Proofs.YtdajceakaakdoaaGreat

namespace Go.Proofs.YtdajceakaakdoaaGreat
open Go Go.Hl
theorem XaP {l:List St} (h:okL l=true) {s:St} (hs:s∈l):okS s=true:=by
 induction l with
 |nil=>cases hs
 | cons x l ih=>
   simp only[okL,Bool.and_eq_true]at h;rcases List.mem_cons.1 hs with rfl|h1
   · exact h.1
   exact ih h.2 h1
abbrev aB (p:B3):TV:=.agg [.c (iC p.s),.c (iC p.o),.c (iC p.t)]
theorem X6v (l:List St):Xl l≤1000000000→okL l=true→∀d:Nat,Con Tryz.prog 118 true [lS l] (.v (aB (bdL CP l ⟨0,0,0⟩))) none d:=by
 revert l
 apply St.lists;intro l ih hn hok d;have hlen:=Qx l;obtain⟨res,hres⟩:∃r,bdL CP l ⟨0,0,0⟩=r:=⟨_,rfl⟩;rw[hres];refine X5 Tryz.func118 ?_;simp only[Tryz.f118];refine X0<|(Xq (by simp[*,Qa,CP];rfl) ?_);refine X0<|(Xq (by simp[*,Qa,CP];rfl) ?_);refine X0<|X0<|(Xq (by simp[*,Qa,CP];rfl) ?_);refine X3<|(Xf [2,3,9,10] (fun(x:Nat×B3)=>[(11,.v (li x.1))]) (fun x=>[(2,.box [.c (iC 0),.c (iC 0),.c (iC 0)]),(3,.box [.c (iC x.2.s),.c (iC x.2.o),.c (iC x.2.t)])]) (fun x=>x.1≤l.length∧bdL CP (l.drop x.1) x.2=res∧in3 CP x.2) (fun x=>l.length - x.1) (0,⟨0,0,0⟩) ⟨Nat.zero_le _,hres,Z4 nnCP⟩ ?_ ?_)
 · exact Xx (fun n=>n) [] rfl (by simp[*,upS,X6,Qa,CP]) (by simp[*,upS]) (by simp[upS])
 rintro⟨k,⟨m1,m2,m3⟩⟩ ⟨hk,hJ,hin⟩;simp only[upS,X6,XB]
 try simp only[X6,KN,Nat.reduceBEq,if_true,if_false,ins,Nat.reduceLT]
 simp only at hk hJ;unfold in3 CP at hin;simp only at hin;clear hres;refine X0<|(Xq (by simp[*,Qa,CP];rfl) ?_);refine X0<|(X7 rfl (fun h5=>Xb ?_) (fun h5=>?_))
 · (try simp only[BN]at h5);have hlt:k<l.length:=by omega
   obtain⟨s,he,hd⟩:=Xt hlt;have hmem:s∈l:=List.mem_of_getElem? he;have hnm:=QT hmem;have hos:=XaP hok hmem;have iha:=fun h=>(ih s hmem).1 h;have ihb:=fun h=>(ih s hmem).2 h;have hw1:=XE hlt (by omega);have hk1:k+1≤l.length:=hlt;rw[hd]at hJ;simp only[bdL]at hJ;have hsin:=X2K nnCP s hos;obtain⟨pq,hpq⟩:∃pq,bdS CP s=pq:=⟨_,rfl⟩;rw[hpq]at hJ hsin;obtain⟨sd,sc,sv,sn,⟨so,stn,sks⟩,sa,sb,sbs⟩:=s;simp only[St.then_,St.else_,St.term]at iha ihb hnm;simp only[okS,Bool.and_eq_true,Bool.or_eq_true,decide_eq_true_eq]at hos;have ca:=iha (by omega) hos.2.2.1;have cb:=ihb (by omega) hos.2.2.2;have he':=Q5 he;simp only[St.enc,Tm.enc,List.cons_append,List.nil_append]at he';simp only[bdS]at hpq;have hxa:=Zn nnCP sa ⟨0,0,0⟩ hos.2.2.1 (Z4 nnCP);have hxb:=Zn nnCP sb ⟨0,0,0⟩ hos.2.2.2 (Z4 nnCP);obtain⟨xa,hxa'⟩:∃x,bdL CP sa ⟨0,0,0⟩=x:=⟨_,rfl⟩;obtain⟨xb,hxb'⟩:∃x,bdL CP sb ⟨0,0,0⟩=x:=⟨_,rfl⟩;rw[hxa']at ca hxa hpq;rw[hxb']at cb hxb hpq;unfold in3 CP at hxa hxb;unfold nn3 at hsin;simp only at hxa hxb;obtain⟨a1,a2,a3⟩:=xa;obtain⟨b1,b2,b3⟩:=xb;obtain⟨q1,q2,q3⟩:=pq;simp only at hxa hxb hsin;have hcost:=hos.1;unfold bd1 at hpq;simp only[mx]at hpq;clear hlt h5 iha ihb ih hxa' hxb' hmem hnm hd he hos;refine X0<|X3<|X0<|(Xq (by simp[*,Qa,CP];rfl) ?_);refine X0<|(Xq (by simp[*,Qa,CP];rfl) ?_);refine X0<|(QH [⟨true,.v (aB ⟨a1,a2,a3⟩),none⟩,⟨true,.v (aB ⟨b1,b2,b3⟩),none⟩] (by kernel_rfl) (by kernel_rfl) (by rfl) (by simp[*,Qa,CP];first|exact⟨rfl,Iff.rfl⟩|exact⟨rfl,trivial⟩|rfl) ?_ ?_)
   · first|exact⟨ca _,cb _⟩|exact trivial|(repeat' first|exact trivial|exact ca _|exact cb _|apply And.intro)
   refine(XV [2,3,6,9,10,11] (fun(z:Unit)=>[]) (fun(z:Unit)=>[(2,.box [.c (iC 0),.c (iC 0),.c (iC 0)]),(3,.box [.c (iC m1),.c (iC m2),.c (iC m3)]),(6,.box [.c (iC q1),.c (iC q2),.c (iC q3)])]) (fun(z:Unit)=>q1≤4503874505281537∧q2≤4503874505281537∧q3≤4503874505281537) ?_ ?_)
   ·
    refine X0<|(Xq (by simp[*,Qa,CP];rfl) ?_);refine X3<|X0<|(Xq (by simp[*,Qa,CP];rfl) ?_);refine(X7 rfl (fun h12=>?_) (fun h12=>?_))
    · (try simp only[BN]at h12);rw[if_neg (by omega),if_neg (by omega),if_pos h12]at hpq;simp only[B3.mk.injEq]at hpq;obtain⟨p1,p2,p3⟩:=hpq;subst p1 p2 p3;refine(Xq (by simp[*,Qa,CP];rfl) ?_);exact⟨(),⟨by omega,by omega,by omega⟩,X4 (fun n=>n) []⟩
    (try simp only[BN]at h12);refine X0<|(Xq (by simp[*,Qa,CP];rfl) ?_);refine(X7 rfl (fun h16=>?_) (fun h16=>?_))
    · (try simp only[BN]at h16);rw[if_neg (by omega),if_pos h16]at hpq;simp only[B3.mk.injEq]at hpq;obtain⟨p1,p2,p3⟩:=hpq;have hw2:IntKind.i64.wrap (1+(if a1<b1 then b1 else a1))=q1:=by rw[←p1];exact Xa (by split<;>omega) (by split<;>omega)
      have hw3:IntKind.i64.wrap (sc+(if a3<b3 then b3 else a3))=q3:=by rw[←p3];exact Xa (by split<;>omega) (by split<;>omega)
      have hq:q1≤4503874505281537∧q2≤4503874505281537∧q3≤4503874505281537:=by
       rw[←p1,←p2,←p3];refine⟨?_,?_,?_⟩<;>split<;>omega
      clear p1 p3;refine X0<|(Xq (by simp[*,Qa,CP];rfl) ?_);refine X0<|(Xq (by simp[*,Qa,CP];rfl) ?_);refine(Xq (by simp[*,Qa,CP];rfl) ?_);exact⟨(),hq,X4 (fun n=>n) []⟩
    (try simp only[BN]at h16);refine X0<|(Xq (by simp[*,Qa,CP];rfl) ?_);refine(Xc rfl (fun h22=>?_) fun h22=>?_)
    · (try simp only[BN]at h22);rw[if_pos h22]at hpq;simp only[B3.mk.injEq]at hpq;obtain⟨p1,p2,p3⟩:=hpq;have hnn:0≤sn∧sn≤4096:=by omega
      have m4:=mulN hnn (z:=1+a1) (by omega);have m5:=mulN hnn (z:=a2) (by omega);have m6:=mulN hnn (z:=sc+a3) (by omega);have hw2:IntKind.i64.wrap (1+a1)=1+a1:=Xa (by omega) (by omega);have hw3:IntKind.i64.wrap (sn*(1+a1))=sn*(1+a1):=Xa (by omega) (by omega);have hw4:IntKind.i64.wrap (1+sn*(1+a1))=q1:=by rw[←p1];exact Xa (by omega) (by omega)
      have hw5:IntKind.i64.wrap (sn*a2)=q2:=by rw[←p2];exact Xa (by omega) (by omega)
      have hw6:IntKind.i64.wrap (sc+a3)=sc+a3:=Xa (by omega) (by omega);have hw7:IntKind.i64.wrap (sn*(sc+a3))=q3:=by rw[←p3];exact Xa (by omega) (by omega)
      have hq:q1≤4503874505281537∧q2≤4503874505281537∧q3≤4503874505281537:=by omega
      clear p1 p2 p3 m4 m5 m6;refine X0<|(Xq (by simp[*,Qa,CP];rfl) ?_);refine X0<|(Xq (by simp[*,Qa,CP];rfl) ?_);refine(Xq (by simp[*,Qa,CP];rfl) ?_);exact⟨(),hq,X4 (fun n=>n) []⟩
    (try simp only[BN]at h22);rw[if_neg h22,if_neg h16,if_neg h12]at hpq;simp only[B3.mk.injEq]at hpq;obtain⟨p1,p2,p3⟩:=hpq;subst p1 p2 p3;exact⟨(),⟨by omega,by omega,by omega⟩,X4 (fun n=>n) []⟩
   rintro _ ⟨hq1,hq2,hq3⟩;simp only[upS,X6,XB]
   try simp only[X6,KN,Nat.reduceBEq,if_true,if_false,ins,Nat.reduceLT]
   clear hpq ca cb hxa hxb;have hw2:IntKind.i64.wrap (m1+q1)=m1+q1:=Xa (by omega) (by omega);have hw3:IntKind.i64.wrap (m2+q2)=m2+q2:=Xa (by omega) (by omega);have hw4:IntKind.i64.wrap (m3+q3)=m3+q3:=Xa (by omega) (by omega);have hmn1:(if 1099511627776<m1+q1 then 1099511627776 else m1+q1)=mn (m1+q1) 1099511627776:=rfl;have hmn2:(if 1099511627776<m2+q2 then 1099511627776 else m2+q2)=mn (m2+q2) 1099511627776:=rfl;have hmn3:(if 1099511627776<m3+q3 then 1099511627776 else m3+q3)=mn (m3+q3) 1099511627776:=rfl;have hin2:in3 CP (Qa CP ⟨m1,m2,m3⟩ ⟨q1,q2,q3⟩):=X3g nnCP ⟨hin.1,hin.2.2.1,hin.2.2.2.2.1⟩ ⟨hsin.1,hsin.2.1,hsin.2.2⟩;refine X0<|(Xq (by simp[*,Qa,CP];rfl) ?_);refine X0<|(Xq (by simp[*,Qa,CP];rfl) ?_);refine(Xq (by simp[*,Qa,CP];rfl) ?_);refine(Xq (by simp[*,Qa,CP];rfl) ?_);exact⟨(k+1,Qa CP ⟨m1,m2,m3⟩ ⟨q1,q2,q3⟩),⟨hk1,hJ,hin2⟩,by simp only;omega,Xx (fun n=>n) [] rfl (by simp[upS,X6, *,Qa,CP]) (by simp[*,upS,Qa,CP]) (by simp[upS])⟩
 (try simp only[BN]at h5);have hkl:k=l.length:=by omega
 rw[hkl,List.drop_length]at hJ;simp only[bdL]at hJ;subst hJ;refine(Xg ?_);refine X0<|(Xq (by simp[*,Qa,CP];rfl) ?_);exact(Xh (fun h=>⟨.inr rfl,h⟩) _ (by simp[*,Qa,CP];rfl) (by first|rfl|(simp[*];done)|(simp only[XK];(repeat' split)<;>first|rfl|(exfalso;omega)|simp_all)) (by simp))
theorem X90 (l:List St):Xl l≤1000000000→okL l=true→∀d:Nat,Con Tryz.prog 54 true [lS l] (.tup [li (bdL CR l ⟨0,0,0⟩).s,li (bdL CR l ⟨0,0,0⟩).o,li (bdL CR l ⟨0,0,0⟩).t]) none d:=by
 revert l
 apply St.lists;intro l ih hn hok d;have hlen:=Qx l;obtain⟨res,hres⟩:∃r,bdL CR l ⟨0,0,0⟩=r:=⟨_,rfl⟩;rw[hres];refine X5 Tryz.func54 ?_;simp only[Tryz.f54];refine X0<|(Xq (by simp[*,Qa,CR];rfl) ?_);refine X0<|(Xq (by simp[*,Qa,CR];rfl) ?_);refine X0<|X0<|(Xq (by simp[*,Qa,CR];rfl) ?_);refine X3<|(Xf [0] (fun(x:Nat×B3)=>[(5,.v (li x.2.s)),(6,.v (li x.2.o)),(7,.v (li x.2.t)),(8,.v (li x.1))]) (fun x=>[]) (fun x=>x.1≤l.length∧bdL CR (l.drop x.1) x.2=res∧in3 CR x.2) (fun x=>l.length - x.1) (0,⟨0,0,0⟩) ⟨Nat.zero_le _,hres,Z4 X4j⟩ ?_ ?_)
 · exact Xx (fun n=>n) [] rfl (by simp[*,upS,X6,Qa,CR]) (by simp[*,upS]) (by simp[upS])
 rintro⟨k,⟨m1,m2,m3⟩⟩ ⟨hk,hJ,hin⟩;simp only[upS,X6,XB]
 try simp only[X6,KN,Nat.reduceBEq,if_true,if_false,ins,Nat.reduceLT]
 simp only at hk hJ;unfold in3 CR at hin;simp only at hin;clear hres;refine X0<|X0<|(Xq (by simp[*,Qa,CR];rfl) ?_);refine(X7 rfl (fun h5=>Xb ?_) (fun h5=>?_))
 · (try simp only[BN]at h5);have hlt:k<l.length:=by omega
   obtain⟨s,he,hd⟩:=Xt hlt;have hmem:s∈l:=List.mem_of_getElem? he;have hnm:=QT hmem;have hos:=XaP hok hmem;have iha:=fun h=>(ih s hmem).1 h;have ihb:=fun h=>(ih s hmem).2 h;have hw1:=XE hlt (by omega);have hk1:k+1≤l.length:=hlt;rw[hd]at hJ;simp only[bdL]at hJ;have hsin:=X2K X4j s hos;obtain⟨pq,hpq⟩:∃pq,bdS CR s=pq:=⟨_,rfl⟩;rw[hpq]at hJ hsin;obtain⟨sd,sc,sv,sn,⟨so,stn,sks⟩,sa,sb,sbs⟩:=s;simp only[St.then_,St.else_,St.term]at iha ihb hnm;simp only[okS,Bool.and_eq_true,Bool.or_eq_true,decide_eq_true_eq,List.isEmpty_iff]at hos;have ca:=iha (by omega) hos.2.2.1;have cb:=ihb (by omega) hos.2.2.2;have he':=Q5 he;simp only[St.enc,Tm.enc,List.cons_append,List.nil_append]at he';simp only[bdS]at hpq;have hxa:=Zn X4j sa ⟨0,0,0⟩ hos.2.2.1 (Z4 X4j);have hxb:=Zn X4j sb ⟨0,0,0⟩ hos.2.2.2 (Z4 X4j);obtain⟨xa,hxa'⟩:∃x,bdL CR sa ⟨0,0,0⟩=x:=⟨_,rfl⟩;obtain⟨xb,hxb'⟩:∃x,bdL CR sb ⟨0,0,0⟩=x:=⟨_,rfl⟩
   have hz:sd≠3→sd≠4→xa=⟨0,0,0⟩∧xb=⟨0,0,0⟩:=by
    intro h3 h4;rcases hos.2.1 with h|h|h
    · exact absurd h h3
    · exact absurd h h4
    rw[←hxa',←hxb',h.1,h.2];exact⟨rfl,rfl⟩
   rw[hxa']at ca hxa hpq;rw[hxb']at cb hxb hpq;unfold in3 CR at hxa hxb;unfold nn3 at hsin;simp only at hxa hxb;obtain⟨a1,a2,a3⟩:=xa;obtain⟨b1,b2,b3⟩:=xb;obtain⟨q1,q2,q3⟩:=pq;simp only[B3.mk.injEq]at hz;simp only at hxa hxb hsin;have hcost:=hos.1;unfold bd1 at hpq;simp only at hpq;have hmx1:0≤mx a1 b1∧mx a1 b1≤4097:=by unfold mx;split<;>omega
   have hmx2:0≤mx a2 b2∧mx a2 b2≤9:=by unfold mx;split<;>omega
   have hmx3:0≤mx a3 b3∧mx a3 b3≤67108865:=by unfold mx;split<;>omega
   have hw2:IntKind.i64.wrap (1+mx a1 b1)=1+mx a1 b1:=Xa (by omega) (by omega);have hw3:IntKind.i64.wrap (sc+mx a3 b3)=sc+mx a3 b3:=Xa (by omega) (by omega);clear hlt h5 iha ihb ih hxa' hxb' hmem hnm hd he hos;refine X0<|X3<|X0<|(Xq (by simp[*,Qa,CR];rfl) ?_);refine X0<|(W7 [⟨true,.tup [li a1,li a2,li a3],none⟩] (by simp[*,Qa,CR];first|exact⟨rfl,Iff.rfl⟩|exact⟨rfl,trivial⟩|rfl) ?_ ?_)
   · first|exact ca _|exact trivial|simpa[*,Qa,CR]using ca _
   refine X0<|(W7 [⟨true,.tup [li b1,li b2,li b3],none⟩] (by simp[*,Qa,CR];first|exact⟨rfl,Iff.rfl⟩|exact⟨rfl,trivial⟩|rfl) ?_ ?_)
   · first|exact cb _|exact trivial|simpa[*,Qa,CR]using cb _
   refine X0<|(QH [⟨true,.v (li (mx a1 b1)),none⟩,⟨true,.v (li (mx a2 b2)),none⟩,⟨true,.v (li (mx a3 b3)),none⟩] (by kernel_rfl) (by kernel_rfl) (by rfl) (by simp[*,Qa,CR];first|exact⟨rfl,Iff.rfl⟩|exact⟨rfl,trivial⟩|rfl) ?_ ?_)
   · first|exact⟨Qu _ _ _,Qu _ _ _,Qu _ _ _⟩|exact trivial|(repeat' first|exact trivial|exact Qu _ _ _|exact Qu _ _ _|exact Qu _ _ _|apply And.intro)
   refine(XV [0,5,6,7,8,9] (fun(z:Int)=>[(16,.v (li q1)),(17,.v (li z)),(18,.v (li q3))]) (fun(z:Int)=>[(9,.box [.c (iC sd),.c (iC sc),.c (iC sv),.c (iC sn),.c (iC so),.c (iC stn),.c (.sl 3 (XI sks)),.c (.sl 10 (X8 sa)),.c (.sl 10 (X8 sb)),.c (.sl 1 (Xi sbs))])]) (fun(z:Int)=>(sd≠1→z=q2)∧(sd=1→q2=1)∧q1≤4503874505281537∧q2≤4503874505281537∧q3≤4503874505281537) ?_ ?_)
   ·
    refine X0<|(Xq (by simp[*,Qa,CR];rfl) ?_);refine(Xc rfl (fun h12=>?_) fun h12=>?_)
    · (try simp only[BN]at h12);rw[if_pos h12]at hpq;simp only[B3.mk.injEq]at hpq;obtain⟨p1,p2,p3⟩:=hpq;have hnn:0≤sn∧sn≤4096:=by omega
      have m4:=mulN hnn (z:=1+a1) (by omega);have m5:=mulN hnn (z:=a2) (by omega);have m6:=mulN hnn (z:=sc+a3) (by omega);have hw2:IntKind.i64.wrap (1+a1)=1+a1:=Xa (by omega) (by omega);have hw3:IntKind.i64.wrap (sn*(1+a1))=sn*(1+a1):=Xa (by omega) (by omega);have hw4:IntKind.i64.wrap (1+sn*(1+a1))=q1:=by rw[←p1];exact Xa (by omega) (by omega)
      have hw5:IntKind.i64.wrap (sn*a2)=q2:=by rw[←p2];exact Xa (by omega) (by omega)
      have hw6:IntKind.i64.wrap (sc+a3)=sc+a3:=Xa (by omega) (by omega);have hw7:IntKind.i64.wrap (sn*(sc+a3))=q3:=by rw[←p3];exact Xa (by omega) (by omega)
      have hq:q1≤4503874505281537∧q2≤4503874505281537∧q3≤4503874505281537:=by omega
      clear p1 p2 p3 m4 m5 m6 hz;refine(Qe (by kernel_rfl) (by kernel_rfl) (by rfl) (by simp[*,Qa,CR];rfl) ?_);exact⟨q2,⟨fun _=>rfl,fun h=>absurd h (by omega),hq⟩,X4 (fun n=>n) []⟩
    try simp only[BN]at h12
    have hfin:q1=1+mx a1 b1∧q3=sc+mx a3 b3∧(sd≠1→mx a2 b2=q2)∧(sd=1→q2=1):=by
     rw[if_neg h12]at hpq;by_cases h3:sd=3
     · rw[if_pos h3]at hpq;simp only[B3.mk.injEq]at hpq;exact⟨hpq.1.symm,hpq.2.2.symm,fun _=>hpq.2.1,fun h=>absurd h (by omega)⟩
     rw[if_neg h3]at hpq;obtain⟨⟨e1,e2,e3⟩,e4,e5,e6⟩:=hz h3 h12;subst e1 e2 e3 e4 e5 e6;by_cases h1:sd=1
     · rw[if_pos h1]at hpq;simp only[B3.mk.injEq]at hpq;exact⟨by rw[←hpq.1];rfl,by rw[←hpq.2.2];simp[mx],fun h=>absurd h1 h,fun _=>hpq.2.1.symm⟩
     rw[if_neg h1]at hpq;simp only[B3.mk.injEq]at hpq;exact⟨by rw[←hpq.1];rfl,by rw[←hpq.2.2];simp[mx],fun _=>by rw[←hpq.2.1];rfl,fun h=>absurd h h1⟩
    obtain⟨f1,f2,f3,f4⟩:=hfin;have hq1:q1≤4503874505281537:=by omega
    have hq3:q3≤4503874505281537:=by omega
    have hq2:q2≤4503874505281537:=by
     by_cases h:sd=1
     · have:=f4 h;omega
     have:=f3 h;omega
    clear hpq hz;exact⟨mx a2 b2,⟨f3,f4,hq1,hq2,hq3⟩,X4 (fun n=>n) []⟩
   rintro z2 ⟨hz2,hz3,hq⟩;simp only[upS,X6,XB]
   try simp only[X6,KN,Nat.reduceBEq,if_true,if_false,ins,Nat.reduceLT]
   clear hpq hz hw2 hw3 ca cb;refine(XV [0,5,6,7,8,16,18] (fun(z:Unit)=>[(17,.v (li q2))]) (fun(z:Unit)=>[]) (fun(z:Unit)=>True) ?_ ?_)
   ·
    refine X0<|(Xq (by simp[*,Qa,CR];rfl) ?_);refine(Xc rfl (fun h18=>?_) fun h18=>?_)
    · (try simp only[BN]at h18);have hq21:=hz3 h18;refine(Xq (by simp[*,Qa,CR];rfl) ?_);exact⟨(),trivial,X4 (fun n=>n) []⟩
    (try simp only[BN]at h18);have hq21:=hz2 h18;exact⟨(),trivial,X4 (fun n=>n) []⟩
   rintro _ _;simp only[upS,X6,XB]
   try simp only[X6,KN,Nat.reduceBEq,if_true,if_false,ins,Nat.reduceLT]
   clear hz2 hz3;obtain⟨hq1,hq2,hq3⟩:=hq;have hw2:IntKind.i64.wrap (m1+q1)=m1+q1:=Xa (by omega) (by omega);have hw3:IntKind.i64.wrap (m2+q2)=m2+q2:=Xa (by omega) (by omega);have hw4:IntKind.i64.wrap (m3+q3)=m3+q3:=Xa (by omega) (by omega);have hin2:in3 CR (Qa CR ⟨m1,m2,m3⟩ ⟨q1,q2,q3⟩):=X3g X4j ⟨hin.1,hin.2.2.1,hin.2.2.2.2.1⟩ ⟨hsin.1,hsin.2.1,hsin.2.2⟩;refine X0<|(W7 [⟨true,.v (li (mn (m1+q1) 4097)),none⟩] (by simp[*,Qa,CR];first|exact⟨rfl,Iff.rfl⟩|exact⟨rfl,trivial⟩|rfl) ?_ ?_)
   · first|exact Ql _ _ _|exact trivial|simpa[*,Qa,CR]using Ql _ _ _
   refine X0<|(W7 [⟨true,.v (li (mn (m2+q2) 9)),none⟩] (by simp[*,Qa,CR];first|exact⟨rfl,Iff.rfl⟩|exact⟨rfl,trivial⟩|rfl) ?_ ?_)
   · first|exact Ql _ _ _|exact trivial|simpa[*,Qa,CR]using Ql _ _ _
   refine(W7 [⟨true,.v (li (mn (m3+q3) 67108865)),none⟩] (by simp[*,Qa,CR];first|exact⟨rfl,Iff.rfl⟩|exact⟨rfl,trivial⟩|rfl) ?_ ?_)
   · first|exact Ql _ _ _|exact trivial|simpa[*,Qa,CR]using Ql _ _ _
   refine(Xq (by simp[*,Qa,CR];rfl) ?_);exact⟨(k+1,Qa CR ⟨m1,m2,m3⟩ ⟨q1,q2,q3⟩),⟨hk1,hJ,hin2⟩,by simp only;omega,Xx (fun n=>n) [] rfl (by simp[upS,X6, *,Qa,CR]) (by simp[*,upS,Qa,CR]) (by simp[upS])⟩
 (try simp only[BN]at h5);have hkl:k=l.length:=by omega
 rw[hkl,List.drop_length]at hJ;simp only[bdL]at hJ;subst hJ;refine(Xg ?_);refine X0<|(Xq (by simp[*,Qa,CR];rfl) ?_);exact(Xh (fun h=>⟨.inr rfl,h⟩) _ (by simp[*,Qa,CR];rfl) (by first|rfl|(simp[*];done)|(simp only[XK];(repeat' split)<;>first|rfl|(exfalso;omega)|simp_all)) (by simp))
end Go.Proofs.YtdajceakaakdoaaGreat

namespace Go.Proofs.YtdajceakaakdoaaGreat
open Go Go.Hl
theorem Xb2 (vars:List Vr) (hl:vars.length≤1000000) (d:Nat):Con Tryz.prog 49 true [lV vars] (.v (li (ZZ vars))) none d:=by
 obtain⟨res,hres⟩:∃r,ZZ vars=r:=⟨_,rfl⟩;rw[hres];obtain⟨cd,hcd⟩:∃r,vcs [] vars=r:=⟨_,rfl⟩;have hgood:cd=0→X1S vars:=fun h=>X3y vars [] (hcd.trans h);unfold ZZ at hres;rw[hcd]at hres;refine X5 Tryz.func49 ?_;simp only[Tryz.f49];refine X1 ?_;refine X0<|X0<|X2 ?_;refine X3<|(Xf [0] (fun(x:Nat)=>[(3,.v (li x))]) (fun x=>[]) (fun x=>x≤vars.length∧vcs (vars.take x) (vars.drop x)=cd) (fun x=>vars.length - x) (0:Nat) ⟨Nat.zero_le _,hcd⟩ ?_ ?_)
 · exact X4 (fun n=>n) []
 rintro k ⟨hk,hJ⟩;simp only[upS,X6,XB]
 try simp only[X6,KN,Nat.reduceBEq,if_true,if_false,ins,Nat.reduceLT]
 clear hcd;refine X0<|X0<|X2 ?_;refine(X7 rfl (fun h4=>Xb ?_) (fun h4=>?_))
 · (try simp only[BN]at h4);have hlt:k<vars.length:=by omega
   obtain⟨v,he,hd⟩:=Xt hlt;have hw1:=XE hlt (by omega);have hk1:k+1≤vars.length:=hlt;have hkl:(vars.take k).length=k:=by rw[List.length_take];omega
   rw[hd]at hJ;simp only[vcs]at hJ;rw[←X0L he]at hJ;clear hlt h4 hgood hd;refine X0<|X3<|X0<|X2 ?_;refine X0<|X0<|(Xp [⟨true,.v (lb (ZJ v.name)),none⟩] ?_ ?_)
   · first|exact X2e _ _|exact trivial|simpa[*]using X2e _ _
   refine(Xc rfl (fun h7=>?_) fun h7=>?_)
   · (try simp only[BN]at h7);have hc:Ze (vars.take k) v=7:=by unfold Ze;rw[if_pos h7]
     rw[hc,if_neg (by decide)]at hJ;subst hJ;rw[if_neg (by decide)]at hres;subst hres;refine X1 ?_;exact Xe
   (try simp only[BN]at h7);refine X0<|X0<|X2 ?_;refine X3<|(Xf [0,3,4] (fun(x:Nat)=>[(5,.v (li x))]) (fun x=>[(4,.box [.c (sC v.name),.c (iC v.kind),.c (iC v.low),.c (iC v.high),.c (iC v.init)])]) (fun x=>x≤k∧∀j:Nat,j<x→∀w,vars[j]? =some w→w.name≠v.name) (fun x=>k - x) (0:Nat) ⟨Nat.zero_le _,fun j hj=>absurd hj (Nat.not_lt_zero j)⟩ ?_ ?_)
   · exact X4 (fun n=>n) []
   rintro j ⟨hj,hno⟩;simp only[upS,X6,XB]
   try simp only[X6,KN,Nat.reduceBEq,if_true,if_false,ins,Nat.reduceLT]
   refine X0<|X0<|X2 ?_;refine(X7 rfl (fun h13=>Xb ?_) (fun h13=>?_))
   · (try simp only[BN]at h13);have hjk:j<k:=by omega
     obtain⟨w,hw⟩:∃w,vars[j]? =some w:=⟨vars[j],by simp[show j<vars.length by omega]⟩;have hwj:=XE hjk (by omega);have hj1:j+1≤k:=hjk
     have hmemw:w∈vars.take k:=by
      have:(vars.take k)[j]? =some w:=by rw[List.getElem?_take_of_lt hjk];exact hw
      exact List.mem_of_getElem? this
     clear hjk h13;refine X0<|X3<|X0<|(Qe (by kernel_rfl) (by kernel_rfl) (by rfl) (by simp[*];rfl) ?_);refine(Xc rfl (fun h15=>?_) fun h15=>?_)
     · try simp only[BN]at h15
       have hany:((vars.take k).any fun w=>decide (w.name=v.name))=true:=by
        rw[List.any_eq_true];exact⟨w,hmemw,by simpa using h15⟩
       have hc:Ze (vars.take k) v=8:=by unfold Ze;rw[if_neg (by simp[h7]),if_pos hany]
       rw[hc,if_neg (by decide)]at hJ;subst hJ;rw[if_neg (by decide)]at hres;subst hres;refine X1 ?_;exact Xe
     (try simp only[BN]at h15);refine X2 ?_
     exact⟨j+1,⟨hj1,fun i hi u hu=>by
      rcases Nat.lt_or_eq_of_le (Nat.le_of_lt_succ hi)with h|h
      · exact hno i h u hu
      subst h;rw[hw]at hu;cases hu
      simpa using h15⟩,by omega,X4 (fun n=>n) []⟩
   (try simp only[BN]at h13);have hjk:j=k:=by omega
   subst hjk
   have hany:((vars.take j).any fun w=>decide (w.name=v.name))=false:=by
    rw[List.any_eq_false];intro w hw;obtain⟨i,hi⟩:=List.mem_iff_getElem?.1 hw;have hij:i<j:=by have:=(List.getElem?_eq_some_iff.1 hi).1;omega
    rw[List.getElem?_take_of_lt hij]at hi;simpa using hno i hij w hi
   clear hno hkl;refine(Xg ?_);refine X0<|X0<|X2 ?_;refine(Xc rfl (fun h21=>?_) fun h21=>?_)
   · (try simp only[BN]at h21);have hc:Ze (vars.take j) v=1:=by unfold Ze;rw[if_neg (by simp[h7]),if_neg (by simp[hany]),if_pos (by omega)]
     rw[hc,if_neg (by decide)]at hJ;subst hJ;rw[if_neg (by decide)]at hres;subst hres;refine X1 ?_;exact Xe
   (try simp only[BN]at h21);have hc:Ze (vars.take j) v=if WH v then 3 else 0:=by unfold Ze;rw[if_neg (by simp[h7]),if_neg (by simp[hany]),if_neg (by omega)]
   clear hany;refine X0<|X0<|(Xp [⟨true,.v (lb (QI v.low v.high)),none⟩] ?_ ?_)
   · first|exact ZL _ _ _|exact trivial|simpa[*]using ZL _ _ _
   refine(Xc rfl (fun h25=>?_) fun h25=>?_)
   · (try simp only[BN]at h25);rw[if_pos (.inl h25)]at hc;rw[hc,if_neg (by decide)]at hJ;subst hJ;rw[if_neg (by decide)]at hres;subst hres;refine X1 ?_;exact Xe
   (try simp only[BN]at h25);refine X1 ?_;refine(Xc rfl (fun h29=>?_) fun h29=>?_)
   · try simp only[BN]at h29
     have hkb:WH v:=by
      unfold WH;omega
     rw[if_pos hkb]at hc;rw[hc,if_neg (by decide)]at hJ;subst hJ;rw[if_neg (by decide)]at hres;subst hres;refine X1 ?_;exact Xe
   try simp only[BN]at h29
   have hkb:¬WH v:=by
    unfold WH;rw[h25];rintro(h|h|h)
    · cases h
    · omega
    omega
   rw[if_neg hkb]at hc;rw[hc,if_pos rfl]at hJ;refine X2 ?_;exact⟨j+1,⟨hk1,hJ⟩,by omega,X4 (fun n=>n) []⟩
 (try simp only[BN]at h4);have hkl:k=vars.length:=by omega
 rw[hkl,List.drop_length]at hJ;simp only[vcs]at hJ;have hv:=hgood hJ.symm;rw[if_pos hJ.symm]at hres;clear hgood hJ hkl hk h4;have c1:=X2H vars 1 hv (by omega);have c2:=X2H vars 2 hv (by omega);have c3:=X2H vars 3 hv (by omega);have hb1:X2P vars 1=decide (4096<spc vars 1):=by simp[X2P]
 have hb2:X2P vars 2=decide (4096<spc vars 2):=by simp[X2P]
 have hb3:X2P vars 3=(decide (4096<spc vars 3)||decide (256<spc vars 3)):=by simp[X2P]
 simp only[List.any_cons,List.any_nil,Bool.or_false,hb1,hb2,hb3]at hres;clear hb1 hb2 hb3;generalize spc vars 1=s1 at*;generalize spc vars 2=s2 at*;generalize spc vars 3=s3 at*;refine(Xg ?_);refine X0<|X0<|(Xp [⟨true,.v (li s1),none⟩,⟨true,.v (li s2),none⟩,⟨true,.v (li s3),none⟩] ?_ ?_)
 · first|exact⟨c1 _,c2 _,c3 _⟩|exact trivial|(repeat' first|exact trivial|exact c1 _|exact c2 _|exact c3 _|apply And.intro)
 refine(Xc rfl (fun h35=>?_) fun h35=>?_)
 · try simp only[BN]at h35
   have hz:(decide (4096<s1)||(decide (4096<s2)||(decide (4096<s3)||decide (256<s3))))=true:=by
    simp only[Bool.or_eq_true,decide_eq_true_eq];omega
   rw[if_pos hz]at hres;subst hres;refine X1 ?_;exact Xe
 try simp only[BN]at h35
 have hz:(decide (4096<s1)||(decide (4096<s2)||(decide (4096<s3)||decide (256<s3))))=false:=by
  simp only[Bool.or_eq_false_iff,decide_eq_false_iff_not];omega
 rw[hz,if_neg (by decide)]at hres;subst hres;refine X1 ?_;exact Xe
end Go.Proofs.YtdajceakaakdoaaGreat

namespace Go.Proofs.YtdajceakaakdoaaGreat
open Go Go.Hl
@[simp] theorem take_encH (l:List Ht) (i:Nat):(Xv l).take i=Xv (l.take i):=by simp[Xv]
theorem idxH_con (l:List Ht) (g:FuncId) (cap:List CD) (p:Ht→Bool) (hl:l.length≤1000000000) (hp:∀v∈l,∀d,Con Tryz.prog g true (aH v::cap.map fun c=>.one (.c c)) (.v (lb (p v))) none d) (d:Nat):
  ∃r:Int,(∀d,Con Tryz.prog 141 true [.one (.c (.sl 6 (Xv l))),.one (.c (.fn g cap))] (.v (li r)) none d)∧(0≤r↔l.any p=true):=by
 refine⟨(match l.findIdx? p with|some i=>(i:Int)|none=>-1),fun d=>?_,?_⟩
 · have hstep:∀k:Nat,(∀j:Nat,j<k→∀v,l[j]? =some v→p v=false)→∀v,l[k]? =some v→p v=true→l.findIdx? p=some k:=by
    intro k hno v hv hpv;rw[List.findIdx?_eq_some_iff_getElem];have hk:k<l.length:=(List.getElem?_eq_some_iff.1 hv).1;refine⟨hk,?_,fun j hj=>?_⟩
    · simp only[List.getElem?_eq_getElem hk,Option.some.injEq]at hv;rw[hv];exact hpv
    have:=hno j hj l[j] (by simp);simp[this]
   have hnone:(∀j:Nat,j<l.length→∀v,l[j]? =some v→p v=false)→l.findIdx? p=none:=by
    intro hno;rw[List.findIdx?_eq_none_iff];intro v hv;obtain⟨j,hj⟩:=List.mem_iff_getElem?.1 hv;exact hno j (List.getElem?_eq_some_iff.1 hj).1 v hj
   refine X5 Tryz.func141 ?_;simp only[Tryz.f141];refine X1 ?_;refine X0<|X0<|X2 ?_;refine X3<|(Xf [0,1,7] (fun(x:Nat)=>[(8,.v (li x))]) (fun x=>[]) (fun x=>x≤l.length∧∀j:Nat,j<x→∀v,l[j]? =some v→p v=false) (fun x=>l.length - x) (0:Nat) ⟨Nat.zero_le _,fun j hj=>absurd hj (Nat.not_lt_zero j)⟩ ?_ ?_)
   · exact X4 (fun n=>n) []
   rintro k ⟨hk,hJ⟩;simp only[upS,X6,XB]
   try simp only[X6,KN,Nat.reduceBEq,if_true,if_false,ins,Nat.reduceLT]
   refine X1 ?_;refine X0<|(X7 rfl (fun h4=>Xb ?_) (fun h4=>?_))
   · (try simp only[BN]at h4);have hlt:k<l.length:=by omega
     obtain⟨⟨nm,lo,hi,⟨o,tn,ks⟩⟩,he,hd⟩:=Xt hlt;have hw1:=XE hlt (by omega);have hk1:k+1≤l.length:=hlt;have hpv:=hp _ (List.mem_of_getElem? he);have hs:=hstep k hJ _ he;clear hlt h4 hstep hnone hp;refine X0<|X3<|X0<|X2 ?_;refine Xm [⟨true,.v (lb (p ⟨nm,lo,hi,.mk o tn ks⟩)),none⟩] ?_ ?_
     · first|exact hpv _|exact trivial|simpa[*]using hpv _
     refine(Xc rfl (fun h7=>?_) fun h7=>?_)
     · (try simp only[BN]at h7);rw[hs h7];refine X1 ?_;exact Xe
     (try simp only[BN]at h7);refine X2 ?_;exact⟨k+1,⟨hk1,fun j hj w hw=>(Nat.lt_succ_iff_lt_or_eq.1 hj).elim (fun h=>hJ j h w hw) (fun e=>by subst e;rw[he]at hw;cases hw;exact h7)⟩,by omega,X4 (fun n=>n) []⟩
   (try simp only[BN]at h4);rw[hnone fun j hj=>hJ j (by omega)];refine(Xg ?_);refine X1 ?_;exact Xe
 rw[List.any_eq];cases h:l.findIdx? p with
 | none=>
   rw[List.findIdx?_eq_none_iff]at h;simp only[decide_eq_true_eq];constructor
   · intro h;omega
   rintro⟨v,hv,hpv⟩;have:=h v hv;rw[hpv]at this;cases this
 | some i=>
   rw[List.findIdx?_eq_some_iff_getElem]at h;obtain⟨hi,hpi,_⟩:=h;simp only[decide_eq_true_eq];exact⟨fun _=>⟨l[i],List.getElem_mem _,hpi⟩,fun _=>by omega⟩
theorem conH_con (l:List Ht) (g:FuncId) (cap:List CD) (p:Ht→Bool) (hl:l.length≤1000000000) (hp:∀v∈l,∀d,Con Tryz.prog g true (aH v::cap.map fun c=>.one (.c c)) (.v (lb (p v))) none d) (d:Nat):
  Con Tryz.prog 184 true [.one (.c (.sl 6 (Xv l))),.one (.c (.fn g cap))] (.v (lb (l.any p))) none d:=by
 obtain⟨r,hr,hi⟩:=idxH_con l g cap p hl hp 0;have hd:decide (0≤r)=l.any p:=by rw[Bool.eq_iff_iff,decide_eq_true_eq];exact hi
 clear hi hp;refine X5 Tryz.func184 ?_;simp only[Tryz.f184];refine X1 ?_;refine Xm [⟨true,.v (li r),none⟩] ?_ ?_
 · first|exact hr _|exact trivial|simpa[*]using hr _
 exact Xe
theorem Xbd (w v:Ht) (d:Nat):Con Tryz.prog 183 true [aH w,.one (.c (.ptr v.enc))] (.v (lb (decide (w.name=v.name)))) none d:=by
 obtain⟨n1,l1,h1,⟨o1,t1,k1⟩⟩:=w;obtain⟨n2,l2,h2,⟨o2,t2,k2⟩⟩:=v;refine X5 Tryz.func183 ?_;simp only[Tryz.f183];simp only[aH,Ht.enc,Tm.enc,List.cons_append,List.nil_append];refine X1 ?_;refine X1 ?_;exact Xe
def X5k (vars:List Vr) (seen:List Ht) (h:Ht):Int:=
 if ZJ h.name=false then 7 else if(seen.any fun w=>decide (w.name=h.name))=true then 8 else if QI h.low h.high=false then 3 else X0E vars true h.term
def hcs (vars:List Vr):List Ht→List Ht→Int
 |_,[]=>0
 |seen,h::l=>if X5k vars seen h=0 then hcs vars (seen++[h]) l else X5k vars seen h
theorem XbI (f:Fl) (hv:X08 f.vars) (hl:f.vars.length≤1000000) (hh:f.hats.length≤1000000) (hn:∀h∈f.hats,h.term.nodes≤1000000000) (d:Nat):
  Con Tryz.prog 116 true [aF f] (.v (li (hcs f.vars [] f.hats))) none d:=by
 obtain⟨vars,hats,body⟩:=f;simp only at hv hl hh hn⊢;obtain⟨res,hres⟩:∃r,hcs vars [] hats=r:=⟨_,rfl⟩;rw[hres];refine X5 Tryz.func116 ?_;simp only[Tryz.f116];simp only[aF,Fl.enc,List.map_cons,List.map_nil];refine X1 ?_;refine X0<|X0<|X2 ?_;refine X3<|(Xf [1,8,9] (fun(x:Nat)=>[(10,.v (li x))]) (fun x=>[(1,.box [.c (.sl 5 (Xu vars)),.c (.sl 6 (Xv hats)),.c (.sl 10 (X8 body))])]) (fun x=>x≤hats.length∧hcs vars (hats.take x) (hats.drop x)=res) (fun x=>hats.length - x) (0:Nat) ⟨Nat.zero_le _,hres⟩ ?_ ?_)
 · exact X4 (fun n=>n) []
 rintro k ⟨hk,hJ⟩;simp only[upS,X6,XB]
 try simp only[X6,KN,Nat.reduceBEq,if_true,if_false,ins,Nat.reduceLT]
 clear hres;refine X1 ?_;refine X0<|(X7 rfl (fun h4=>Xb ?_) (fun h4=>?_))
 · (try simp only[BN]at h4);have hlt:k<hats.length:=by omega
   obtain⟨h,he,hd⟩:=Xt hlt;have hw1:=XE hlt (by omega);have hk1:k+1≤hats.length:=hlt;have hkl:(hats.take k).length≤1000000000:=by rw[List.length_take];omega
   rw[hd]at hJ;simp only[hcs]at hJ;rw[←X0L he]at hJ;have ct:=X6e vars true hv (by omega) h.term (hn h (List.mem_of_getElem? he));have cc:=conH_con (hats.take k) 183 [.ptr h.enc] (fun w=>decide (w.name=h.name)) hkl (fun w _ d=>Xbd w h d);obtain⟨nm,lo,hi,⟨o,tn,ks⟩⟩:=h;obtain⟨HC,hHC⟩:∃x,X5k vars (hats.take k) ⟨nm,lo,hi,.mk o tn ks⟩=x:=⟨_,rfl⟩;rw[hHC]at hJ;simp only[X5k]at hHC;simp only[Ht.enc,Tm.enc,List.cons_append,List.nil_append]at cc;simp only at ct;obtain⟨TC,hTC⟩:∃r,X0E vars true (.mk o tn ks)=r:=⟨_,rfl⟩;rw[hTC]at ct hHC;clear hlt h4 hd hn hTC;refine X0<|X3<|X0<|X2 ?_;refine X1 ?_;refine X0<|X3<|X0<|(Xp [⟨true,.v (lb (ZJ nm)),none⟩] ?_ ?_)
   · first|exact X24 _ _|exact trivial|simpa[*]using X24 _ _
   refine(X7 rfl (fun h8=>?_) (fun h8=>?_))
   · (try simp only[BN]at h8);rw[if_pos h8]at hHC;subst hHC;rw[if_neg (by decide)]at hJ;subst hJ;refine X1 ?_;exact Xe
   (try simp only[BN]at h8);refine Xm [⟨true,.v (lb ((hats.take k).any fun w=>decide (w.name=nm))),none⟩] ?_ ?_
   · first|exact cc _|exact trivial|simpa[*]using cc _
   refine(X7 rfl (fun h12=>?_) (fun h12=>?_))
   · (try simp only[BN]at h12);rw[if_neg (by simp[h8]),if_pos h12]at hHC;subst hHC;rw[if_neg (by decide)]at hJ;subst hJ;refine X1 ?_;exact Xe
   (try simp only[BN]at h12);refine Xm [⟨true,.v (lb (QI lo hi)),none⟩] ?_ ?_
   · first|exact ZK _ _ _|exact trivial|simpa[*]using ZK _ _ _
   refine(Xc rfl (fun h16=>?_) fun h16=>?_)
   · (try simp only[BN]at h16);rw[if_neg (by simp[h8]),if_neg (by simp[h12]),if_pos h16]at hHC;subst hHC;rw[if_neg (by decide)]at hJ;subst hJ;refine X1 ?_;exact Xe
   (try simp only[BN]at h16);rw[if_neg (by simp[h8]),if_neg (by simp[h12]),if_neg (by simp[h16])]at hHC;subst hHC;refine Xm [⟨true,.v (li TC),none⟩] ?_ ?_
   · first|exact ct _|exact trivial|simpa[*]using ct _
   refine X1 ?_;refine(Xc rfl (fun h21=>?_) fun h21=>?_)
   · (try simp only[BN]at h21);rw[if_neg h21]at hJ;subst hJ;refine X1 ?_;exact Xe
   (try simp only[BN]at h21);rw[if_pos (by simpa using h21)]at hJ;refine X2 ?_;exact⟨k+1,⟨hk1,hJ⟩,by omega,X4 (fun n=>n) []⟩
 (try simp only[BN]at h4);have hkl:k=hats.length:=by omega
 rw[hkl,List.drop_length]at hJ;simp only[hcs]at hJ;subst hJ;refine(Xg ?_);refine X1 ?_;exact Xe
end Go.Proofs.YtdajceakaakdoaaGreat

namespace Go.Proofs.YtdajceakaakdoaaGreat
open Go Go.Hl
theorem X8y {ks:List Tm} {t:Tm} (ht:t∈ks):t.nodes≤Qb ks:=ZN ht
theorem X5l (t:Tm):t.nodes≤1000000000→∀d:Nat,Con Tryz.prog 91 true [aT t] (.v (li t.nodes)) none d:=by
 induction t using Tm.ind with
 |h o n ks ih=>
 intro hn d;simp only[Tm.nodes]at hn⊢;have hlen:=We ks;obtain⟨res,hres⟩:∃r,Qb ks=r:=⟨_,rfl⟩;rw[hres]at hn⊢;refine X5 Tryz.func91 ?_;simp only[Tryz.f91];simp only[aT,Tm.enc];refine X1 ?_;refine X1 ?_;refine X0<|X0<|X2 ?_;refine X3<|(Xf [1] (fun(x:Nat×Nat)=>[(3,.v (li ((x.2:Nat):Int))),(4,.v (li x.1))]) (fun x=>[(1,.box [.c (iC o),.c (iC n),.c (.sl 3 (XI ks))])]) (fun x=>x.1≤ks.length∧x.2+Qb (ks.drop x.1)=1+res) (fun x=>ks.length - x.1) (0,1) ⟨Nat.zero_le _,by simp[hres]⟩ ?_ ?_)
 · exact X4 (fun n=>n) []
 rintro⟨k,m⟩ ⟨hk,hJ⟩;simp only[upS,X6,XB]
 try simp only[X6,KN,Nat.reduceBEq,if_true,if_false,ins,Nat.reduceLT]
 simp only at hk hJ;refine X0<|X0<|X2 ?_;refine(X7 rfl (fun h5=>Xb ?_) (fun h5=>?_))
 · (try simp only[BN]at h5);have hlt:k<ks.length:=by omega
   obtain⟨⟨eo,en,ek⟩,he,hd⟩:=Xt hlt;have he':=Wv he;simp only[Tm.enc]at he';have hmem:Tm.mk eo en ek∈ks:=List.mem_of_getElem? he;have hnm:=ZN hmem;have c:=ih _ hmem (by omega);have hw1:=XE hlt (by omega);have hk1:k+1≤ks.length:=hlt;rw[hd]at hJ;simp only[Qb]at hJ;generalize Tm.nodes (.mk eo en ek)=q at*;have hw2:IntKind.i64.wrap ((m:Int)+(q:Int))=(m:Int)+(q:Int):=Xa (by omega) (by omega);clear hlt h5 ih hmem;refine X0<|X3<|(Xp [⟨true,.v (li (q:Int)),none⟩] ?_ ?_)
   · first|exact c _|exact trivial|simpa[*]using c _
   refine X2 ?_;exact⟨(k+1,m+q),⟨hk1,by simp only;omega⟩,by simp only;omega,X4 (fun n=>n) []⟩
 (try simp only[BN]at h5);have hkl:k=ks.length:=by omega
 rw[hkl,List.drop_length]at hJ;simp only[Qb]at hJ;have hm:(m:Int)=1+(res:Int):=by omega
 refine(Xg ?_);refine X1 ?_;exact Xe
theorem XbX (l:List St):Xl l≤1000000000→∀d:Nat,Con Tryz.prog 90 true [lS l] (.v (li (Xl l))) none d:=by
 revert l
 apply St.lists;intro l ih hn d;have hlen:=Qx l;obtain⟨res,hres⟩:∃r,Xl l=r:=⟨_,rfl⟩;rw[hres];refine X5 Tryz.func90 ?_;simp only[Tryz.f90];refine X1 ?_;refine X1 ?_;refine X0<|X0<|X2 ?_;refine X3<|(Xf [0] (fun(x:Nat×Nat)=>[(3,.v (li ((x.2:Nat):Int))),(4,.v (li x.1))]) (fun x=>[]) (fun x=>x.1≤l.length∧x.2+Xl (l.drop x.1)=res) (fun x=>l.length - x.1) (0,0) ⟨Nat.zero_le _,by simp[hres]⟩ ?_ ?_)
 · exact X4 (fun n=>n) []
 rintro⟨k,m⟩ ⟨hk,hJ⟩;simp only[upS,X6,XB]
 try simp only[X6,KN,Nat.reduceBEq,if_true,if_false,ins,Nat.reduceLT]
 simp only at hk hJ;refine X0<|X0<|X2 ?_;refine(X7 rfl (fun h5=>Xb ?_) (fun h5=>?_))
 · (try simp only[BN]at h5);have hlt:k<l.length:=by omega
   obtain⟨s,he,hd⟩:=Xt hlt;have hmem:s∈l:=List.mem_of_getElem? he;have hnm:=QT hmem;have iha:=fun h=>(ih s hmem).1 h;have ihb:=fun h=>(ih s hmem).2 h;have hw1:=XE hlt (by omega);have hk1:k+1≤l.length:=hlt;have ct:=X5l s.term;rw[hd]at hJ;obtain⟨sd,sc,sv,sn,⟨so,stn,sks⟩,sa,sb,sbs⟩:=s;simp only[St.then_,St.else_,St.term]at iha ihb hnm ct;simp only[Xl,St.nodes]at hJ;have ca:=iha (by omega);have cb:=ihb (by omega);have ct:=ct (by omega);have he':=Q5 he;simp only[St.enc,Tm.enc,List.cons_append,List.nil_append]at he';generalize Tm.nodes (.mk so stn sks)=q at*;generalize Xl sa=na at*;generalize Xl sb=nb at*;have hw2:IntKind.i64.wrap ((m:Int)+1)=(m:Int)+1:=Xa (by omega) (by omega);have hw3:IntKind.i64.wrap ((m:Int)+1+(q:Int))=(m:Int)+1+(q:Int):=Xa (by omega) (by omega);have hw4:IntKind.i64.wrap ((m:Int)+1+(q:Int)+(na:Int))=(m:Int)+1+(q:Int)+(na:Int):=Xa (by omega) (by omega);have hw5:IntKind.i64.wrap ((m:Int)+1+(q:Int)+(na:Int)+(nb:Int))=(m:Int)+1+(q:Int)+(na:Int)+(nb:Int):=Xa (by omega) (by omega);clear hlt h5 ih hmem iha ihb;refine X0<|X3<|(QH [⟨true,.v (li (q:Int)),none⟩,⟨true,.v (li (na:Int)),none⟩,⟨true,.v (li (nb:Int)),none⟩] (by kernel_rfl) (by kernel_rfl) (by rfl) (by simp[*];first|exact⟨rfl,Iff.rfl⟩|exact⟨rfl,trivial⟩|rfl) ?_ ?_)
   · first|exact⟨ct _,ca _,cb _⟩|exact trivial|(repeat' first|exact trivial|exact ct _|exact ca _|exact cb _|apply And.intro)
   refine X2 ?_;exact⟨(k+1,m+1+q+na+nb),⟨hk1,by simp only;omega⟩,by simp only;omega,X4 (fun n=>n) []⟩
 (try simp only[BN]at h5);have hkl:k=l.length:=by omega
 rw[hkl,List.drop_length]at hJ;simp only[Xl]at hJ;have hm:m=res:=by omega
 refine(Xg ?_);refine X1 ?_;exact Xe
mutual
def tdT:Tm→Nat
 | .mk _ _ ks=>X4b ks+1
def X4b:List Tm→Nat
 |[]=>0
 |t::l=>max (tdT t) (X4b l)
end
mutual
theorem td_le:∀t:Tm,tdT t≤t.nodes
 | .mk o n ks=>by have:=Xak ks;simp only[tdT,Tm.nodes];omega
theorem Xak:∀l:List Tm,X4b l≤Qb l
 |[]=>by simp[X4b]
 |t::l=>by have:=td_le t;have:=Xak l;simp only[X4b,Qb];omega
end
theorem X66 (t:Tm):t.nodes≤1000000000→∀d:Nat,Con Tryz.prog 92 true [aT t] (.v (li (tdT t))) none d:=by
 induction t using Tm.ind with
 |h o n ks ih=>
 intro hn d;simp only[Tm.nodes]at hn;simp only[tdT];have hlen:=We ks;have htl:=Xak ks;obtain⟨res,hres⟩:∃r,X4b ks=r:=⟨_,rfl⟩;rw[hres]at htl⊢;refine X5 Tryz.func92 ?_;simp only[Tryz.f92];simp only[aT,Tm.enc];refine X1 ?_;refine X1 ?_;refine X0<|X0<|X2 ?_;refine X3<|(Xf [1] (fun(x:Nat×Nat)=>[(3,.v (li ((x.2:Nat):Int))),(4,.v (li x.1))]) (fun x=>[(1,.box [.c (iC o),.c (iC n),.c (.sl 3 (XI ks))])]) (fun x=>x.1≤ks.length∧max x.2 (X4b (ks.drop x.1))=res) (fun x=>ks.length - x.1) (0,0) ⟨Nat.zero_le _,by simp[hres]⟩ ?_ ?_)
 · exact X4 (fun n=>n) []
 rintro⟨k,m⟩ ⟨hk,hJ⟩;simp only[upS,X6,XB]
 try simp only[X6,KN,Nat.reduceBEq,if_true,if_false,ins,Nat.reduceLT]
 simp only at hk hJ;refine X0<|X0<|X2 ?_;refine(X7 rfl (fun h5=>Xb ?_) (fun h5=>?_))
 · (try simp only[BN]at h5);have hlt:k<ks.length:=by omega
   obtain⟨⟨eo,en,ek⟩,he,hd⟩:=Xt hlt;have he':=Wv he;simp only[Tm.enc]at he';have hmem:Tm.mk eo en ek∈ks:=List.mem_of_getElem? he;have hnm:=ZN hmem;have c:=ih _ hmem (by omega);have hw1:=XE hlt (by omega);have hk1:k+1≤ks.length:=hlt;rw[hd]at hJ;simp only[X4b]at hJ;generalize tdT (.mk eo en ek)=q at*;clear hlt h5 ih hmem;refine X0<|X3<|X0<|(Xp [⟨true,.v (li (q:Int)),none⟩] ?_ ?_)
   · first|exact c _|exact trivial|simpa[*]using c _
   refine X1 ?_;refine(Xc rfl (fun h8=>?_) fun h8=>?_)
   · (try simp only[BN]at h8);refine X2 ?_;refine X2 ?_;exact⟨(k+1,q),⟨hk1,by simp only;omega⟩,by simp only;omega,X4 (fun n=>n) []⟩
   (try simp only[BN]at h8);refine X2 ?_;exact⟨(k+1,m),⟨hk1,by simp only;omega⟩,by simp only;omega,X4 (fun n=>n) []⟩
 (try simp only[BN]at h5);have hkl:k=ks.length:=by omega
 rw[hkl,List.drop_length]at hJ;simp only[X4b]at hJ;have hm:m=res:=by omega
 subst hm;have hw:IntKind.i64.wrap ((m:Int)+1)=(m:Int)+1:=Xa (by omega) (by omega);refine(Xg ?_);refine X1 ?_;exact Xe
def sdL:List St→Nat
 |[]=>0
 | .mk _ _ _ _ _ a b _::l=>max (max (sdL a+1) (sdL b+1)) (sdL l)
theorem X9k:∀l:List St,sdL l≤Xl l
 |[]=>by simp[sdL]
 | .mk _ _ _ _ t a b _::l=>by have:=X9k a;have:=X9k b;have:=X9k l;have:=X6o t;simp only[sdL,Xl,St.nodes];omega
theorem Xa6 (l:List St):Xl l≤1000000000→∀d:Nat,Con Tryz.prog 93 true [lS l] (.v (li (sdL l))) none d:=by
 revert l
 apply St.lists;intro l ih hn d;have hlen:=Qx l;obtain⟨res,hres⟩:∃r,sdL l=r:=⟨_,rfl⟩;rw[hres];refine X5 Tryz.func93 ?_;simp only[Tryz.f93];refine X1 ?_;refine X1 ?_;refine X0<|X0<|X2 ?_;refine X3<|(Xf [0] (fun(x:Nat×Nat)=>[(3,.v (li ((x.2:Nat):Int))),(4,.v (li x.1))]) (fun x=>[]) (fun x=>x.1≤l.length∧max x.2 (sdL (l.drop x.1))=res) (fun x=>l.length - x.1) (0,0) ⟨Nat.zero_le _,by simp[hres]⟩ ?_ ?_)
 · exact X4 (fun n=>n) []
 rintro⟨k,m⟩ ⟨hk,hJ⟩;simp only[upS,X6,XB]
 try simp only[X6,KN,Nat.reduceBEq,if_true,if_false,ins,Nat.reduceLT]
 simp only at hk hJ;refine X0<|X0<|X2 ?_;refine(X7 rfl (fun h5=>Xb ?_) (fun h5=>?_))
 · (try simp only[BN]at h5);have hlt:k<l.length:=by omega
   obtain⟨s,he,hd⟩:=Xt hlt;have hmem:s∈l:=List.mem_of_getElem? he;have hnm:=QT hmem;have iha:=fun h=>(ih s hmem).1 h;have ihb:=fun h=>(ih s hmem).2 h;have hw1:=XE hlt (by omega);have hk1:k+1≤l.length:=hlt;rw[hd]at hJ;obtain⟨sd,sc,sv,sn,⟨so,stn,sks⟩,sa,sb,sbs⟩:=s;simp only[St.then_,St.else_,St.term]at iha ihb hnm;simp only[sdL]at hJ;have ca:=iha (by omega);have cb:=ihb (by omega);have ha:=X9k sa;have hb:=X9k sb;have he':=Q5 he;simp only[St.enc,Tm.enc,List.cons_append,List.nil_append]at he';generalize sdL sa=na at*;generalize sdL sb=nb at*;have hw2:IntKind.i64.wrap ((na:Int)+1)=(na:Int)+1:=Xa (by omega) (by omega);have hw3:IntKind.i64.wrap ((nb:Int)+1)=(nb:Int)+1:=Xa (by omega) (by omega);clear hlt h5 ih hmem iha ihb;refine X0<|X3<|X0<|(Xp [⟨true,.v (li (na:Int)),none⟩] ?_ ?_)
   · first|exact ca _|exact trivial|simpa[*]using ca _
   refine Xm [⟨true,.v (li (nb:Int)),none⟩] ?_ ?_
   · first|exact cb _|exact trivial|simpa[*]using cb _
   refine(XV [0,4,6] (fun(z:Nat)=>[(3,.v (li (z:Int)))]) (fun(z:Nat)=>[]) (fun(z:Nat)=>z=max m (na+1)) ?_ ?_)
   ·
    refine X1 ?_;refine(Xc rfl (fun h10=>?_) fun h10=>?_)
    · (try simp only[BN]at h10);have hz:max m (na+1)=na+1:=by omega
      refine X2 ?_;exact⟨na+1,hz.symm,X4 (fun n=>n) []⟩
    (try simp only[BN]at h10);have hz:max m (na+1)=m:=by omega
    exact⟨m,hz.symm,X4 (fun n=>n) []⟩
   rintro z hz;simp only[upS,X6,XB]
   try simp only[X6,KN,Nat.reduceBEq,if_true,if_false,ins,Nat.reduceLT]
   refine X1 ?_;refine(Xc rfl (fun h15=>?_) fun h15=>?_)
   · (try simp only[BN]at h15);refine X2 ?_;refine X2 ?_;exact⟨(k+1,nb+1),⟨hk1,by simp only;omega⟩,by simp only;omega,X4 (fun n=>n) []⟩
   (try simp only[BN]at h15);refine X2 ?_;exact⟨(k+1,z),⟨hk1,by simp only;omega⟩,by simp only;omega,X4 (fun n=>n) []⟩
 (try simp only[BN]at h5);have hkl:k=l.length:=by omega
 rw[hkl,List.drop_length]at hJ;simp only[sdL]at hJ;have hm:m=res:=by omega
 refine(Xg ?_);refine X1 ?_;exact Xe
def Wx:List St→Bool
 |[]=>false
 | .mk _ _ _ _ t a b _::l=>((decide (12<tdT t)||Wx a)||Wx b)||Wx l
theorem Xbc (l:List St):Xl l≤1000000000→∀d:Nat,Con Tryz.prog 94 true [lS l] (.v (lb (Wx l))) none d:=by
 revert l
 apply St.lists;intro l ih hn d;have hlen:=Qx l;obtain⟨res,hres⟩:∃r,Wx l=r:=⟨_,rfl⟩;rw[hres];refine X5 Tryz.func94 ?_;simp only[Tryz.f94];refine X1 ?_;refine X0<|X0<|X2 ?_;refine X3<|(Xf [0] (fun(x:Nat)=>[(3,.v (li x))]) (fun x=>[]) (fun x=>x≤l.length∧Wx (l.drop x)=res) (fun x=>l.length - x) (0:Nat) ⟨Nat.zero_le _,hres⟩ ?_ ?_)
 · exact X4 (fun n=>n) []
 rintro k ⟨hk,hJ⟩;simp only[upS,X6,XB]
 try simp only[X6,KN,Nat.reduceBEq,if_true,if_false,ins,Nat.reduceLT]
 refine X0<|X0<|X2 ?_;refine(X7 rfl (fun h4=>Xb ?_) (fun h4=>?_))
 · (try simp only[BN]at h4);have hlt:k<l.length:=by omega
   obtain⟨s,he,hd⟩:=Xt hlt;have hmem:s∈l:=List.mem_of_getElem? he;have hnm:=QT hmem;have iha:=fun h=>(ih s hmem).1 h;have ihb:=fun h=>(ih s hmem).2 h;have hw1:=XE hlt (by omega);have hk1:k+1≤l.length:=hlt;have ct:=X66 s.term;rw[hd]at hJ;obtain⟨sd,sc,sv,sn,⟨so,stn,sks⟩,sa,sb,sbs⟩:=s;simp only[St.then_,St.else_,St.term]at iha ihb hnm ct;simp only[Wx]at hJ;have ca:=iha (by omega);have cb:=ihb (by omega);have ct:=ct (by omega);have he':=Q5 he;simp only[St.enc,Tm.enc,List.cons_append,List.nil_append]at he';generalize tdT (.mk so stn sks)=q at*;generalize Wx sa=na at*;generalize Wx sb=nb at*;clear hlt h4 ih hmem iha ihb;refine X0<|X3<|X0<|(Xp [⟨true,.v (li (q:Int)),none⟩,⟨true,.v (lb na),none⟩,⟨true,.v (lb nb),none⟩] ?_ ?_)
   · first|exact⟨ct _,ca _,cb _⟩|exact trivial|(repeat' first|exact trivial|exact ct _|exact ca _|exact cb _|apply And.intro)
   refine(Xc rfl (fun h6=>?_) fun h6=>?_)
   · try simp only[BN]at h6
     have hz:res=true:=by
      rw[←hJ];simp only[Bool.or_eq_true,decide_eq_true_eq];rcases h6 with(h|h)|h
      · exact .inl (.inl (.inl (by omega)))
      · exact .inl (.inl (.inr h))
      exact .inl (.inr h)
     refine X1 ?_;exact Xe
   try simp only[BN]at h6
   have hz:Wx (l.drop (k+1))=res:=by
    rw[←hJ];have h12:decide (12<q)=false:=decide_eq_false (by omega);rw[h12,h6.1.2,h6.2];rfl
   clear hJ;refine X2 ?_;exact⟨k+1,⟨hk1,hz⟩,by omega,X4 (fun n=>n) []⟩
 (try simp only[BN]at h4);have hkl:k=l.length:=by omega
 rw[hkl,List.drop_length]at hJ;simp only[Wx]at hJ;subst hJ;refine(Xg ?_);refine X1 ?_;exact Xe
end Go.Proofs.YtdajceakaakdoaaGreat

namespace Go.Proofs.YtdajceakaakdoaaGreat
open Go Go.Hl
def mSs:List St→Int→Int×Bool→Int×Bool
 |[],_,s=>s
 | .mk _ _ _ _ t a b _::l,dep,s=>
   if((s.2||decide (12<dep))||decide (1024<s.1+1))=true then(s.1+1,s.2||decide (12<dep))
   else mSs l dep (mSs b (dep+1) (mSs a (dep+1) (mTm t 1 (s.1+1,s.2||decide (12<dep)))))
theorem ZS:∀(l:List St) (dep:Int) (s:Int×Bool),s.1≤(mSs l dep s).1∧(mSs l dep s).1≤s.1+Xl l
 |[],dep,s=>by simp[mSs,Xl]
 | .mk d c v n t a b bs::l,dep,s=>by
   simp only[mSs,Xl,St.nodes];have h1:=X1a t 1 (s.1+1,s.2||decide (12<dep));have h2:=ZS a (dep+1) (mTm t 1 (s.1+1,s.2||decide (12<dep)));have h3:=ZS b (dep+1) (mSs a (dep+1) (mTm t 1 (s.1+1,s.2||decide (12<dep))));have h4:=ZS l dep (mSs b (dep+1) (mSs a (dep+1) (mTm t 1 (s.1+1,s.2||decide (12<dep)))));split
   · simp only;omega
   simp only at h1;omega
theorem X9I (l:List St):∀(dep c:Int) (b:Bool),0≤dep→0≤c→c+Xl l≤1000000000→
  X80 Tryz.prog 112 [iC c,bC b] [lS l,li dep] (.tup []) [iC (mSs l dep (c,b)).1,bC (mSs l dep (c,b)).2]:=by
 revert l
 apply St.lists;intro l ih dep c b hdep hc hn;have hlen:=Qx l;obtain⟨res,hres⟩:∃r,mSs l dep (c,b)=r:=⟨_,rfl⟩;rw[hres];refine X31 Tryz.func112 rfl (by kernel_rfl) (Nat.le_of_ble_eq_true rfl) ?_;simp only[Tryz.f112];refine X1 ?_;refine X3<|(Xf [0,2,8,9] (fun(x:Nat×Int×Bool)=>[(10,.v (li x.1))]) (fun x=>[(1000000,.box [.c (iC x.2.1),.c (bC x.2.2)])]) (fun x=>x.1≤l.length∧mSs (l.drop x.1) dep x.2=res∧0≤x.2.1∧x.2.1+Xl (l.drop x.1)≤1000000000) (fun x=>l.length - x.1) (0,c,b) ⟨Nat.zero_le _,hres,hc,by simpa using hn⟩ ?_ ?_)
 · exact X4 (fun n=>n) []
 rintro⟨k,m,q⟩ ⟨hk,hJ,hm,hb⟩;simp only[upS,X6,XB]
 try simp only[X6,KN,Nat.reduceBEq,if_true,if_false,ins,Nat.reduceLT]
 simp only at hk hJ hm hb;clear hres;refine X1 ?_;refine X0<|(X7 rfl (fun h3=>Xb ?_) (fun h3=>?_))
 · (try simp only[BN]at h3);have hlt:k<l.length:=by omega
   obtain⟨s,he,hd⟩:=Xt hlt;have hmem:s∈l:=List.mem_of_getElem? he;have iha:=(ih s hmem).1;have ihb:=(ih s hmem).2;have hw1:=XE hlt (by omega);have hk1:k+1≤l.length:=hlt;rw[hd]at hJ hb;obtain⟨sd,sc,sv,sn,⟨so,stn,sks⟩,sa,sb,sbs⟩:=s;simp only[St.then_,St.else_]at iha ihb;simp only[mSs]at hJ;simp only[Xl,St.nodes]at hb;have he':=Q5 he;simp only[St.enc,Tm.enc,List.cons_append,List.nil_append]at he';have hw2:IntKind.i64.wrap (m+1)=m+1:=Xa (by omega) (by omega);clear hlt h3 ih hmem hd he;refine X0<|X3<|X0<|X2 ?_;refine X1 ?_;refine X1 ?_;refine X0<|X0<|(Xp [⟨true,.v (lb ((q||decide (12<dep))||decide (1024<m+1))),none⟩] ?_ ?_)
   · first|exact Z7 _ _ _|exact trivial|simpa[*]using Z7 _ _ _
   refine(Xc rfl (fun h8=>?_) fun h8=>?_)
   · (try simp only[BN]at h8);rw[if_pos (by simpa using h8)]at hJ;subst hJ;exact Qm (⟨.inr rfl,_,le_refl _,⟨_,by simp[*];rfl,by simp[XK]⟩,by simp[*]⟩)
   (try simp only[BN]at h8);rw[if_neg (by simpa using h8)]at hJ;have hq0:q=false:=h8.1.1;have hdep2:dep≤12:=by omega
   have hwd:IntKind.i64.wrap (dep+1)=dep+1:=Xa (by omega) (by omega);have hqd:(q||decide (12<dep))=false:=by rw[hq0];simp;omega
   rw[hqd]at hJ;have e1:=X1a (.mk so stn sks) 1 (m+1,false);obtain⟨p1,hp1⟩:∃p,mTm (.mk so stn sks) 1 (m+1,false)=p:=⟨_,rfl⟩;have cio1:=X6u (.mk so stn sks) 1 (m+1) false (by omega) (by omega) (by omega);rw[hp1]at cio1 e1 hJ;obtain⟨c1,b1⟩:=p1;simp only at cio1 e1;have e2:=ZS sa (dep+1) (c1,b1);have cio2:=iha (dep+1) c1 b1 (by omega) (by omega) (by omega);obtain⟨p2,hp2⟩:∃p,mSs sa (dep+1) (c1,b1)=p:=⟨_,rfl⟩;rw[hp2]at cio2 e2 hJ;obtain⟨c2,b2⟩:=p2;simp only at cio2 e2;have e3:=ZS sb (dep+1) (c2,b2);have cio3:=ihb (dep+1) c2 b2 (by omega) (by omega) (by omega);obtain⟨p3,hp3⟩:∃p,mSs sb (dep+1) (c2,b2)=p:=⟨_,rfl⟩;rw[hp3]at cio3 e3 hJ;obtain⟨c3,b3⟩:=p3;simp only at cio3 e3;clear iha ihb hp1 hp2 hp3 h8 hqd;refine X0<|(X0z 3 (.tup []) ([iC c1,bC b1]) rfl (by simp[*];rfl) (by simp[ioOf, *];first|exact⟨rfl,rfl,rfl,rfl,rfl⟩|exact⟨rfl,rfl,rfl,rfl⟩|exact⟨rfl,rfl,rfl⟩|exact⟨rfl,rfl⟩|rfl) (cio1) (by simp) (by simp[*];rfl) ?_);refine X0<|(X0z 5 (.tup []) ([iC c2,bC b2]) rfl (by simp[*];rfl) (by simp[ioOf, *];first|exact⟨rfl,rfl,rfl,rfl,rfl⟩|exact⟨rfl,rfl,rfl,rfl⟩|exact⟨rfl,rfl,rfl⟩|exact⟨rfl,rfl⟩|rfl) (cio2) (by simp) (by simp[*];rfl) ?_);refine(X0z 5 (.tup []) ([iC c3,bC b3]) rfl (by simp[*];rfl) (by simp[ioOf, *];first|exact⟨rfl,rfl,rfl,rfl,rfl⟩|exact⟨rfl,rfl,rfl,rfl⟩|exact⟨rfl,rfl,rfl⟩|exact⟨rfl,rfl⟩|rfl) (cio3) (by simp) (by simp[*];rfl) ?_);refine X2 ?_;exact⟨(k+1,c3,b3),⟨hk1,hJ,by simp only;omega,by simp only;omega⟩,by simp only;omega,X4 (fun n=>n) []⟩
 (try simp only[BN]at h3);have hkl:k=l.length:=by omega
 subst hkl;rw[List.drop_length]at hJ;simp only[mSs]at hJ;subst hJ;refine(Xg ?_);exact(⟨.inl rfl,_,le_refl _,⟨_,by simp[*];rfl,by simp[XK]⟩,by simp[*]⟩)
def W6 (s:Int×Bool):Bool:=s.2||decide (1024<s.1)
theorem X4g {s:Int×Bool} (h:W6 s=false):s.2=false∧s.1≤1024:=by
 simp only[W6,Bool.or_eq_false_iff,decide_eq_false_iff_not]at h;exact⟨h.1,by omega⟩
mutual
theorem mTm_over:∀(t:Tm) (dep:Int) (s:Int×Bool),0≤s.1→W6 s=true→W6 (mTm t dep s)=true
 | .mk o n ks,dep,s,h0,h=>by
   have h1:W6 (s.1+1,s.2||decide (12<dep))=true:=by
    simp only[W6,Bool.or_eq_true,decide_eq_true_eq]at h⊢;rcases h with h|h
    · exact .inl (.inl h)
    exact .inr (by omega)
   simp only[mTm];split
   · exact h1
   exact X41 ks (dep+1) _ (by simp only;omega) h1
theorem X41:∀(l:List Tm) (dep:Int) (s:Int×Bool),0≤s.1→W6 s=true→W6 (X3a l dep s)=true
 |[],dep,s,_,h=>h
 |t::l,dep,s,h0,h=>X41 l dep _ (Int.le_trans h0 (X1a t dep s).1) (mTm_over t dep s h0 h)
end
mutual
theorem X73:∀(t:Tm) (dep:Int) (s:Int×Bool),0≤s.1→dep≤13→W6 s=false→
  (s.1+t.nodes≤1024∧dep+tdT t≤13→mTm t dep s=(s.1+t.nodes,false))∧(¬(s.1+t.nodes≤1024∧dep+tdT t≤13)→W6 (mTm t dep s)=true)
 | .mk o n ks,dep,s,h0,hd,h=>by
   obtain⟨h1,h2⟩:=X4g h;simp only[mTm,Tm.nodes,tdT,h1,Bool.false_or];by_cases hc:(decide (12<dep)||decide (1024<s.1+1))=true
   · rw[if_pos hc];simp only[Bool.or_eq_true,decide_eq_true_eq]at hc;refine⟨fun hf=>by omega,fun _=>?_⟩;simp only[W6,Bool.or_eq_true,decide_eq_true_eq];omega
   rw[if_neg hc];simp only[Bool.or_eq_true,decide_eq_true_eq,not_or]at hc;have hdd:decide (12<dep)=false:=decide_eq_false hc.1;rw[hdd];have hov:W6 (s.1+1,false)=false:=by simp only[W6,Bool.false_or,decide_eq_false_iff_not];omega
   have:=X8g ks (dep+1) (s.1+1,false) (by simp only;omega) (by omega) hov;simp only at this;refine⟨fun hf=>?_,fun hf=>this.2 (by omega)⟩;rw[this.1 (by omega)];simp only[Prod.mk.injEq,and_true];omega
theorem X8g:∀(l:List Tm) (dep:Int) (s:Int×Bool),0≤s.1→dep≤13→W6 s=false→
  (s.1+Qb l≤1024∧dep+X4b l≤13→X3a l dep s=(s.1+Qb l,false))∧(¬(s.1+Qb l≤1024∧dep+X4b l≤13)→W6 (X3a l dep s)=true)
 | [],dep,s,h0,hd,h=>by
   obtain⟨h1,h2⟩:=X4g h;obtain⟨c,b⟩:=s;simp only at h1 h2;subst h1;simp only[X3a,Qb,X4b];refine⟨fun _=>by simp,fun hf=>by omega⟩
 | t ::l,dep,s,h0,hd,h=>by
   simp only[X3a,Qb,X4b];have ht:=X73 t dep s h0 hd h;by_cases hf:s.1+t.nodes≤1024∧dep+tdT t≤13
   · rw[ht.1 hf];have hov:W6 (s.1+t.nodes,false)=false:=by simp only[W6,Bool.false_or,decide_eq_false_iff_not];omega
     have hl:=X8g l dep (s.1+t.nodes,false) (by simp only;omega) hd hov;simp only at hl;refine⟨fun h2=>?_,fun h2=>hl.2 (by omega)⟩;rw[hl.1 (by omega)];simp only[Prod.mk.injEq,and_true];omega
   refine⟨fun h2=>by omega,fun _=>X41 l dep _ (Int.le_trans h0 (X1a t dep s).1) (ht.2 hf)⟩
end
theorem X0G:∀(l:List St) (dep:Int) (s:Int×Bool),0≤s.1→W6 s=true→W6 (mSs l dep s)=true
 |[],dep,s,_,h=>by simp only[mSs];exact h
 | .mk d c v n t a b bs::l,dep,s,h0,h=>by
   have h1:W6 (s.1+1,s.2||decide (12<dep))=true:=by
    simp only[W6,Bool.or_eq_true,decide_eq_true_eq]at h⊢;rcases h with h|h
    · exact .inl (.inl h)
    exact .inr (by omega)
   simp only[mSs];split
   · exact h1
   rename_i hc;exact absurd h1 hc
theorem X4Q:∀(l:List St) (dep:Int) (s:Int×Bool),0≤s.1→dep≤13→W6 s=false→
  (s.1+Xl l≤1024∧dep+sdL l≤13∧Wx l=false→mSs l dep s=(s.1+Xl l,false))∧(¬(s.1+Xl l≤1024∧dep+sdL l≤13∧Wx l=false)→W6 (mSs l dep s)=true)
 | [],dep,s,h0,hd,h=>by
   obtain⟨h1,h2⟩:=X4g h;obtain⟨c,b⟩:=s;simp only at h1 h2;subst h1;simp only[mSs,Xl,sdL,Wx];refine⟨fun _=>by simp,fun hf=>absurd ⟨by omega,by omega,trivial⟩ hf⟩
 | .mk d c v n t a b bs::l,dep,s,h0,hd,h=>by
   obtain⟨h1,h2⟩:=X4g h;simp only[mSs,Xl,St.nodes,sdL,Wx,h1,Bool.false_or,Bool.or_eq_false_iff,decide_eq_false_iff_not];by_cases hc:(decide (12<dep)||decide (1024<s.1+1))=true
   · rw[if_pos hc];simp only[Bool.or_eq_true,decide_eq_true_eq]at hc;refine⟨fun hf=>by omega,fun _=>?_⟩;simp only[W6,Bool.or_eq_true,decide_eq_true_eq];omega
   rw[if_neg hc];simp only[Bool.or_eq_true,decide_eq_true_eq,not_or]at hc;have hdd:decide (12<dep)=false:=decide_eq_false hc.1;rw[hdd]
   have ov:∀x:Int,x≤1024→W6 (x,false)=false:=by
    intro x hx;simp only[W6,Bool.false_or,decide_eq_false_iff_not];omega
   have ht:=X73 t 1 (s.1+1,false) (by simp only;omega) (by omega) (ov _ (by omega));have g1:=(X1a t 1 (s.1+1,false)).1;have g2:=(ZS a (dep+1) (mTm t 1 (s.1+1,false))).1;have g3:=(ZS b (dep+1) (mSs a (dep+1) (mTm t 1 (s.1+1,false)))).1;simp only at ht g1;by_cases f1:s.1+1+t.nodes≤1024∧1+(tdT t:Int)≤13
   · rw[ht.1 f1];have ha:=X4Q a (dep+1) (s.1+1+t.nodes,false) (by simp only;omega) (by omega) (ov _ (by omega));simp only at ha;by_cases f2:s.1+1+t.nodes+Xl a≤1024∧dep+1+sdL a≤13∧Wx a=false
     · rw[ha.1 f2];have hb:=X4Q b (dep+1) (s.1+1+t.nodes+Xl a,false) (by simp only;omega) (by omega) (ov _ (by omega));simp only at hb;by_cases f3:s.1+1+t.nodes+Xl a+Xl b≤1024∧dep+1+sdL b≤13∧Wx b=false
       · rw[hb.1 f3];have hl:=X4Q l dep (s.1+1+t.nodes+Xl a+Xl b,false) (by simp only;omega) hd (ov _ (by omega));simp only at hl;refine⟨fun hf=>?_,fun hf=>hl.2 fun h4=>hf ⟨by omega,by omega,⟨⟨by omega,f2.2.2⟩,f3.2.2⟩,h4.2.2⟩⟩;rw[hl.1 ⟨by omega,by omega,hf.2.2.2⟩];simp only[Prod.mk.injEq,and_true];omega
       refine⟨fun hf=>absurd ⟨by omega,by omega,hf.2.2.1.2⟩ f3,fun _=>X0G l dep _ ?_ (hb.2 f3)⟩;have:=(ZS b (dep+1) (s.1+1+t.nodes+Xl a,false)).1;simp only at this;omega
     refine⟨fun hf=>absurd ⟨by omega,by omega,hf.2.2.1.1.2⟩ f2,fun _=>?_⟩;have q1:=(ZS a (dep+1) (s.1+1+t.nodes,false)).1;have q2:=(ZS b (dep+1) (mSs a (dep+1) (s.1+1+t.nodes,false))).1;simp only at q1;exact X0G l dep _ (by omega) (X0G b (dep+1) _ (by omega) (ha.2 f2))
   refine⟨fun hf=>absurd ⟨by omega,by omega⟩ f1,fun _=>?_⟩;exact X0G l dep _ (by omega) (X0G b (dep+1) _ (by omega) (X0G a (dep+1) _ (by omega) (ht.2 f1)))
end Go.Proofs.YtdajceakaakdoaaGreat

namespace Go.Proofs.YtdajceakaakdoaaGreat
open Go Go.Hl Go.RowKit
inductive CWk:CV→CV→Prop where
 |refl (x:CV):CWk x x
 |nil (s:Nat):CWk (.c (.lit XW)) (.c (.sl s []))
inductive LWk:List CV→List CV→Prop where
 |nil:LWk [] []
 |cons {x y:CV} {l m:List CV}:CWk x y→LWk l m→LWk (x::l) (y::m)
theorem CWk.rel {F:Nat→Prop} {γ:Nat→Value} {w:World} {x y:CV} (h:CWk x y) {v:Value} (hr:Xn F γ w x v):Xn F γ w y v:=by
 cases h with
 |refl=>exact hr
 | nil s=>
   have:v=XW:=X9.lit_eq (γ:=γ) (F:=F) (w:=w) (r:=.v (.one (.c (.lit XW)))) rfl hr;rw[this];exact CRel.nil s
theorem LWk.len {l m:List CV} (h:LWk l m):m.length=l.length:=by
 induction h with
 |nil=>rfl
 |cons _ _ ih=>simp[ih]
theorem LWk.get {l m:List CV} (h:LWk l m):∀(j:Nat) y,m[j]? =some y→∃x,l[j]? =some x∧CWk x y:=by
 induction h with
 |nil=>simp
 | cons hc _ ih=>
   intro j y hj;cases j with
   |zero=>cases hj;exact⟨_,rfl,hc⟩
   |succ j=>exact ih j y hj
theorem LWk.rel {F:Nat→Prop} {γ:Nat→Value} {w:World} {l m:List CV} (h:LWk l m) {vs:Array Value} (hr:Xk F γ w l vs):Xk F γ w m vs:=by
 refine⟨hr.1.trans h.len.symm,fun j y u hy hu=>?_⟩;obtain⟨x,hx,hc⟩:=h.get j y hy;exact hc.rel (hr.2 j x u hx hu)
theorem X9K {s:HS} (k:Nat) {r r':RV} (hl:lkp s.regs k=some r) (hw:∀(F:Nat→Prop) (γ:Nat→Value) (w:World) v,X9 F γ w r v→X9 F γ w r' v):le s {s with regs:=ins k r' s.regs}:=by
 intro w0 B π F γ a w hr;refine⟨F,γ,fun _ h=>h,fun _ h=>.inl h,hr.heap,hr.defers,hr.nt,fun j x hj=>?_⟩;rw[XL]at hj;split at hj
 · rename_i e;cases hj;subst e;exact hw _ _ _ _ (hr.regs j r hl)
 exact hr.regs j x hj
theorem X1J {s:HS} (k:Nat) {xs:List CV} (ys:List CV) (hl:lkp s.regs k=some (.v (.agg xs))) (h:LWk xs ys):le s {s with regs:=ins k (.v (.agg ys)) s.regs}:=by
 refine X9K k hl fun F γ w v hv=>?_;obtain⟨vs,rfl,hc⟩:=hv;exact⟨vs,rfl,h.rel hc⟩
theorem le_one {s:HS} (k sz:Nat) (hl:lkp s.regs k=some (.v (.one (.c (.lit XW))))):le s {s with regs:=ins k (.v (.one (.c (.sl sz [])))) s.regs}:=
 X9K k hl fun F γ w v hv=>CWk.rel (γ:=γ) (CWk.nil sz) hv
theorem le_emp {s:HS} (k sz:Nat) {a:Addr} {cap:Nat} (hl:lkp s.regs k=some (.v (.one (.c (.lit (.slice (some a) 0 cap)))))):le s {s with regs:=ins k (.v (.one (.c (.sl sz [])))) s.regs}:=by
 refine X9K k hl fun F γ w v hv=>?_;have:v=.slice (some a) 0 cap:=X9.lit_eq rfl hv;rw[this];exact CRel.emp sz a cap
theorem X3I {s:HS} (t n d:Nat) {e:TypeId} {sz:Nat} {rows:List (List CD)} (hl:opd s.regs (.tmp t)=.v (.one (.own n))) (ho:lkp s.objs n=some (.row e sz rows)) (hd:d<1000000):
  le s ⟨s.nt,[(t,.v (.one (.own d)))],[(d,.row e sz rows)]⟩:=by
 have hp:X0C (fun _=>n) d=n:=by unfold X0C;rw[if_neg (by omega)]
 refine Xx (fun _=>n) [] rfl ?_ ?_ ?_
 · refine⟨⟨rfl,?_⟩,trivial⟩;rw[hl];simp only[RV.ren,TV.ren,CV.ren,hp,List.contains_nil,Bool.false_eq_true,if_false]
 · simp only[Zb,List.contains_nil,Bool.false_eq_true,if_false,Ob.okNil,hp,ho,Ob.ren,and_self]
 simp only[Zb,true_or,and_self]
theorem le_nameN {s:HS} (t d:Nat) (e:TypeId) (sz:Nat) (hl:opd s.regs (.tmp t)=.v (.one (.c (.lit XW)))) (hs:0<sz) (hd:d<1000000):
  le s ⟨s.nt,[(t,.v (.one (.own d)))],[(d,.row e sz [])]⟩:=by
 refine Xx (fun n=>n) [d] rfl ?_ ?_ ?_ (by simpa using hd)
 · refine⟨⟨by simp[RV.okNil,TV.okNil,CV.okNil],?_⟩,trivial⟩;rw[hl];simp[RV.ren,TV.ren,CV.ren]
 · simp[Zb,hs]
 simp[Zb]
theorem Xav {P:Program} {f:FuncId} {fresh:Bool} {r:RV} {ob:Option Ob} {d s:Nat} (h1:Con P f fresh [.one (.c (.lit XW))] r ob d) (h2:∀a cap,Con P f fresh [.one (.c (.lit (.slice (some a) 0 cap)))] r ob d):Con P f fresh [.one (.c (.sl s []))] r ob d:=by
 refine⟨h1.1,fun F w vs hF hsz hargs=>?_⟩;have hv:∃u,vs[0]? =some u:=⟨vs[0]'(by rw[hsz];simp),by simp[hsz]⟩;obtain⟨u,hu⟩:=hv;have hr:CRel F w (.sl s []) u:=hargs 0 _ u rfl hu
 have go:∀(v:Value),u=v→Con P f fresh [.one (.c (.lit v))] r ob d→_:=fun v hv hc=>hc.2 F w vs hF (by simpa using hsz) fun j t u' ht hu'=>by
  cases j with
  | zero=>
    cases ht;rw[hu]at hu';cases hu';subst hv;exact CRel.lit u
  |succ j=>cases ht
 rcases CRel.sl_inv hr with⟨_,hv|⟨a,cap,hv⟩⟩|⟨b,o,cap,cells,hv,_⟩
 · exact go _ hv h1
 · exact go _ hv (h2 a cap)
 exact go _ hv (h2 _ cap)
end Go.Proofs.YtdajceakaakdoaaGreat

namespace Go.Proofs.YtdajceakaakdoaaGreat
open Go Go.Hl
theorem X9N (l:List Int) (hl:l.length≤1000000000) (d:Nat):Con Tryz.prog 72 false [lI l] (.v (lI l)) none d:=by
 have hroom:Wa l.length 8:=⟨by unfold maxLen;omega,by omega⟩;cases l with
 | nil=>
   refine Xav ?_ ?_
   · refine X5 Tryz.func72 ?_;simp only[Tryz.f72];refine X1 ?_;refine X0<|X0<|X2 ?_;refine(Xc rfl (fun h2=>?_) fun h2=>?_)
     · (try simp only[BN]at h2);refine X1 ?_;exact Qm ⟨.inr rfl,_,le_one 2 1 rfl,⟨⟨_,by simp;rfl,by simp[XK]⟩,by simp,fun h=>by cases h⟩⟩
     exact absurd h2 (by simp)
   intro a cap;refine X5 Tryz.func72 ?_;simp only[Tryz.f72];refine X1 ?_;refine X0<|X0<|X2 ?_;refine(Xc rfl (fun h2=>?_) fun h2=>?_)
   · exact absurd h2 (by simp)
   (try simp only[BN]at h2);refine XH (le_emp 0 1 rfl) ?_;refine X1 ?_;exact Qm ⟨.inr rfl,_,QQ 7 rfl,⟨⟨_,by simp;rfl,by simp[XK]⟩,by simp,fun h=>by cases h⟩⟩
 | cons v r=>
   refine X5 Tryz.func72 ?_;simp only[Tryz.f72];rw[List.length_cons]at hroom;refine X1 ?_;refine X0<|X0<|X2 ?_;refine(Xc rfl (fun h2=>?_) fun h2=>?_)
   · exact absurd h2 (by simp)
   (try simp only[BN]at h2);refine X1 ?_;exact Qm ⟨.inr rfl,_,QQ 7 rfl,⟨⟨_,by simp;rfl,by simp[XK]⟩,by simp,fun h=>by cases h⟩⟩
end Go.Proofs.YtdajceakaakdoaaGreat
