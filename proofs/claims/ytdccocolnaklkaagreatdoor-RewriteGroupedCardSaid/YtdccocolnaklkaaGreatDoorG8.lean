/- Contracts of functions and plain facts about what they compute. Conditions: as each theorem states. -/
import Derived.Test.YtdccocolnaklkaaGreatDoorG4
import Derived.Test.YtdccocolnaklkaaGreatDoorG5
import Derived.Test.YtdccocolnaklkaaGreatDoorG6
set_option linter.unusedSimpArgs false
set_option linter.unusedVariables false
set_option linter.unnecessarySimpa false
set_option maxRecDepth 100000
set_option maxHeartbeats 2000000
namespace Go.Proofs.YtdccocolnaklkaaGreatDoor
open Go Go.Hl
open Tryz(prog)
def inPr (p:Int×Int) (x:Int):Prop:=p.1<=x/\x<=p.2∧-1048576<=p.1/\p.2<=1048576
theorem X3B {x a b y:Int} (h1:a<=x) (h2:x<=b):mn (a*y) (b*y)<=x*y/\x*y<=mx (a*y) (b*y):=by
 rcases Int.le_total 0 y with h|h
 .have h3:=Int.mul_le_mul_of_nonneg_right h1 h;have h4:=Int.mul_le_mul_of_nonneg_right h2 h;unfold mn mx;split<;>split<;>omega
 have h3:=Int.mul_le_mul_of_nonpos_right h1 h;have h4:=Int.mul_le_mul_of_nonpos_right h2 h;unfold mn mx;split<;>split<;>omega
theorem mulP_in {a b:Int×Int} {x y:Int} (hx:a.1<=x/\x<=a.2) (hy:b.1<=y/\y<=b.2):(mulP a b).1<=x*y/\x*y<=(mulP a b).2:=by
 have h0:=X3B (y:=y) hx.1 hx.2;have h1:=X3B (y:=a.1) hy.1 hy.2;have h2:=X3B (y:=a.2) hy.1 hy.2;rw[Int.mul_comm y,Int.mul_comm b.1,Int.mul_comm b.2]at h1 h2;simp only[mulP,W3,mn,mx]at*;generalize x*y=q at*;generalize a.1*y=q1 at*;generalize a.2*y=q2 at*;generalize a.1*b.1=q3 at*;generalize a.1*b.2=q4 at*;generalize a.2*b.1=q5 at*;generalize a.2*b.2=q6 at*;omega
theorem tdm {a b:Int} (hb:b≠0):a=b*a.tdiv b+a.tmod b/\(a.tmod b).natAbs<b.natAbs/\(0<=a->0<=a.tmod b)/\(a<=0->a.tmod b<=0)/\(a.tdiv b).natAbs<=a.natAbs:=by
 refine⟨(Int.mul_tdiv_add_tmod a b).symm,?_,fun h=>Int.tmod_nonneg _ h,fun h=>?_,?_⟩
 .rw[Int.natAbs_tmod];exact Nat.mod_lt _ (by omega)
 .have:=Int.tmod_nonneg b (show 0<=-a by omega);rw[Int.neg_tmod]at this;omega
 rw[Int.natAbs_tdiv];exact Nat.div_le_self _ _
theorem tdv {a b:Int} (hb:b≠0) (hm:a.tmod b≠0):2*(a.tdiv b).natAbs<=a.natAbs/\a≠0:=by
 have h:=tdm (a:=a) hb;have hb2:2<=b.natAbs:=by omega
 constructor
 .rw[Int.natAbs_tdiv,show a.natAbs.div b.natAbs=a.natAbs/b.natAbs from rfl];have h1:=Nat.div_le_div_left (a:=a.natAbs) hb2 (by decide);have h2:=Nat.div_mul_le_self a.natAbs 2;omega
 rintro rfl;simp at hm
theorem X7g {a b:Int} (ha:-1048576<=a/\a<=1048576) (hb:b≠0):X0e a b=if a.tmod b≠0/\(decide (a<0)!=decide (b<0))=true then a.tdiv b - 1 else a.tdiv b:=by
 have h:=tdm (a:=a) hb;have hw:wr (a.tdiv b)=a.tdiv b:=X8;have hw2:wr (a.tdiv b - 1)=a.tdiv b - 1:=X8;unfold X0e;rw[N6 hb,hw,hw2];by_cases h1:a.tmod b=0
 .simp[h1]
 simp[h1]
theorem X8M {a b:Int} (ha:-1048576<=a/\a<=1048576):-(a.natAbs:Int)<=X0e a b/\X0e a b<=a.natAbs/\(0<=a->0<=b->0<=X0e a b):=by
 by_cases hb:b=0
 .subst hb;simp only[X0e,Nd];omega
 have h:=tdm (a:=a) hb;rw[X7g ha hb];split
 .rename_i h1;have h2:=tdv hb h1.1;have h3:=h1.2;refine⟨by omega,by omega,fun ha0 hb0=>?_⟩;rw[decide_eq_false (by omega:¬a<0),decide_eq_false (by omega:¬b<0)]at h3;cases h3
 refine⟨by omega,by omega,fun ha0 hb0=>Int.tdiv_nonneg ha0 hb0⟩
theorem modI_in {a b:Int} (ha:-1048576<=a/\a<=1048576) (hb:-1048576<=b/\b<=1048576):(b=0->X2c a b=0)/\(0<b->0<=X2c a b/\X2c a b<b)/\(b<0->b<X2c a b/\X2c a b<=0):=by
 by_cases h0:b=0
 .subst h0;simp[X2c]
 have h:=tdm (a:=a) h0;have hv:=X7g ha h0;have hd:=X8M (b:=b) ha;have hm:=X1x hb (show -1048576<=X0e a b/\X0e a b<=1048576 by omega)
 have e:X2c a b=a - b*X0e a b:=by
  unfold X2c;rw[N6 h0,show wr (b*X0e a b)=b*X0e a b from X8 (by omega) (by omega)];exact X8
 rw[e,hv];refine⟨fun h1=>absurd h1 h0,?_⟩;clear hm e hd hv;split
 .rename_i h1;rw[Int.mul_sub,Int.mul_one];have h3:=h1.2;have h4:=h1.1;generalize b*a.tdiv b=q at*;rcases Int.lt_or_le a 0 with ha0|ha0<;>rcases Int.lt_or_le b 0 with hb0|hb0
  .simp[ha0,hb0]at h3
  .omega
  .omega
  rw[decide_eq_false (by omega:¬a<0),decide_eq_false (by omega:¬b<0)]at h3;cases h3
 rename_i h1;generalize b*a.tdiv b=q at*
 have h5:a.tmod b=0\/((a<0)↔(b<0)):=by
  by_cases h2:a.tmod b=0
  .exact .inl h2
  refine .inr ?_;have:¬(decide (a<0)!=decide (b<0))=true:=fun h3=>h1 ⟨h2,h3⟩;simpa using this
 omega
def X0w (vars:List Vr) (vs:List Int):Prop:=∀(i:Nat) (v:Vr),vars[i]? =some v->∃x,vs[i]? =some x/\v.low<=x/\x<=v.high
def prIn:List (Int×Int)->List Int->Prop
 |[],[]=>True
 |p::k,x::l=>inPr p x/\prIn k l
 |_,_=>False
theorem X68:∀{k:List (Int×Int)} {l:List Int},prIn k l->k.length=l.length
 |[],[],_=>rfl
 |p::k,x::l,h=>by simp only[List.length_cons,X68 h.2]
 |[],_::_,h=>False.elim h
 |_::_,[],h=>False.elim h
theorem X06:∀{k:List (Int×Int)} {l:List Int},prIn k l->∀{i:Nat},i<k.length->∃p x,k[i]? =some p/\l[i]? =some x/\inPr p x
 |p::k,x::l,h,0,_=>⟨p,x,rfl,rfl,h.1⟩
 |p::k,x::l,h,i+1,hi=>by simpa using X06 h.2 (i:=i) (by simpa using hi)
 |[],_::_,h,_,_=>False.elim h
 |_::_,[],h,_,_=>False.elim h
 |[],[],_,i,hi=>by simp at hi
theorem X2w:∀(k:List (Int×Int)) (p:Int×Int),(WE k p).1<=p.1/\p.2<=(WE k p).2
 |[],p=>⟨NW _,NW _⟩
 | q::k,p=>by
   have h:=X2w k (W3 p q);simp only[WE];simp only[W3,mn,mx]at h⊢;omega
theorem X50:∀{k:List (Int×Int)} {p q:Int×Int},q∈k->(WE k p).1<=q.1/\q.2<=(WE k p).2
 | r::k,p,q,h=>by
   simp only[WE];rcases Np.1 h with rfl|h
   .have h:=X2w k (W3 p q);simp only[W3,mn,mx]at h⊢;omega
   exact X50 h
theorem hullG {k:List (Int×Int)} {i:Nat} {q:Int×Int} (h:k[i]? =some q) (hi:1<=i):(WE (k.drop 2) (g2 k 1)).1<=q.1/\q.2<=(WE (k.drop 2) (g2 k 1)).2:=by
 by_cases h1:i=1
 .subst h1;simp only[g2,h,Option.getD_some];exact X2w _ _
 refine X50 (N3 (i:=i - 2) ?_);rw[Nn,show 2+(i - 2)=i by omega,h]
theorem Zd (b:Bool):0<=QL b/\QL b<=1:=by cases b<;>decide
theorem rule_in {vars:List Vr} {vs:List Int} {inp:Bool} {o n:Int} {k:List (Int×Int)} {l:List Int} (hv:X0w vars vs) (hk:prIn k l) (hf:XU vars inp o n k.length=true):
  (Qd vars o n k).1<=X3j vs o n l/\X3j vs o n l<=(Qd vars o n k).2:=by
 have hl:=X68 hk;have har:=WU hf;have h0:0<k.length->∃p x,k[0]? =some p/\l[0]? =some x/\inPr p x:=fun h=>X06 hk h;have h1:1<k.length->∃p x,k[1]? =some p/\l[1]? =some x/\inPr p x:=fun h=>X06 hk h;unfold Qd X3j;by_cases e0:o=0
 .simp only[e0,Nd];omega
 rw[N6 e0,N6 e0];by_cases e1:o=24
 .subst e1;obtain⟨hn,v,hv1,_⟩:=X08 hf;obtain⟨x,hx,h2⟩:=hv _ _ hv1;simp only[Nd,hv1,hx,Option.getD_some];exact h2
 rw[N6 e1,N6 e1];by_cases e2:o=6
 .rw[N9 e2,N9 e2];obtain⟨p,x,hp,hx,hpx⟩:=h0 (by rw[e2]at har;simp[XK]at har;omega);unfold inPr at hpx;simp only[g2,hp,hx,Option.getD_some];rw[show wr (-x)=-x from X8 (by omega) (by omega)];omega
 rw[N6 e2,N6 e2];by_cases e3:o=7
 .subst e3;simp only[Nd,Int.reduceEq,Nb,or_self];exact Zd _
 rw[N6 e3];by_cases e4:o=23
 .subst e4;simp only[Nd,Int.reduceEq,Nb,true_or];have hk3:XK 23=(3,3):=by decide
  rw[hk3]at har;simp only at har;obtain⟨p,x,hp,hx,hpx⟩:=X06 hk (i:=1) (by omega);obtain⟨q,y,hq,hy,hqy⟩:=X06 hk (i:=2) (by omega);have a1:=hullG hp (by omega);have a2:=hullG hq (by omega);unfold inPr at hpx hqy;rw[hx,hy];simp only[Option.getD_some];split<;>omega
 rw[N6 e4];by_cases e5:o=25
 .subst e5;simp only[Nd,Int.reduceEq,Nb,or_true];have hk3:XK 25=(2,33):=by decide
  rw[hk3]at har;simp only at har
  obtain⟨i,hi,hi1,hi2⟩:∃i:Nat,(selI ((l[0]?).getD 0) l.length).toNat=i/\1<=i/\i<k.length:=by
   refine⟨_,rfl,?_⟩;have hw:wr ((l.length:Int) - 2)=l.length - 2:=X8
   have hh:∀x:Int,0<=XN x 0 ((l.length:Int) - 2)/\XN x 0 ((l.length:Int) - 2)<=(l.length:Int) - 2:=by
    intro x;unfold XN;split
    .omega
    split<;>omega
   have:=hh ((l[0]?).getD 0);unfold selI;rw[hw,show wr (1+XN ((l[0]?).getD 0) 0 ((l.length:Int) - 2))=1+XN ((l[0]?).getD 0) 0 ((l.length:Int) - 2) from X8 (by omega) (by omega)];omega
  obtain⟨p,x,hp,hx,hpx⟩:=X06 hk hi2;have a1:=hullG hp hi1;unfold inPr at hpx;rw[hi,hx];simp only[Option.getD_some];omega
 rw[N6 e5]
 have hr:8<=o/\o<=22:=by
  refine Classical.byContradiction fun hc=>?_;rw[show XK o=(-1,-1) by unfold XK;rw[N6 (by omega),N6 (by omega),N6 hc,N6 e4,N6 e5]]at har;simp at har
 have hk2:XK o=(2,2):=by unfold XK;rw[N6 (by omega),N6 (by omega),N9 hr]
 rw[hk2]at har;simp only at har;obtain⟨p,x,hp,hx,hpx⟩:=h0 (by omega);obtain⟨q,y,hq,hy,hqy⟩:=h1 (by omega);simp only[g2,hp,hq,hx,hy,Option.getD_some];unfold inPr at hpx hqy;have hd:=X8M (a:=x) (b:=y) (by omega);have hmd:=modI_in (a:=x) (b:=y) (by omega) (by omega);have hml:=X1x (x:=x) (y:=y) (by omega) (by omega);have hmi:=mulP_in (a:=p) (b:=q) (x:=x) (y:=y) (by omega) (by omega);have w1:wr (x+y)=x+y:=X8;have w2:wr (x - y)=x - y:=X8;have w3:wr (x*y)=x*y:=X8;unfold binI;rw[w1,w2,w3];clear hk hf h0 h1 hp hq hx hy hv w1 w2 w3;generalize x*y=m at*;generalize X0e x y=dv at*;generalize X2c x y=md at*;have hc:o=8\/o=9\/o=10\/o=11\/o=12\/o=13\/o=14\/o=15\/o=16\/o=17\/o=18\/o=19\/o=20\/o=21\/o=22:=by omega
 rcases hc with rfl|rfl|rfl|rfl|rfl|rfl|rfl|rfl|rfl|rfl|rfl|rfl|rfl|rfl|rfl<;>simp only[Nd,Int.reduceEq,Nb,or_self]
 .omega
 .omega
 .exact hmi
 .clear hmi hmd hml;unfold mx;split<;>(try split)<;>simp only<;>omega
 .clear hmi hml hd;unfold X0r X2R mn mx;rcases Int.lt_trichotomy y 0 with h|h|h
  .have:=hmd.2.2 h;omega
  .have:=hmd.1 h;omega
  have:=hmd.2.1 h;omega
 .exact Zd _
 .exact Zd _
 .exact Zd _
 .exact Zd _
 .exact Zd _
 .exact Zd _
 .exact Zd _
 .exact Zd _
 .unfold mn;omega
 unfold mx;omega
mutual
theorem vT_in {vars:List Vr} {vs:List Int} {inp:Bool} (hv:X0w vars vs):∀t:Tm,Qb vars inp t=true->(rgP vars t).2=true->inPr (rgP vars t).1 (vT vs t)
 | .mk o n ks,hf,hr=>by
   simp only[Qb,N4]at hf;simp only[rgP,vT]at hr⊢;cases hk:Zg vars ks with
   |none=>rw[hk]at hr;cases hr
   | some k=>
     rw[hk]at hr;obtain⟨h1,h2⟩:=vTs_in hv ks hf.2 hk;rw[<-h2]at hf;have:=rule_in hv h1 hf.1;simp only[rgV,okR,N4,N5]at hr⊢;exact⟨this.1,this.2,hr⟩
theorem vTs_in {vars:List Vr} {vs:List Int} {inp:Bool} (hv:X0w vars vs):∀(ks:List Tm) {k:List (Int×Int)},Wb vars inp ks=true->Zg vars ks=some k->prIn k (vTs vs ks)/\k.length=ks.length
 |[],k,_,h=>by simp only[Zg,Option.some.injEq]at h;subst h;exact⟨trivial,rfl⟩
 | t ::l,k,hf,h=>by
   simp only[Wb,N4]at hf;simp only[Zg]at h;split at h
   .rename_i hr;cases hk:Zg vars l with
    |none=>rw[hk]at h;cases h
    | some k'=>
      rw[hk]at h;simp only[Option.map_some,Option.some.injEq]at h;subst h;obtain⟨h1,h2⟩:=vTs_in hv l hf.2 hk;exact⟨⟨vT_in hv t hf.1 hr,h1⟩,by simp[h2]⟩
   cases h
end
theorem valN_vs {vs vs':List Int} {o n:Int} {k:List Int} (h:¬o=24):X3j vs o n k=X3j vs' o n k:=by
 unfold X3j;rw[N6 h,N6 h]
theorem X8b (x c:Int):wr (wr x+c)=wr (x+c):=by
 unfold wr IntKind.wrap;simp[IntKind.bits,IntKind.signed];omega
theorem held_rng {n lo hi:Int} (h:lo<=hi):lo<=XN n lo hi/\XN n lo hi<=hi:=by
 unfold XN;split
 .omega
 split<;>omega
theorem X53 {n lo hi:Int} (h1:lo<=n) (h2:n<=hi):XN n lo hi=n:=by
 unfold XN;rw[N6 (by omega),N6 (by omega)]
theorem X8B {vars:List Vr} {vs:List Int} {v n:Int} (hg:WX vars) (h:X0w vars vs):X0w vars (X1s vars vs v n):=by
 intro i w hi;obtain⟨x,hx,hb⟩:=h i w hi;unfold X1s;cases hv:vars[v.toNat]? with
 |none=>exact⟨x,hx,hb⟩
 | some u=>
   simp only;by_cases e:v.toNat=i
   .subst e;rw[hi]at hv;cases hv;refine⟨XN n w.low w.high,?_,held_rng (hg w (N3 hi)).1⟩;rw[NK (N8.1 hx).1]
   exact⟨x,by rw[D4 e];exact hx,hb⟩
mutual
def gokS (vars:List Vr):St->Prop
 | .mk d _ v n t a b _=>Qb vars false t=true/\(rgP vars t).2=true/\(d=0\/d=5->0<=v/\v<vars.length)/\gokL vars a/\gokL vars b
def gokL (vars:List Vr):List St->Prop
 |[]=>True
 |s::l=>gokS vars s/\gokL vars l
end
def vrG (nm:ByteArray):Vr:=⟨nm,0,-1048576,1048576,0⟩
def WI (n:Int):Tm:=.mk 24 n []
def X3o (n:Int):Tm:=.mk 0 n []
def asg (v:Int) (t:Tm):St:=.mk 0 0 v 0 t [] [] []
def cndG (n x y:Int):St:=asg (n+1) (.mk 23 0 [.mk 13 0 [WI n,X3o x],X3o y,WI (n+1)])
def QV (n:Int):List (Int×Int)->List St
 |[]=>[]
 |p::l=>cndG n p.1 p.2::QV n l
def X2i (n c:Int) (t:Tm) (m:List (Int×Int)):List St:=asg n t::asg (n+1) (WI n)::(QV n m++[.mk 1 c 0 0 (WI (n+1)) [] [] []])
def QJ (n:Int) (m:List (Int×Int)):List St->List St
 |[]=>[]
 | .mk d c v k t a b bs::l=>(if d=1 then X2i n c t m else [.mk d c v k t (QJ n m a) (QJ n m b) bs])++QJ n m l
def Z9:List (Int×Int)->Int->Int
 |[],x=>x
 |p::m,x=>if x=p.1 then p.2 else Z9 m x
mutual
theorem X62 {vars:List Vr} {vs vs':List Int} {inp:Bool} (h:∀i:Nat,i<vars.length->vs'[i]? =vs[i]?):∀t:Tm,Qb vars inp t=true->vT vs' t=vT vs t
 | .mk o n ks,hf=>by
   simp only[Qb,N4]at hf;simp only[vT];rw[X4w h ks hf.2];by_cases ho:o=24
   .subst ho;obtain⟨hn,v,hv,_⟩:=X08 hf.1;unfold X3j;simp only[Int.reduceEq,Nb,Nd];rw[h _ (N8.1 hv).1]
   exact valN_vs ho
theorem X4w {vars:List Vr} {vs vs':List Int} {inp:Bool} (h:∀i:Nat,i<vars.length->vs'[i]? =vs[i]?):∀l:List Tm,Wb vars inp l=true->vTs vs' l=vTs vs l
 |[],_=>rfl
 | t::l,hf=>by
   simp only[Wb,N4]at hf;simp only[vTs];rw[X62 h t hf.1,X4w h l hf.2]
end
theorem X7S {vars:List Vr} {vs:List Int} {inp:Bool} (hl:vs.length=vars.length) (e:List Int) (t:Tm) (hf:Qb vars inp t=true):vT (vs++e) t=vT vs t:=
 X62 (fun i hi=>by rw[Nk (by omega)]) t hf
structure Gr (vars:List Vr) (m:List (Int×Int)) (S T:Sta):Prop where
 vals:∃r o,T.vals=S.vals++[r,o]
 outs:T.outs=S.outs.map (Z9 m)
 time:T.time=S.time
 len:S.vals.length=vars.length
 inn:X0w vars S.vals
theorem X6X {vars:List Vr} {vs:List Int} {a b:Vr} {r o v n:Int} (hl:vs.length=vars.length) (hv:0<=v/\v<vars.length):X1s (vars++[a,b]) (vs++[r,o]) v n=X1s vars vs v n++[r,o]:=by
 unfold X1s;have h:v.toNat<vars.length:=by omega
 rw[Nk h,Ny h];simp only;rw[List.set_append_left _ _ (by omega)]
theorem setV_raw {vars:List Vr} {vs:List Int} {nm nm':ByteArray} {r o x:Int} (hl:vs.length=vars.length) (h1:-1048576<=x) (h2:x<=1048576):X1s (vars++[vrG nm,vrG nm']) (vs++[r,o]) (vars.length:Int) x=vs++[x,o]:=by
 unfold X1s;rw[Int.toNat_natCast,Nh (by omega),Nat.sub_self];simp only[List.getElem?_cons_zero,vrG];rw[List.set_append_right _ _ (by omega),hl,Nat.sub_self,X53 h1 h2];rfl
theorem X6R {vars:List Vr} {vs:List Int} {nm nm':ByteArray} {r o x:Int} (hl:vs.length=vars.length) (h1:-1048576<=x) (h2:x<=1048576):X1s (vars++[vrG nm,vrG nm']) (vs++[r,o]) ((vars.length:Int)+1) x=vs++[r,x]:=by
 unfold X1s;rw[show((vars.length:Int)+1).toNat=vars.length+1 by omega,Nh (by omega),show vars.length+1 - vars.length=1 by omega];simp only[List.getElem?_cons_succ,List.getElem?_cons_zero,vrG];rw[List.set_append_right _ _ (by omega),show vars.length+1 - vs.length=1 by omega,X53 h1 h2];rfl
theorem X1v (vars:List Vr) (hv:List Int):∀(l m:List St) (s:Sta),XJ vars hv (l++m) s=XJ vars hv m (XJ vars hv l s)
 |[],m,s=>by simp only[List.nil_append,XJ]
 | .mk d c v n t a b bs::l,m,s=>by
   simp only[List.cons_append,XJ];exact X1v vars hv l m _
theorem X8C {vs:List Int} {vars:List Vr} {r o:Int} (hl:vs.length=vars.length):((vs++[r,o])[((vars.length:Int)).toNat]?).getD 0=r:=by
 rw[Int.toNat_natCast,Nh (by omega),hl,Nat.sub_self];rfl
theorem X8l {vs:List Int} {vars:List Vr} {r o:Int} (hl:vs.length=vars.length):((vs++[r,o])[((vars.length:Int)+1).toNat]?).getD 0=o:=by
 rw[show((vars.length:Int)+1).toNat=vars.length+1 by omega,Nh (by omega),show vars.length+1 - vs.length=1 by omega];rfl
theorem X6D {vars:List Vr} {nm nm':ByteArray} {hv:List Int} {vs:List Int} (hl:vs.length=vars.length) (ot:List Int) (x:Int):∀(m:List (Int×Int)) (o tm:Int),-1048576<=o/\o<=1048576->(∀p∈m,-1048576<=p.2/\p.2<=1048576)->
  ∃tm':Int,XJ (vars++[vrG nm,vrG nm']) hv (QV vars.length m) ⟨vs++[x,o],ot,tm⟩=⟨vs++[x,(m.foldl (fun q p=>if x=p.1 then p.2 else q) o)],ot,tm'⟩/\∀c,wr (tm'+c)=wr (tm+c)
 |[],o,tm,_,_=>⟨tm,by simp[QV,XJ],fun _=>rfl⟩
 | p::m,o,tm,ho,hm=>by
   have hp:=hm p (List.mem_cons_self ..)
   have hval:vT (vs++[x,o]) (.mk 23 0 [.mk 13 0 [WI (vars.length:Int),X3o p.1],X3o p.2,WI ((vars.length:Int)+1)])=if x=p.1 then p.2 else o:=by
    simp only[vT,vTs,WI,X3o,X3j,binI,Int.reduceEq,Nb,Nd,X8C hl,X8l hl,List.getElem?_cons_zero,List.getElem?_cons_succ,Option.getD_some,QL];by_cases h:x=p.1
    .simp[h]
    simp[h]
   have hq:-1048576<=(if x=p.1 then p.2 else o)/\(if x=p.1 then p.2 else o)<=1048576:=by split<;>assumption
   obtain⟨tm',h1,h2⟩:=X6D (nm:=nm) (nm':=nm') (hv:=hv) hl ot x m (if x=p.1 then p.2 else o) (wr (tm+0)) hq (fun q hq=>hm q (Nu _ hq));refine⟨tm',?_,fun c=>?_⟩
   .simp only[QV,cndG,asg,XJ,Int.reduceEq,Nb,X0H,Nd,QS];rw[hval,X6R hl hq.1 hq.2,h1];rfl
   rw[h2,Int.add_zero,X8b]
theorem X8o {x:Int}:∀(m:List (Int×Int)) (o:Int),(∀p∈m,x≠p.1)->m.foldl (fun q p=>if x=p.1 then p.2 else q) o=o
 |[],_,_=>rfl
 | p::m,o,h=>by
   rw[List.foldl_cons,N6 (h p (List.mem_cons_self ..))];exact X8o m o fun q hq=>h q (Nu _ hq)
theorem X6U:∀(m:List (Int×Int)) (x o:Int),m.Pairwise (fun p q=>p.1<q.1)->m.foldl (fun q p=>if x=p.1 then p.2 else q) o=if(∃p∈m,x=p.1)then Z9 m x else o
 |[],x,o,_=>by simp
 | p::m,x,o,h=>by
   have h1:=NZ.1 h;rw[List.foldl_cons];by_cases e:x=p.1
   .rw[N9 e,N9 ⟨p,List.mem_cons_self ..,e⟩,X8o m _ fun q hq=>by have:=h1.1 q hq;omega];simp only[Z9,N9 e]
   rw[N6 e,X6U m x o h1.2];simp only[Z9,N6 e];have:(∃q∈p::m,x=q.1)↔∃q∈m,x=q.1:=by simp[e]
   by_cases h2:∃q∈m,x=q.1
   .rw[N9 h2,N9 (this.2 h2)]
   rw[N6 h2,N6 (fun h=>h2 (this.1 h))]
theorem X8N:∀(m:List (Int×Int)) (x:Int),¬(∃p∈m,x=p.1)->Z9 m x=x
 |[],_,_=>rfl
 | p::m,x,h=>by
   simp only[Z9];rw[N6 fun e=>h ⟨p,List.mem_cons_self ..,e⟩];exact X8N m x fun⟨q,hq,e⟩=>h ⟨q,Nu _ hq,e⟩
theorem fold_eq {m:List (Int×Int)} (h:m.Pairwise (fun p q=>p.1<q.1)) (x:Int):m.foldl (fun q p=>if x=p.1 then p.2 else q) x=Z9 m x:=by
 rw[X6U m x x h];split
 .rfl
 rename_i hn;exact(X8N m x hn).symm
theorem rnd_gr {vars:List Vr} {m:List (Int×Int)} {c:Int} {t:Tm} {f g:Sta->Sta} (hf:Qb vars false t=true) (h:∀S T,Gr vars m S T->Gr vars m (f S) (g T)):∀(k:Nat) (S T:Sta),Gr vars m S T->Gr vars m (X1d c t f k S) (X1d c t g k T)
 |0,S,T,hS=>hS
 | k+1,S,T,hS=>by
   obtain⟨r,o,hv⟩:=hS.vals;have e:vT T.vals t=vT S.vals t:=by rw[hv];exact X7S hS.len _ t hf
   have ht:Gr vars m (QS S c) (QS T c):=⟨hS.vals,hS.outs,by simp only[QS];rw[hS.time],hS.len,hS.inn⟩;simp only[X1d];rw[e];split
   .exact ht
   exact rnd_gr hf h k _ _ (h _ _ ht)
theorem X3Q {vars:List Vr} {m:List (Int×Int)} {hv:List Int} {nm nm':ByteArray} (hg:WX vars) (hm:m.Pairwise (fun p q=>p.1<q.1)) (hr:∀p∈m,-1048576<=p.2/\p.2<=1048576):∀(l:List St),gokL vars l->∀(S T:Sta),Gr vars m S T->
  Gr vars m (XJ vars hv l S) (XJ (vars++[vrG nm,vrG nm']) hv (QJ vars.length m l) T)
 |[],_,S,T,h=>by simpa only[XJ,QJ]using h
 | .mk d c v n t a b bs::l,hk,S,T,h=>by
   simp only[gokL,gokS]at hk;obtain⟨⟨hf,hrg,hvr,ha,hb⟩,hl⟩:=hk;obtain⟨r,o,hvv⟩:=h.vals;have e:vT T.vals t=vT S.vals t:=by rw[hvv];exact X7S h.len _ t hf
   have ht:Gr vars m (QS S c) (QS T c):=⟨h.vals,h.outs,by simp only[QS];rw[h.time],h.len,h.inn⟩;have hin:=vT_in h.inn t hf hrg;unfold inPr at hin;simp only[QJ];rw[X1v];simp only[XJ];refine X3Q hg hm hr l hl _ _ ?_;by_cases h1:d=1
   .subst h1;simp only[Nd,Int.reduceEq,Nb,X0H];obtain⟨tv,tot,tt⟩:=T;simp only at hvv e;subst hvv;have hlen:=h.len;simp only[X2i,asg,XJ,Int.reduceEq,Nb,X0H,Nd,QS];rw[e,setV_raw hlen (by omega) (by omega)];simp only[WI,vT,vTs,X3j,Int.reduceEq,Nb,Nd];rw[X8C hlen,X6R hlen (by omega) (by omega),X1v];obtain⟨tm',h2,h3⟩:=X6D (vars:=vars) (nm:=nm) (nm':=nm') (hv:=hv) hlen tot (vT S.vals t) m (vT S.vals t) (wr (wr (tt+0)+0)) (by omega) hr;rw[h2,fold_eq hm];simp only[XJ,Int.reduceEq,Nb,X0H,Nd,QS,vT,vTs,X3j];rw[X8l hlen,h3];have hot:=h.outs;have htm:=h.time;simp only at hot htm;refine⟨⟨_,_,rfl⟩,?_,?_,hlen,h.inn⟩
    .simp only[List.map_append,Na,Ng,hot]
    simp only[Int.add_zero];rw[X8b,X8b,htm]
   simp only[N6 h1,XJ];by_cases h4:d=4
   .subst h4;simp only[Nd];exact rnd_gr hf (fun S T hST=>X3Q hg hm hr a ha S T hST) _ _ _ h
   simp only[N6 h4];by_cases h3:d=3
   .subst h3;simp only[Nd];rw[e];split
    .exact X3Q hg hm hr b hb _ _ ht
    exact X3Q hg hm hr a ha _ _ ht
   simp only[N6 h3];unfold X0H;by_cases h0:d=0
   .simp only[N9 h0];have hvr:=hvr (.inl h0);have e2:vT (QS T c).vals t=vT (QS S c).vals t:=e;have hvt:(QS T c).vals=(QS S c).vals++[r,o]:=hvv;refine⟨⟨r,o,?_⟩,ht.outs,ht.time,by simp only[ZV];exact ht.len,X8B hg ht.inn⟩;rw[e2,hvt];exact X6X ht.len hvr
   simp only[N6 h0,N6 h1];by_cases h5:d=5
   .simp only[N9 h5];have hvr:=hvr (.inr h5);have hvt:(QS T c).vals=(QS S c).vals++[r,o]:=hvv;refine⟨⟨r,o,?_⟩,ht.outs,ht.time,by simp only[ZV];exact ht.len,X8B hg ht.inn⟩;rw[hvt];exact X6X ht.len hvr
   simp only[N6 h5];split
   .refine⟨ht.vals,ht.outs,?_,ht.len,ht.inn⟩;simp only;rw[ht.time]
   exact ht
theorem X5H {vars:List Vr} {nh:Nat}:∀(l:List St) (top:Bool),ssC vars nh l top=0->wfL vars nh l=true->gokL vars l
 |[],_,_,_=>trivial
 | .mk d c v n t a b bs::l,top,h,hw=>by
   obtain⟨_,_,ht,ha,hb,hl⟩:=X2Q h;simp only[wfL,wfS,N4]at hw;obtain⟨⟨hf,hv,_,_,_,hwa,hwb⟩,hwl⟩:=hw;refine⟨⟨hf,?_,fun hd=>?_,X5H a false ha hwa,X5H b false hb hwb⟩,X5H l top hl hwl⟩
   .unfold ZD at ht;rw[N9 hf]at ht;split at ht
    .assumption
    cases ht
   have hlb:Qu vars v=true:=by
    rcases Ni .. ▸hv with h1|h1
    .exfalso;have:=of_decide_eq_true h1;omega
    exact h1
   unfold Qu at hlb;simp only[N4,N5]at hlb;refine⟨hlb.1,?_⟩;cases hx:vars[v.toNat]? with
   |none=>rw[hx]at hlb;cases hlb.2
   |some w=>have:=(N8.1 hx).1;omega
def locB (v:Vr):Prop:=v.kind=0/\v.low<=v.init/\v.init<=v.high
theorem X8I (i:Inp):∀(e:List Vr) (a b c:Nat) (vals:List Int),(∀v∈e,locB v)->a=i.s.length/\b=i.p.length/\c=i.r.length->stL i e a b c vals true=(vals++e.map (·.init),0)
 |[],a,b,c,vals,_,h=>by simp[stL,h]
 | v::e,a,b,c,vals,he,h=>by
   obtain⟨hk,h1,h2⟩:=he v (List.mem_cons_self ..)
   have hp:Zc v i a b c=⟨v.init,true,a,b,c⟩:=by
    unfold Zc;rw[N6 (by omega),N6 (by omega),N6 (by omega)]
   simp only[stL,hp,Nd,Nv h1,Nv h2,Bool.and_true];rw[X8I i e a b c _ (fun w hw=>he w (Nu _ hw)) h];simp
theorem X6w {v:Vr} {l:List Vr} {x:Int} {xs:List Int} (h1:v.low<=x/\x<=v.high) (h:X0w l xs):X0w (v::l) (x::xs):=by
 intro i w hi;cases i with
 | zero=>
   simp only[List.getElem?_cons_zero,Option.some.injEq]at hi;subst hi;exact⟨x,rfl,h1⟩
 |succ i=>simpa using h i w (by simpa using hi)
theorem X8t (i:Inp):∀(l:List Vr) (a b c:Nat) (vals:List Int) (fits:Bool),(stL i l a b c vals fits).2=0->fits=true/\∃xs,(stL i l a b c vals fits).1=vals++xs/\X0w l xs/\xs.length=l.length/\
  ∀e:List Vr,(∀v∈e,locB v)->stL i (l++e) a b c vals fits=(vals++xs++e.map (·.init),0)
 | [],a,b,c,vals,fits,h=>by
   simp only[stL]at h;split at h
   .rename_i hl;split at h
    .rename_i hf;subst hf;refine⟨rfl,[],by simp[stL,hl],fun i w hi=>by simp at hi,rfl,fun e he=>?_⟩;rw[List.nil_append,X8I i e a b c vals he hl,Ds]
    cases h
   cases h
 | v ::l,a,b,c,vals,fits,h=>by
   simp only[stL]at h;split at h
   .rename_i hi;obtain⟨hf,xs,h1,h2,h3,h4⟩:=X8t i l _ _ _ _ _ h;simp only[N4,N5]at hf;refine⟨hf.1,(Zc v i a b c).n::xs,?_,X6w hf.2 h2,by simp[h3],fun e he=>?_⟩
    .simp only[stL,N9 hi];rw[h1];simp
    simp only[List.cons_append,stL,N9 hi];rw[h4 e he];simp
   cases h
def X1E (f:Fl) (m:List (Int×Int)) (nm nm':ByteArray):Fl:=⟨f.vars++[vrG nm,vrG nm'],f.hats,QJ f.vars.length m f.body⟩
theorem X90 {f:Fl} {vs e:List Int} (hl:vs.length=f.vars.length) (hh:∀h∈f.hats,Qb f.vars true h.term=true):QO (vs++e) f.hats=QO vs f.hats:=by
 unfold QO;refine List.map_congr_left fun h hm=>?_;rw[X7S hl e h.term (hh h hm)]
theorem grp_run {f:Fl} {m:List (Int×Int)} {nm nm':ByteArray} {i:Inp} (hb:Qi f.body=true) (h0:Q2 f=0) (hg:Q2 (X1E f m nm nm')=0) (hm:m.Pairwise (fun p q=>p.1<q.1)) (hr:∀p∈m,-1048576<=p.2/\p.2<=1048576)
  (hi:(stL i f.vars 0 0 0 [] true).2=0):(Zz f i).2=0/\Zz (X1E f m nm nm') i=(⟨(Zz f i).1.outs.map (Z9 m),(Zz f i).1.time⟩,0):=by
 obtain⟨_,xs,h1,h2,h3,h4⟩:=X8t i f.vars 0 0 0 [] true hi;obtain⟨hw,_,hh⟩:=X5P hb h0;have hgv:=WT (QD h0).2.1;have hk:=X5H f.body true (QD h0).2.2.2.1 hw;simp only[List.nil_append]at h1 h4
 have hs2:stL i (X1E f m nm nm').vars 0 0 0 [] true=(xs++[0,0],0):=by
  have:=h4 [vrG nm,vrG nm'] (by
   intro v hv;simp only[Np,De,or_false]at hv
   rcases hv with rfl|rfl<;>exact⟨rfl,by simp[vrG],by simp[vrG]⟩)
  exact this
 have hG:=X3Q (nm:=nm) (nm':=nm') (hv:=QO xs f.hats) hgv hm hr f.body hk ⟨xs,[],0⟩ ⟨xs++[0,0],[],0⟩ ⟨⟨0,0,rfl⟩,rfl,rfl,h3,h2⟩
 have hp:WC f i=(XJ f.vars (QO xs f.hats) f.body ⟨xs,[],0⟩,0):=by
  unfold WC;rw[N9 h0,N9 hi,h1]
 have hp2:WC (X1E f m nm nm') i=(XJ (f.vars++[vrG nm,vrG nm']) (QO xs f.hats) (QJ f.vars.length m f.body) ⟨xs++[0,0],[],0⟩,0):=by
  unfold WC;rw[N9 hg,hs2,N9 rfl];show(XJ _ (QO (xs++[0,0]) f.hats) _ _,(0:Int))=_;rw[X90 h3 hh];rfl
 unfold Zz;rw[hp,hp2];simp only[Nd,true_and,Prod.mk.injEq,and_true];rw[hG.outs,hG.time]
def Qr (n:Int) (m:List (Int×Int)):List St->List St
 |[]=>[]
 | .mk d c v k t a b bs::l=>(if d=1 then asg n t::asg (n+1) (WI n)::(QV n m++[.mk d c v k (WI (n+1)) (Qr n m a) (Qr n m b) bs])else [.mk d c v k t (Qr n m a) (Qr n m b) bs])++Qr n m l
theorem X0Q {vars:List Vr} {nh:Nat} {n:Int} {m:List (Int×Int)}:∀(l:List St) (top:Bool),ssC vars nh l top=0->Qr n m l=QJ n m l
 |[],_,_=>by simp[Qr,QJ]
 | .mk d c v k t a b bs::l,top,h=>by
   obtain⟨hs,_,_,ha,hb,hl⟩:=X2Q h;simp only[Qr,QJ];rw[X0Q l top hl];congr 1;by_cases h1:d=1
   .subst h1;simp only[Nd];unfold shB at hs;simp only[Int.reduceEq,Nb,Nd,N4,N5]at hs;obtain⟨⟨⟨⟨e1,e2⟩,e3⟩,e4⟩,e5⟩:=hs;have e1:=List.length_eq_zero_iff.1 e1;have e2:=List.length_eq_zero_iff.1 e2;have e5:=List.length_eq_zero_iff.1 e5;subst e1 e2 e3 e4 e5;simp[X2i,Qr]
   simp only[N6 h1];rw[X0Q a false ha,X0Q b false hb]
end Go.Proofs.YtdccocolnaklkaaGreatDoor
