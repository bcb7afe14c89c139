/- Contracts of functions and plain facts about what they compute. Conditions: as each theorem states. -/
import Derived.Test.YtdccocolnaklkaaGreatDoorK4
import Derived.Test.YtdccocolnaklkaaGreatDoorK5
import Derived.Test.YtdccocolnaklkaaGreatDoorK6
set_option linter.unusedSimpArgs false
set_option linter.unusedVariables false
set_option linter.unnecessarySimpa false
set_option maxRecDepth 100000
set_option maxHeartbeats 2000000
namespace Go.Proofs.YtdccocolnaklkaaGreatDoor
open Go Go.Hl
open Tryz(prog)
def inPr (p:Int×Int) (x:Int):Prop:=p.1<=x/\x<=p.2∧-1048576<=p.1/\p.2<=1048576
theorem X49 {x a b y:Int} (h1:a<=x) (h2:x<=b):mn (a*y) (b*y)<=x*y/\x*y<=mx (a*y) (b*y):=by
 rcases Int.le_total 0 y with h|h
 .have h3:=Int.mul_le_mul_of_nonneg_right h1 h;have h4:=Int.mul_le_mul_of_nonneg_right h2 h;unfold mn mx;split<;>split<;>omega
 have h3:=Int.mul_le_mul_of_nonpos_right h1 h;have h4:=Int.mul_le_mul_of_nonpos_right h2 h;unfold mn mx;split<;>split<;>omega
theorem X22 {a b:Int×Int} {x y:Int} (hx:a.1<=x/\x<=a.2) (hy:b.1<=y/\y<=b.2):(X2s a b).1<=x*y/\x*y<=(X2s a b).2:=by
 have h0:=X49 (y:=y) hx.1 hx.2;have h1:=X49 (y:=a.1) hy.1 hy.2;have h2:=X49 (y:=a.2) hy.1 hy.2;rw[Int.mul_comm y,Int.mul_comm b.1,Int.mul_comm b.2]at h1 h2;simp only[X2s,Wb,mn,mx]at*;generalize x*y=q at*;generalize a.1*y=q1 at*;generalize a.2*y=q2 at*;generalize a.1*b.1=q3 at*;generalize a.1*b.2=q4 at*;generalize a.2*b.1=q5 at*;generalize a.2*b.2=q6 at*;omega
theorem tdm {a b:Int} (hb:b≠0):a=b*a.tdiv b+a.tmod b/\(a.tmod b).natAbs<b.natAbs/\(0<=a->0<=a.tmod b)/\(a<=0->a.tmod b<=0)/\(a.tdiv b).natAbs<=a.natAbs:=by
 refine⟨(Int.mul_tdiv_add_tmod a b).symm,?_,fun h=>Int.tmod_nonneg _ h,fun h=>?_,?_⟩
 .rw[Int.natAbs_tmod];exact Nat.mod_lt _ (by omega)
 .have:=Int.tmod_nonneg b (show 0<=-a by omega);rw[Int.neg_tmod]at this;omega
 rw[Int.natAbs_tdiv];exact Nat.div_le_self _ _
theorem tdv {a b:Int} (hb:b≠0) (hm:a.tmod b≠0):2*(a.tdiv b).natAbs<=a.natAbs/\a≠0:=by
 have h:=tdm (a:=a) hb;have hb2:2<=b.natAbs:=by omega
 constructor
 .rw[Int.natAbs_tdiv,show a.natAbs.div b.natAbs=a.natAbs/b.natAbs from rfl];have h1:=Nat.div_le_div_left (a:=a.natAbs) hb2 (by decide);have h2:=Nat.div_mul_le_self a.natAbs 2;omega
 rintro rfl;simp at hm
theorem X7H {a b:Int} (ha:-1048576<=a/\a<=1048576) (hb:b≠0):X10 a b=if a.tmod b≠0/\(decide (a<0)!=decide (b<0))=true then a.tdiv b - 1 else a.tdiv b:=by
 have h:=tdm (a:=a) hb;have hw:wr (a.tdiv b)=a.tdiv b:=X5;have hw2:wr (a.tdiv b - 1)=a.tdiv b - 1:=X5;unfold X10;rw[N6 hb,hw,hw2];by_cases h1:a.tmod b=0
 .simp[h1]
 simp[h1]
theorem Xa1 {a b:Int} (ha:-1048576<=a/\a<=1048576):-(a.natAbs:Int)<=X10 a b/\X10 a b<=a.natAbs/\(0<=a->0<=b->0<=X10 a b):=by
 by_cases hb:b=0
 .subst hb;simp only[X10,NG];omega
 have h:=tdm (a:=a) hb;rw[X7H ha hb];split
 .rename_i h1;have h2:=tdv hb h1.1;have h3:=h1.2;refine⟨by omega,by omega,fun ha0 hb0=>?_⟩;rw[decide_eq_false (by omega:¬a<0),decide_eq_false (by omega:¬b<0)]at h3;cases h3
 refine⟨by omega,by omega,fun ha0 hb0=>Int.tdiv_nonneg ha0 hb0⟩
theorem modI_in {a b:Int} (ha:-1048576<=a/\a<=1048576) (hb:-1048576<=b/\b<=1048576):(b=0->X37 a b=0)/\(0<b->0<=X37 a b/\X37 a b<b)/\(b<0->b<X37 a b/\X37 a b<=0):=by
 by_cases h0:b=0
 .subst h0;simp[X37]
 have h:=tdm (a:=a) h0;have hv:=X7H ha h0;have hd:=Xa1 (b:=b) ha;have hm:=X1L hb (show -1048576<=X10 a b/\X10 a b<=1048576 by omega)
 have e:X37 a b=a - b*X10 a b:=by
  unfold X37;rw[N6 h0,show wr (b*X10 a b)=b*X10 a b from X5 (by omega) (by omega)];exact X5
 rw[e,hv];refine⟨fun h1=>absurd h1 h0,?_⟩;clear hm e hd hv;split
 .rename_i h1;rw[Int.mul_sub,Int.mul_one];have h3:=h1.2;have h4:=h1.1;generalize b*a.tdiv b=q at*;rcases Int.lt_or_le a 0 with ha0|ha0<;>rcases Int.lt_or_le b 0 with hb0|hb0
  .simp[ha0,hb0]at h3
  .omega
  .omega
  rw[decide_eq_false (by omega:¬a<0),decide_eq_false (by omega:¬b<0)]at h3;cases h3
 rename_i h1;generalize b*a.tdiv b=q at*
 have h5:a.tmod b=0\/((a<0)↔(b<0)):=by
  by_cases h2:a.tmod b=0
  .exact .inl h2
  refine .inr ?_;have:¬(decide (a<0)!=decide (b<0))=true:=fun h3=>h1 ⟨h2,h3⟩;simpa using this
 omega
def X00 (vars:List Vr) (vs:List Int):Prop:=∀(i:Nat) (v:Vr),vars[i]? =some v->∃x,vs[i]? =some x/\v.low<=x/\x<=v.high
def prIn:List (Int×Int)->List Int->Prop
 |[],[]=>True
 |p::k,x::l=>inPr p x/\prIn k l
 |_,_=>False
theorem X7m:∀{k:List (Int×Int)} {l:List Int},prIn k l->k.length=l.length
 |[],[],_=>rfl
 |p::k,x::l,h=>by simp only[List.length_cons,X7m h.2]
 |[],_::_,h=>False.elim h
 |_::_,[],h=>False.elim h
theorem X0j:∀{k:List (Int×Int)} {l:List Int},prIn k l->∀{i:Nat},i<k.length->∃p x,k[i]? =some p/\l[i]? =some x/\inPr p x
 |p::k,x::l,h,0,_=>⟨p,x,rfl,rfl,h.1⟩
 |p::k,x::l,h,i+1,hi=>by simpa using X0j h.2 (i:=i) (by simpa using hi)
 |[],_::_,h,_,_=>False.elim h
 |_::_,[],h,_,_=>False.elim h
 |[],[],_,i,hi=>by simp at hi
theorem X3h:∀(k:List (Int×Int)) (p:Int×Int),(Wg k p).1<=p.1/\p.2<=(Wg k p).2
 |[],p=>⟨NX _,NX _⟩
 | q::k,p=>by
   have h:=X3h k (Wb p q);simp only[Wg];simp only[Wb,mn,mx]at h⊢;omega
theorem X5Q:∀{k:List (Int×Int)} {p q:Int×Int},q∈k->(Wg k p).1<=q.1/\q.2<=(Wg k p).2
 | r::k,p,q,h=>by
   simp only[Wg];rcases Ni.1 h with rfl|h
   .have h:=X3h k (Wb p q);simp only[Wb,mn,mx]at h⊢;omega
   exact X5Q h
theorem hullG {k:List (Int×Int)} {i:Nat} {q:Int×Int} (h:k[i]? =some q) (hi:1<=i):(Wg (k.drop 2) (g2 k 1)).1<=q.1/\q.2<=(Wg (k.drop 2) (g2 k 1)).2:=by
 by_cases h1:i=1
 .subst h1;simp only[g2,h,Option.getD_some];exact X3h _ _
 refine X5Q (N3 (i:=i - 2) ?_);rw[No,show 2+(i - 2)=i by omega,h]
theorem Zs (b:Bool):0<=Zq b/\Zq b<=1:=by cases b<;>decide
theorem rule_in {vars:List Vr} {vs:List Int} {inp:Bool} {o n:Int} {k:List (Int×Int)} {l:List Int} (hv:X00 vars vs) (hk:prIn k l) (hf:XK vars inp o n k.length=true):
  (Q5 vars o n k).1<=X3p vs o n l/\X3p vs o n l<=(Q5 vars o n k).2:=by
 have hl:=X7m hk;have har:=WJ hf;have h0:0<k.length->∃p x,k[0]? =some p/\l[0]? =some x/\inPr p x:=fun h=>X0j hk h;have h1:1<k.length->∃p x,k[1]? =some p/\l[1]? =some x/\inPr p x:=fun h=>X0j hk h;unfold Q5 X3p;by_cases e0:o=0
 .simp only[e0,NG];omega
 rw[N6 e0,N6 e0];by_cases e1:o=24
 .subst e1;obtain⟨hn,v,hv1,_⟩:=Wn hf;obtain⟨x,hx,h2⟩:=hv _ _ hv1;simp only[NG,hv1,hx,Option.getD_some];exact h2
 rw[N6 e1,N6 e1];by_cases e2:o=6
 .rw[N9 e2,N9 e2];obtain⟨p,x,hp,hx,hpx⟩:=h0 (by rw[e2]at har;simp[XI]at har;omega);unfold inPr at hpx;simp only[g2,hp,hx,Option.getD_some];rw[show wr (-x)=-x from X5 (by omega) (by omega)];omega
 rw[N6 e2,N6 e2];by_cases e3:o=7
 .subst e3;simp only[NG,Int.reduceEq,NW,or_self];exact Zs _
 rw[N6 e3];by_cases e4:o=23
 .subst e4;simp only[NG,Int.reduceEq,NW,true_or];have hk3:XI 23=(3,3):=by decide
  rw[hk3]at har;simp only at har;obtain⟨p,x,hp,hx,hpx⟩:=X0j hk (i:=1) (by omega);obtain⟨q,y,hq,hy,hqy⟩:=X0j hk (i:=2) (by omega);have a1:=hullG hp (by omega);have a2:=hullG hq (by omega);unfold inPr at hpx hqy;rw[hx,hy];simp only[Option.getD_some];split<;>omega
 rw[N6 e4];by_cases e5:o=25
 .subst e5;simp only[NG,Int.reduceEq,NW,or_true];have hk3:XI 25=(2,33):=by decide
  rw[hk3]at har;simp only at har
  obtain⟨i,hi,hi1,hi2⟩:∃i:Nat,(selI ((l[0]?).getD 0) l.length).toNat=i/\1<=i/\i<k.length:=by
   refine⟨_,rfl,?_⟩;have hw:wr ((l.length:Int) - 2)=l.length - 2:=X5
   have hh:∀x:Int,0<=XP x 0 ((l.length:Int) - 2)/\XP x 0 ((l.length:Int) - 2)<=(l.length:Int) - 2:=by
    intro x;unfold XP;split
    .omega
    split<;>omega
   have:=hh ((l[0]?).getD 0);unfold selI;rw[hw,show wr (1+XP ((l[0]?).getD 0) 0 ((l.length:Int) - 2))=1+XP ((l[0]?).getD 0) 0 ((l.length:Int) - 2) from X5 (by omega) (by omega)];omega
  obtain⟨p,x,hp,hx,hpx⟩:=X0j hk hi2;have a1:=hullG hp hi1;unfold inPr at hpx;rw[hi,hx];simp only[Option.getD_some];omega
 rw[N6 e5]
 have hr:8<=o/\o<=22:=by
  refine Classical.byContradiction fun hc=>?_;rw[show XI o=(-1,-1) by unfold XI;rw[N6 (by omega),N6 (by omega),N6 hc,N6 e4,N6 e5]]at har;simp at har
 have hk2:XI o=(2,2):=by unfold XI;rw[N6 (by omega),N6 (by omega),N9 hr]
 rw[hk2]at har;simp only at har;obtain⟨p,x,hp,hx,hpx⟩:=h0 (by omega);obtain⟨q,y,hq,hy,hqy⟩:=h1 (by omega);simp only[g2,hp,hq,hx,hy,Option.getD_some];unfold inPr at hpx hqy;have hd:=Xa1 (a:=x) (b:=y) (by omega);have hmd:=modI_in (a:=x) (b:=y) (by omega) (by omega);have hml:=X1L (x:=x) (y:=y) (by omega) (by omega);have hmi:=X22 (a:=p) (b:=q) (x:=x) (y:=y) (by omega) (by omega);have w1:wr (x+y)=x+y:=X5;have w2:wr (x - y)=x - y:=X5;have w3:wr (x*y)=x*y:=X5;unfold binI;rw[w1,w2,w3];clear hk hf h0 h1 hp hq hx hy hv w1 w2 w3;generalize x*y=m at*;generalize X10 x y=dv at*;generalize X37 x y=md at*;have hc:o=8\/o=9\/o=10\/o=11\/o=12\/o=13\/o=14\/o=15\/o=16\/o=17\/o=18\/o=19\/o=20\/o=21\/o=22:=by omega
 rcases hc with rfl|rfl|rfl|rfl|rfl|rfl|rfl|rfl|rfl|rfl|rfl|rfl|rfl|rfl|rfl<;>simp only[NG,Int.reduceEq,NW,or_self]
 .omega
 .omega
 .exact hmi
 .clear hmi hmd hml;unfold mx;split<;>(try split)<;>simp only<;>omega
 .clear hmi hml hd;unfold X0n X2k mn mx;rcases Int.lt_trichotomy y 0 with h|h|h
  .have:=hmd.2.2 h;omega
  .have:=hmd.1 h;omega
  have:=hmd.2.1 h;omega
 .exact Zs _
 .exact Zs _
 .exact Zs _
 .exact Zs _
 .exact Zs _
 .exact Zs _
 .exact Zs _
 .exact Zs _
 .unfold mn;omega
 unfold mx;omega
mutual
theorem vT_in {vars:List Vr} {vs:List Int} {inp:Bool} (hv:X00 vars vs):∀t:Tm,Xt vars inp t=true->(rgP vars t).2=true->inPr (rgP vars t).1 (vT vs t)
 | .mk o n ks,hf,hr=>by
   simp only[Xt,N4]at hf;simp only[rgP,vT]at hr⊢;cases hk:QK vars ks with
   |none=>rw[hk]at hr;cases hr
   | some k=>
     rw[hk]at hr;obtain⟨h1,h2⟩:=vTs_in hv ks hf.2 hk;rw[<-h2]at hf;have:=rule_in hv h1 hf.1;simp only[rgV,okR,N4,N7]at hr⊢;exact⟨this.1,this.2,hr⟩
theorem vTs_in {vars:List Vr} {vs:List Int} {inp:Bool} (hv:X00 vars vs):∀(ks:List Tm) {k:List (Int×Int)},Q0 vars inp ks=true->QK vars ks=some k->prIn k (vTs vs ks)/\k.length=ks.length
 |[],k,_,h=>by simp only[QK,Option.some.injEq]at h;subst h;exact⟨trivial,rfl⟩
 | t ::l,k,hf,h=>by
   simp only[Q0,N4]at hf;simp only[QK]at h;split at h
   .rename_i hr;cases hk:QK vars l with
    |none=>rw[hk]at h;cases h
    | some k'=>
      rw[hk]at h;simp only[Option.map_some,Option.some.injEq]at h;subst h;obtain⟨h1,h2⟩:=vTs_in hv l hf.2 hk;exact⟨⟨vT_in hv t hf.1 hr,h1⟩,by simp[h2]⟩
   cases h
end
mutual
def Qa (bl:List Tm):Tm->Tm
 | .mk o n ks=>if o=24 then(bl[n.toNat]?).getD (.mk 0 0 [])else .mk o n (Qr bl ks)
def Qr (bl:List Tm):List Tm->List Tm
 |[]=>[]
 |t::l=>Qa bl t::Qr bl l
end
theorem X03 (bl:List Tm):∀l:List Tm,(Qr bl l).length=l.length
 |[]=>rfl
 |t::l=>by simp[Qr,X03 bl l]
theorem valN_vs {vs vs':List Int} {o n:Int} {k:List Int} (h:¬o=24):X3p vs o n k=X3p vs' o n k:=by
 unfold X3p;rw[N6 h,N6 h]
theorem held_rng {n lo hi:Int} (h:lo<=hi):lo<=XP n lo hi/\XP n lo hi<=hi:=by
 unfold XP;split
 .omega
 split<;>omega
theorem Xab {n lo hi:Int} (h1:lo<=n) (h2:n<=hi):XP n lo hi=n:=by
 unfold XP;rw[N6 (by omega),N6 (by omega)]
def tref (n:Int):Tm:=.mk 24 n []
def QX (n:Int):Tm:=.mk 0 n []
def asg (v:Int) (t:Tm):St:=.mk 0 0 v 0 t [] [] []
def mapG:List (Int×Int)->Int->Int
 |[],x=>x
 |p::m,x=>if x=p.1 then p.2 else mapG m x
structure Gr (vars:List Vr) (m:List (Int×Int)) (S T:Sta):Prop where
 vals:∃r o,T.vals=S.vals++[r,o]
 outs:T.outs=S.outs.map (mapG m)
 time:T.time=S.time
 len:S.vals.length=vars.length
 inn:X00 vars S.vals
def locB (v:Vr):Prop:=v.kind=0/\v.low<=v.init/\v.init<=v.high
theorem X9E (i:Inp):∀(e:List Vr) (a b c:Nat) (vals:List Int),(∀v∈e,locB v)->a=i.s.length/\b=i.p.length/\c=i.r.length->stL i e a b c vals true=(vals++e.map (·.init),0)
 |[],a,b,c,vals,_,h=>by simp[stL,h]
 | v::e,a,b,c,vals,he,h=>by
   obtain⟨hk,h1,h2⟩:=he v (List.mem_cons_self ..)
   have hp:Za v i a b c=⟨v.init,true,a,b,c⟩:=by
    unfold Za;rw[N6 (by omega),N6 (by omega),N6 (by omega)]
   simp only[stL,hp,NG,Nw h1,Nw h2,Bool.and_true];rw[X9E i e a b c _ (fun w hw=>he w (Nx _ hw)) h];simp
theorem X8o {v:Vr} {l:List Vr} {x:Int} {xs:List Int} (h1:v.low<=x/\x<=v.high) (h:X00 l xs):X00 (v::l) (x::xs):=by
 intro i w hi;cases i with
 | zero=>
   simp only[List.getElem?_cons_zero,Option.some.injEq]at hi;subst hi;exact⟨x,rfl,h1⟩
 |succ i=>simpa using h i w (by simpa using hi)
theorem X6u (i:Inp):∀(l:List Vr) (a b c:Nat) (vals:List Int) (fits:Bool),(stL i l a b c vals fits).2=0->fits=true/\∃xs,(stL i l a b c vals fits).1=vals++xs/\X00 l xs/\xs.length=l.length/\
  ∀e:List Vr,(∀v∈e,locB v)->stL i (l++e) a b c vals fits=(vals++xs++e.map (·.init),0)
 | [],a,b,c,vals,fits,h=>by
   simp only[stL]at h;split at h
   .rename_i hl;split at h
    .rename_i hf;subst hf;refine⟨rfl,[],by simp[stL,hl],fun i w hi=>by simp at hi,rfl,fun e he=>?_⟩;rw[List.nil_append,X9E i e a b c vals he hl,Db]
    cases h
   cases h
 | v ::l,a,b,c,vals,fits,h=>by
   simp only[stL]at h;split at h
   .rename_i hi;obtain⟨hf,xs,h1,h2,h3,h4⟩:=X6u i l _ _ _ _ _ h;simp only[N4,N7]at hf;refine⟨hf.1,(Za v i a b c).n::xs,?_,X8o hf.2 h2,by simp[h3],fun e he=>?_⟩
    .simp only[stL,N9 hi];rw[h1];simp
    simp only[List.cons_append,stL,N9 hi];rw[h4 e he];simp
   cases h
end Go.Proofs.YtdccocolnaklkaaGreatDoor
