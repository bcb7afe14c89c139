/- Contracts of functions and plain facts about what they compute. Conditions: as each theorem states. -/
import Derived.Test.YtdccocolnaklkaaGreatDoorK8
import Derived.Test.YtdccocolnaklkaaGreatDoorK4
import Derived.Test.YtdccocolnaklkaaGreatDoorK6
import Derived.Test.YtdccocolnaklkaaGreatDoorK10
set_option linter.unusedSimpArgs false
set_option linter.unusedVariables false
set_option linter.unnecessarySimpa false
set_option maxRecDepth 100000
set_option maxHeartbeats 2000000
namespace Go.Proofs.YtdccocolnaklkaaGreatDoor
open Go Go.Hl
open Tryz(prog)
def sbP (q p:Int×Int):Prop:=p.1<=q.1/\q.2<=p.2
def sbL:List (Int×Int)->List (Int×Int)->Prop
 |[],[]=>True
 |q::l,p::m=>sbP q p/\sbL l m
 |_,_=>False
theorem X6a:∀{l m:List (Int×Int)},sbL l m->∀i:Nat,sbP (g2 l i) (g2 m i)
 |[],[],_,i=>by simp[sbP]
 |_::_,_::_,h,0=>by simpa using h.1
 |_::l,_::m,h,i+1=>by simpa using X6a h.2 i
 |[],_::_,h,_=>False.elim h
 |_::_,[],h,_=>False.elim h
theorem X6Y:∀{l m:List (Int×Int)},sbL l m->∀i:Nat,sbL (l.drop i) (m.drop i)
 |_,_,h,0=>h
 |[],[],_,_+1=>trivial
 |_::_,_::_,h,i+1=>X6Y h.2 i
 |[],_::_,h,_+1=>False.elim h
 |_::_,[],h,_+1=>False.elim h
theorem X4A:∀{l m:List (Int×Int)} {p q:Int×Int},sbL l m->sbP p q->sbP (Wg l p) (Wg m q)
 |[],[],_,_,_,h=>h
 | a::l,b::m,p,q,h,hp=>by
   simp only[Wg];refine X4A h.2 ?_;have ha:=h.1;simp only[sbP,Wb,mn,mx]at*
   (repeat' split)<;>omega
 |[],_::_,_,_,h,_=>False.elim h
 |_::_,[],_,_,h,_=>False.elim h
theorem X4L {a b c:Int×Int} (h1:sbP a c) (h2:sbP b c):sbP (Wb a b) c:=by
 simp only[sbP,Wb,mn,mx]at*
 (repeat' split)<;>omega
theorem Xau {vars:List Vr} {o n:Int} {q k:List (Int×Int)} (hs:sbL q k) (hq:∀p∈q,bnd p) (ho:¬o=24):sbP (Q5 vars o n q) (Q5 vars o n k):=by
 have hg:∀i:Nat,(g2 q i).1<=(g2 q i).2:=by
  intro i;unfold g2;cases hi:q[i]? with
  |none=>simp
  |some p=>exact(hq p (N3 hi)).2.1
 have s0:=X6a hs 0;have s1:=X6a hs 1;have sd:=X4A (X6Y hs 2) s1;have n0:=hg 0;have n1:=hg 1;unfold Q5;rw[N6 ho,N6 ho];generalize Wg (q.drop 2) (g2 q 1)=H at*;generalize Wg (k.drop 2) (g2 k 1)=H' at*;generalize g2 q 0=a at*;generalize g2 q 1=b at*;generalize g2 k 0=a' at*;generalize g2 k 1=b' at*
 have hm:sbP (X2s a b) (X2s a' b'):=by
  unfold sbP at s0 s1;have c1:=X22 (a:=a') (b:=b') (x:=a.1) (y:=b.1) (by omega) (by omega);have c2:=X22 (a:=a') (b:=b') (x:=a.1) (y:=b.2) (by omega) (by omega);have c3:=X22 (a:=a') (b:=b') (x:=a.2) (y:=b.1) (by omega) (by omega);have c4:=X22 (a:=a') (b:=b') (x:=a.2) (y:=b.2) (by omega) (by omega);exact X4L (X4L (X4L c1 c2) c3) c4
 generalize X2s a b=M at*;generalize X2s a' b'=M' at*;split
 .simp[sbP]
 split
 .simp only[sbP]at*;omega
 split
 .simp only[sbP]at*;omega
 split
 .simp only[sbP]at*;omega
 split
 .exact hm
 split
 .simp only[sbP,mx]at*
  (repeat' split)<;>simp only<;>omega
 split
 .simp only[sbP,X0n,X2k,mn,mx]at*
  (repeat' split)<;>omega
 split
 .simp only[sbP,mn]at*
  (repeat' split)<;>omega
 split
 .simp only[sbP,mx]at*
  (repeat' split)<;>omega
 split
 .exact sd
 simp[sbP]
mutual
def Qh:Tm->List Int
 | .mk o n ks=>if o=24 then n::Qf ks else Qf ks
def Qf:List Tm->List Int
 |[]=>[]
 |t::l=>Qh t++Qf l
end
structure Sb (vars:List Vr) (v:Vr) (u:Tm):Prop where
 form:Xt vars true u=true
 ok:(rgP vars u).2=true
 rg:sbP (rgP vars u).1 (v.low,v.high)
theorem X8a {vars:List Vr} {o n:Int} {len:Nat} (ho:¬o=24) (inp:Bool):XK vars inp o n len=XK vars false o n len:=by
 unfold XK;rw[N6 ho,N6 ho]
theorem X2A {vars:List Vr} {inp:Bool} {n:Int} {ks:List Tm} (h:XK vars inp 24 n ks.length=true):ks=[]:=by
 have:=WJ h;rw[show XI 24=(0,0) from by decide]at this;exact Np (by simp only at this;omega)
theorem okR_sub {q p:Int×Int} (h:sbP q p) (hp:okR p=true):okR q=true:=by
 simp only[sbP,okR,N4,N7]at*;omega
mutual
theorem rg_rep {vars:List Vr} {vl:List Tm} (hg:WM vars):∀t:Tm,Xt vars false t=true->(rgP vars t).2=true->(∀n∈Qh t,∃u v,vl[n.toNat]? =some u/\vars[n.toNat]? =some v/\Sb vars v u)->
  Xt vars true (Qa vl t)=true/\(rgP vars (Qa vl t)).2=true/\sbP (rgP vars (Qa vl t)).1 (rgP vars t).1
 | .mk o n ks,hf,ho,h=>by
   simp only[Xt,N4]at hf;by_cases e:o=24
   .subst e;have hk:=X2A hf.1;subst hk;obtain⟨u,v,h1,h2,h3⟩:=h n (by simp[Qh]);simp only[Qa,NG,h1,Option.getD_some];refine⟨h3.form,h3.ok,?_⟩
    have:(rgP vars (.mk 24 n [])).1=(v.low,v.high):=by
     simp[rgP,QK,rgV,Q5,h2]
    rw[this];exact h3.rg
   simp only[rgP]at ho⊢;simp only[Qa,N6 e,Xt,rgP];cases hk:QK vars ks with
   |none=>rw[hk]at ho;cases ho
   | some k=>
     rw[hk]at ho;simp only[rgV]at ho⊢;obtain⟨q,h1,h2,h3⟩:=X9u (vl:=vl) hg ks hf.2 k hk (fun m hm=>h m (by simp only[Qh,N6 e];exact hm));rw[h1];have hm:=Xau (vars:=vars) (n:=n) h2 (X57 hg _ h3 q h1) e;refine⟨?_,okR_sub hm ho,hm⟩;rw[X03,X8a e true,hf.1,h3];rfl
theorem X9u {vars:List Vr} {vl:List Tm} (hg:WM vars):∀l:List Tm,Q0 vars false l=true->∀k,QK vars l=some k->(∀n∈Qf l,∃u v,vl[n.toNat]? =some u/\vars[n.toNat]? =some v/\Sb vars v u)->
  ∃q,QK vars (Qr vl l)=some q/\sbL q k/\Q0 vars true (Qr vl l)=true
 | [],_,k,hk,_=>by
   simp only[QK]at hk;cases hk;exact⟨[],rfl,trivial,rfl⟩
 | t ::l,hf,k,hk,h=>by
   simp only[Q0,N4]at hf;simp only[QK]at hk;split at hk
   .rename_i hok;simp only[N8]at hk;obtain⟨k',hk',rfl⟩:=hk;obtain⟨a1,a2,a3⟩:=rg_rep hg t hf.1 hok (fun n hn=>h n (by simp only[Qf,NC];exact .inl hn));obtain⟨q,b1,b2,b3⟩:=X9u hg l hf.2 k' hk' (fun n hn=>h n (by simp only[Qf,NC];exact .inr hn));refine⟨(rgP vars (Qa vl t)).1::q,?_,⟨a3,b2⟩,?_⟩
    .simp only[Qr,QK,N9 a2,b1,Option.map_some]
    simp only[Qr,Q0,a1,b3,Bool.and_self]
   cases hk
end
def bdT (vars:List Vr) (t:Tm):Prop:=1024<t.nodes\/12<tdT t\/Xt vars true t=false
theorem X9P:∀{l:List Tm} {t:Tm},t∈l->tdT t<=X1T l
 | a::l,t,h=>by
   simp only[X1T];rcases Ni.1 h with rfl|h
   .omega
   have:=X9P h;omega
theorem X3e {vars:List Vr} {o n:Int} {ks:List Tm} {k:Tm} (hk:k∈ks) (h:bdT vars k):bdT vars (.mk o n ks):=by
 rcases h with h|h|h
 .have:=X6Z hk;refine .inl ?_;simp only[Tm.nodes];omega
 .have:=X9P hk;refine .inr (.inl ?_);simp only[tdT];omega
 refine .inr (.inr ?_);simp only[Xt,Nn];refine .inr (Bool.eq_false_iff.2 fun hn=>?_);rw[QB hn k hk]at h;cases h
theorem X5q {vl:List Tm}:∀{l:List Tm} {k:Tm},k∈l->Qa vl k∈Qr vl l
 | a::l,k,h=>by
   simp only[Qr,Ni];rcases Ni.1 h with rfl|h
   .exact .inl rfl
   exact .inr (X5q h)
theorem X1N {n:Int}:∀{l:List Tm},n∈Qf l->∃k∈l,n∈Qh k
 |[],h=>by simp[Qf]at h
 | a::l,h=>by
   simp only[Qf,NC]at h;rcases h with h|h
   .exact⟨a,by simp,h⟩
   obtain⟨k,h1,h2⟩:=X1N h;exact⟨k,by simp[h1],h2⟩
theorem bd_rep {vars:List Vr} {vl:List Tm} {n:Int} {u:Tm} (hu:vl[n.toNat]? =some u) (hb:bdT vars u):∀t:Tm,Xt vars false t=true->n∈Qh t->bdT vars (Qa vl t):=by
 intro t
 induction t using Tm.ind with
 | h o m ks ih=>
   intro hf hn;simp only[Xt,N4]at hf;by_cases e:o=24
   .subst e;have hk:=X2A hf.1;subst hk;simp only[Qh,Qf,NG,NS]at hn;subst hn;simp only[Qa,NG,hu,Option.getD_some];exact hb
   simp only[Qh,N6 e]at hn;obtain⟨k,h1,h2⟩:=X1N hn;simp only[Qa,N6 e];exact X3e (X5q h1) (ih k h1 (QB hf.2 k h1) h2)
def X1f (vl:List Tm) (l:List Int):Nat:=(l.map fun n=>((vl[n.toNat]?).getD (.mk 0 0 [])).nodes).sum
theorem X8i (vl:List Tm) (a b:List Int):X1f vl (a++b)=X1f vl a+X1f vl b:=by simp[X1f]
mutual
theorem X9t {vars:List Vr} {vl:List Tm}:∀t:Tm,Xt vars false t=true->X1f vl (Qh t)<=(Qa vl t).nodes
 | .mk o n ks,hf=>by
   simp only[Xt,N4]at hf;by_cases e:o=24
   .subst e;have hk:=X2A hf.1;subst hk;simp[Qh,Qf,Qa,X1f]
   have:=X8e (vl:=vl) ks hf.2;simp only[Qh,Qa,N6 e,Tm.nodes];omega
theorem X8e {vars:List Vr} {vl:List Tm}:∀l:List Tm,Q0 vars false l=true->X1f vl (Qf l)<=Xs (Qr vl l)
 |[],_=>by simp[Qf,X1f]
 | t::l,hf=>by
   simp only[Q0,N4]at hf;have h1:=X9t (vl:=vl) t hf.1;have h2:=X8e (vl:=vl) l hf.2;simp only[Qf,Qr,Xs,X8i];omega
end
mutual
theorem X5M {vl:List Tm} {B:Nat} (h:∀(i:Nat) u,vl[i]? =some u->u.nodes<=B) (hB:1<=B):∀t:Tm,(Qa vl t).nodes<=t.nodes*B
 | .mk o n ks=>by
   have h2:=X52 h hB ks;simp only[Qa];split
   .cases e:vl[n.toNat]? with
    | none=>
      simp only[Option.getD_none,Tm.nodes,Xs];exact Dj hB (Nat.le_mul_of_pos_left _ (by omega))
    | some u=>
      simp only[Option.getD_some,Tm.nodes];exact Dj (h _ u e) (Nat.le_mul_of_pos_left _ (by omega))
   simp only[Tm.nodes,NJ,Nat.one_mul];omega
theorem X52 {vl:List Tm} {B:Nat} (h:∀(i:Nat) u,vl[i]? =some u->u.nodes<=B) (hB:1<=B):∀l:List Tm,Xs (Qr vl l)<=Xs l*B
 |[]=>by simp[Qr,Xs]
 | t::l=>by
   have h1:=X5M h hB t;have h2:=X52 h hB l;simp only[Qr,Xs,NJ];omega
end
theorem X5o {vars:List Vr} {n:Int}:∀t:Tm,Xt vars false t=true->n∈Qh t->0<=n/\∃v,vars[n.toNat]? =some v:=by
 intro t
 induction t using Tm.ind with
 | h o m ks ih=>
   intro hf hn;simp only[Xt,N4]at hf;by_cases e:o=24
   .subst e;have hk:=X2A hf.1;subst hk;simp only[Qh,Qf,NG,NS]at hn;subst hn;obtain⟨h1,v,h2,_⟩:=Wn hf.1;exact⟨h1,v,h2⟩
   simp only[Qh,N6 e]at hn;obtain⟨k,h1,h2⟩:=X1N hn;exact ih k h1 (QB hf.2 k h1) h2
def X18:Tm:=.mk (-1) 0 []
def ZE:Nat->Tm
 |0=>.mk 0 0 []
 |n+1=>.mk 6 0 [ZE n]
def clT (p:Int×Int) (v:Vr) (t:Tm):Tm:=
 if p.1<v.low then .mk 22 0 [if v.high<p.2 then .mk 21 0 [t,QX v.high] else t,QX v.low] else if v.high<p.2 then .mk 21 0 [t,QX v.high] else t
def szP (vl:List Tm) (l:List Int):Nat:=(l.map fun n=>min 1025 ((vl[n.toNat]?).getD (.mk 0 0 [])).nodes).sum
def stP (vars:List Vr) (vl:List Tm) (w:Vr) (t:Tm):Tm×Tm:=
 if 4096<szP vl (Qh t)then(X18,X18)else
 (Qa vl t,if QC vars false (Qa vl t)=0/\(Qa vl t).nodes<=1024 then clT (rgP vars (Qa vl t)).1 w (Qa vl t)else X18)
def lwT (t:Tm):Tm:=if 2000<t.nodes then ZE 13 else t
def stQ (vars:List Vr) (vl:List Tm) (w:Vr) (t:Tm):Tm×Tm:=(lwT (Qa vl t),clT (rgQ vars (lwT (Qa vl t))).1 w (lwT (Qa vl t)))
theorem szP_le (vl:List Tm):∀l:List Int,szP vl l<=X1f vl l
 |[]=>by simp[szP,X1f]
 | n::l=>by
   have:=szP_le vl l;simp only[szP,X1f,Na,List.sum_cons]at*;omega
theorem Zt (vars:List Vr):bdT vars X18:=.inr (.inr (by simp[X18,Xt,XK,XI]))
theorem X6n (vars:List Vr):bdT vars (ZE 13):=.inr (.inl (by decide))
theorem X70 {vars:List Vr} {t:Tm} (p:Int×Int) (v:Vr) (h:bdT vars t):bdT vars (clT p v t):=by
 unfold clT
 (repeat' split)
 .exact X3e (k:=.mk 21 0 [t,QX v.high]) (by simp) (X3e (k:=t) (by simp) h)
 .exact X3e (k:=t) (by simp) h
 .exact X3e (k:=t) (by simp) h
 exact h
theorem bd_lw {vars:List Vr} {t:Tm} (h:bdT vars t):bdT vars (lwT t):=by
 unfold lwT;split
 .exact X6n vars
 exact h
mutual
theorem X5P {a b:List Tm}:∀t:Tm,(∀n∈Qh t,a[n.toNat]? =b[n.toNat]?)->Qa a t=Qa b t
 | .mk o n ks,h=>by
   simp only[Qa];by_cases e:o=24
   .rw[N9 e,N9 e,h n (by simp[Qh,e])]
   rw[N6 e,N6 e,X4Y ks (fun m hm=>h m (by simp only[Qh,N6 e];exact hm))]
theorem X4Y {a b:List Tm}:∀l:List Tm,(∀n∈Qf l,a[n.toNat]? =b[n.toNat]?)->Qr a l=Qr b l
 |[],_=>rfl
 | t::l,h=>by
   simp only[Qr];rw[X5P t (fun n hn=>h n (by simp only[Qf,NC];exact .inl hn)),X4Y l (fun n hn=>h n (by simp only[Qf,NC];exact .inr hn))]
end
mutual
theorem Xa7 {vars:List Vr}:∀t:Tm,Xt vars true t=true->Xt vars false t=true
 | .mk o n ks,h=>by
   simp only[Xt,N4]at h⊢;refine⟨?_,X7k ks h.2⟩;have h1:=h.1;simp only[XK,N4]at h1⊢;refine⟨h1.1,?_⟩;have h2:=h1.2;by_cases e0:o=0
   .rw[N9 e0]
   rw[N6 e0]at h2⊢;by_cases e1:o=24
   .rw[N9 e1]at h2⊢;simp only[Zj,N4]at h2⊢;refine⟨h2.1,?_⟩;have h3:=h2.2;split at h3
    .rfl
    cases h3
   rw[N6 e1]at h2⊢;exact h2
theorem X7k {vars:List Vr}:∀l:List Tm,Q0 vars true l=true->Q0 vars false l=true
 |[],_=>rfl
 | t::l,h=>by
   simp only[Q0,N4]at h⊢;exact⟨Xa7 t h.1,X7k l h.2⟩
end
theorem mn_s (a b:Int):mn a b<=a/\mn a b<=b/\(mn a b=a\/mn a b=b):=by unfold mn;split<;>omega
theorem mx_s (a b:Int):a<=mx a b/\b<=mx a b/\(mx a b=a\/mx a b=b):=by unfold mx;split<;>omega
theorem sb_cl {vars:List Vr} {T:Tm} {w:Vr} (hg:WM vars) (hw:w.low<=w.high∧-1048576<=w.low/\w.high<=1048576) (hf:Xt vars true T=true) (ho:(rgP vars T).2=true):Sb vars w (clT (rgP vars T).1 w T):=by
 have hb:=X3W hg T hf ho;obtain⟨o,n,ks⟩:=T;generalize hT:Tm.mk o n ks=T at*;clear hT;obtain⟨r,hr⟩:∃r,(rgP vars T).1=r:=⟨_,rfl⟩;rw[hr]at hb⊢
 have hl:∀x:Int,-1048576<=x->x<=1048576->(rgP vars (QX x)).2=true/\(rgP vars (QX x)).1=(x,x):=fun x h1 h2=>by
  simp[QX,rgP,QK,rgV,Q5,okR,h1,h2]
 have fl:∀x:Int,Xt vars true (QX x)=true:=fun x=>by simp[QX,Xt,Q0,XK,XI]
 have h21:=hl w.high (by omega) hw.2.2;have h22:=hl w.low hw.2.1 (by omega);have t21:QK vars [T,QX w.high]=some [r,(w.high,w.high)]:=by simp[QK,ho,hr,h21]
 have r21:rgP vars (.mk 21 0 [T,QX w.high])=((mn r.1 w.high,mn r.2 w.high),okR (mn r.1 w.high,mn r.2 w.high)):=by simp[rgP,t21,rgV,Q5]
 obtain⟨b1,b2,b3⟩:=hb;have q1:=mn_s r.1 w.high;have q2:=mn_s r.2 w.high;have q3:=mx_s (mn r.1 w.high) w.low;have q4:=mx_s (mn r.2 w.high) w.low;have q5:=mx_s r.1 w.low;have q6:=mx_s r.2 w.low;have o21:okR (mn r.1 w.high,mn r.2 w.high)=true:=by simp only[okR,N4,N7];omega
 unfold clT;by_cases c1:r.1<w.low
 .rw[N9 c1];by_cases c2:w.high<r.2
  .rw[N9 c2];have t22:QK vars [.mk 21 0 [T,QX w.high],QX w.low]=some [(mn r.1 w.high,mn r.2 w.high),(w.low,w.low)]:=by simp[QK,r21,o21,h22]
   have r22:rgP vars (.mk 22 0 [.mk 21 0 [T,QX w.high],QX w.low])=((mx (mn r.1 w.high) w.low,mx (mn r.2 w.high) w.low),okR (mx (mn r.1 w.high) w.low,mx (mn r.2 w.high) w.low)):=by simp[rgP,t22,rgV,Q5]
   refine⟨by simp[Xt,Q0,hf,fl,XK,XI],?_,?_⟩
   .rw[r22];simp only[okR,N4,N7];omega
   rw[r22];simp only[sbP];omega
  rw[N6 c2];have t22:QK vars [T,QX w.low]=some [r,(w.low,w.low)]:=by simp[QK,ho,hr,h22]
  have r22:rgP vars (.mk 22 0 [T,QX w.low])=((mx r.1 w.low,mx r.2 w.low),okR (mx r.1 w.low,mx r.2 w.low)):=by simp[rgP,t22,rgV,Q5]
  refine⟨by simp[Xt,Q0,hf,fl,XK,XI],?_,?_⟩
  .rw[r22];simp only[okR,N4,N7];omega
  rw[r22];simp only[sbP];omega
 rw[N6 c1];by_cases c2:w.high<r.2
 .rw[N9 c2];refine⟨by simp[Xt,Q0,hf,fl,XK,XI],?_,?_⟩
  .rw[r21];exact o21
  rw[r21];simp only[sbP];omega
 rw[N6 c2];refine⟨hf,ho,?_⟩;rw[hr];simp only[sbP];omega
def rlT (vars:List Vr) (a b:List Tm):Prop:=
 a.length=vars.length/\b.length=vars.length/\∀(i:Nat) (v:Vr),vars[i]? =some v->∃x y,a[i]? =some x/\b[i]? =some y/\((x=y/\Sb vars v x)\/(bdT vars x/\bdT vars y))
theorem st_rel {vars:List Vr} {a b:List Tm} {w:Vr} {t:Tm} (hg:WM vars) (hr:rlT vars a b) (hw:w∈vars) (hf:Xt vars false t=true) (ho:(rgP vars t).2=true):
  ((stP vars a w t).1=(stQ vars b w t).1\/(bdT vars (stP vars a w t).1/\bdT vars (stQ vars b w t).1))/\
  (((stP vars a w t).2=(stQ vars b w t).2/\Sb vars w (stP vars a w t).2)\/(bdT vars (stP vars a w t).2/\bdT vars (stQ vars b w t).2)):=by
 by_cases hall:∀n∈Qh t,∃u v,a[n.toNat]? =some u/\vars[n.toNat]? =some v/\Sb vars v u/\b[n.toNat]? =some u
 .have e:Qa b t=Qa a t:=(X5P t fun n hn=>by
   obtain⟨u,v,h1,_,_,h4⟩:=hall n hn
   rw[h1,h4]).symm
  obtain⟨f1,f2,f3⟩:=rg_rep hg t hf ho (fun n hn=>by
   obtain⟨u,v,h1,h2,h3,_⟩:=hall n hn
   exact⟨u,v,h1,h2,h3⟩)
  have hs1:=szP_le a (Qh t);have hs2:=X9t (vl:=a) t hf;have hcl:=sb_cl hg (hg w hw) f1 f2;have hq:=X44 vars (Qa a t);have htc:QC vars false (Qa a t)=0:=by unfold QC;rw[N9 (Xa7 _ f1),N9 f2]
  unfold stP stQ;rw[e];generalize Qa a t=T at*;by_cases hz:4096<szP a (Qh t)
  .rw[N9 hz];have hl:lwT T=ZE 13:=by unfold lwT;rw[N9 (by omega)]
   rw[hl];exact⟨.inr ⟨Zt _,X6n _⟩,.inr ⟨Zt _,X70 _ _ (X6n _)⟩⟩
  rw[N6 hz];by_cases hn:T.nodes<=1024
  .have hl:lwT T=T:=by unfold lwT;rw[N6 (by omega)]
   rw[hl,N9 ⟨htc,hn⟩,hq.2 f2];exact⟨.inl rfl,.inl ⟨rfl,hcl⟩⟩
  rw[N6 (fun h=>hn h.2)];have hb:bdT vars T:=.inl (by omega);exact⟨.inr ⟨hb,bd_lw hb⟩,.inr ⟨Zt _,X70 _ _ (bd_lw hb)⟩⟩
 simp only[Classical.not_forall]at hall;obtain⟨n,hn,hbad⟩:=hall;obtain⟨_,v,hv⟩:=X5o t hf hn;obtain⟨x,y,hx,hy,hxy⟩:=hr.2.2 _ v hv
 have hxb:bdT vars x/\bdT vars y:=by
  rcases hxy with⟨rfl,hs⟩|h
  .exact absurd ⟨x,v,hx,hv,hs,hy⟩ hbad
  exact h
 have ba:=bd_rep hx hxb.1 t hf hn;have bb:=bd_rep hy hxb.2 t hf hn;unfold stP stQ;refine⟨.inr ⟨?_,bd_lw bb⟩,.inr ⟨?_,X70 _ _ (bd_lw bb)⟩⟩
 .split
  .exact Zt _
  exact ba
 split
 .exact Zt _
 simp only;split
 .exact X70 _ _ ba
 exact Zt _
def vl0 (vars:List Vr):List Tm:=vars.mapIdx fun i v=>if v.kind=0 then QX v.init else tref i
def vr0:Vr:=⟨⟨#[]⟩,0,0,0,0⟩
def vlG (st:List Tm->Vr->Tm->Tm×Tm) (vars:List Vr) (body:List St):Nat->List Tm
 |0=>vl0 vars
 | k+1=>match body[k]? with
   |some s=>if s.do_=0 then(vlG st vars body k).set s.var.toNat (st (vlG st vars body k) (vars[s.var.toNat]?.getD vr0) s.term).2 else vlG st vars body k
   |none=>vlG st vars body k
def otG (st:List Tm->Vr->Tm->Tm×Tm) (vars:List Vr) (body:List St) (k:Nat) (s:St):Tm:=(st (vlG st vars body k) (vars[s.var.toNat]?.getD vr0) s.term).1
theorem X9x:∀(l seen:List Vr),vcs seen l=0->∀v∈l,v.kind=0->v.low<=v.init/\v.init<=v.high
 |[],_,_,v,hv,_=>by cases hv
 | w ::l,seen,h,v,hv,hk0=>by
   simp only[vcs]at h;split at h
   .rename_i h0;rcases Ni.1 hv with rfl|hv
    .unfold Wo at h0;split at h0
     .cases h0
     split at h0
     .cases h0
     split at h0
     .cases h0
     split at h0
     .cases h0
     rename_i hk;unfold QU at hk;have:¬(v.init<v.low\/v.high<v.init):=fun hh=>hk (.inr (.inr ⟨hk0,hh⟩));omega
    exact X9x l _ h v hv hk0
   rename_i h0;exact absurd h h0
theorem Xah {vars:List Vr} (h:W8 vars=0):vcs [] vars=0:=by
 unfold W8 at h;split at h
 .assumption
 rename_i h0;exact absurd h h0
theorem X1l {vars:List Vr} {i:Nat} {v:Vr} (h:vars[i]? =some v):(vl0 vars)[i]? =some (if v.kind=0 then QX v.init else tref i):=by
 simp[vl0,h]
theorem rl_0 {vars:List Vr} (h:W8 vars=0):rlT vars (vl0 vars) (vl0 vars):=by
 have hg:=Qz h;have hl:=X9x _ _ (Xah h);refine⟨by simp[vl0],by simp[vl0],fun i v hv=>?_⟩;refine⟨_,_,X1l hv,X1l hv,.inl ⟨rfl,?_⟩⟩;have hm:=N3 hv;have hb:=hg v hm;split
 .rename_i hk;have hi:=hl v hm hk;refine⟨by simp[QX,Xt,Q0,XK,XI],?_,?_⟩
  .simp only[QX,rgP,QK,rgV,Q5,okR,NG,N4,N7];omega
  simp only[QX,rgP,QK,rgV,Q5,NG,sbP];omega
 rename_i hk;refine⟨by simp[tref,Xt,Q0,XK,XI,Zj,hv,hk],?_,?_⟩
 .simp[tref,rgP,QK,rgV,Q5,okR,hv];omega
 simp[tref,rgP,QK,rgV,Q5,sbP,hv]
theorem Z8 {vars:List Vr} {nh:Nat}:∀(l:List St) (top:Bool) (k:Nat) (s:St),ssC vars nh l top=0->l[k]? =some s->QC vars false s.term=0/\(s.do_=0->QE vars s.var=true)
 | .mk d c v n t a b bs::l,top,0,s,h,hs=>by
   obtain⟨h1,_,h3,_⟩:=X3j h;simp only[List.getElem?_cons_zero,Option.some.injEq]at hs;subst hs;exact⟨h3,fun hd=>(X39 h1 (.inl hd)).1⟩
 | .mk d c v n t a b bs::l,top,k+1,s,h,hs=>Z8 l top k s (X3j h).2.2.2.2.2 (by simpa using hs)
 |[],_,k,s,_,hs=>by simp at hs
theorem rl_k {f:Fl} (h:XU f=0):∀k:Nat,rlT f.vars (vlG (stP f.vars) f.vars f.body k) (vlG (stQ f.vars) f.vars f.body k)
 |0=>rl_0 (XA h).2.1
 | k + 1=>by
   have ih:=rl_k h k;simp only[vlG];cases hs:f.body[k]? with
   |none=>exact ih
   | some s=>
     simp only;by_cases hd:s.do_=0
     .rw[N9 hd,N9 hd];obtain⟨ht,hl⟩:=Z8 f.body true k s (XA h).2.2.2.1 hs;obtain⟨_,w,hw⟩:=W0 (hl hd);rw[hw,Option.getD_some];have hf:=QA ht
      have ho:(rgP f.vars s.term).2=true:=by
       unfold QC at ht;rw[N9 hf]at ht;by_cases ho:(rgP f.vars s.term).2=true
       .exact ho
       rw[N6 ho]at ht;cases ht
      have hst:=(st_rel (Qz (XA h).2.1) ih (N3 hw) hf ho).2;refine⟨by simpa using ih.1,by simpa using ih.2.1,fun i v hv=>?_⟩;by_cases e:s.var.toNat=i
      .subst e;rw[hw]at hv;cases hv;have hlt:=(N5.1 hw).1;refine⟨_,_,by rw[NE (by rw[ih.1];exact hlt)],by rw[NE (by rw[ih.2.1];exact hlt)],hst⟩
      rw[NZ e,NZ e];exact ih.2.2 i v hv
     rw[N6 hd,N6 hd];exact ih
theorem ot_rel {f:Fl} (h:XU f=0) {k:Nat} {s:St} (hs:f.body[k]? =some s) (hd:s.do_=0):
  otG (stP f.vars) f.vars f.body k s=otG (stQ f.vars) f.vars f.body k s\/(bdT f.vars (otG (stP f.vars) f.vars f.body k s)/\bdT f.vars (otG (stQ f.vars) f.vars f.body k s)):=by
 obtain⟨ht,hl⟩:=Z8 f.body true k s (XA h).2.2.2.1 hs;obtain⟨_,w,hw⟩:=W0 (hl hd);unfold otG;rw[hw,Option.getD_some];have hf:=QA ht
 have ho:(rgP f.vars s.term).2=true:=by
  unfold QC at ht;rw[N9 hf]at ht;by_cases ho:(rgP f.vars s.term).2=true
  .exact ho
  rw[N6 ho]at ht;cases ht
 exact(st_rel (Qz (XA h).2.1) (rl_k h k) (N3 hw) hf ho).1
def X3Q (nh:Nat) (al:List Nat) (k:Nat) (s:St):St:=.mk 5 s.cost s.var ((nh:Int)+al.idxOf k) (.mk 0 0 []) [] [] []
def WR (nh:Nat) (al:List Nat) (y:Nat) (body:List St):List St:=body.mapIdx fun k s=>if k∈al.take y then X3Q nh al k s else s
def X1x (nm:List Ht->ByteArray) (T:Nat->St->Tm) (vars:List Vr) (body:List St) (hs:List Ht) (a:Nat):Ht:=
 ⟨nm hs,(vars[(body[a]?.getD (asg 0 (.mk 0 0 []))).var.toNat]?.getD vr0).low,(vars[(body[a]?.getD (asg 0 (.mk 0 0 []))).var.toNat]?.getD vr0).high,T a (body[a]?.getD (asg 0 (.mk 0 0 [])))⟩
def QW (nm:List Ht->ByteArray) (T:Nat->St->Tm) (vars:List Vr) (body:List St):List Ht->List Nat->List Ht
 |hs,[]=>hs
 |hs,a::l=>QW nm T vars body (hs++[X1x nm T vars body hs a]) l
def QM (nm:List Ht->ByteArray) (T:Nat->St->Tm) (f:Fl) (al:List Nat):Fl:=⟨f.vars,QW nm T f.vars f.body f.hats al,WR f.hats.length al al.length f.body⟩
variable {nm:List Ht->ByteArray} {T:Nat->St->Tm} {vars:List Vr} {body:List St}
theorem X1g:∀(l:List Nat) (hs:List Ht) (a:Nat),QW nm T vars body hs (l++[a])=QW nm T vars body hs l++[X1x nm T vars body (QW nm T vars body hs l) a]
 |[],_,_=>rfl
 |b::l,hs,a=>by simp only[List.cons_append,QW,X1g l]
theorem X26:∀(l:List Nat) (hs:List Ht),(QW nm T vars body hs l).length=hs.length+l.length
 |[],_=>rfl
 |b::l,hs=>by simp only[QW,X26 l,Nt,List.length_cons,List.length_nil];omega
theorem X7f:∀(l:List Nat) (hs:List Ht) (i:Nat) (h:Ht),hs[i]? =some h->(QW nm T vars body hs l)[i]? =some h
 |[],_,_,_,hi=>hi
 |b::l,hs,i,h,hi=>X7f l _ i h (by rw[Nm (N5.1 hi).1];exact hi)
theorem X2K:∀(l:List Nat) (hs:List Ht) (j:Nat) (a:Nat),l[j]? =some a->∃h,(QW nm T vars body hs l)[hs.length+j]? =some h/\∃n,h={X1x nm T vars body hs a with name:=n}
 | b::l,hs,0,a,ha=>by
   simp only[List.getElem?_cons_zero,Option.some.injEq]at ha;subst ha;refine⟨X1x nm T vars body hs b,X7f l _ _ _ (by simp),nm hs,rfl⟩
 | b::l,hs,j+1,a,ha=>by
   obtain⟨h,h1,n,h2⟩:=X2K l (hs++[X1x nm T vars body hs b]) j a (by simpa using ha);refine⟨h,?_,n,h2⟩;rw[<-h1];simp only[QW,Nt,List.length_cons,List.length_nil];congr 1;omega
 |[],_,_,_,ha=>by simp at ha
theorem X5F {T':Nat->St->Tm}:∀(l:List Nat) (hs:List Ht),(∀a∈l,T a (body[a]?.getD (asg 0 (.mk 0 0 [])))=T' a (body[a]?.getD (asg 0 (.mk 0 0 []))))->QW nm T vars body hs l=QW nm T' vars body hs l
 |[],_,_=>rfl
 | b::l,hs,h=>by
   have e:X1x nm T vars body hs b=X1x nm T' vars body hs b:=by unfold X1x;rw[h b (by simp)]
   simp only[QW];rw[e,X5F l _ fun a ha=>h a (by simp[ha])]
theorem X7n {F:Fl} {h:Ht} (hm:h∈F.hats) (hb:bdT F.vars h.term):XU F≠0:=by
 intro hc;obtain⟨h1,_,h3,_⟩:=XA hc;rcases hb with hb|hb|hb
 .simp only[W5,N4,N7]at h1;have:=Wz hm;omega
 .simp only[W5,N4]at h1;have h2:=h1.2;simp only[ZI,Nh,N7]at h2;have:=h2 h hm;omega
 rw[X5d _ _ h3 h hm]at hb;cases hb
structure AtOK (f:Fl) (al:List Nat):Prop where
 asc:al.Pairwise (· < ·)
 get:∀a∈al,∃s,f.body[a]? =some s/\s.do_=0
 cut:∀a∈al,∀(j:Nat) (s:St),j<=a->f.body[j]? =some s->s.do_≠3/\s.do_≠4/\s.do_≠5
theorem hat_same {f:Fl} {al:List Nat} (h0:XU f=0) (ha:AtOK f al):
  Z9 (QM nm (otG (stP f.vars) f.vars f.body) f al)=Z9 (QM nm (otG (stQ f.vars) f.vars f.body) f al):=by
 by_cases hall:∀a∈al,otG (stP f.vars) f.vars f.body a (f.body[a]?.getD (asg 0 (.mk 0 0 [])))=otG (stQ f.vars) f.vars f.body a (f.body[a]?.getD (asg 0 (.mk 0 0 [])))
 .unfold QM;rw[X5F al f.hats hall]
 simp only[Classical.not_forall]at hall;obtain⟨a,hm,hne⟩:=hall;obtain⟨s,hs,hd⟩:=ha.get a hm;rw[hs,Option.getD_some]at hne;have hb:=(ot_rel h0 hs hd).resolve_left hne;obtain⟨j,hj⟩:=Nu.1 hm
 have key:∀T:Nat->St->Tm,bdT f.vars (T a s)->XU (QM nm T f al)≠0:=by
  intro T hT;obtain⟨h,h1,n,h2⟩:=X2K (nm:=nm) (T:=T) (vars:=f.vars) (body:=f.body) al f.hats j a hj;refine X7n (F:=QM nm T f al) (N3 h1) ?_;rw[h2];unfold X1x;rw[hs];exact hT
 unfold Z9;rw[N6 (key _ hb.1),N6 (key _ hb.2)]
theorem X81 {vars:List Vr} {inp:Bool} {t:Tm} (h:QC vars inp t=0):(rgP vars t).2=true:=by
 have hf:=QA h;unfold QC at h;rw[N9 hf]at h;by_cases ho:(rgP vars t).2=true
 .exact ho
 rw[N6 ho]at h;cases h
mutual
theorem X6z {vars:List Vr} {xs vs:List Int} {vl:List Tm} (hl:∀(i:Nat) (v:Vr),vars[i]? =some v->∃u,vl[i]? =some u/\(bdT vars u\/vs[i]? =some (vT xs u))):∀t:Tm,Xt vars false t=true->¬bdT vars (Qa vl t)->vT xs (Qa vl t)=vT vs t
 | .mk o n ks,hf,hb=>by
   simp only[Xt,N4]at hf;simp only[Qa]at hb⊢;by_cases h:o=24
   .subst h;obtain⟨hn,v,hv,_⟩:=Wn hf.1;obtain⟨u,hu,hx⟩:=hl _ v hv;rw[N9 rfl,hu,Option.getD_some]at hb⊢;have hx:=hx.resolve_left hb;simp only[vT,X3p,Int.reduceEq,NW,NG];rw[hx];rfl
   rw[N6 h]at hb⊢;simp only[vT];rw[X8c hl ks hf.2 fun k hk hbk=>hb (X3e hk hbk)];exact valN_vs h
theorem X8c {vars:List Vr} {xs vs:List Int} {vl:List Tm} (hl:∀(i:Nat) (v:Vr),vars[i]? =some v->∃u,vl[i]? =some u/\(bdT vars u\/vs[i]? =some (vT xs u))):∀l:List Tm,Q0 vars false l=true->(∀k∈Qr vl l,¬bdT vars k)->vTs xs (Qr vl l)=vTs vs l
 |[],_,_=>rfl
 | t::l,hf,hb=>by
   simp only[Q0,N4]at hf;simp only[Qr,vTs];rw[X6z hl t hf.1 (hb _ (by simp[Qr])),X8c hl l hf.2 fun k hk=>hb k (by simp[Qr,hk])]
end
theorem st_out (vars:List Vr) (vl:List Tm) (w:Vr) (t:Tm):(stP vars vl w t).1=X18\/(stP vars vl w t).1=Qa vl t:=by
 unfold stP;split
 .exact .inl rfl
 exact .inr rfl
theorem X7N {vars:List Vr} {nh:Nat}:∀(l:List St) (k:Nat),wfL vars nh l=true->wfL vars nh (l.drop k)=true
 |[],k,h=>by simpa using h
 |s::l,0,h=>h
 | s::l,k+1,h=>by
   simp only[wfL,N4]at h;rw[List.drop_succ_cons];exact X7N l k h.2
theorem X7B:∀(l:List Nat) (hs:List Ht),∃e,QW nm T vars body hs l=hs++e
 |[],hs=>⟨[],by simp[QW]⟩
 | a::l,hs=>by
   obtain⟨e,he⟩:=X7B l (hs++[X1x nm T vars body hs a]);exact⟨_,by simp only[QW];rw[he,D7]⟩
theorem vT_min (xs:List Int) (t:Tm) (x:Int):vT xs (.mk 21 0 [t,QX x])=mn (vT xs t) x:=by
 simp[vT,vTs,X3p,QX,binI,mn]
theorem vT_max (xs:List Int) (t:Tm) (x:Int):vT xs (.mk 22 0 [t,QX x])=mx (vT xs t) x:=by
 simp[vT,vTs,X3p,QX,binI,mx]
theorem cl_val {vars:List Vr} {xs:List Int} {t:Tm} {w:Vr} (hw:w.low<=w.high) (hx:X00 vars xs) (hf:Xt vars false t=true) (ho:(rgP vars t).2=true):vT xs (clT (rgP vars t).1 w t)=XP (vT xs t) w.low w.high:=by
 have h:=vT_in hx t hf ho;obtain⟨h1,h2,_⟩:=h;unfold clT
 (repeat' split)
 .rw[vT_max,vT_min];simp only[mn,mx,XP];(repeat' split)<;>omega
 .rw[vT_max];simp only[mx,XP];(repeat' split)<;>omega
 .rw[vT_min];simp only[mn,XP];(repeat' split)<;>omega
 simp only[XP];(repeat' split)<;>omega
theorem XaZ {n a b:Int} (h:a<=b):XP (XP n a b) a b=XP n a b:=by
 have:=held_rng (n:=n) h;exact Xab this.1 this.2
mutual
theorem X6d (vars:List Vr) (hv e:List Int):∀l:List St,wfL vars hv.length l=true->XT vars (hv++e) l=XT vars hv l
 |[],_=>by funext s;simp only[XT]
 | .mk d c v n t a b bs::l,h=>by
   simp only[wfL,N4]at h;have hs:=h.1;simp only[wfS,N4,Ng,N7]at hs;obtain⟨_,_,hr,_,_,ha,hb⟩:=hs;simp only[XT];rw[X6d vars hv e a ha,X6d vars hv e b hb,X6d vars hv e l h.2]
   funext s
   congr 1
   have hlf:Zp vars (hv++e) d v n t bs=Zp vars hv d v n t bs:=by
    funext q
    unfold Zp;by_cases h5:d=5
    .have h2:=hr.resolve_left (by omega);rw[Nm (by omega)]
    simp only[N6 h5]
   rw[hlf]
end
def stG (f:Fl) (xs:List Int) (k:Nat) (vs:List Int):Prop:=
 vs.length=f.vars.length/\∀(i:Nat) (v:Vr),f.vars[i]? =some v->∃u,(vlG (stP f.vars) f.vars f.body k)[i]? =some u/\(bdT f.vars u\/vs[i]? =some (vT xs u))
theorem stG_next {f:Fl} {xs vs:List Int} {k:Nat} {s:St} (h0:XU f=0) (hx:X00 f.vars xs) (hs:f.body[k]? =some s) (h:stG f xs k vs):
  stG f xs (k+1) (if s.do_=0 then X3b f.vars vs s.var (vT vs s.term)else vs):=by
 have hr:=rl_k h0 k;unfold stG at h⊢;simp only[vlG,hs];obtain⟨VL,hVL⟩:∃x,vlG (stP f.vars) f.vars f.body k=x:=⟨_,rfl⟩;rw[hVL]at h hr⊢;clear hVL;by_cases hd:s.do_=0
 .rw [N9 hd,N9 hd];obtain⟨ht,hl⟩:=Z8 f.body true k s (XA h0).2.2.2.1 hs;obtain⟨_,w,hw⟩:=W0 (hl hd);have hlt:=(N5.1 hw).1;have hf:=QA ht;refine⟨by rw[X0X];exact h.1,fun i v hv=>?_⟩;by_cases e:s.var.toNat=i
  .subst e;rw[hw]at hv;cases hv;rw[hw,Option.getD_some,NE (by rw[hr.1];exact hlt)];refine⟨_,rfl,?_⟩;unfold X3b;rw[hw];simp only;rw[NE (by rw[h.1];exact hlt)];unfold stP;split
   .exact .inl (Zt _)
   simp only;split
   .rename_i hc;by_cases hb:bdT f.vars (Qa VL s.term)
    .exact .inl (X70 _ _ hb)
    have hfr:=QA hc.1;have hor:=X81 hc.1;refine .inr ?_;rw[cl_val (Qz (XA h0).2.1 w (N3 hw)).1 hx hfr hor,X6z h.2 s.term hf hb]
   exact .inl (Zt _)
  rw[NZ e];obtain⟨u,h1,h2⟩:=h.2 i v hv;refine⟨u,h1,h2.imp id fun h3=>?_⟩;unfold X3b;rw[hw];simp only;rw[NZ e];exact h3
 rw[N6 hd,N6 hd];exact h
theorem hv_new {f:Fl} {al:List Nat} {xs:List Int} {k:Nat} {s:St} {j:Nat} (hj:al[j]? =some k) (hs:f.body[k]? =some s) {w:Vr} (hw:f.vars[s.var.toNat]? =some w):
  (Qw xs (QW nm T f.vars f.body f.hats al))[f.hats.length+j]? =some (XP (vT xs (T k s)) w.low w.high):=by
 obtain⟨h,h1,n,h2⟩:=X2K (nm:=nm) (T:=T) (vars:=f.vars) (body:=f.body) al f.hats j k hj;unfold Qw;rw[Nf,h1,h2];unfold X1x;rw[hs,Option.getD_some,hw];rfl
theorem X2j {h:Nat->St->St}:∀(l:List St) (k:Nat),(l.mapIdx h).drop k=(l.drop k).mapIdx fun i=>h (k+i)
 |[],k=>by simp
 |a::l,0=>by simp
 | a::l,k+1=>by
   rw[List.mapIdx_cons,List.drop_succ_cons,List.drop_succ_cons,X2j l k];congr 1
   funext i
   congr 1;omega
theorem X0h {T:Type}:∀l:List T,(l.mapIdx fun _ q=>q)=l
 |[]=>rfl
 |a::l=>by rw[List.mapIdx_cons,X0h l]
theorem X6Q {al:List Nat} {a:Nat} (h:a∈al):al[al.idxOf a]? =some a:=by
 have hlt:=List.idxOf_lt_length_iff.2 h;rw[Nr hlt,List.getElem_idxOf]
theorem X3f {f:Fl} {al:List Nat} {xs:List Int} (hb:Qm f.body=true) (h0:XU f=0) (ha:AtOK f al) (hx:X00 f.vars xs) (hc:XU (QM nm (otG (stP f.vars) f.vars f.body) f al)=0):
  ∀(n k:Nat) (s:Sta),k+n=f.body.length->stG f xs k s.vals->
  XT f.vars (Qw xs (QW nm (otG (stP f.vars) f.vars f.body) f.vars f.body f.hats al)) ((WR f.hats.length al al.length f.body).drop k) s=XT f.vars (Qw xs f.hats) (f.body.drop k) s
 | 0,k,s,hk,_=>by
   have e1:f.body.drop k=[]:=List.drop_eq_nil_of_le (by omega);have e2:(WR f.hats.length al al.length f.body).drop k=[]:=List.drop_eq_nil_of_le (by simp[WR];omega);rw[e1,e2];simp only[XT]
 | n + 1,k,s,hk,hst=>by
   have hlt:k<f.body.length:=by omega
   obtain⟨t,ht⟩:∃t,f.body[k]? =some t:=⟨_,Nr hlt⟩
   have hd1:f.body.drop k=t::f.body.drop (k+1):=by
    rw[List.drop_eq_getElem_cons hlt];rw[Nr hlt]at ht;cases ht;rfl
   have hd2:(WR f.hats.length al al.length f.body).drop k=(if k∈al then X3Q f.hats.length al k t else t)::(WR f.hats.length al al.length f.body).drop (k+1):=by
    unfold WR;rw[X2j,X2j,hd1,List.mapIdx_cons,List.take_length];simp only[Nat.add_zero];congr 1;congr 1
    funext i
    simp only[show k+(i+1)=k+1+i by omega]
   by_cases hrest:∃a∈al,k<=a
   .obtain⟨a,ham,hka⟩:=hrest;have hcut:=ha.cut a ham k t hka ht;have hnx:=stG_next h0 hx ht hst;rw[hd1,hd2]
    have step0:t.do_=0->∀(s1:Sta),s1.vals=X3b f.vars s.vals t.var (vT s.vals t.term)->XT f.vars (Qw xs (QW nm (otG (stP f.vars) f.vars f.body) f.vars f.body f.hats al)) ((WR f.hats.length al al.length f.body).drop (k+1)) s1=XT f.vars (Qw xs f.hats) (f.body.drop (k+1)) s1:=fun hd s1 h1=>
     X3f hb h0 ha hx hc n (k+1) s1 (by omega) (by rw[N9 hd]at hnx;rw[h1];exact hnx)
    have step1:t.do_≠0->∀(s1:Sta),s1.vals=s.vals->XT f.vars (Qw xs (QW nm (otG (stP f.vars) f.vars f.body) f.vars f.body f.hats al)) ((WR f.hats.length al al.length f.body).drop (k+1)) s1=XT f.vars (Qw xs f.hats) (f.body.drop (k+1)) s1:=fun hd s1 h1=>
     X3f hb h0 ha hx hc n (k+1) s1 (by omega) (by rw[N6 hd]at hnx;rw[h1];exact hnx)
    obtain⟨d,c,v,m,u,x,y,bs⟩:=t;simp only[St.do_,St.var,St.term]at hcut step0 step1;by_cases hk2:k∈al
    .rw[N9 hk2];obtain⟨t',ht',hd0⟩:=ha.get k hk2;rw[ht]at ht';cases ht';simp only[St.do_]at hd0;subst hd0;obtain⟨htc,hl⟩:=Z8 f.body true k _ (XA h0).2.2.2.1 ht;obtain⟨_,w,hw⟩:=W0 (hl rfl);simp only[St.var,St.term]at hw htc;have hv:=hv_new (nm:=nm) (T:=otG (stP f.vars) f.vars f.body) (f:=f) (xs:=xs) (X6Q hk2) ht hw;have hwb:=Qz (XA h0).2.1 w (N3 hw);obtain⟨h,g1,n',g2⟩:=X2K (nm:=nm) (T:=otG (stP f.vars) f.vars f.body) (vars:=f.vars) (body:=f.body) al f.hats _ k (X6Q hk2);have hnb:¬bdT f.vars (otG (stP f.vars) f.vars f.body k (.mk 0 c v m u x y bs)):=fun hbad=>X7n (F:=QM nm (otG (stP f.vars) f.vars f.body) f al) (N3 g1) (by rw[g2];unfold X1x;rw[ht];exact hbad) hc
     have hval:vT xs (otG (stP f.vars) f.vars f.body k (.mk 0 c v m u x y bs))=vT s.vals u:=by
      unfold otG at hnb⊢;have hsv:=hst.2;rcases st_out f.vars (vlG (stP f.vars) f.vars f.body k) (f.vars[(St.mk 0 c v m u x y bs).var.toNat]?.getD vr0) (St.mk 0 c v m u x y bs).term with e|e
      .rw[e]at hnb;exact absurd (Zt _) hnb
      rw[e]at hnb⊢;exact X6z hsv u (QA htc) hnb
     rw[hval]at hv
     have e:XT f.vars (Qw xs f.hats) (.mk 0 c v m u x y bs::f.body.drop (k+1)) s=XT f.vars (Qw xs f.hats) (f.body.drop (k+1)) ⟨X3b f.vars s.vals v (vT s.vals u),s.outs,(WU s c).time⟩:=by
      simp[XT,Zp,WU]
     rw[e,<-step0 rfl ⟨X3b f.vars s.vals v (vT s.vals u),s.outs,(WU s c).time⟩ rfl];unfold X3Q;simp only[XT,St.cost,St.var,Int.reduceEq,NW,Zp,NG,WU];congr 2;unfold X3b;rw[hw];simp only;rw[show((f.hats.length:Int)+(al.idxOf k:Nat)).toNat=f.hats.length+al.idxOf k by omega,hv,Option.getD_some,XaZ hwb.1]
    rw[N6 hk2];simp only[XT,N6 hcut.1,N6 hcut.2.1]
    have hlf:∀q,Zp f.vars (Qw xs (QW nm (otG (stP f.vars) f.vars f.body) f.vars f.body f.hats al)) d v m u bs q=Zp f.vars (Qw xs f.hats) d v m u bs q:=fun q=>by
     simp only[Zp,N6 hcut.2.2]
    rw[hlf];by_cases hd0:d=0
    .refine step0 hd0 _ ?_;subst hd0;simp[Zp,WU]
    refine step1 hd0 _ ?_;unfold Zp;rw[N6 hd0,N6 hcut.2.2]
    (repeat' split)<;>rfl
   have hno:∀a∈al,¬k<=a:=fun a ham hka=>hrest ⟨a,ham,hka⟩
   have e:(WR f.hats.length al al.length f.body).drop k=f.body.drop k:=by
    unfold WR;rw[X2j]
    have:(fun(i:Nat) (q:St)=>if k+i∈al.take al.length then X3Q f.hats.length al (k+i) q else q)=fun _ q=>q:=by
     funext i q
     rw[List.take_length,N6];intro hm;exact hno _ hm (by omega)
    rw[this];exact X0h _
   rw[e];obtain⟨hw,_,_⟩:=X6H hb h0;have hwd:=X7N f.body k hw;obtain⟨E,hE⟩:=X7B (nm:=nm) (T:=otG (stP f.vars) f.vars f.body) (vars:=f.vars) (body:=f.body) al f.hats
   have he:Qw xs (QW nm (otG (stP f.vars) f.vars f.body) f.vars f.body f.hats al)=Qw xs f.hats++Qw xs E:=by
    rw[hE];simp[Qw]
   rw[he];rw[X6d f.vars (Qw xs f.hats) _ _ (by simpa[Qw]using hwd)]
theorem X7G (i:Inp):∀(l:List Vr) (a b c:Nat) (vals:List Int) (fits:Bool),(stL i l a b c vals fits).2=0->∀(j:Nat) (v:Vr) (x:Int),l[j]? =some v->(stL i l a b c vals fits).1[vals.length+j]? =some x->v.kind=0->x=v.init
 |[],_,_,_,_,_,_,j,v,x,hv,_,_=>by simp at hv
 | w ::l,a,b,c,vals,fits,h,j,v,x,hv,hx,hk=>by
   simp only[stL]at h hx;split at h
   .rename_i hi;rw[N9 hi]at hx;obtain⟨_,xs,h1,_⟩:=X6u i l _ _ _ _ _ h;cases j with
    | zero=>
      rw[h1]at hx;simp only[List.getElem?_cons_zero,Option.some.injEq]at hv;subst hv;rw[D7,Nat.add_zero,Nl (ND _),Nat.sub_self]at hx;simp only[List.cons_append,List.nil_append,List.getElem?_cons_zero,Option.some.injEq]at hx;rw[<-hx];unfold Za;rw[N6 (by omega),N6 (by omega),N6 (by omega)]
    | succ j=>
      refine X7G i l _ _ _ _ _ h j v x (by simpa using hv) ?_ hk;rw[<-hx];congr 1;simp only[Nt,List.length_cons,List.length_nil];omega
   cases h
theorem hat_run {f:Fl} {al:List Nat} {i:Inp} (hb:Qm f.body=true) (h0:XU f=0) (ha:AtOK f al) (hc:XU (QM nm (otG (stP f.vars) f.vars f.body) f al)=0)
  (hi:(stL i f.vars 0 0 0 [] true).2=0):(ZO f i).2=0/\ZO (QM nm (otG (stP f.vars) f.vars f.body) f al) i=ZO f i:=by
 obtain⟨_,xs,h1,h2,h3,_⟩:=X6u i f.vars 0 0 0 [] true hi;simp only[List.nil_append]at h1;have hloc:=X7G i f.vars 0 0 0 [] true hi;rw[h1]at hloc
 have hs0:stG f xs 0 xs:=by
  refine⟨h3,fun j v hv=>?_⟩;refine⟨_,X1l hv,.inr ?_⟩;obtain⟨x,hx,_⟩:=h2 j v hv;split
  .rename_i hk;rw[hx];have:=hloc j v x hv (by simpa using hx) hk;simp[QX,vT,X3p,this]
  simp[tref,vT,vTs,X3p,hx]
 have hst:=X3f (nm:=nm) hb h0 ha h2 hc f.body.length 0 ⟨xs,[],0⟩ (by omega) hs0;simp only[List.drop_zero]at hst
 have hp:WP f i=(XT f.vars (Qw xs f.hats) f.body ⟨xs,[],0⟩,0):=by
  unfold WP;rw[N9 h0,N9 hi,h1]
 have hp2:WP (QM nm (otG (stP f.vars) f.vars f.body) f al) i=(XT f.vars (Qw xs f.hats) f.body ⟨xs,[],0⟩,0):=by
  unfold WP;rw[N9 hc];show(if(stL i f.vars 0 0 0 [] true).2=0 then(XT f.vars (Qw (stL i f.vars 0 0 0 [] true).1 (QW nm (otG (stP f.vars) f.vars f.body) f.vars f.body f.hats al)) (WR f.hats.length al al.length f.body) ⟨(stL i f.vars 0 0 0 [] true).1,[],0⟩,(0:Int))else(st0,(stL i f.vars 0 0 0 [] true).2))=_;rw[N9 hi,h1,hst]
 unfold ZO;rw[hp,hp2];simp
end Go.Proofs.YtdccocolnaklkaaGreatDoor
