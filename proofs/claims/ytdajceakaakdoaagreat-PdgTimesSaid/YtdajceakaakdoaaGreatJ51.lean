/- Contracts of functions and plain facts about what they compute. Conditions: as each theorem states. -/
import Derived.Test.YtdajceakaakdoaaGreatJ22
set_option linter.unusedSimpArgs false
set_option linter.unusedVariables false
set_option linter.unnecessarySimpa false
set_option maxRecDepth 100000
set_option maxHeartbeats 2000000
namespace Go.Proofs.YtdajceakaakdoaaGreat
open Go Go.Hl
def BT:List St->Int
 |[]=>0
 | .mk d c _ n _ a b _::l=>(if d=4 then n*(c+BT a)else if d=3 then c+mx (BT a) (BT b)else c)+BT l
def SX:List St->Int
 |[]=>0
 | .mk d c _ n (.mk o tn _) a b _::l=>(if d=3 then c+mn (SX a) (SX b)else if d=4 then(if o≠0 then WE n c else if tn≠0 then n*(c+SX a)else WE n c)else c)+SX l
def noS:List St->Bool
 |[]=>true
 | .mk d _ _ _ _ a b _::l=>decide (d≠6)&&(noS a&&(noS b&&noS l))
theorem X8j (y:St) (l:List St):BT (y::l)=BT [y]+BT l:=by
 obtain⟨d,c,v,n,t,a,b,bs⟩:=y;simp only[BT];omega
theorem BT_app:∀a b:List St,BT (a++b)=BT a+BT b
 |[],b=>by simp[BT]
 |y::a,b=>by rw[List.cons_append,X8j,X8j y a,BT_app a b];omega
theorem XcH:∀a b:List St,okL (a++b)=(okL a&&okL b)
 |[],b=>by simp[okL]
 |y::a,b=>by simp[okL,XcH a b,Dw]
theorem X4o {n c x:Int} (hn:0<=n) (hc:0<=c) (hx:0<=x):0<=WE n c/\WE n c<=n*(c+x):=by
 unfold WE;split
 .have:=Int.mul_le_mul_of_nonneg_right (show(1:Int)<=n by omega) (show 0<=c+x by omega);omega
 have:n=0:=by omega
 subst this;simp
theorem WZ:∀l:List St,okL l=true->0<=SX l/\SX l<=BT l
 |[],_=>by simp[SX,BT]
 | .mk d c v n (.mk o tn ks) a b bs::l,h=>by
   simp only[okL,okS,N3,Nf,N5]at h;have ha:=WZ a h.1.2.2.1;have hb:=WZ b h.1.2.2.2;have hl:=WZ l h.2;have hc:=h.1.1.1;have hn:d=4->0<=n:=fun h4=>by omega
   clear h;simp only[SX,BT];by_cases h3:d=3
   .rw[N8 h3,N7 (by omega),N8 h3];unfold mn mx
    (repeat' split)<;>omega
   rw[N7 h3];by_cases h4:d=4
   .have hn:=hn h4;rw[N8 h4,N8 h4];have ho:=X4o hn hc (x:=BT a) (by omega);have h1:=Int.mul_le_mul_of_nonneg_left (show c+SX a<=c+BT a by omega) hn;have h2:=D6 hn (show 0<=c+SX a by omega);split
    .omega
    split<;>omega
   rw[N7 h4,N7 h4,N7 h3];omega
theorem X5H {c hi:Int} (h0:0<=c) (h1:c<=hi):Qg c 0 hi=c:=by
 unfold Qg;rw[N7 (by omega),N7 (by omega)]
theorem X93:∀(l:List St) (p:Int×Int),okL l=true->0<=p.1->0<=(spL l p).1/\mn (spL l p).1 67108865=mn (p.1+SX l) 67108865
 |[],p,_,hp=>by simp[spL,SX,hp]
 | .mk d c v n (.mk o tn ks) a b bs::l,p,h,hp=>by
   have hbt:=WZ a (by simp only[okL,okS,N3,Nf,N5]at h;exact h.1.2.2.1);have hbu:=WZ b (by simp only[okL,okS,N3,Nf,N5]at h;exact h.1.2.2.2);have hbl:=WZ l (by simp only[okL,N3]at h;exact h.2);simp only[okL,okS,N3,Nf,N5]at h;have ha:=X93 a (0,0) h.1.2.2.1 (NP 0);have hb:=X93 b (0,0) h.1.2.2.2 (NP 0);have il:=fun q=>X93 l q h.2;have hc:=h.1.1.1;have hc2:=h.1.1.2.1;have hn:d=4->0<=n/\n<=4096:=fun h4=>by omega
   clear h;simp only[spL,spS,SX,X5H hc (show c<=67108865 by omega)];generalize(spL b (0,0)).1=B at*;generalize(spL b (0,0)).2=B2 at*;generalize(spL a (0,0)).1=A at*;generalize(spL a (0,0)).2=A2 at*;simp only[DJ]at ha hb;generalize SX a=xa at*;generalize SX b=xb at*;generalize SX l=xl at*;generalize BT a=ya at*;generalize BT b=yb at*;generalize BT l=yl at*
   have key:∀(X Y:Int) (q:Int),0<=X->0<=Y->mn X 67108865=mn Y 67108865->0<=(spL l (mn (p.1+X) 67108865,q)).1/\mn (spL l (mn (p.1+X) 67108865,q)).1 67108865=mn (p.1+(Y+xl)) 67108865:=by
    intro X Y q hX hY he;have:=il (mn (p.1+X) 67108865,q) (by simp only[mn];split<;>omega);refine⟨this.1,?_⟩;rw[this.2];simp only[mn]at he⊢
    (repeat' split at he)<;>(repeat' split)<;>omega
   by_cases h3:d=3
   .simp only[N8 h3]
    have e:mn (c+mn A B) 67108865=mn (c+mn xa xb) 67108865:=by
     obtain⟨a0,a1⟩:=ha;obtain⟨b0,b1⟩:=hb;clear key il;simp only[mn]at*
     (repeat' split at a1)<;>(repeat' split at b1)<;>(repeat' split)<;>omega
    exact key _ _ _ (by unfold mn;split<;>omega) (by unfold mn;split<;>omega) e
   simp only[N7 h3];by_cases h4:d=4
   .obtain⟨hn0,hn1⟩:=hn h4;simp only[N8 h4,X5H hn0 hn1];have ho:=X4o hn0 hc (x:=xa) (by omega);have hm:=D6 hn0 (show 0<=c+A by omega);have hm':=D6 hn0 (show 0<=c+xa by omega);by_cases h5:o≠0
    .simp only[N8 h5];exact key _ _ _ ho.1 ho.1 rfl
    simp only[N7 h5];by_cases h6:tn≠0
    .simp only[N8 h6];have e:=X1y (C:=67108865) hn0 ha.1 (show 0<=xa by omega) hc (NP 0) ha.2;simp only[DJ]at e;exact key _ _ _ hm hm' e
    simp only[N7 h6];exact key _ _ _ ho.1 ho.1 rfl
   simp only[N7 h4];exact key _ _ _ hc hc rfl
theorem X6K:∀(l:List St) (p:B3),okL l=true->0<=p.t->0<=(bdL CR l p).t/\mn (bdL CR l p).t 67108865=mn (p.t+BT l) 67108865
 |[],p,_,hp=>by simp[bdL,BT,hp]
 | .mk d c v n t a b bs::l,p,h,hp=>by
   have hbt:=WZ a (by simp only[okL,okS,N3,Nf,N5]at h;exact h.1.2.2.1);have hbu:=WZ b (by simp only[okL,okS,N3,Nf,N5]at h;exact h.1.2.2.2);have hbl:=WZ l (by simp only[okL,N3]at h;exact h.2);simp only[okL,okS,N3,Nf,N5]at h;have ha:=X6K a ⟨0,0,0⟩ h.1.2.2.1 (NP 0);have hb:=X6K b ⟨0,0,0⟩ h.1.2.2.2 (NP 0);have il:=fun q=>X6K l q h.2;have hc:=h.1.1.1;have hn:d=4->0<=n/\n<=4096:=fun h4=>by omega
   clear h;simp only[bdL,bdS,BT];generalize bdL CR a ⟨0,0,0⟩=A at*;generalize bdL CR b ⟨0,0,0⟩=B at*;simp only[DJ]at ha hb;generalize SX a=xa at*;generalize SX b=xb at*;generalize SX l=xl at*;generalize BT a=ya at*;generalize BT b=yb at*;generalize BT l=yl at*
   have key:∀(X:B3) (Y:Int),0<=X.t->0<=Y->mn X.t 67108865=mn Y 67108865->0<=(bdL CR l (Qe CR p X)).t/\mn (bdL CR l (Qe CR p X)).t 67108865=mn (p.t+(Y+yl)) 67108865:=by
    intro X Y hX hY he;have:=il (Qe CR p X) (by simp only[Qe,CR];unfold mn;split<;>omega);refine⟨this.1,?_⟩;rw[this.2];simp only[Qe,CR];simp only[mn]at he⊢
    (repeat' split at he)<;>(repeat' split)<;>omega
   unfold bd1;by_cases h4:d=4
   .obtain⟨hn0,hn1⟩:=hn h4;rw[N8 h4,N8 h4];have e:=X1y (C:=67108865) hn0 ha.1 (show 0<=ya by omega) hc (NP 0) ha.2;simp only[DJ]at e;exact key _ _ (D6 hn0 (show 0<=c+A.t by omega)) (D6 hn0 (show 0<=c+ya by omega)) e
   rw[N7 h4,N7 h4];by_cases h3:d=3
   .rw[N8 h3,N8 h3]
    have e:mn (c+mx A.t B.t) 67108865=mn (c+mx ya yb) 67108865:=by
     obtain⟨a0,a1⟩:=ha;obtain⟨b0,b1⟩:=hb;clear key il;simp only[mn,mx]at*
     (repeat' split at a1)<;>(repeat' split at b1)<;>(repeat' split)<;>omega
    exact key _ _ (by simp only[mx];split<;>omega) (by unfold mx;split<;>omega) e
   rw[N7 h3,N7 h3];split
   .exact key _ _ hc hc rfl
   exact key _ _ hc hc rfl
theorem X9J {l:List St} (h:okL l=true) (hb:BT l<=67108864):(spL l (0,0)).1=SX l:=by
 have h1:=WZ l h;have h2:=X93 l (0,0) h (NP 0);simp only[DJ,mn]at h2;obtain⟨h3,h4⟩:=h2
 (repeat' split at h4)<;>omega
theorem X37 (vars:List Vr) (hv:List Int):∀(a b:List St) (s:Sta),Q7 vars hv (a++b) s=Q7 vars hv b (Q7 vars hv a s)
 |[],b,s=>by simp[Q7]
 | .mk d c v n t x y bs::a,b,s=>by
   simp only[List.cons_append,Q7];exact X37 vars hv a b _
theorem vT_lit (vs:List Int) (n:Int) (ks:List Tm):vT vs (.mk 0 n ks)=n:=by
 simp[vT,valN]
theorem wr_id {x:Int} (h0:0<=x) (h1:x<=1000000000000):wr x=x:=Xa
theorem Zl {s:Sta} {c:Int} (h0:0<=s.time) (hc:0<=c) (h1:s.time+c<=1000000000000):(tick s c).time=s.time+c:=wr_id (by omega) h1
theorem XdW {vars:List Vr} {hv:List Int} {d v n:Int} {t:Tm} {bs:List Int} {s:Sta} (h:d≠6):(QV vars hv d v n t bs s).time=s.time:=by
 unfold QV
 (repeat' split)<;>first|rfl|(exact absurd (by assumption) h)
theorem rnd_once {c:Int} {t:Tm} {body:Sta->Sta} (hc:0<=c) (ht:∀vs,vT vs t=0) (n:Int) (s:Sta) (h0:0<=s.time) (hn:0<=n) (h1:s.time+WE n c<=1000000000000):(X0S c t body n.toNat s).time=s.time+WE n c:=by
 unfold WE at*
 match hk:n.toNat with
 | 0=>
   rw[N7 (by omega)];simp[X0S]
 | k+1=>
   rw[N8 (by omega)]at h1⊢;simp only[X0S,N8 (ht _)];exact Zl h0 hc h1
theorem X6p {n x:Int} (hn:0<n) (hx:0<=x):x<=n*x:=by
 have:=Int.mul_le_mul_of_nonneg_right (show(1:Int)<=n by omega) hx;omega
structure Inn (vars:List Vr) (hv:List Int) (a a':List St):Prop where
 ok:okL a'=true
 run:BT a'<=67108864->∀s:Sta,0<=s.time->s.time+SX a'<=1000000000000->
  (Q7 vars hv a' s).time=s.time+SX a'/\s.time<=(Q7 vars hv a s).time/\(Q7 vars hv a s).time<=s.time+SX a'
section
variable {vars:List Vr} {hv:List Int}
theorem Xcd {c:Int} {t:Tm} {body:Sta×(Nat->Nat)->Sta×(Nat->Nat)} {bodyF:Sta->Sta} (h:∀x,(body x).1=bodyF x.1):∀(k:Nat) (x:Sta×(Nat->Nat)),(X0N c t body k x).1=X0S c t bodyF k x.1
 |0,x=>rfl
 | k+1,x=>by
   simp only[X0N,X0S];split
   .rfl
   rw[Xcd h k,h]
theorem X5P:∀l:List St,∀(o:Nat) (x:Sta×(Nat->Nat)),(stD vars hv (fun _=>true) l o x).1=Q7 vars hv l x.1:=by
 apply St.lind
 .intro o x;simp[stD,Q7]
 intro d c v n t a b bs l ia ib il o x;simp only[stD,Q7];rw[il];congr 1;by_cases h4:d=4
 .rw[N8 h4,N8 h4];exact Xcd (fun x=>ia _ x) _ _
 rw[N7 h4,N7 h4];by_cases h3:d=3
 .rw[N8 h3,N8 h3];split
  .rw[ib]
  rw[ia]
 rw[N7 h3,N7 h3];simp[X1P]
end
theorem shB_6 {vars:List Vr} {nh:Nat} {v n:Int} {t:Tm} {la lb_:Nat} {bs:List Int} {last:Bool} (h:shB vars nh 6 v n t la lb_ bs last=true):la=0/\lb_=0/\last=true:=by
 unfold shB at h;simp only[show ¬(6:Int)=0 by decide,show ¬(6:Int)=1 by decide,show ¬(6:Int)=2 by decide,show ¬(6:Int)=3 by decide,show ¬(6:Int)=4 by decide,show ¬(6:Int)=5 by decide,Nj,Nc,N3,N5]at h;exact⟨h.1.1.1.1.1.1,h.1.1.1.1.1.2,h.1.1.1.1.2⟩
theorem X3q {vars:List Vr} {nh:Nat}:∀l:List St,ssC vars nh l false=0->noS l=true
 |[],_=>by simp[noS]
 | .mk d c v n t a b bs::l,h=>by
   obtain⟨hs,_,_,ha,hb,hl⟩:=X2F h;simp only[noS,X3q a ha,X3q b hb,X3q l hl,Bool.and_true,N5];intro hd;subst hd;have:=(shB_6 hs).2.2;simp at this
theorem X71 {vars:List Vr} {nh:Nat}:∀l:List St,ssC vars nh l true=0->noS l=true\/∃m c v n t bs,l=m++[.mk 6 c v n t [] [] bs]/\noS m=true
 |[],_=>.inl (by simp[noS])
 | .mk d c v n t a b bs::l,h=>by
   obtain⟨hs,_,_,ha,hb,hl⟩:=X2F h;by_cases hd:d=6
   .subst hd;obtain⟨h1,h2,h3⟩:=shB_6 hs;have e1:=Ns h1;have e2:=Ns h2;have e3:l=[]:=by simpa using h3
    subst e1 e2 e3;exact .inr ⟨[],c,v,n,t,bs,rfl,by simp[noS]⟩
   rcases X71 l hl with h1|⟨m,c',v',n',t',bs',rfl,hm⟩
   .exact .inl (by simp only[noS,X3q a ha,X3q b hb,h1,Bool.and_true,N5];exact hd)
   exact .inr ⟨.mk d c v n t a b bs::m,c',v',n',t',bs',rfl,by simp only[noS,X3q a ha,X3q b hb,hm,Bool.and_true,N5];exact hd⟩
theorem X5U:∀(l:List Int) (t best:Int),t<=best->X0p l t best true<=best/\t<=X0p l t best true/\(X0p l t best true=best\/X0p l t best true∈l)/\∀b∈l,t<=b->X0p l t best true<=b
 |[],t,best,h=>by simp[X0p,h]
 | x ::l,t,best,h=>by
   simp only[X0p];split
   .rename_i hx;have hx2:x<best:=hx.2.resolve_left (by decide);have ih:=X5U l t x hx.1;refine⟨by omega,ih.2.1,?_,?_⟩
    .rcases ih.2.2.1 with e|e
     .exact .inr (by rw[e];exact List.mem_cons_self)
     exact .inr (NO _ e)
    intro b hb hbt;rcases Ng.1 hb with rfl|h1
    .exact ih.1
    exact ih.2.2.2 b h1 hbt
   rename_i hx;have ih:=X5U l t best h;refine⟨ih.1,ih.2.1,?_,?_⟩
   .rcases ih.2.2.1 with e|e
    .exact .inl e
    exact .inr (NO _ e)
   intro b hb hbt;rcases Ng.1 hb with rfl|h1
   .have:¬b<best:=fun hlt=>hx ⟨hbt,.inr hlt⟩;have:=ih.1;omega
   exact ih.2.2.2 b h1 hbt
theorem X7R:∀(l:List Int) (t best:Int),((∀b∈l,b<t)/\X0p l t best false=best)\/(X0p l t best false∈l/\t<=X0p l t best false/\∀b∈l,t<=b->X0p l t best false<=b)
 |[],t,best=>.inl ⟨by simp,by simp[X0p]⟩
 | x ::l,t,best=>by
   simp only[X0p];split
   .rename_i hx;have ih:=X5U l t x hx.1;refine .inr ⟨?_,ih.2.1,?_⟩
    .rcases ih.2.2.1 with e|e
     .rw[e];exact List.mem_cons_self
     exact NO _ e
    intro b hb hbt;rcases Ng.1 hb with rfl|h1
    .exact ih.1
    exact ih.2.2.2 b h1 hbt
   rename_i hx
   have hlt:x<t:=by
    refine Int.not_le.1 fun hle=>hx ⟨hle,.inl trivial⟩
   rcases X7R l t best with⟨h1,h2⟩|⟨h1,h2,h3⟩
   .refine .inl ⟨fun b hb=>?_,h2⟩;rcases Ng.1 hb with rfl|h
    .exact hlt
    exact h1 b h
   refine .inr ⟨NO _ h1,h2,fun b hb hbt=>?_⟩;rcases Ng.1 hb with rfl|h
   .omega
   exact h3 b h hbt
theorem BT_of {l:List St} {vars:List Vr} {nh:Nat} (h:ssC vars nh l true=0) (ho:X6X l=false):BT l<=67108864:=by
 have ht:=(X73 ho).2.2;have:=X6K l ⟨0,0,0⟩ (X0k _ _ h) (NP 0);simp only[DJ,mn]at this;obtain⟨h1,h2⟩:=this
 (repeat' split at h2)<;>omega
def LX:List St->Int
 |[]=>0
 | .mk d c _ n (.mk o tn _) a b _::l=>(if d=3 then c+mx (LX a) (LX b)else if d=4 then(if o≠0 then n*(c+LX a)else if tn≠0 then n*(c+LX a)else WE n c)else c)+LX l
theorem X18:∀l:List St,okL l=true->0<=LX l/\LX l<=BT l
 |[],_=>by simp[LX,BT]
 | .mk d c v n (.mk o tn ks) a b bs::l,h=>by
   simp only[okL,okS,N3,Nf,N5]at h;have ha:=X18 a h.1.2.2.1;have hb:=X18 b h.1.2.2.2;have hl:=X18 l h.2;have hc:=h.1.1.1;have hn:d=4->0<=n:=fun h4=>by omega
   clear h;simp only[LX,BT];by_cases h3:d=3
   .rw[N8 h3,N7 (by omega),N8 h3];unfold mx
    (repeat' split)<;>omega
   rw[N7 h3];by_cases h4:d=4
   .have hn:=hn h4;rw[N8 h4,N8 h4];have ho:=X4o hn hc (x:=BT a) (by omega);have h1:=Int.mul_le_mul_of_nonneg_left (show c+LX a<=c+BT a by omega) hn;have h2:=D6 hn (show 0<=c+LX a by omega);split
    .omega
    split<;>omega
   rw[N7 h4,N7 h4,N7 h3];omega
theorem X8e:∀(l:List St) (p:Int×Int),okL l=true->0<=p.2->0<=(spL l p).2/\mn (spL l p).2 67108865=mn (p.2+LX l) 67108865
 |[],p,_,hp=>by simp[spL,LX,hp]
 | .mk d c v n (.mk o tn ks) a b bs::l,p,h,hp=>by
   have hbt:=X18 a (by simp only[okL,okS,N3,Nf,N5]at h;exact h.1.2.2.1);have hbu:=X18 b (by simp only[okL,okS,N3,Nf,N5]at h;exact h.1.2.2.2);have hbl:=X18 l (by simp only[okL,N3]at h;exact h.2);simp only[okL,okS,N3,Nf,N5]at h;have ha:=X8e a (0,0) h.1.2.2.1 (NP 0);have hb:=X8e b (0,0) h.1.2.2.2 (NP 0);have il:=fun q=>X8e l q h.2;have hc:=h.1.1.1;have hc2:=h.1.1.2.1;have hn:d=4->0<=n/\n<=4096:=fun h4=>by omega
   clear h;simp only[spL,spS,LX,X5H hc (show c<=67108865 by omega)];generalize(spL b (0,0)).2=B at*;generalize(spL b (0,0)).1=B2 at*;generalize(spL a (0,0)).2=A at*;generalize(spL a (0,0)).1=A2 at*;simp only[DJ]at ha hb;generalize LX a=xa at*;generalize LX b=xb at*;generalize LX l=xl at*;generalize BT a=ya at*;generalize BT b=yb at*;generalize BT l=yl at*
   have key:∀(X Y:Int) (q:Int),0<=X->0<=Y->mn X 67108865=mn Y 67108865->0<=(spL l (q,mn (p.2+X) 67108865)).2/\mn (spL l (q,mn (p.2+X) 67108865)).2 67108865=mn (p.2+(Y+xl)) 67108865:=by
    intro X Y q hX hY he;have:=il (q,mn (p.2+X) 67108865) (by simp only[mn];split<;>omega);refine⟨this.1,?_⟩;rw[this.2];simp only[mn]at he⊢
    (repeat' split at he)<;>(repeat' split)<;>omega
   by_cases h3:d=3
   .simp only[N8 h3]
    have e:mn (c+mx A B) 67108865=mn (c+mx xa xb) 67108865:=by
     obtain⟨a0,a1⟩:=ha;obtain⟨b0,b1⟩:=hb;clear key il;simp only[mn,mx]at*
     (repeat' split at a1)<;>(repeat' split at b1)<;>(repeat' split)<;>omega
    exact key _ _ _ (by unfold mx;split<;>omega) (by unfold mx;split<;>omega) e
   simp only[N7 h3];by_cases h4:d=4
   .obtain⟨hn0,hn1⟩:=hn h4;simp only[N8 h4,X5H hn0 hn1];have ho:=X4o hn0 hc (x:=xa) (by omega);have hm:=D6 hn0 (show 0<=c+A by omega);have hm':=D6 hn0 (show 0<=c+xa by omega);have e:=X1y (C:=67108865) hn0 ha.1 (show 0<=xa by omega) hc (NP 0) ha.2;simp only[DJ]at e;by_cases h5:o≠0
    .simp only[N8 h5];exact key _ _ _ hm hm' e
    simp only[N7 h5];by_cases h6:tn≠0
    .simp only[N8 h6];exact key _ _ _ hm hm' e
    simp only[N7 h6];exact key _ _ _ ho.1 ho.1 rfl
   simp only[N7 h4];exact key _ _ _ hc hc rfl
theorem LX_sp {l:List St} (h:okL l=true) (hb:BT l<=67108864):(spL l (0,0)).2=LX l:=by
 have h1:=X18 l h;have h2:=X8e l (0,0) h (NP 0);simp only[DJ,mn]at h2;obtain⟨h3,h4⟩:=h2
 (repeat' split at h4)<;>omega
section
variable {c A lo hi:Int} {t:Tm} {body:Sta->Sta}
theorem XcR (hc:0<=c) (h0:0<=lo) (h1:hi<=A) (hA:0<=A) (hh:0<=hi) (hb:∀s:Sta,0<=s.time->s.time+A<=1000000000000->s.time+lo<=(body s).time/\(body s).time<=s.time+hi):
  ∀(k:Nat) (s:Sta),0<=s.time->s.time+k*(c+A)<=1000000000000->s.time+WE k c<=(X0S c t body k s).time/\(X0S c t body k s).time<=s.time+k*(c+hi)
 |0,s,_,_=>by simp[X0S,WE]
 | k+1,s,ht,hm=>by
   simp only[X0S];have e1:((k+1:Nat):Int)*(c+A)=k*(c+A)+(c+A):=by rw[show((k+1:Nat):Int)=(k:Int)+1 by omega,Int.add_mul,Int.one_mul]
   have e2:((k+1:Nat):Int)*(c+hi)=k*(c+hi)+(c+hi):=by rw[show((k+1:Nat):Int)=(k:Int)+1 by omega,Int.add_mul,Int.one_mul]
   have ho:WE ((k+1:Nat):Int) c=c:=by unfold WE;rw[N8 (by omega)]
   have hk:=D6 (Int.natCast_nonneg k) (show 0<=c+A by omega);have hk2:=D6 (Int.natCast_nonneg k) (show 0<=c+hi by omega);have ih:=XcR hc h0 h1 hA hh hb k (body (tick s c));rw[e1]at hm;rw[e2,ho];have hon:0<=WE (k:Int) c:=by unfold WE;split<;>omega
   have hle:(k:Int)*(c+hi)<=k*(c+A):=Int.mul_le_mul_of_nonneg_left (by omega) (Int.natCast_nonneg k);obtain⟨K,hK⟩:∃K,(k:Int)*(c+A)=K:=⟨_,rfl⟩;obtain⟨K2,hK2⟩:∃K,(k:Int)*(c+hi)=K:=⟨_,rfl⟩;rw[hK]at hm hk ih hle;rw[hK2]at hk2 ih hle⊢;have t1:=Zl (s:=s) (c:=c) ht hc (by omega);split
   .omega
   have t2:=hb (tick s c) (by omega) (by omega);have:=ih (by omega) (by omega);omega
theorem XcG (hc:0<=c) (h0:0<=lo) (hl:lo<=A) (hA:0<=A) (hn:∀vs,vT vs t≠0) (hb:∀s:Sta,0<=s.time->s.time+A<=1000000000000->s.time+lo<=(body s).time/\(body s).time<=s.time+A):
  ∀(k:Nat) (s:Sta),0<=s.time->s.time+k*(c+A)<=1000000000000->s.time+k*(c+lo)<=(X0S c t body k s).time
 |0,s,_,_=>by simp[X0S]
 | k+1,s,ht,hm=>by
   simp only[X0S,N7 (hn _)];have e1:((k+1:Nat):Int)*(c+A)=k*(c+A)+(c+A):=by rw[show((k+1:Nat):Int)=(k:Int)+1 by omega,Int.add_mul,Int.one_mul]
   have e2:((k+1:Nat):Int)*(c+lo)=k*(c+lo)+(c+lo):=by rw[show((k+1:Nat):Int)=(k:Int)+1 by omega,Int.add_mul,Int.one_mul]
   have hk:=D6 (Int.natCast_nonneg k) (show 0<=c+A by omega);have ih:=XcG hc h0 hl hA hn hb k (body (tick s c));rw[e1]at hm;rw[e2];obtain⟨K,hK⟩:∃K,(k:Int)*(c+A)=K:=⟨_,rfl⟩;obtain⟨K2,hK2⟩:∃K,(k:Int)*(c+lo)=K:=⟨_,rfl⟩;rw[hK]at hm hk ih;rw[hK2]at ih⊢;have t1:=Zl (s:=s) (c:=c) ht hc (by omega);have t2:=hb (tick s c) (by omega) (by omega);have:=ih (by omega) (by omega);omega
end
theorem X2s (vars:List Vr) (hv:List Int):∀l:List St,noS l=true->okL l=true->∀s:Sta,0<=s.time->s.time+BT l<=1000000000000->s.time+SX l<=(Q7 vars hv l s).time/\(Q7 vars hv l s).time<=s.time+LX l
 |[],_,_,s,h0,h1=>by simp[Q7,SX,LX]
 | .mk d c v n (.mk o tn ks) a b bs::l,hS,hok,s,h0,h1=>by
   simp only[noS,N3,N5]at hS;have hsl:=WZ l (by simp only[okL,N3]at hok;exact hok.2);have hll:=X18 l (by simp only[okL,N3]at hok;exact hok.2);simp only[okL,okS,N3,Nf,N5]at hok;have ia:=X2s vars hv a hS.2.1 hok.1.2.2.1;have ib:=X2s vars hv b hS.2.2.1 hok.1.2.2.2;have il:=X2s vars hv l hS.2.2.2 hok.2;have sa:=WZ a hok.1.2.2.1;have la:=X18 a hok.1.2.2.1;have sb:=WZ b hok.1.2.2.2;have lb:=X18 b hok.1.2.2.2;have hc:=hok.1.1.1;have hn:d=4->0<=n/\n<=4096:=fun h4=>by omega
   have hd6:=hS.1;clear hok hS;simp only[Q7,SX,LX,BT]at h1⊢
   have key:∀(s1:Sta) (x y z:Int),0<=x->y<=z->s.time+(z+BT l)<=1000000000000->s.time+x<=s1.time->s1.time<=s.time+y->s.time+(x+SX l)<=(Q7 vars hv l s1).time/\(Q7 vars hv l s1).time<=s.time+(y+LX l):=by
    intro s1 x y z hx hyz hz h2 h3;have:=il s1 (by omega) (by omega);omega
   by_cases h4:d=4
   .obtain⟨hn0,hn1⟩:=hn h4;have h3:¬d=3:=by omega
    simp only[N8 h4,N7 h3]at h1⊢;have hnn:((n.toNat:Nat):Int)=n:=by omega
    have hb':∀s:Sta,0<=s.time->s.time+BT a<=1000000000000->s.time+SX a<=(Q7 vars hv a s).time/\(Q7 vars hv a s).time<=s.time+LX a:=ia;have hm0:=D6 hn0 (show 0<=c+BT a by omega);have hml:=Int.mul_le_mul_of_nonneg_left (show c+LX a<=c+BT a by omega) hn0;have hms:=D6 hn0 (show 0<=c+SX a by omega);have ho:=X4o hn0 hc (x:=BT a) (by omega);have r1:=XcR (t:=.mk o tn ks) (A:=BT a) hc sa.1 la.2 (by omega) la.1 hb' n.toNat s h0 (by rw[hnn];omega);rw[hnn]at r1;by_cases h5:o≠0
    .simp only[N8 h5];exact key _ _ _ _ ho.1 hml h1 r1.1 r1.2
    simp only[N7 h5];have h5:o=0:=Decidable.not_not.1 h5;subst h5;by_cases h6:tn≠0
    .simp only[N8 h6];have r2:=XcG (t:=.mk 0 tn ks) (body:=Q7 vars hv a) (A:=BT a) hc sa.1 sa.2 (by omega) (fun vs=>by rw[vT_lit];exact h6) (fun s x y=>by have:=hb' s x y;omega) n.toNat s h0 (by rw[hnn];omega);rw[hnn]at r2;exact key _ _ _ _ hms hml h1 r2 r1.2
    simp only[N7 h6];have h6:tn=0:=Decidable.not_not.1 h6;have r3:=rnd_once (t:=.mk 0 tn ks) (body:=Q7 vars hv a) hc (fun vs=>by rw[vT_lit];exact h6) n s h0 hn0 (by omega);exact key _ _ _ _ ho.1 ho.2 h1 (by omega) (by omega)
   by_cases h3:d=3
   .simp only[N7 h4,N8 h3]at h1⊢;have hmx:BT a<=mx (BT a) (BT b)/\BT b<=mx (BT a) (BT b):=by unfold mx;split<;>omega
    have t1:=Zl (s:=s) (c:=c) h0 hc (by omega);have hmn:mn (SX a) (SX b)<=SX a/\mn (SX a) (SX b)<=SX b/\0<=mn (SX a) (SX b):=by unfold mn;split<;>omega
    have hml:LX a<=mx (LX a) (LX b)/\LX b<=mx (LX a) (LX b)/\mx (LX a) (LX b)<=mx (BT a) (BT b):=by unfold mx;(repeat' split)<;>omega
    split
    .have:=ib (tick s c) (by omega) (by omega);exact key _ _ _ _ (by omega) (by omega) h1 (by omega) (by omega)
    have:=ia (tick s c) (by omega) (by omega);exact key _ _ _ _ (by omega) (by omega) h1 (by omega) (by omega)
   simp only[N7 h4,N7 h3]at h1⊢;have t1:=Zl (s:=s) (c:=c) h0 hc (by omega);have t2:=XdW (vars:=vars) (hv:=hv) (d:=d) (v:=v) (n:=n) (t:=.mk o tn ks) (bs:=bs) (s:=tick s c) hd6;exact key _ _ _ _ hc (NP _) h1 (by omega) (by omega)
def X8l (l:List (Nat×Int)):List (List CD):=l.map fun p=>[iC (p.1:Int),iC p.2]
set_option maxHeartbeats 32000000 in
theorem Xbu (vars:List Vr) (hats:List Ht) (body:List St) (i j:Inp) (n V M:Nat) (a b:List Int) (S1 S2:Int)
  (ck:∀d,Con Tryz.prog 12 false [] (.v (lb true)) none d)
  (cf:∀d,Con Tryz.prog 25 true [.agg [.c (.sl 5 (Xk vars)),.c (.sl 6 (Xn hats)),.c (.sl 10 (X7 body))],li 4096,li 4096,li 256] (.v (lb true)) none d)
  (cs1:∀d,Con Tryz.prog 26 false [lV vars,.agg [.c (.sl 1 (X9 i.s)),.c (.sl 1 (X9 i.p)),.c (.sl 1 (X9 i.r))]] (.tup [lI a,li S1]) none d)
  (cs2:∀d,Con Tryz.prog 26 false [lV vars,.agg [.c (.sl 1 (X9 j.s)),.c (.sl 1 (X9 j.p)),.c (.sl 1 (X9 j.r))]] (.tup [lI b,li S2]) none d)
  (csz:∀d,Con Tryz.prog 16 true [lS body] (.v (li n)) none d)
  (hV:vars.length=V) (hM:n+V+1=M) (hM2:M<=1000000)
  (hm:S1=0->S2=0->∃(Z:List Bool) (ED:List (List CD)) (p1 p2:List (Nat×Int)) (t:Int) (m:List Int),Z.length=M/\
    (∀d,Con Tryz.prog 23 false [.agg [.c (.sl 5 (Xk vars)),.c (.sl 6 (Xn hats)),.c (.sl 10 (X7 body))]] (.tup [.agg [.c (iC n),.c (iC V),.c (.sl 3 ED)],li 0]) none d)/\
    (∀d,Con Tryz.prog 28 false [.agg [.c (iC n),.c (iC V),.c (.sl 3 ED)],lI [(n:Int)+V]] (.tup [lBl Z,li 0]) none d)/\
    (∀d,Con Tryz.prog 29 false [.agg [.c (.sl 5 (Xk vars)),.c (.sl 6 (Xn hats)),.c (.sl 10 (X7 body))],lI a] (.tup [.one (.c (.sl 2 (X8l p1))),li t]) none d)/\
    (∀d,Con Tryz.prog 30 false [.agg [.c (.sl 5 (Xk vars)),.c (.sl 6 (Xn hats)),.c (.sl 10 (X7 body))],lI a,lI b,lBl Z,li n] (.v (lI m)) none d)/\
    (∀d,Con Tryz.prog 29 false [.agg [.c (.sl 5 (Xk vars)),.c (.sl 6 (Xn hats)),.c (.sl 10 (X7 body))],lI m] (.tup [.one (.c (.sl 2 (X8l p2))),li t]) none d)) (d:Nat):
  Con Tryz.prog 7 true [.agg [.c (.sl 5 (Xk vars)),.c (.sl 6 (Xn hats)),.c (.sl 10 (X7 body))],.agg [.c (.sl 1 (X9 i.s)),.c (.sl 1 (X9 i.p)),.c (.sl 1 (X9 i.r)),.c (.sl 1 (X9 j.s)),.c (.sl 1 (X9 j.p)),.c (.sl 1 (X9 j.r))]] (.v (lb true)) none d:=by
 obtain⟨is,ip,ir⟩:=i;obtain⟨js,jp,jr⟩:=j;simp only at cs1 cs2⊢;have hw1:IntKind.i64.wrap ((n:Int)+V)=n+V:=Xa;have hw2:IntKind.i64.wrap ((n:Int)+V+1)=M:=by rw[show(n:Int)+V+1=(M:Int) by omega];exact Xa
 refine X5 Tryz.func7 ?_;simp only[Tryz.f7];refine X2 ?_;refine X0<|X0<|(Xo [⟨false,.v (lb true),none⟩] ?_ ?_)
 .first|exact ck _|exact trivial|simpa[*]using ck _
 refine(Xb rfl (fun h2=>?_) fun h2=>?_)
 .exact absurd h2 (by simp)
 simp only at h2;refine X0<|X0<|(Xo [⟨true,.v (lb true),none⟩] ?_ ?_)
 .first|exact cf _|exact trivial|simpa[*]using cf _
 refine(Xb rfl (fun h6=>?_) fun h6=>?_)
 .exact absurd h6 (by simp)
 simp only at h6;refine Xh [⟨false,.tup [lI a,li S1],none⟩] ?_ ?_
 .first|exact cs1 _|exact trivial|simpa[*]using cs1 _
 refine Xh [⟨false,.tup [lI b,li S2],none⟩] ?_ ?_
 .first|exact cs2 _|exact trivial|simpa[*]using cs2 _
 refine X0<|X0<|X1 ?_;refine(Xb rfl (fun h12=>?_) fun h12=>?_)
 ·simp only[BN]at h12;refine X2 ?_;exact Xc
 simp only[BN]at h12;have hz:S1=0/\S2=0:=by simpa using h12
 obtain⟨hz1,hz2⟩:=hz;obtain⟨Z,ED,p1,p2,t,m,hZl,cb,cB,cr1,co,cr2⟩:=hm hz1 hz2;subst hz1;subst hz2;have hns:X9 [(n:Int)+V]=[[iC ((n:Int)+V)]]:=rfl;simp only[lI,hns]at cB;clear h12 hm cs1 cs2 cf ck;refine Xh [⟨true,.v (li n),none⟩] ?_ ?_
 .first|exact csz _|exact trivial|simpa[*]using csz _
 refine Xh [⟨false,.tup [.agg [.c (iC n),.c (iC V),.c (.sl 3 ED)],li 0],none⟩] ?_ ?_
 .first|exact cb _|exact trivial|simpa[*]using cb _
 refine X0<|(X5J 7 [] [⟨false,.tup [lBl Z,li 0],none⟩] (by simp[*];rfl) trivial (Qy 60 rfl) (by simp[*];first|exact⟨rfl,Iff.rfl⟩|exact⟨rfl,trivial⟩|rfl) ?_ ?_)
 .first|exact cB _|simpa using cB _
 refine X0<|X0<|X1 ?_;refine(Xb rfl (fun h19=>?_) fun h19=>?_)
 .exact Bool.noConfusion h19
 simp only at h19;refine Xh [⟨false,.tup [.one (.c (.sl 2 (X8l p1))),li t],none⟩] ?_ ?_
 .first|exact cr1 _|exact trivial|simpa[*]using cr1 _
 refine X0<|(XU [⟨false,.v (lI m),none⟩,⟨false,.tup [.one (.c (.sl 2 (X8l p2))),li t],none⟩] (by kernel_rfl) (by kernel_rfl) (by rfl) (by simp[*];first|exact⟨rfl,Iff.rfl⟩|exact⟨rfl,trivial⟩|rfl) ?_ ?_)
 .first|exact⟨co _,cr2 _⟩|exact trivial|(repeat' first|exact trivial|exact co _|exact cr2 _|apply And.intro)
 refine X2 ?_;exact Xc
theorem times_eq {f:Fl} (h:XR f=0):(bdL CP f.body ⟨0,0,0⟩).t=BT f.body/\(bdL CR f.body ⟨0,0,0⟩).t=BT f.body/\0<=BT f.body/\BT f.body<=67108864:=by
 obtain⟨_,_,_,hs,ho⟩:=Q6 h;have hok:=X0k _ _ hs;have h1:=BT_of hs ho;have h0:=WZ _ hok;have h2:=X6K f.body ⟨0,0,0⟩ hok (NP 0);have h3:=X4y X36 X61 (by decide) f.body _ _ hok (Z0 X61) (Z0 X36) rfl;unfold X0B at h3;simp only[B3.mk.injEq]at h3;have h4:=h3.2.2;simp only[DJ]at h2;generalize(bdL CP f.body ⟨0,0,0⟩).t=p at*;generalize(bdL CR f.body ⟨0,0,0⟩).t=q at*;generalize BT f.body=y at*;obtain⟨h5,h6⟩:=h2;clear h3 hs ho
 have e1:q=y:=by
  simp only[mn]at h6
  (repeat' split at h6)<;>omega
 subst e1
 have e2:p=q:=by
  simp only[mn,CR]at h4
  (repeat' split at h4)<;>omega
 exact⟨e2,rfl,by omega,h1⟩
def laS:List St->Bool
 |[]=>true
 | .mk d _ _ _ _ a b _::l=>noS a&&(noS b&&((decide (d≠6)||l.isEmpty)&&laS l))
theorem X4j:∀l:List St,noS l=true->laS l=true
 |[],_=>rfl
 | .mk d c v n t a b bs::l,h=>by
   simp only[noS,N3,N5]at h;simp only[laS,N3,Nf,N5];exact⟨h.2.1,h.2.2.1,.inl h.1,X4j l h.2.2.2⟩
theorem Xab {c v n:Int} {t:Tm} {bs:List Int}:∀m:List St,noS m=true->laS (m++[.mk 6 c v n t [] [] bs])=true
 |[],_=>by simp[laS,noS]
 | .mk d c v n t a b bs::l,h=>by
   simp only[noS,N3,N5]at h;simp only[List.cons_append,laS,N3,Nf,N5];exact⟨h.2.1,h.2.2.1,.inl h.1,Xab l h.2.2.2⟩
theorem cnd_even {d c v n:Int} {t:Tm} {a b:List St} {bs:List Int} (hok:okL [.mk d c v n t a b bs]=true) (hB:BT [.mk d c v n t a b bs]<=67108864) (h:X32 (.mk d c v n t a b bs)=false):LX [.mk d c v n t a b bs]=SX [.mk d c v n t a b bs]:=by
 obtain⟨o,tn,ks⟩:=t;simp only[okL,okS,N3,Nf,N5]at hok;have la:=WZ a hok.1.2.2.1;have lb:=WZ b hok.1.2.2.2;have h0:=hok.1.1.1;have hn:d=4->0<=n/\n<=4096:=fun h4=>by omega
 simp only[BT,Int.add_zero]at hB;simp only[X32,cndQ,NR,NA,Nh,Bool.not_eq_false',N3,N5]at h;simp only[LX,SX,Int.add_zero];by_cases h3:d=3
 .rw[N8 h3,N8 h3];rw[N7 (by omega),N8 h3]at hB;have hm:BT a<=67108864/\BT b<=67108864:=by unfold mx at hB;split at hB<;>omega
  obtain⟨e1,e2,e3⟩:=h.1.resolve_left (by simpa using h3);rw[X9J hok.1.2.2.1 hm.1,LX_sp hok.1.2.2.1 hm.1]at e1;rw[X9J hok.1.2.2.2 hm.2,LX_sp hok.1.2.2.2 hm.2]at e2;rw[X9J hok.1.2.2.1 hm.1,X9J hok.1.2.2.2 hm.2]at e3;unfold mx mn
  (repeat' split)<;>omega
 rw[N7 h3,N7 h3];by_cases h4:d=4
 .rw[N8 h4,N8 h4];rw[N8 h4]at hB;obtain⟨e1,e2⟩:=h.2.resolve_left (by simpa using h4);subst e2;simp only[ne_eq,not_true_eq_false,Nc];split
  .obtain⟨n0,n1⟩:=hn h4;by_cases hz:n=0
   .rw[hz];simp
   have:=X6p (n:=n) (x:=c+BT a) (by omega) (by omega);rw[X9J hok.1.2.2.1 (by omega),LX_sp hok.1.2.2.1 (by omega)]at e1;rw[e1]
  rfl
 rw[N7 h4,N7 h4]
section
variable {N:List Nd} {steps:List St} {vars:List Vr} {nh:Nat} {hv hw:List Int} {K:Nat->Bool} {ar:List Int} {nd:Nat->Bool}
def R3 (K nd:Nat->Bool) (n nv:Nat) (x y:Sta×(Nat->Nat)):Prop:=
 x.1.time=y.1.time/\x.1.vals.length=nv/\y.1.vals.length=nv/\∀v,v<nv->(K (x.2 v)=true\/n<=x.2 v)->(K (y.2 v)=true\/n<=y.2 v)->x.2 v=y.2 v/\((K (x.2 v)=true\/nd v=true)->x.1.vals[v]? =y.1.vals[v]?)
theorem R3.two {n nv:Nat} {x y:Sta×(Nat->Nat)} (h:R3 K nd n nv x y):R2 K nd n nv (⟨x.1.vals,[],x.1.time⟩,x.2) (⟨y.1.vals,[],y.1.time⟩,y.2):=⟨rfl,h.2.1,h.2.2.1,h.2.2.2⟩
theorem R3.tick {n nv:Nat} {x y:Sta×(Nat->Nat)} (h:R3 K nd n nv x y) (c:Int):R3 K nd n nv (tick x.1 c,x.2) (tick y.1 c,y.2):=⟨by simp only[YtdajceakaakdoaaGreat.tick,h.1],h.2.1,h.2.2.1,h.2.2.2⟩
theorem XbM {nv:Nat} (hs:Slc N steps nv ar K) (hne:Need N steps nv K nd hv hw) (hvn:vars.length=nv) {d c v n:Int} {t:Tm} {a b:List St} {bs:List Int} {o k:Nat} {x y:Sta×(Nat->Nat)} (hst:steps[o]? =some (.mk d c v n t a b bs)) (hwf:wfS vars nh (.mk d c v n t a b bs)=true) (hK:K o=true)
  {z:Nd} (hz:N[k]? =some z) (hz4:z.k≠4) (hza:z.a=(o:Int)) (hg:Gd N steps nv k x.2) (hg2:Gd N steps nv k y.2) (hr:R3 K nd steps.length nv x y):vT x.1.vals t=vT y.1.vals t:=
 X8n (x:=(⟨x.1.vals,[],x.1.time⟩,x.2)) (y:=(⟨y.1.vals,[],y.1.time⟩,y.2)) hs hne hvn hst hwf hK hz hz4 hza hg hg2 hr.two
theorem X9v {nv n:Nat} {c A:Int} {t:Tm} {G:(Nat->Nat)->Prop} {body body2:Sta×(Nat->Nat)->Sta×(Nat->Nat)} (hc:0<=c) (hA:0<=A) (ht:∀x y,G x.2->G y.2->R3 K nd n nv x y->vT x.1.vals t=vT y.1.vals t)
  (hb:∀x y,G x.2->G y.2->R3 K nd n nv x y->0<=x.1.time->x.1.time+A<=1000000000000->G (body x).2/\G (body2 y).2/\R3 K nd n nv (body x) (body2 y)/\x.1.time<=(body x).1.time/\(body x).1.time<=x.1.time+A):
  ∀(m:Nat) (x y:Sta×(Nat->Nat)),G x.2->G y.2->R3 K nd n nv x y->0<=x.1.time->x.1.time+m*(c+A)<=1000000000000->R3 K nd n nv (X0N c t body m x) (X0N c t body2 m y)
 |0,x,y,_,_,h,_,_=>h
 | m+1,x,y,hg,hg2,h,h0,h1=>by
   simp only[X0N];rw[ht x y hg hg2 h];have e1:((m+1:Nat):Int)*(c+A)=m*(c+A)+(c+A):=by rw[show((m+1:Nat):Int)=(m:Int)+1 by omega,Int.add_mul,Int.one_mul]
   rw[e1]at h1;have hk:=D6 (Int.natCast_nonneg m) (show 0<=c+A by omega);have t1:=Zl (s:=x.1) (c:=c) h0 hc (by omega);split
   .exact h.tick c
   obtain⟨h1,h2,h3,h4,h5⟩:=hb (tick x.1 c,x.2) (tick y.1 c,y.2) hg hg2 (h.tick c) (by simp only;omega) (by simp only;omega);simp only at h4 h5;exact X9v hc hA ht hb m _ _ h1 h2 h3 (by omega) (by omega)
theorem X5W {d v n:Int} {t:Tm} {bs:List Int} {s s':Sta} (h:s.time=s'.time):(QV vars hv d v n t bs s).time=(QV vars hw d v n t bs s').time:=by
 unfold QV;by_cases h0:d=0
 .simp only[N8 h0,h]
 by_cases h1:d=1
 .simp only[N7 h0,N8 h1,h]
 by_cases h2:d=5
 .simp only[N7 h0,N7 h1,N8 h2,h]
 by_cases h3:d=6
 .simp only[N7 h0,N7 h1,N7 h2,N8 h3,h]
 simp only[N7 h0,N7 h1,N7 h2,N7 h3,h]
theorem X6q {d c v n:Int} {t:Tm} {a b:List St} {bs:List Int} {o:Nat} {x:Sta×(Nat->Nat)} (hd:d≠6) (ha:noS a=true) (hb:noS b=true) (hok:okL [.mk d c v n t a b bs]=true) (h0:0<=x.1.time) (h1:x.1.time+BT [.mk d c v n t a b bs]<=1000000000000):
  x.1.time+SX [.mk d c v n t a b bs]<=(st1 vars hv (fun _=>true) d c v n t a b bs o x).1.time/\(st1 vars hv (fun _=>true) d c v n t a b bs o x).1.time<=x.1.time+LX [.mk d c v n t a b bs]:=by
 have h:=X2s vars hv [.mk d c v n t a b bs] (by simp[noS,hd,ha,hb]) hok x.1 h0 h1;rw[<-X5P (vars:=vars) (hv:=hv) [.mk d c v n t a b bs] o x,X8t]at h;exact h
theorem Xdd {l:List St} {o:Nat} {x:Sta×(Nat->Nat)} (hS:noS l=true) (hok:okL l=true) (h0:0<=x.1.time) (h1:x.1.time+BT l<=1000000000000):x.1.time<=(stD vars hv (fun _=>true) l o x).1.time/\(stD vars hv (fun _=>true) l o x).1.time<=x.1.time+BT l:=by
 have h:=X2s vars hv l hS hok x.1 h0 h1;have h2:=WZ l hok;have h3:=X18 l hok;rw[X5P];omega
theorem sim3 {nv:Nat} (hs:Slc N steps nv ar K) (hne:Need N steps nv K nd hv hw) (hvn:vars.length=nv) (hcT:∀(o:Nat) q,steps[o]? =some q->X32 q=true->K o=true):
  ∀l:List St,∀(o k after:Nat) (par:Int),Lies N steps vars nh l o k after->Sub ar o (arL l par o)->laS l=true->okL l=true->BT l<=67108864->∀x y,Gd N steps nv (Wg l k after) x.2->Gd N steps nv (Wg l k after) y.2->R3 K nd steps.length nv x y->
  0<=x.1.time->x.1.time+BT l<=1000000000000->R3 K nd steps.length nv (stD vars hv (fun _=>true) l o x) (stD vars hw (fun _=>true) l o y):=by
 apply St.lind
 .intro o k after par _ _ _ _ _ x y _ _ h _ _;rw[X0J,X0J];exact h
 intro d c v n t a b bs l ia ib il o k after par hL hA hS hok hB x y hg hg2 hr ht0 ht1;obtain⟨h1,h2⟩:=hL.cons;simp only[arL]at hA;obtain⟨s1,s2⟩:=hA.app;rw[X5M]at s2;rw[XbB]at s1;simp only[szS,St.then_,St.else_]at s1 s2;obtain⟨s3,s4⟩:=s1.cons;obtain⟨s5,s6⟩:=s4.app;rw[X0F]at s6;have hg:Gd N steps nv k x.2:=hg;have hg2:Gd N steps nv k y.2:=hg2;have hgm:=X4i (hv:=hv) (kO:=fun _=>true) h1 (X03 a) (X03 b) hg;have hgm2:=X4i (hv:=hw) (kO:=fun _=>true) h1 (X03 a) (X03 b) hg2;simp only[laS,N3,Nf,N5,De]at hS;obtain⟨nSa,nSb,hd6,hSl⟩:=hS;have hok1:okL [.mk d c v n t a b bs]=true:=by simp only[okL,N3]at hok⊢;exact⟨hok.1,trivial⟩
 have hokl:okL l=true:=by simp only[okL,N3]at hok;exact hok.2
 rw[X8j]at hB ht1;have hb1:=WZ _ hok1;have hb2:=X18 _ hok1;have hbl:=WZ l hokl;simp only[okL,okS,N3,Nf,N5]at hok;have hc:=hok.1.1.1;have oka:=hok.1.2.2.1;have okb:=hok.1.2.2.2;have sa:=WZ a oka;have sb:=WZ b okb;have hn:d=4->0<=n/\n<=4096:=fun h4=>by omega
 have hS2:R3 K nd steps.length nv (st1 vars hv (fun _=>true) d c v n t a b bs o x) (st1 vars hw (fun _=>true) d c v n t a b bs o y):=by
  have t1:=fun hh=>Zl (s:=x.1) (c:=c) ht0 hc hh;by_cases hk:K o=true
  .unfold st1;by_cases h4:d=4
   .rw[N8 h4,N8 h4];obtain⟨⟨z0,z01,z02,z03⟩,⟨z,z1,z2,z3,z4,z5⟩,hla,_⟩:=h1.loop h4;obtain⟨n0,n1⟩:=hn h4;have hB1:BT [.mk d c v n t a b bs]=n*(c+BT a):=by simp[BT,h4]
    have hnn:((n.toNat:Nat):Int)=n:=by omega
    by_cases hz:n=0
    .have:n.toNat=0:=by omega
     rw[this];exact hr
    have hpos:=X6p (n:=n) (x:=c+BT a) (by omega) (by omega);refine X9v (G:=Gd N steps nv (k+1)) (A:=BT a) hc (by omega) (fun x y g g2 r=>XbM hs hne hvn h1.st h1.wf hk z1 (by omega) z3 g g2 r) (fun x y g g2 r k0 k1=>?_) n.toNat x y (hg.pass z01 (by omega) z03 (W2 (by omega))) (hg2.pass z01 (by omega) z03 (W2 (by omega))) hr ht0 (by rw[hnn];omega);have gx:=g.pass z1 (by omega) z4 (W2 (by omega));have gy:=g2.pass z1 (by omega) z4 (W2 (by omega));have rt:=Xdd (vars:=vars) (hv:=hv) (o:=o+1) nSa oka k0 k1;exact⟨X03 a _ _ _ hla x gx,X03 a _ _ _ hla y gy,ia _ _ _ _ hla s5 (X4j a nSa) oka (by omega) x y gx gy r k0 k1,rt.1,rt.2⟩
   rw[N7 h4,N7 h4];by_cases h3:d=3
   .rw[N8 h3,N8 h3];obtain⟨⟨z,z1,z2,z3,z4,z5⟩,hla,hlb⟩:=h1.if_ h3;have hB1:BT [.mk d c v n t a b bs]=c+mx (BT a) (BT b):=by simp[BT,h3]
    have hmx:BT a<=mx (BT a) (BT b)/\BT b<=mx (BT a) (BT b):=by unfold mx;split<;>omega
    have t1:=t1 (by omega);rw[XbM hs hne hvn h1.st h1.wf hk z1 (by omega) z3 hg hg2 hr];split
    .exact ib _ _ _ _ hlb s6 (X4j b nSb) okb (by omega) (tick x.1 c,x.2) (tick y.1 c,y.2) (hg.pass z1 (by omega) z5 (W2 (by omega))) (hg2.pass z1 (by omega) z5 (W2 (by omega))) (hr.tick c) (by simp only;omega) (by simp only;omega)
    exact ia _ _ _ _ hla s5 (X4j a nSa) oka (by omega) (tick x.1 c,x.2) (tick y.1 c,y.2) (hg.pass z1 (by omega) z4 (W2 (by omega))) (hg2.pass z1 (by omega) z4 (W2 (by omega))) (hr.tick c) (by simp only;omega) (by simp only;omega)
   rw[N7 h3,N7 h3];obtain⟨z,z1,z2,z3,z4⟩:=h1.leaf h3 h4;have hT:=XbM hs hne hvn h1.st h1.wf hk z1 (by omega) z3 hg hg2 hr;have hdr:¬(d=1/\(fun _:Nat=>true) o=false):=by simp
   unfold X1P;rw[N7 hdr,N7 hdr];obtain⟨r1,r2,r3,r4⟩:=hr.tick c;simp only at r1 r2 r3 r4;have hvar:=h1.var;obtain⟨q1,q2⟩:=X7J (hv:=hv) (hw:=hw) (d:=d) (v:=v) (n:=n) (t:=t) (bs:=bs) (s:=⟨(tick x.1 c).vals,[],(tick x.1 c).time⟩) (s':=⟨(tick y.1 c).vals,[],(tick y.1 c).time⟩) rfl (by rw[hvn];exact r2) (by rw[hvn];exact r3) (fun h=>(hvar h).2) (fun _=>hT) (fun h=>hne.hat o _ hk h1.st h);rw[X1s (s:=⟨(tick x.1 c).vals,[],(tick x.1 c).time⟩) (s':=tick x.1 c) rfl,X1s (s:=⟨(tick y.1 c).vals,[],(tick y.1 c).time⟩) (s':=tick y.1 c) rfl]at q2;refine⟨?_,?_,?_,fun w hw hkw hkw2=>?_⟩
   .simp only;exact X5W r1
   .simp only;rw[(X1h ..).1];exact r2
   .simp only;rw[(X1h ..).1];exact r3
   simp only at hkw hkw2⊢;by_cases hd:d=0\/d=5
   .rw[N8 hd]at hkw hkw2⊢;rw[N8 hd];unfold updD at*;by_cases e:w=v.toNat
    .rw[N8 e,N8 e];exact⟨rfl,fun _=>by rw[e];exact q2 hd⟩
    rw[N7 e]at hkw hkw2⊢;rw[N7 e,WB (.inl e),WB (.inl e)];exact r4 w hw hkw hkw2
   rw[N7 hd]at hkw hkw2⊢;rw[N7 hd,WB (.inr hd),WB (.inr hd)];exact r4 w hw hkw hkw2
  have hk:K o=false:=by simpa using hk
  have hout:∀j,o<=j->j<o+(1+szL a+szL b)->K j=false:=fun j j1 j2=>by
   by_cases e:j=o
   .rw[e];exact hk
   by_cases e1:j<o+1+szL a
   .exact X8W hs.up a (o+1) o s5 hk j (by omega) e1
   exact X8W hs.up b (o+1+szL a) o s6 hk j (by omega) (by omega)
  have e0:szL [St.mk d c v n t a b bs]=1+szL a+szL b:=by simp[szL,szS]
  have q1:=X96 (vars:=vars) (hv:=hv) (kO:=fun _=>true) [.mk d c v n t a b bs] o x;have q3:=X4h (vars:=vars) (hv:=hv) (kO:=fun _=>true) [.mk d c v n t a b bs] o x;have p1:=X96 (vars:=vars) (hv:=hw) (kO:=fun _=>true) [.mk d c v n t a b bs] o y;have p3:=X4h (vars:=vars) (hv:=hw) (kO:=fun _=>true) [.mk d c v n t a b bs] o y;rw[X8t]at q1 q3 p1 p3;rw[e0]at q1 p1;obtain⟨r1,r2,r3,r4⟩:=hr;refine⟨?_,q3.trans r2,p3.trans r3,fun w hw hkw hkw2=>?_⟩
  .by_cases hd:d=6
   .subst hd;simp only[st1,N7 (show ¬(6:Int)=4 by decide),N7 (show ¬(6:Int)=3 by decide),X1P];rw[N7 (by simp),N7 (by simp)];exact X5W (hv:=hv) (hw:=hw) (by simp only[tick,r1])
   have hcd:X32 (.mk d c v n t a b bs)=false:=by
    cases hh:X32 (.mk d c v n t a b bs)with
    |false=>rfl
    |true=>rw[hcT o _ h1.st hh]at hk;cases hk
   have ev:=cnd_even hok1 (by omega) hcd;have u1:=X6q (vars:=vars) (hv:=hv) (o:=o) (x:=x) hd nSa nSb hok1 ht0 (by omega);have u2:=X6q (vars:=vars) (hv:=hw) (o:=o) (x:=y) hd nSa nSb hok1 (by omega) (by omega);omega
  have no:∀z:Nat,o<=z->z<o+(1+szL a+szL b)->(K z=true\/steps.length<=z)->False:=fun z z1 z2 hz=>by
   have:=h1.in_ z1 z2;rcases hz with hz|hz
   .rw[hout _ z1 z2]at hz;cases hz
   omega
  rcases q1 w with⟨u1,u2⟩|⟨u1,u2⟩
  .rcases p1 w with⟨u3,u4⟩|⟨u3,u4⟩
   .rw[u1,u2,u3,u4];rw[u1]at hkw;rw[u3]at hkw2;exact r4 w hw hkw hkw2
   exact(no _ u3 u4 hkw2).elim
  exact(no _ u1 u2 hkw).elim
 rw[X1a,X1a];rcases hd6 with hd6|rfl
 .have u1:=X6q (vars:=vars) (hv:=hv) (o:=o) (x:=x) hd6 nSa nSb hok1 ht0 (by omega);exact il _ _ _ _ h2 s2 hSl hokl (by omega) _ _ hgm hgm2 hS2 (by omega) (by omega)
 rw[X0J,X0J];exact hS2
end
theorem X7S {vars:List Vr} {nh:Nat}:∀(l:List St) (top:Bool),ssC vars nh l top=0->∀s∈l,s.do_=6->WY s.bounds=true
 |[],_,_,s,hs,_=>by cases hs
 | .mk d c v n t a b bs::l,top,h,s,hs,h6=>by
   obtain⟨hsh,_,_,_,_,hl⟩:=X2F h;rcases Ng.1 hs with rfl|hs
   .simp only[St.do_]at h6;subst h6;unfold shB at hsh;simp only[show ¬(6:Int)=0 by decide,show ¬(6:Int)=1 by decide,show ¬(6:Int)=2 by decide,show ¬(6:Int)=3 by decide,show ¬(6:Int)=4 by decide,show ¬(6:Int)=5 by decide,Nj,Nc,N3]at hsh;exact hsh.2
   exact X7S l top hl s hs h6
theorem ris_le3 {bs:List Int} {b0:Int} (h:WY bs=true) (h0:bs[0]? =some b0):∀b∈bs,b0<=b:=by
 have hr:X3Y bs=true:=by
  unfold WY at h;rw[N3]at h;exact h.2
 have key:∀(k:Nat) (x:Int),bs[k]? =some x->b0<=x:=by
  intro k
  induction k with
  |zero=>intro x hx;rw[h0]at hx;cases hx;exact NP _
  | succ k ih=>
    intro x hx;have hk:=(N6.1 hx).1;obtain⟨y,hy⟩:∃y,bs[k]? =some y:=⟨_,Nz (by omega)⟩;have:=ih y hy;have hyx:X1J bs k=true:=(Nm.1 hr) k (List.mem_range.2 (by omega));unfold X1J at hyx;rw[hy,hx]at hyx;have:=of_decide_eq_true hyx;omega
 intro b hb;obtain⟨k,hk⟩:=NK.1 hb;exact key k b hk
theorem Xc5 {bs:List Int} {b0 t:Int} (h:WY bs=true) (h0:bs[0]? =some b0) (ht:t<=b0):X0p bs t t false=b0:=by
 rcases X7R bs t t with⟨h1,_⟩|⟨h1,h2,h3⟩
 .have:=h1 b0 (N4 h0);omega
 have a1:=h3 b0 (N4 h0) ht;have a2:=ris_le3 h h0 _ h1;omega
theorem noS_do:∀l:List St,noS l=true->∀s∈l,¬s.do_=6
 |[],_,s,hs=>by cases hs
 | .mk d c v n t a b bs::l,h,s,hs=>by
   simp only[noS,N3,N5]at h;rcases Ng.1 hs with rfl|hs
   .exact h.1
   exact noS_do l h.2.2.2 s hs
theorem XaF {f:Fl} (h:Sm f) (h0:XR f=0) {a m:List Int} (hal:a.length=f.vars.length) (hml:m.length=f.vars.length)
  (hm:∀v,v<f.vars.length->Kz (Zo f) (fun n=>n=((flL f.body).length:Int)+f.vars.length) ((flL f.body).length+v)=true->a[v]? =m[v]?):
  (evD f.vars (QY a f.hats) f.body 0 (⟨a,[],0⟩,[])).1.time=(evD f.vars (QY m f.hats) f.body 0 (⟨m,[],0⟩,[])).1.time:=by
 rw[Xc7,Xc7];obtain⟨_,_,_,hss,hov⟩:=Q6 h0;have hok:=X0k _ _ hss;obtain⟨hBp,_,hB0,hB⟩:=times_eq h0;cases hst:X5y f with
 | false=>
   have hL:=X0g h h0;have hd:=dps_of h h0 (Xaa f);have hpl:=X7U h0;have hhf:∀h∈f.hats,Qu f.vars true h.term=true:=(X3z h.bnd h0).2.2
   have hla:laS f.body=true:=by
    rcases X71 f.body hss with hS|⟨m,c,v,n,t,bs,hb,hS⟩
    .exact X4j _ hS
    rw[hb];exact Xab m hS
   have hsim:=sim3 (vars:=f.vars) (hv:=QY a f.hats) (hw:=QY m f.hats) (XcK (R:=fun n=>n=((flL f.body).length:Int)+f.vars.length) hd hpl) (XaT hd hpl hhf hm) rfl (fun o q hq hc=>by
    refine X04.2 (Cz.step (a:=((flL f.body).length:Int)+f.vars.length) (X8L.2 ⟨⟨(o:Nat),((flL f.body).length:Int)+f.vars.length,1⟩,?_,.inl rfl,rfl⟩) (.base rfl));rw[XaO,X1R,Wm,hst];simp only[NB,Nc]
    first
     |exact .inl ((X87 _ _ _ _).2 ⟨o,q,hq,hc,rfl⟩)
     |exact .inr ((X87 _ _ _ _).2 ⟨o,q,hq,hc,rfl⟩)) f.body 0 1 (1+wdL f.body) (-1) hL (Sub.of_self _) hla hok hB
    (⟨a,[],0⟩,fun v=>(flL f.body).length+v) (⟨m,[],0⟩,fun v=>(flL f.body).length+v) (X3O f) (X3O f)
    ⟨rfl,hal,hml,fun v hv _ _=>⟨rfl,fun hk=>by
     rcases hk with hk|hk
     .exact hm v hv hk
     exact hm v hv hk⟩⟩ (NP 0) (by simp only;omega)
   have:=hsim.1
   rwa [X5P,X5P]at this
 | true=>
   unfold X5y at hst;cases hl:f.body.getLast? with
   |none=>rw[hl]at hst;cases hst
   | some s=>
     rw[hl]at hst;simp only[N3,N5]at hst;obtain⟨hs6,hst⟩:=hst;rcases X71 f.body hss with hS|⟨w,c,v,n,t,bs,hb,hS⟩
     .exfalso;have hmem:s∈f.body:=List.mem_of_getLast? hl;exact noS_do f.body hS s hmem hs6
     have hs:s=.mk 6 c v n t [] [] bs:=by rw[hb]at hl;simpa using hl.symm
     subst hs;simp only[St.bounds]at hst;have hrise:WY bs=true:=X7S _ _ hss _ (List.mem_of_getLast? hl) rfl
     obtain⟨b0,hb0⟩:∃b0,bs[0]? =some b0:=by
      cases bs with
      |nil=>cases hrise
      |cons x r=>exact⟨x,rfl⟩
     rw[hb0,Option.getD_some]at hst;rw[hb]at hok hB hBp;rw[XcH,N3]at hok
     have hc:0<=c:=by
      have:=hok.2;simp only[okL,okS,N3,N5]at this;exact this.1.1.1
     rw[hb]at hst;simp only[BT_app,BT,N7 (show ¬(6:Int)=4 by decide),N7 (show ¬(6:Int)=3 by decide),Int.add_zero]at hB hBp;have hsx:=WZ _ hok.1;have hlx:=X18 _ hok.1
     have fin:∀(hv:List Int) (s:Sta),0<=s.time->s.time+c<=1000000000000->s.time+c<=b0->(Q7 f.vars hv [.mk 6 c v n t [] [] bs] s).time=b0:=by
      intro hv s h0 h1 h2;have:=Zl h0 hc h1;simp only[Q7,N7 (show ¬(6:Int)=4 by decide),N7 (show ¬(6:Int)=3 by decide),QV,N7 (show ¬(6:Int)=0 by decide),N7 (show ¬(6:Int)=1 by decide),N7 (show ¬(6:Int)=5 by decide),Nj,this];exact Xc5 hrise hb0 h2
     have g1:=fun hz (S:Sta) (hS0:S.time=0)=>X2s f.vars hz w hS hok.1 S (by omega) (by omega);have t1:=g1 (QY a f.hats) ⟨a,[],0⟩ rfl;have t2:=g1 (QY m f.hats) ⟨m,[],0⟩ rfl;simp only at t1 t2;rw[hb,X37,X37];simp only;rw[fin _ _ (by omega) (by omega) (by omega),fin _ _ (by omega) (by omega) (by omega)]
set_option maxHeartbeats 8000000 in
theorem XaK (f:Fl) (i j:Inp) (d:Nat):Con Tryz.prog 7 true [aF f,.agg [.c (.sl 1 (X9 i.s)),.c (.sl 1 (X9 i.p)),.c (.sl 1 (X9 i.r)),.c (.sl 1 (X9 j.s)),.c (.sl 1 (X9 j.p)),.c (.sl 1 (X9 j.r))]] (.v (lb true)) none d:=by
 have ck:=X5q;have cf:=X7Z f 4096 4096 256;by_cases hfit:fitB f 4096 4096 256=true
 .rw[hfit]at cf;have hF:=fit_in hfit;have h:=fit_sm hF;have h0:=hF.code;have hv:=hF.hv;have hh:=hF.hh;have hn:=hF.hn;obtain⟨hwf,hou,hhf⟩:=X3z hF.hb h0;have hfl:=Q2 f.body;have hsz:=Zh f.body;have csz:=X0h f.body (by omega);rw[<-hfl]at csz;have hgv:∀w∈f.vars,w.low<=w.high:=fun w hw=>((ZE (Q6 h0).2.1) w hw).1;have cs1:=X2Q f.vars i (by omega);have cs2:=X2Q f.vars j (by omega);refine Xbu f.vars f.hats f.body i j (flL f.body).length f.vars.length _ _ _ _ _ ck cf cs1 cs2 csz rfl rfl (by omega) (fun hS1 hS2=>?_) d;have hla:=X4x i f.vars 0 0 0 [] true hS1;have hlb:=X4x j f.vars 0 0 0 [] true hS2;obtain⟨a,ha⟩:∃x,(stL i f.vars 0 0 0 [] true).1=x:=⟨_,rfl⟩;obtain⟨b,hb⟩:∃x,(stL j f.vars 0 0 0 [] true).1=x:=⟨_,rfl⟩;rw[ha]at hla⊢;rw[hb]at hlb⊢;simp only[List.length_nil,Nat.zero_add]at hla hlb;have cB:=X9W h h0 (by omega) (by omega) ((flL f.body).length+f.vars.length) (by omega);have hcast:(((flL f.body).length+f.vars.length:Nat):Int)=((flL f.body).length:Int)+f.vars.length:=by omega
  rw[hcast]at cB;have hzl:(czL (prs true true (Zo f)) [((flL f.body).length:Int)+f.vars.length] ((flL f.body).length+f.vars.length+1)).length=(flL f.body).length+f.vars.length+1:=X2P ..;have hzg:=fun v (hv:v<f.vars.length)=>X8g (P:=prs true true (Zo f)) (R:=[((flL f.body).length:Int)+f.vars.length]) (N:=(flL f.body).length+f.vars.length+1) (n:=(flL f.body).length+v) (by omega);obtain⟨Z,hZ⟩:∃z,czL (prs true true (Zo f)) [((flL f.body).length:Int)+f.vars.length] ((flL f.body).length+f.vars.length+1)=z:=⟨_,rfl⟩;rw[hZ]at cB hzl hzg;have hml:=X0u a b Z (flL f.body).length f.vars.length
  have hind:=XaF h h0 (a:=a) (m:=X00 a b Z (flL f.body).length f.vars.length) hla (hml.trans hla) (fun v hvv hk=>by
   rw[X40 a b _ _ _ v hvv (by omega)];have hc:=X04.1 hk;have hz:=(hzg v hvv).2 (by rw[Xct];exact_mod_cast hc);rw[hz]
   rfl)
  have hl1:=X5K f a;have hl2:=X5K f (X00 a b Z (flL f.body).length f.vars.length);have cr1:=X3A f a hla (by omega) (by omega) hgv hhf (by omega) hwf hou;have cr2:=X3A f _ (hml.trans hla) (by omega) (by omega) hgv hhf (by omega) hwf hou;rw[show(evR f (X00 a b Z (flL f.body).length f.vars.length)).1.time=(evR f a).1.time from hind.symm]at cr2
  exact⟨Z,Qp (Zo f),(evR f a).2,(evR f (X00 a b Z (flL f.body).length f.vars.length)).2,(evR f a).1.time,_,hzl,X9s h h0,cB,cr1,
   X6a f a b _ _ hla hlb (by omega) (by omega) (by omega),cr2⟩
 have hfit:fitB f 4096 4096 256=false:=by simpa using hfit
 rw[hfit]at cf;obtain⟨vars,hats,body⟩:=f;simp only[aF,Fl.enc,Nk,Nr]at*;refine X5 Tryz.func7 ?_;simp only[Tryz.f7];refine X2 ?_;refine X0<|X0<|(Xo [⟨false,.v (lb true),none⟩] ?_ ?_)
 .first|exact ck _|exact trivial|simpa[*]using ck _
 refine(Xb rfl (fun h2=>?_) fun h2=>?_)
 .exact absurd h2 (by simp)
 (try simp only[BN]at h2);refine X0<|X0<|(Xo [⟨true,.v (lb false),none⟩] ?_ ?_)
 .first|exact cf _|exact trivial|simpa[*]using cf _
 refine(Xb rfl (fun h6=>?_) fun h6=>?_)
 ·(try simp only[BN]at h6);refine X2 ?_;exact Xc
 exact absurd h6 (by simp)
end Go.Proofs.YtdajceakaakdoaaGreat
