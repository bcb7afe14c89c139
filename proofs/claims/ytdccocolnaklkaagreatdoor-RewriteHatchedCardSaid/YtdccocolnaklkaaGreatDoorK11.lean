/- Contracts of functions and plain facts about what they compute. Conditions: as each theorem states. -/
import Derived.Test.YtdccocolnaklkaaGreatDoorK7
import Derived.Test.YtdccocolnaklkaaGreatDoorK10
import Derived.Test.YtdccocolnaklkaaGreatDoorK4
import Derived.Test.YtdccocolnaklkaaGreatDoorK8
import Derived.Test.YtdccocolnaklkaaGreatDoorH6
import Derived.Test.YtdccocolnaklkaaGreatDoorK6
import Derived.Test.YtdccocolnaklkaaGreatDoorRows
set_option linter.unusedSimpArgs false
set_option linter.unusedVariables false
set_option linter.unnecessarySimpa false
set_option maxRecDepth 100000
set_option maxHeartbeats 2000000
namespace Go.Proofs.YtdccocolnaklkaaGreatDoor
open Go Go.Hl
theorem X66 (l:List Int) (hl:l.length<=1000000000) (d:Nat):Con Tryz.prog 9 true [lI l] (.v (lb (Z5 l))) none d:=by
 refine X2 Tryz.func9 ?_;simp only[Tryz.f9];refine X4 ?_;refine X0<|X0<|X1 ?_;refine X3<|(Xb [0,5] (fun(x:Nat)=>[(6,.v (li x))]) (fun(x:Nat)=>[]) (fun(x:Nat)=>x<=l.length/\∀j:Nat,j+1<x->WQ l j=true) (fun(x:Nat)=>l.length - x) (0:Nat) ⟨Nc _,fun j hj=>absurd hj (by omega)⟩ ?_);rintro k ⟨hk,hJ⟩;simp only[LN,Nat.reduceBEq,Nat.reduceLT];refine(XS (fun h4=>X6 ?_) fun h4=>?_)
 .have hlt:k<l.length:=by omega
  obtain⟨b,hb⟩:=X0i hlt;have hw:=Xz hlt hl;have hk1:k+1<=l.length:=hlt;have hk9:k<=1000000000:=by omega
  clear hlt h4;refine X0<|X3<|X0<|X1 ?_;rcases k with _|j
  .have hw1:IntKind.i64.wrap 1=1:=X5;have hwm:IntKind.i64.wrap (-1)=-1:=by decide
   refine X0<|(N0 ?_);refine(XM (fun h7=>?_) fun h7=>?_)
   .exact absurd h7 (by simp)
   refine X1 ?_;exact Xj (1) (⟨hk1,fun j hj=>absurd hj (by omega)⟩)
  have hw1:IntKind.i64.wrap ((j:Int)+1+1)=(j:Int)+1+1:=X5;obtain⟨a,ha⟩:=X0i (show j<l.length by omega);have hwj:IntKind.i64.wrap (j:Int)=j:=X5;have hri:WQ l j=decide (a<b):=by unfold WQ;rw[ha,hb]
  have hj0:(0:Int)<(j:Int)+1:=by omega
  have hj1:0<=(j:Int)+1:=by omega
  have hj2:((j:Int)+1).toNat=j+1:=by omega
  refine X0<|(N0 ?_);refine(XM (fun h7=>?_) fun h7=>?_)
  .have hz:Z5 l=false:=X3V (i:=j) (by omega) (by rw[hri];simpa using h7);exact X7
  refine X1 ?_
  exact Xj (j+1+1) (⟨hk1,fun i hi=>by
   rcases Nat.lt_or_eq_of_le (Nat.le_of_lt_succ hi)with h|h
   .exact hJ i (by omega)
   have:i=j:=by omega
   rw[this,hri]
   simpa using h7⟩)
 have hz:Z5 l=true:=X1d fun i hi=>hJ i (by omega);refine(Xd ?_);exact X7
def X21:List Int->Int->Nat->Int
 |[],_,_=>-1
 |y::l,x,k=>if x=y then k else X21 l x (k+1)
theorem Xbc (l:List Int) (x:Int) (hl:l.length<=1000000000) (d:Nat):Con Tryz.prog 16 true [lI l,li x] (.v (li (X21 l x 0))) none d:=by
 obtain⟨res,hres⟩:∃r,X21 l x 0=r:=⟨_,rfl⟩;rw[hres];refine X2 Tryz.func16 ?_;simp only[Tryz.f16];refine X4 ?_;refine X0<|X0<|X1 ?_;refine X3<|(Xb [0,1,7] (fun(z:Nat)=>[(8,.v (li z))]) (fun(z:Nat)=>[]) (fun(z:Nat)=>z<=l.length/\X21 (l.drop z) x z=res) (fun(z:Nat)=>l.length - z) (0:Nat) ⟨Nc _,hres⟩ ?_);rintro k ⟨hk,hJ⟩;simp only[LN,Nat.reduceBEq,Nat.reduceLT];clear hres;refine(XS (fun h4=>X6 ?_) fun h4=>?_)
 .have hlt:k<l.length:=by omega
  obtain⟨b,he,hd⟩:=Xw hlt;have hw1:=Xz hlt (by omega);have hk1:k+1<=l.length:=hlt;rw[hd]at hJ;simp only[X21]at hJ;clear hlt h4 hd;refine X0<|X3<|X0<|X1 ?_;refine(X8 (fun h7=>?_) fun h7=>?_)
  .rw[N9 (by simpa using h7)]at hJ;subst hJ;exact X7
  rw[N6 (by simpa using h7)]at hJ;refine X1 ?_;exact Xj (k+1) (⟨hk1,hJ⟩)
 have hkl:k=l.length:=by omega
 rw[hkl,Nj]at hJ;simp only[X21]at hJ;subst hJ;refine(Xd ?_);exact X7
theorem X2u (l:List Int) (x:Int) (hl:l.length<=1000000000) (d:Nat):Con Tryz.prog 19 true [lI l,li x] (.v (lb (decide (0<=X21 l x 0)))) none d:=by
 have ci:=Xbc l x hl;obtain⟨res,hres⟩:∃r,X21 l x 0=r:=⟨_,rfl⟩;rw[hres]at ci⊢;clear hres;refine X2 Tryz.func19 ?_;simp only[Tryz.f19];refine X4 ?_;refine X0<|(Xa ci ?_);exact Qd
theorem X7L (l:List Vr) (hl:l.length<=1000000) (d:Nat) (hd:d<1000000):Con Tryz.prog 42 false [.one (.c (.sl 5 (Xr l)))] (.v (.one (.own d))) (some (.row 60 5 (Xr l))) d:=by
 have hroom:QF l.length 48:=XO (by omega) (by omega);cases l with
 | nil=>
   refine X27 ?_ ?_
   .refine X2 Tryz.func42 ?_;simp only[Tryz.f42];refine X4 ?_;refine X0<|(X8 (fun h2=>?_) fun h2=>?_)
    .refine X4 ?_;exact Xn ⟨.inr rfl,_,X4q 2 d 60 5 rfl (by decide) hd,⟨⟨_,by simp;rfl,by simp[Xl]⟩,by simp,fun h=>by cases h⟩⟩
    exact absurd h2 (by simp)
   intro a cap;refine X2 Tryz.func42 ?_;simp only[Tryz.f42];refine X4 ?_;refine X0<|(X8 (fun h2=>?_) fun h2=>?_)
   .exact absurd h2 (by simp)
   refine Q6 (X4M 0 5 rfl) ?_;refine X4 ?_;exact Xn ⟨.inr rfl,_,ZP 2 7 d rfl rfl hd,⟨⟨_,by simp;rfl,by simp[Xl]⟩,by simp,fun h=>by cases h⟩⟩
 | cons v r=>
   refine X2 Tryz.func42 ?_;simp only[Tryz.f42];rw[List.length_cons]at hroom;refine X4 ?_;refine X0<|(X8 (fun h2=>?_) fun h2=>?_)
   .exact absurd h2 (by simp)
   refine X4 ?_;exact Xn ⟨.inr rfl,_,ZP 2 7 d rfl rfl hd,⟨⟨_,by simp;rfl,by simp[Xl]⟩,by simp,fun h=>by cases h⟩⟩
theorem encSsL:∀a:List St,(Xf a).length=a.length
 |[]=>rfl
 |t::a=>by simp only[Xf,List.length_cons,encSsL a]
theorem X8C (f:Fl) (hv:f.vars.length<=1000000) (hh:f.hats.length<=1000000) (hn:Xe f.body+XN f.hats<=900000000) (hb:Qm f.body=true) (d:Nat):
  Con Tryz.prog 44 false [aF f] (.tup [aF (Z9 f).1,li (Z9 f).2]) none d:=by
 have cc:=X1R f hv hh hn hb;obtain⟨vars,hats,body⟩:=f;obtain⟨res,hres⟩:∃r,Z9 ⟨vars,hats,body⟩=r:=⟨_,rfl⟩;rw[hres];unfold Z9 at hres;obtain⟨C,hC⟩:∃x,XU ⟨vars,hats,body⟩=x:=⟨_,rfl⟩;rw[hC]at cc hres;clear hC;refine X2 Tryz.func44 ?_;simp only[Tryz.f44];simp only[aF,Fl.enc,Na,Nb]at cc⊢;refine X4 ?_;refine X0<|X0<|(Xa cc ?_);refine(XM (fun h2=>?_) fun h2=>?_)
 .rw[N6 h2]at hres;subst hres;refine X4 ?_;refine Q6 (Ww 2 [.c (.sl 5 []),.c (.sl 6 []),.c (.sl 10 [])] rfl (by(repeat'(first|exact LWk.nil|apply LWk.cons|exact CWk.refl _|exact CWk.nil _)))) ?_;exact Xn ⟨.inr rfl,_,le_refl _,⟨⟨_,by simp;rfl,by simp[Xl,fl0]⟩,by simp,fun h=>by cases h⟩⟩
 rw[N9 (by simpa using h2)]at hres;subst hres;refine X4 ?_;exact Xn ⟨.inr rfl,_,le_refl _,⟨⟨_,by simp;rfl,by simp[Xl]⟩,by simp,fun h=>by cases h⟩⟩
theorem X7Y {x:Int} {l:List Int} (h:Z5 (x::l)=true):Z5 l=true:=by
 refine X1d fun i hi=>?_;unfold Z5 at h;rw[Nh]at h;have:=h (i+1) (by simp;omega);simpa[WQ]using this
theorem X8l:∀(l:List Int) (x:Int),Z5 (x::l)=true->∀y∈l,x<y
 |[],_,_,y,hy=>by cases hy
 | z::l,x,h,y,hy=>by
   have h1:x<z:=by
    have h':=h;unfold Z5 at h';rw[Nh]at h';simpa[WQ]using h' 0 (by simp)
   rcases Ni.1 hy with rfl|hy
   .exact h1
   have:=X8l l z (X7Y h) y hy;omega
def X7U (f:Fl):Bool:=(decide (f.vars.length=0)&&decide (f.hats.length=0))&&decide (f.body.length=0)
theorem X8n (f:Fl) (d:Nat):Con Tryz.prog 11 true [aF f] (.v (lb (X7U f))) none d:=by
 obtain⟨vars,hats,body⟩:=f;unfold X7U;refine X2 Tryz.func11 ?_;simp only[Tryz.f11];simp only[aF,Fl.enc,Na,Nb];refine X4 ?_;refine X4 ?_;exact(Qd (he:=by simp[Xl]))
theorem X90 (g:Fl) (e:Int) (h0:e=0->∀d,Con Tryz.prog 45 true [aF g,aF g] (.v (lb true)) none d) (h1:e≠0->X7U g=true) (d:Nat):
  Con Tryz.prog 13 true [aF g,li e,aF g,li e] (.v (lb true)) none d:=by
 have cn:=X8n g;obtain⟨N,hN⟩:∃x,X7U g=x:=⟨_,rfl⟩;rw[hN]at cn h1;obtain⟨vars,hats,body⟩:=g;clear hN;refine X2 Tryz.func13 ?_;simp only[Tryz.f13];simp only[aF,Fl.enc,Na,Nb]at cn h0⊢;refine X4 ?_;refine X0<|(X8 (fun h2=>?_) fun h2=>?_)
 .have hz:=h1 h2;subst hz;clear h0;refine X0<|(Xa cn ?_);exact Qd
 have he:e=0:=by simpa using h2
 subst he;have h0:=h0 rfl;clear h1 cn h2;refine X0<|(Xa h0 ?_);exact Qd
end Go.Proofs.YtdccocolnaklkaaGreatDoor
namespace Go.Proofs.YtdccocolnaklkaaGreatDoor
open Go Go.Hl Go.RowKit Go.ChangeShapes Go.Proofs.YtdccocolnaklkaaGreatDoor
theorem tiled:X6V Tryz.prog:=tiled_mk (by kernel_rfl)
theorem own:ownKnob Tryz.prog.godebug=none:=by kernel_rfl
theorem laidOut:laidOutB Tryz.prog=true:=by kernel_rfl
section
variable {P:Program} {k:Nat} {t:TypeId} {ds:List CD}
theorem WX {T:Type} {enc:T->List CD} {e:TypeId} {c:Nat} (hu:P.underlying t=some (.slice e)) (hc:P.cellsOf e=c) (he:∀k',k'<k->∀r,Qv P k' e r->∃x,r=enc x) (h:Qv P k t ds):∃xs:List T,ds=[.sl c (xs.map enc)]:=by
 cases k with
 |zero=>exact h.elim
 | succ k=>
   unfold Qv at h;rw[hu]at h;obtain⟨rows,h1,_,h3⟩:=h;obtain⟨xs,hxs⟩:=X7V (enc:=enc) fun r hr=>he k (Nat.lt_succ_self k) r (h3 r hr).2;subst hxs;exact⟨xs,by rw[h1,hc]⟩
theorem Wp {fs:Array Field} {l:List (Nat×Nat×TypeId)} {c:Nat} (hu:P.underlying t=some (.struct fs)) (hl:X74 P fs=l) (hc:P.cellsOf t=c) (h:Qv P k t ds):ds.length=c/\∃k',k'<k/\∀x∈l,Qv P k' x.2.2 ((ds.drop x.1).take x.2.1):=by
 cases k with
 |zero=>exact h.elim
 | succ k=>
   unfold Qv at h;rw[hu]at h;have h':ds.length=P.cellsOf t/\∀x∈X74 P fs,Qv P k x.2.2 ((ds.drop x.1).take x.2.1):=h;exact⟨hc▸h'.1,k,Nat.lt_succ_self k,fun x hx=>h'.2 x (hl▸hx)⟩
end
theorem X0o {k:Nat} {t:TypeId} {ds:List CD} (hu:Tryz.prog.underlying t=some (.int .i64)) (h:Qv Tryz.prog k t ds):∃n:Int,ds=[iC n]:=by
 obtain⟨n,h1,_⟩:=Xal hu h;exact⟨n,h1⟩
theorem dec_s {k:Nat} {ds:List CD} (h:Qv Tryz.prog k 9 ds):∃s:ByteArray,ds=[sC s]:=by
 obtain⟨s,h1,_⟩:=Xb8 Tryz.underlying9 h;exact⟨s,h1⟩
theorem dec_I {k:Nat} {ds:List CD} (h:Qv Tryz.prog k 27 ds):∃l:List Int,ds=[.sl 1 (Xk l)]:=
 WX (enc:=fun x=>[iC x]) Tryz.underlying27 (by kernel_rfl:Tryz.prog.cellsOf 3=1) (fun _ _ _ hr=>X0o Tryz.underlying3 hr) h
theorem dec_T:∀(k:Nat) (ds:List CD),Qv Tryz.prog k 56 ds->∃t:Tm,ds=t.enc:=by
 intro k
 induction k using Nat.strongRecOn with
 | ind k ih=>
   intro ds h;obtain⟨hl,k1,hk1,hx⟩:=Wp (l:=[(0,1,53),(1,1,3),(2,1,54)]) Tryz.underlying56 (by kernel_rfl) (by kernel_rfl:Tryz.prog.cellsOf 56=3) h
   match ds,hl with
   | [a,b,c],_=>
     obtain⟨n1,h1⟩:=X0o Tryz.underlying53 (hx (0,1,53) (by simp));obtain⟨n2,h2⟩:=X0o Tryz.underlying3 (hx (1,1,3) (by simp));obtain⟨ks,h3⟩:=WX (enc:=Tm.enc) Tryz.underlying54 (by kernel_rfl:Tryz.prog.cellsOf 56=3) (fun k' hk' r hr=>ih k' (by omega) r hr) (hx (2,1,54) (by simp));simp only[List.drop,List.take,List.cons.injEq,and_true]at h1 h2 h3;subst h1 h2 h3;exact⟨.mk n1 n2 ks,by simp only[Tm.enc,WZ]⟩
theorem dec_S:∀(k:Nat) (ds:List CD),Qv Tryz.prog k 63 ds->∃s:St,ds=s.enc:=by
 intro k
 induction k using Nat.strongRecOn with
 | ind k ih=>
   intro ds h;obtain⟨hl,k1,hk1,hx⟩:=Wp (l:=[(0,1,61),(1,1,3),(2,1,3),(3,1,3),(4,3,56),(7,1,24),(8,1,24),(9,1,27)]) Tryz.underlying63 (by kernel_rfl) (by kernel_rfl:Tryz.prog.cellsOf 63=10) h
   match ds,hl with
   | [a0,a1,a2,a3,a4,a5,a6,a7,a8,a9],_=>
     obtain⟨n0,h0⟩:=X0o Tryz.underlying61 (hx (0,1,61) (by simp));obtain⟨n1,h1⟩:=X0o Tryz.underlying3 (hx (1,1,3) (by simp));obtain⟨n2,h2⟩:=X0o Tryz.underlying3 (hx (2,1,3) (by simp));obtain⟨n3,h3⟩:=X0o Tryz.underlying3 (hx (3,1,3) (by simp));obtain⟨t,h4⟩:=dec_T _ _ (hx (4,3,56) (by simp));obtain⟨la,h7⟩:=WX (enc:=St.enc) Tryz.underlying24 (by kernel_rfl:Tryz.prog.cellsOf 63=10) (fun k' hk' r hr=>ih k' (by omega) r hr) (hx (7,1,24) (by simp));obtain⟨lb',h8⟩:=WX (enc:=St.enc) Tryz.underlying24 (by kernel_rfl:Tryz.prog.cellsOf 63=10) (fun k' hk' r hr=>ih k' (by omega) r hr) (hx (8,1,24) (by simp));obtain⟨lc,h9⟩:=dec_I (hx (9,1,27) (by simp));simp only[List.drop,List.take,List.cons.injEq,and_true]at h0 h1 h2 h3 h4 h7 h8 h9;subst h0 h1 h2 h3 h7 h8 h9;refine⟨.mk n0 n1 n2 n3 t la lb' lc,?_⟩;simp only[St.enc,QZ,<-h4,List.cons_append,List.nil_append]
theorem dec_V {k:Nat} {ds:List CD} (h:Qv Tryz.prog k 60 ds):∃v:Vr,ds=v.enc:=by
 obtain⟨hl,k1,_,hx⟩:=Wp (l:=[(0,1,9),(1,1,58),(2,1,3),(3,1,3),(4,1,3)]) Tryz.underlying60 (by kernel_rfl) (by kernel_rfl:Tryz.prog.cellsOf 60=5) h
 match ds,hl with
 | [a0,a1,a2,a3,a4],_=>
   obtain⟨n0,h0⟩:=dec_s (hx (0,1,9) (by simp));obtain⟨n1,h1⟩:=X0o Tryz.underlying58 (hx (1,1,58) (by simp));obtain⟨n2,h2⟩:=X0o Tryz.underlying3 (hx (2,1,3) (by simp));obtain⟨n3,h3⟩:=X0o Tryz.underlying3 (hx (3,1,3) (by simp));obtain⟨n4,h4⟩:=X0o Tryz.underlying3 (hx (4,1,3) (by simp));simp only[List.drop,List.take,List.cons.injEq,and_true]at h0 h1 h2 h3 h4;subst h0 h1 h2 h3 h4;exact⟨⟨n0,n1,n2,n3,n4⟩,rfl⟩
theorem dec_H {k:Nat} {ds:List CD} (h:Qv Tryz.prog k 94 ds):∃v:Ht,ds=v.enc:=by
 obtain⟨hl,k1,_,hx⟩:=Wp (l:=[(0,1,9),(1,1,3),(2,1,3),(3,3,56)]) Tryz.underlying94 (by kernel_rfl) (by kernel_rfl:Tryz.prog.cellsOf 94=6) h
 match ds,hl with
 | [a0,a1,a2,a3,a4,a5],_=>
   obtain⟨n0,h0⟩:=dec_s (hx (0,1,9) (by simp));obtain⟨n1,h1⟩:=X0o Tryz.underlying3 (hx (1,1,3) (by simp));obtain⟨n2,h2⟩:=X0o Tryz.underlying3 (hx (2,1,3) (by simp));obtain⟨t,h3⟩:=dec_T _ _ (hx (3,3,56) (by simp));simp only[List.drop,List.take,List.cons.injEq,and_true]at h0 h1 h2 h3;subst h0 h1 h2;exact⟨⟨n0,n1,n2,t⟩,by simp only[Ht.enc,<-h3,List.cons_append,List.nil_append]⟩
theorem dec_F {k:Nat} {ds:List CD} (h:Qv Tryz.prog k 26 ds):∃f:Fl,ds=f.enc:=by
 obtain⟨hl,k1,_,hx⟩:=Wp (l:=[(0,1,22),(1,1,23),(2,1,24)]) Tryz.underlying26 (by kernel_rfl) (by kernel_rfl:Tryz.prog.cellsOf 26=3) h
 match ds,hl with
 | [a0,a1,a2],_=>
   obtain⟨lv,h0⟩:=WX (enc:=Vr.enc) Tryz.underlying22 (by kernel_rfl:Tryz.prog.cellsOf 60=5) (fun _ _ _ hr=>dec_V hr) (hx (0,1,22) (by simp));obtain⟨lh,h1⟩:=WX (enc:=Ht.enc) Tryz.underlying23 (by kernel_rfl:Tryz.prog.cellsOf 94=6) (fun _ _ _ hr=>dec_H hr) (hx (1,1,23) (by simp));obtain⟨ls,h2⟩:=WX (enc:=St.enc) Tryz.underlying24 (by kernel_rfl:Tryz.prog.cellsOf 63=10) (fun k' _ r hr=>dec_S k' r hr) (hx (2,1,24) (by simp));simp only[List.drop,List.take,List.cons.injEq,and_true]at h0 h1 h2;subst h0 h1 h2;exact⟨⟨lv,lh,ls⟩,by simp only[Fl.enc,Xr,Xu,QZ]⟩
theorem aggF:aggT Tryz.prog 26=true:=by unfold aggT;rw[Tryz.underlying26]
end Go.Proofs.YtdccocolnaklkaaGreatDoor
