/- Part 17: contracts of functions of the program and of the reference, and plain facts about what they compute; used by the proof of the claimed statement. Conditions: as each theorem states. -/
import Derived.Test.YtppjennamodfdaaGreatK16
import Derived.Test.YtppjennamodfdaaGreatK11
set_option linter.unusedSimpArgs false
set_option linter.unusedVariables false
set_option linter.unnecessarySimpa false
set_option maxRecDepth 100000
set_option maxHeartbeats 2000000
namespace Go.Proofs.YtppjennamodfdaaGreat
open Go Go.Hl
section
variable {N:List Nd} {steps:List St} {vars:List Vr} {nh:Nat} {hv hw:List Int} {K:Nat→Bool} {ar:List Int} {kO:Nat→Bool} {nd:Nat→Bool}
structure Need (N:List Nd) (steps:List St) (nv:Nat) (K nd:Nat→Bool) (hv hw:List Int):Prop where
 ent:∀(o:Nat) q,K o=true→steps[o]? =some q→∀(k:Nat) (x:Nd),N[k]? =some x→x.k≠4→x.a=(o:Int)→∀d,Rc N steps nv k d→QS steps d∈tmV q.term→steps.length≤d→nd (d - steps.length)=true
 hat:∀(o:Nat) q,K o=true→steps[o]? =some q→q.do_=5→(hv[q.n.toNat]?).getD 0=(hw[q.n.toNat]?).getD 0
def R2 (K nd:Nat→Bool) (n nv:Nat) (x y:Sta×(Nat→Nat)):Prop:=
 x.1.outs=y.1.outs∧x.1.vals.length=nv∧y.1.vals.length=nv∧∀v,v<nv→(K (x.2 v)=true∨n≤x.2 v)→(K (y.2 v)=true∨n≤y.2 v)→x.2 v=y.2 v∧((K (x.2 v)=true∨nd v=true)→x.1.vals[v]? =y.1.vals[v]?)
theorem XdM {nv:Nat} (hs:Slc N steps nv ar K) (hne:Need N steps nv K nd hv hw) (hvn:vars.length=nv) {d c v n:Int} {t:Tm} {a b:List St} {bs:List Int} {o k:Nat} {x y:Sta×(Nat→Nat)} (hst:steps[o]? =some (.mk d c v n t a b bs)) (hwf:wfS vars nh (.mk d c v n t a b bs)=true) (hK:K o=true)
  {z:Nd} (hz:N[k]? =some z) (hz4:z.k≠4) (hza:z.a=(o:Int)) (hg:Gd N steps nv k x.2) (hg2:Gd N steps nv k y.2) (hr:R2 K nd steps.length nv x y):vT x.1.vals t=vT y.1.vals t:=by
 simp only[wfS,Bool.and_eq_true]at hwf;refine X9Y t fun w hw2=>?_;obtain⟨w0,w1⟩:=XbH t hwf.1 w hw2;have hwv:((w.toNat:Nat):Int)=w:=by omega
 have key:∀D:Nat→Nat,Gd N steps nv k D→K (D w.toNat)=true∨(steps.length≤D w.toNat∧nd w.toNat=true):=by
  intro D hD;obtain⟨g1,g2⟩:=hD.all w.toNat (by omega);have hm:QS steps (D w.toNat)∈tmV t:=by rw[g2,hwv];exact hw2
  by_cases hd:D w.toNat<steps.length
  · exact .inl (hs.src o _ hK hst k z hz hz4 hza _ g1 hm hd)
  have h1:=hne.ent o _ hK hst k z hz hz4 hza _ g1 hm (by omega)
  have h2:D w.toNat - steps.length=w.toNat:=by
   unfold QS at g2;rw[List.getElem?_eq_none (by omega)]at g2;simp only at g2;omega
  rw[h2]at h1;exact .inr ⟨by omega,h1⟩
 have k1:=key x.2 hg;have k2:=key y.2 hg2;obtain⟨e1,e2⟩:=hr.2.2.2 w.toNat (by omega) (k1.imp id fun h=>h.1) (k2.imp id fun h=>h.1);exact e2 (k1.imp id fun h=>h.2)
theorem XdG {nv n:Nat} {c:Int} {t:Tm} {G:(Nat→Nat)→Prop} {body body2:Sta×(Nat→Nat)→Sta×(Nat→Nat)} (ht:∀x y,G x.2→G y.2→R2 K nd n nv x y→vT x.1.vals t=vT y.1.vals t) (hb:∀x y,G x.2→G y.2→R2 K nd n nv x y→G (body x).2∧G (body2 y).2∧R2 K nd n nv (body x) (body2 y)):
  ∀(m:Nat) (x y:Sta×(Nat→Nat)),G x.2→G y.2→R2 K nd n nv x y→R2 K nd n nv (X2V c t body m x) (X2V c t body2 m y)
 |0,x,y,_,_,h=>h
 | m+1,x,y,hg,hg2,h=>by
   simp only[X2V];rw[ht x y hg hg2 h];split
   · exact h
   have h':R2 K nd n nv (tick x.1 c,x.2) (tick y.1 c,y.2):=h;obtain⟨h1,h2,h3⟩:=hb (tick x.1 c,x.2) (tick y.1 c,y.2) hg hg2 h';exact XdG ht hb m _ _ h1 h2 h3
theorem sim2 {nv:Nat} (hs:Slc N steps nv ar K) (hne:Need N steps nv K nd hv hw) (hO:∀j,kO j=true→K j=true) (hvn:vars.length=nv):∀l:List St,∀(o k after:Nat) (par:Int),Lies N steps vars nh l o k after→Sub ar o (arL l par o)→∀x y,Gd N steps nv (X5N l k after) x.2→Gd N steps nv (X5N l k after) y.2→R2 K nd steps.length nv x y→
  R2 K nd steps.length nv (stD vars hv kO l o x) (stD vars hw kO l o y):=by
 apply St.lind
 · intro o k after par _ _ x y _ _ h;rw[X86,X86];exact h
 intro d c v n t a b bs l ia ib il o k after par hL hA x y hg hg2 hr;obtain⟨h1,h2⟩:=hL.cons;simp only[arL]at hA;obtain⟨s1,s2⟩:=hA.app;rw[X88]at s2;rw[Xb5]at s1;simp only[szS,St.then_,St.else_]at s1 s2;obtain⟨s3,s4⟩:=s1.cons;obtain⟨s5,s6⟩:=s4.app;rw[Zu]at s6;have hg:Gd N steps nv k x.2:=hg;have hg2:Gd N steps nv k y.2:=hg2;have hgm:=XbB (hv:=hv) (kO:=kO) h1 (Xb0 a) (Xb0 b) hg;have hgm2:=XbB (hv:=hw) (kO:=kO) h1 (Xb0 a) (Xb0 b) hg2;rw[X6w,X6w];refine il _ _ _ _ h2 s2 _ _ hgm hgm2 ?_;by_cases hk:K o=true
 · unfold st1;by_cases h4:d=4
   · rw[if_pos h4,if_pos h4];obtain⟨⟨z0,z01,z02,z03⟩,⟨z,z1,z2,z3,z4,z5⟩,hla,_⟩:=h1.loop h4;refine XdG (G:=Gd N steps nv (k+1)) (fun x y g g2 r=>XdM hs hne hvn h1.st h1.wf hk z1 (by omega) z3 g g2 r) (fun x y g g2 r=>?_) n.toNat x y (hg.pass z01 (by omega) z03 (X0Z (by omega))) (hg2.pass z01 (by omega) z03 (X0Z (by omega))) hr;have gx:=g.pass z1 (by omega) z4 (X0Z (by omega));have gy:=g2.pass z1 (by omega) z4 (X0Z (by omega));exact⟨Xb0 a _ _ _ hla x gx,Xb0 a _ _ _ hla y gy,ia _ _ _ _ hla s5 x y gx gy r⟩
   rw[if_neg h4,if_neg h4];by_cases h3:d=3
   · rw[if_pos h3,if_pos h3];obtain⟨⟨z,z1,z2,z3,z4,z5⟩,hla,hlb⟩:=h1.if_ h3;rw[XdM hs hne hvn h1.st h1.wf hk z1 (by omega) z3 hg hg2 hr];split
     · exact ib _ _ _ _ hlb s6 (tick x.1 c,x.2) (tick y.1 c,y.2) (hg.pass z1 (by omega) z5 (X0Z (by omega))) (hg2.pass z1 (by omega) z5 (X0Z (by omega))) hr
     exact ia _ _ _ _ hla s5 (tick x.1 c,x.2) (tick y.1 c,y.2) (hg.pass z1 (by omega) z4 (X0Z (by omega))) (hg2.pass z1 (by omega) z4 (X0Z (by omega))) hr
   rw[if_neg h3,if_neg h3];obtain⟨z,z1,z2,z3,z4⟩:=h1.leaf h3 h4;have hT:=XdM hs hne hvn h1.st h1.wf hk z1 (by omega) z3 hg hg2 hr;unfold X2x;by_cases hdr:d=1∧kO o=false
   · rw[if_pos hdr,if_pos hdr];exact hr
   rw[if_neg hdr,if_neg hdr];obtain⟨r1,r2,r3,r4⟩:=hr;have hvar:=h1.var;obtain⟨q1,q2⟩:=Xda (hv:=hv) (hw:=hw) (d:=d) (v:=v) (n:=n) (t:=t) (bs:=bs) (s:=tick x.1 c) (s':=tick y.1 c) r1 (by rw[hvn];exact r2) (by rw[hvn];exact r3) (fun h=>(hvar h).2) (fun _=>hT) (fun h=>hne.hat o _ hk h1.st h);refine⟨q1,?_,?_,fun w hw hkw hkw2=>?_⟩
   · simp only;rw[(X3H ..).1];exact r2
   · simp only;rw[(X3H ..).1];exact r3
   simp only at hkw hkw2⊢;by_cases hd:d=0∨d=5
   · rw[if_pos hd]at hkw hkw2⊢;rw[if_pos hd];unfold updD at*;by_cases e:w=v.toNat
     · rw[if_pos e,if_pos e];exact⟨rfl,fun _=>by rw[e];exact q2 hd⟩
     rw[if_neg e]at hkw hkw2⊢;rw[if_neg e,X00 (.inl e),X00 (.inl e)];exact r4 w hw hkw hkw2
   rw[if_neg hd]at hkw hkw2⊢;rw[if_neg hd,X00 (.inr hd),X00 (.inr hd)];exact r4 w hw hkw hkw2
 have hk:K o=false:=by simpa using hk
 have hout:∀j,o≤j→j<o+(1+szL a+szL b)→K j=false:=fun j j1 j2=>by
  by_cases e:j=o
  · rw[e];exact hk
  by_cases e1:j<o+1+szL a
  · exact XdC hs.up a (o+1) o s5 hk j (by omega) e1
  exact XdC hs.up b (o+1+szL a) o s6 hk j (by omega) (by omega)
 have hoO:∀j,o≤j→j<o+(1+szL a+szL b)→kO j=false:=fun j j1 j2=>by
  cases h:kO j with
  |false=>rfl
  |true=>have:=hO j h;rw[hout j j1 j2]at this;cases this
 have e0:szL [St.mk d c v n t a b bs]=1+szL a+szL b:=by simp[szL,szS]
 have q1:=XdL (vars:=vars) (hv:=hv) (kO:=kO) [.mk d c v n t a b bs] o x;have q2:=Xdy (vars:=vars) (hv:=hv) (kO:=kO) [.mk d c v n t a b bs] o (by rw[e0];exact hoO) x;have q3:=Xdz (vars:=vars) (hv:=hv) (kO:=kO) [.mk d c v n t a b bs] o x;have p1:=XdL (vars:=vars) (hv:=hw) (kO:=kO) [.mk d c v n t a b bs] o y;have p2:=Xdy (vars:=vars) (hv:=hw) (kO:=kO) [.mk d c v n t a b bs] o (by rw[e0];exact hoO) y;have p3:=Xdz (vars:=vars) (hv:=hw) (kO:=kO) [.mk d c v n t a b bs] o y;rw[XdO]at q1 q2 q3 p1 p2 p3;rw[e0]at q1 p1;obtain⟨r1,r2,r3,r4⟩:=hr;refine⟨q2.trans (r1.trans p2.symm),q3.trans r2,p3.trans r3,fun w hw hkw hkw2=>?_⟩
 have no:∀z:Nat,o≤z→z<o+(1+szL a+szL b)→(K z=true∨steps.length≤z)→False:=fun z z1 z2 hz=>by
  have:=h1.in_ z1 z2;rcases hz with hz|hz
  · rw[hout _ z1 z2]at hz;cases hz
  omega
 rcases q1 w with⟨u1,u2⟩|⟨u1,u2⟩
 · rcases p1 w with⟨u3,u4⟩|⟨u3,u4⟩
   · rw[u1,u2,u3,u4];rw[u1]at hkw;rw[u3]at hkw2;exact r4 w hw hkw hkw2
   exact(no _ u3 u4 hkw2).elim
 exact(no _ u1 u2 hkw).elim
end
end Go.Proofs.YtppjennamodfdaaGreat

namespace Go.Proofs.YtppjennamodfdaaGreat
open Go Go.Hl
def Xds (k:Int):List Vr→List Int→List Int
 |v::l,x::xs=>(if v.kind=k then [x] else [])++Xds k l xs
 |_,_=>[]
def mixI (vars:List Vr) (m:List Int):Inp:=⟨Xds 1 vars m,Xds 2 vars m,Xds 3 vars m⟩
theorem Xdt {k:Int}:∀(l:List Vr) (xs:List Int) (j:Nat) (v:Vr) (x:Int),l[j]? =some v→xs[j]? =some x→Xds k (l.take (j+1)) (xs.take (j+1))=Xds k (l.take j) (xs.take j)++(if v.kind=k then [x] else [])
 |[],_,_,_,_,h,_=>by simp at h
 |_::_,[],_,_,_,_,h=>by simp at h
 | w::l,y::xs,0,v,x,h1,h2=>by
   simp only[List.getElem?_cons_zero,Option.some.injEq]at h1 h2;subst h1 h2;simp[Xds]
 | w::l,y::xs,j+1,v,x,h1,h2=>by
   simp only[List.getElem?_cons_succ]at h1 h2;have:=Xdt (k:=k) l xs j v x h1 h2;simp only[List.take_succ_cons,Xds];rw[this,List.append_assoc]
theorem Xdu (k:Int):∀(l:List Vr) (xs:List Int),(Xds k l xs).length≤l.length
 |[],_=>by simp[Xds]
 |_::_,[]=>by simp[Xds]
 | v::l,x::xs=>by
   have:=Xdu k l xs;simp only[Xds];split<;>simp<;>omega
def okV1 (w:Vr) (x:Int):Prop:=(w.low≤x∧x≤w.high)∧(w.kind≠1→w.kind≠2→w.kind≠3→x=w.init)
theorem XdB (i:Inp):∀(l:List Vr) (a b c:Nat) (acc:List Int) (fits:Bool),(stL i l a b c acc fits).2=0→fits=true∧∃vs,(stL i l a b c acc fits).1=acc++vs∧vs.length=l.length∧∀(j:Nat) w x,l[j]? =some w→vs[j]? =some x→okV1 w x
 | [],a,b,c,acc,fits,h=>by
   simp only[stL]at h⊢;by_cases h1:a=i.s.length∧b=i.p.length∧c=i.r.length
   · rw[if_pos h1]at h⊢;cases fits with
     |false=>simp at h
     |true=>exact⟨rfl,[],by simp,rfl,fun j w x hj=>by simp at hj⟩
   rw[if_neg h1]at h;simp at h
 | v ::l,a,b,c,acc,fits,h=>by
   simp only[stL]at h⊢;by_cases h1:(X3U v i a b c).is_=true
   · rw[if_pos h1]at h⊢;obtain⟨h2,vs,h3,h4,h5⟩:=XdB i l _ _ _ _ _ h;simp only[Bool.and_eq_true,decide_eq_true_eq]at h2;refine⟨h2.1,(X3U v i a b c).n::vs,by rw[h3];simp,by simp[h4],fun j w x hj hx=>?_⟩;cases j with
     | zero=>
       simp only[List.getElem?_cons_zero,Option.some.injEq]at hj hx;subst hj hx;refine⟨h2.2,fun k1 k2 k3=>?_⟩;unfold X3U;rw[if_neg k1,if_neg k2,if_neg k3]
     | succ j=>
       simp only[List.getElem?_cons_succ]at hj hx;exact h5 j w x hj hx
   rw[if_neg h1]at h;simp at h
theorem XdN:∀(l:List Vr) (xs A B C acc:List Int),xs.length=l.length→(∀(j:Nat) w x,l[j]? =some w→xs[j]? =some x→okV1 w x)→
  stL ⟨A++Xds 1 l xs,B++Xds 2 l xs,C++Xds 3 l xs⟩ l A.length B.length C.length acc true=(acc++xs,0)
 |[],[],A,B,C,acc,_,_=>by simp[stL,Xds]
 |[],_::_,_,_,_,_,h,_=>by simp at h
 |_::_,[],_,_,_,_,h,_=>by simp at h
 | v ::l,x::xs,A,B,C,acc,hl,hok=>by
   have h0:=hok 0 v x rfl rfl;have hl2:xs.length=l.length:=by simpa using hl
   have ho2:∀(j:Nat) w x,l[j]? =some w→xs[j]? =some x→okV1 w x:=fun j w y hj hy=>hok (j+1) w y (by simpa using hj) (by simpa using hy)
   have key:X3U v ⟨A++Xds 1 (v::l) (x::xs),B++Xds 2 (v::l) (x::xs),C++Xds 3 (v::l) (x::xs)⟩ A.length B.length C.length=⟨x,true,(A++(if v.kind=1 then [x] else [])).length,(B++(if v.kind=2 then [x] else [])).length,(C++(if v.kind=3 then [x] else [])).length⟩:=by
    unfold X3U;by_cases k1:v.kind=1
    · have k2:¬v.kind=2:=by omega
      have k3:¬v.kind=3:=by omega
      simp[Xds,k1]
    by_cases k2:v.kind=2
    · have k3:¬v.kind=3:=by omega
      simp[Xds,k2]
    by_cases k3:v.kind=3
    · simp[Xds,k3]
    simp[k1,k2,k3,h0.2 k1 k2 k3]
   simp only[stL];rw[key];simp only[if_true];have hfit:(true&&(decide (v.low≤x)&&decide (x≤v.high)))=true:=by simp[h0.1.1,h0.1.2]
   rw[hfit];have:=XdN l xs (A++(if v.kind=1 then [x] else [])) (B++(if v.kind=2 then [x] else [])) (C++(if v.kind=3 then [x] else [])) (acc++[x]) hl2 ho2;simp only[List.append_assoc]at this;simp only[Xds];rw[this];simp
theorem XdQ {vars:List Vr} {m:List Int} (hl:m.length=vars.length) (h:∀(j:Nat) w x,vars[j]? =some w→m[j]? =some x→okV1 w x):stL (mixI vars m) vars 0 0 0 [] true=(m,0):=by
 have:=XdN vars m [] [] [] [] hl h;simpa[mixI]using this
def mixV (nd:Nat→Bool) (a b:List Int):List Int:=(List.range b.length).map fun v=>if nd v=true then(a[v]?).getD 0 else(b[v]?).getD 0
theorem XdE (nd:Nat→Bool) (a b:List Int):(mixV nd a b).length=b.length:=by simp[mixV]
theorem Xdw {nd:Nat→Bool} {a b:List Int} (h:a.length=b.length) {v:Nat} (hv:v<b.length):∃x y,a[v]? =some x∧b[v]? =some y∧(mixV nd a b)[v]? =some (if nd v=true then x else y):=by
 have h1:a[v]? =some (a[v]'(by omega)):=List.getElem?_eq_getElem _;have h2:b[v]? =some b[v]:=List.getElem?_eq_getElem _;refine⟨_,_,h1,h2,?_⟩;unfold mixV;rw[List.getElem?_map,List.getElem?_range hv];simp only[Option.map_some,h1,h2,Option.getD_some]
theorem mem_neL {f:Fl} {q:List Int} {v:Int}:v∈neL f q↔∃o,o∈ZM (Q4 f) (QG q)∧v∈ndA f (flL f.body) (rdT f) o:=by
 unfold neL neA;rw[List.mem_mergeSort,X2g,List.mem_flatMap];simp
theorem bw_clo {f:Fl} {q:List Int} {o:Nat} (h:Kb (bwL f q) o=true):o∈ZM (Q4 f) (QG q):=by
 unfold Kb at h;rw[decide_eq_true_eq,bwL,X0K]at h;exact h.2
noncomputable def ndB (f:Fl) (q:List Int):Nat→Bool:=fun v=>decide ((v:Int)∈neL f q)
theorem Xdv {f:Fl} (h:Sm f) (h0:Q0 f=0) {q:List Int} (hq:okQ (szL f.body) q) {i j:Inp} (hi:(stL i f.vars 0 0 0 [] true).2=0) (hj:(stL j f.vars 0 0 0 [] true).2=0):
  (X2S (X57 f q) i).2=0∧(X2S (X57 f q) (mixI f.vars (mixV (ndB f q) (stL i f.vars 0 0 0 [] true).1 (stL j f.vars 0 0 0 [] true).1))).2=0∧
  (X2S (X57 f q) i).1.outs=(X2S (X57 f q) (mixI f.vars (mixV (ndB f q) (stL i f.vars 0 0 0 [] true).1 (stL j f.vars 0 0 0 [] true).1))).1.outs:=by
 have hL:=X7E h h0;obtain⟨_,a,ha,hal,hao⟩:=XdB i f.vars 0 0 0 [] true hi;obtain⟨_,b,hb,hbl,hbo⟩:=XdB j f.vars 0 0 0 [] true hj;rw[List.nil_append]at ha hb;rw[ha,hb];have hml:(mixV (ndB f q) a b).length=f.vars.length:=by rw[XdE,hbl]
 have hmo:∀(k:Nat) w x,f.vars[k]? =some w→(mixV (ndB f q) a b)[k]? =some x→okV1 w x:=by
  intro k w x hw hx;have hk:=(List.getElem?_eq_some_iff.1 hw).1;obtain⟨y,z,h1,h2,h3⟩:=Xdw (nd:=ndB f q) (a:=a) (b:=b) (by omega) (v:=k) (by omega);rw[h3]at hx;cases hx;split
  · exact hao k w y hw h1
  exact hbo k w z hw h2
 have hst:=XdQ hml hmo;obtain⟨m,hm⟩:∃m,mixV (ndB f q) a b=m:=⟨_,rfl⟩
 have hmget:∀v,v<f.vars.length→ndB f q v=true→a[v]? =m[v]? :=by
  intro v hv hn;obtain⟨y,z,h1,h2,h3⟩:=Xdw (nd:=ndB f q) (a:=a) (b:=b) (by omega) (v:=v) (by omega);rw[←hm,h3,if_pos hn,h1]
 rw[hm]at hst hml⊢;have X5X:Q0 (X57 f q)=0:=X8l _ h0 0;obtain⟨r1,r2⟩:=X9B (f:=X57 f q) (i:=i) X5X hi;obtain⟨r3,r4⟩:=X9B (f:=X57 f q) (i:=mixI f.vars m) X5X (by show(stL _ f.vars 0 0 0 [] true).2=0;rw[hst]);refine⟨r1,r3,?_⟩;rw[r2,r4];have e3:(X57 f q).vars=f.vars:=rfl;have e4:(X57 f q).hats=f.hats:=rfl;have e6:(X57 f q).body=prL (kp (toI (X5b f q))) f.body 0:=rfl;rw[e3,e4,e6,ha,hst];have hs:=slc_bw h h0 hq;have hg:=hL.g;have hlen:=XO f.body;have hhf:∀h∈f.hats,QL f.vars true h.term=true:=(X8f h.bnd h0).2.2
 have hmem:∀(o:Nat) s,Kb (bwL f q) o=true→(flL f.body)[o]? =some s→∀r,(rdT f)[o]? =some r→∀v:Int,v∈X4s (flL f.body).length (X2I (flL f.body) s r)++(if s.do_=5 then hatV f.hats s.n.toNat else [])→v∈neL f q:=by
  intro o s hk hs r hr v hv;refine mem_neL.2 ⟨o,bw_clo hk,?_⟩;unfold ndA;rw[hs,hr];exact hv
 have hrl:(rdT f).length=szL f.body:=X85 _ _
 have hne:Need (grN f.body) (flL f.body) f.vars.length (Kb (bwL f q)) (ndB f q) (Wh a f.hats) (Wh m f.hats):=by
  refine⟨fun o s hk hs k x hx h4 hxa d hd hv hdl=>?_,fun o s hk hs h5=>?_⟩
  · have ho:=(List.getElem?_eq_some_iff.1 hs).1;obtain⟨r,hr,hm2⟩:=XdP hg hx h4 hxa (by omega) hd;unfold ndB;rw[decide_eq_true_eq];refine hmem o s hk hs r hr _ (List.mem_append_left _ ?_);unfold X4s X2I;refine List.mem_map.2 ⟨d,List.mem_filter.2 ⟨List.mem_filter.2 ⟨hm2,?_⟩,by simpa using hdl⟩,by omega⟩;rw[decide_eq_true_eq,XaE,X2g];exact .inr hv
  have ho:=(List.getElem?_eq_some_iff.1 hs).1;have hr:(rdT f)[o]? =some ((rdT f)[o]'(by omega)):=List.getElem?_eq_getElem _;unfold Wh;rw[List.getElem?_map,List.getElem?_map];cases hh:f.hats[s.n.toNat]? with
  |none=>rfl
  | some g=>
    simp only[Option.map_some,Option.getD_some];rw[X9Y (vs:=a) (ws:=m) g.term fun w hw=>?_];obtain⟨w0,w1⟩:=XbH g.term (hhf g (List.mem_of_getElem? hh)) w hw;refine hmget w.toNat (by omega) ?_;unfold ndB;rw[decide_eq_true_eq];refine hmem o s hk hs _ hr _ (List.mem_append_right _ ?_);rw[if_pos h5];unfold hatV;rw[hh];simp only
    rwa [show((w.toNat:Nat):Int)=w by omega]
 have hsub:∀o:Nat,decide ((o:Int)∈q)=true→Kb (bwL f q) o=true:=by
  intro o ho;rw[decide_eq_true_eq]at ho;unfold Kb;rw[decide_eq_true_eq];exact(Xc1 h hq o).2 (.base (List.mem_map.2 ⟨_,ho,by simp⟩))
 have hsim:=sim2 (kO:=fun o=>decide ((o:Int)∈q)) hs hne hsub rfl f.body 0 1 (1+wdL f.body) (-1) hL (Sub.of_self _) (⟨a,[],0⟩,fun v=>(flL f.body).length+v) (⟨m,[],0⟩,fun v=>(flL f.body).length+v) (Xdx f) (Xdx f)
  ⟨rfl,hal,hml,fun v hv _ _=>⟨rfl,fun hk=>by
   rcases hk with hk|hk
   · exfalso;unfold Kb at hk;rw[decide_eq_true_eq,bwL,X0K,QN]at hk;have:=hk.1;simp only at this;omega
   exact hmget v hv hk⟩⟩
 have he:=fun x=>stD_er (vars:=f.vars) (hv:=Wh x f.hats) (kO:=fun o=>decide ((o:Int)∈q)) (kp (toI (X5b f q))) f.body 0 (fun k s hs=>by
  rw[Nat.zero_add,mut_kp hs]) (⟨x,[],0⟩,fun v=>(flL f.body).length+v)
 have:=hsim.1;rw[he a,he m]at this;exact this
end Go.Proofs.YtppjennamodfdaaGreat

namespace Go.Proofs.YtppjennamodfdaaGreat
open Go Go.Hl
structure Uo (f:Fl) (i:Inp) (A:List Int) (a b m ND:List Int) (M:Fl) (O:List Int) (t1 t2:Int):Prop where
 cn:∀d,Con Tryz.prog 20 false [aF f,lI A] (.tup [lI ND,li 0]) none d
 cm:∀d,Con Tryz.prog 33 false [aF f,lI A] (.v (aF M)) none d
 cr:∀d,Con Tryz.prog 32 false [aF M,aI i] (.tup [.agg [.c (.sl 1 (Xe O)),.c (iC t1)],li 0]) none d
 cr2:∀d,Con Tryz.prog 32 false [aF M,.agg [.c (.sl 1 (Xe (Xds 1 f.vars m))),.c (.sl 1 (Xe (Xds 2 f.vars m))),.c (.sl 1 (Xe (Xds 3 f.vars m)))]] (.tup [.agg [.c (.sl 1 (Xe O)),.c (iC t2)],li 0]) none d
 lO:O.length≤1000000000
 lN:ND.length≤1000000000
 lm:m.length=f.vars.length
 get:∀v:Nat,v<f.vars.length→∃x y,a[v]? =some x∧b[v]? =some y∧m[v]? =some (if decide ((v:Int)∈ND)=true then x else y)
theorem uo_mk {f:Fl} (h:Sm f) (h0:Q0 f=0) {i j:Inp} (hi:(stL i f.vars 0 0 0 [] true).2=0) (hj:(stL j f.vars 0 0 0 [] true).2=0) {A:List Int} (hA:okQ (szL f.body) A) (lA:A.length≤40) (hNl:(neL f A).length≤1000000000):
  ∃m ND M O t1 t2,Uo f i A (stL i f.vars 0 0 0 [] true).1 (stL j f.vars 0 0 0 [] true).1 m ND M O t1 t2:=by
 obtain⟨o1,o2,o3⟩:=Xdv h h0 hA hi hj;have smM:Sm (X57 f A):=pr_sm h _;have r1:=X9O (X57 f A) i (by have:=smM.vars;omega) (by have:=smM.hats;omega) (by have:=smM.nodes;omega) smM.bnd;have r2:=X9O (X57 f A) (mixI f.vars (mixV (ndB f A) (stL i f.vars 0 0 0 [] true).1 (stL j f.vars 0 0 0 [] true).1)) (by have:=smM.vars;omega) (by have:=smM.hats;omega) (by have:=smM.nodes;omega) smM.bnd;have hl:=XdF (f:=X57 f A) smM.bnd (i:=i);rw[o1]at r1;rw[o2]at r2;simp only[aO]at r1 r2;rw[←o3]at r2;have l1:=X7Y i f.vars 0 0 0 [] true hi;have l2:=X7Y j f.vars 0 0 0 [] true hj;simp only[List.length_nil,Nat.zero_add]at l1 l2;refine⟨_,neL f A,X57 f A,_,_,_,?_,?_,r1,r2,hl,hNl,?_,?_⟩
 · intro d;have:=Xco f h A (by omega) d
   rwa [X7Z h0 hA,if_pos rfl]at this
 · exact XdI f (by have:=h.nodes;omega) A (by omega)
 · rw[XdE,l2]
 intro v hv;exact Xdw (nd:=ndB f A) (by rw[l1,l2]) (by rw[l2];exact hv)
theorem neL_len {f:Fl} (h:Sm f) {q:List Int} (hq:okQ (szL f.body) q):(neL f q).length≤1000000000:=by
 have hn:(Q4 f).length=szL f.body:=by rw[QN,XO]
 have hs:=(Z6 h).hn;rw[XO]at hs;have hc:=(WG (X4x h) (l0:=QG q) (by rw[hn];exact hq.nat)).1.len;unfold neL neA;rw[List.length_mergeSort];refine Nat.le_trans (X7F _ _) ?_;simp only[List.length_nil,Nat.zero_add]
 have key:∀o,(ndA f (flL f.body) (rdT f) o).length≤10000:=by
  intro o;unfold ndA;split
  · rename_i s r hs2 hr;have h1:=((Z6 h).rdl r (List.mem_of_getElem? hr)).1;rw[List.length_append];have h2:=XdH (flL f.body).length (X2I (flL f.body) s r);have h3:=XdD (flL f.body) s r
    have h4:(if s.do_=5 then hatV f.hats s.n.toNat else []).length≤1000:=by
     split
     · unfold hatV;split
       · rename_i g hg;have:=Xc7 g.term;have h5:=X0l (List.mem_of_getElem? hg);have h6:=h.nodes;omega
       simp
     simp
    omega
  simp
 have:∀l:List Nat,(l.flatMap (ndA f (flL f.body) (rdT f))).length≤10000*l.length:=by
  intro l
  induction l with
  |nil=>simp
  | cons o l ih=>
    have:=key o;simp only[List.flatMap_cons,List.length_append,List.length_cons];omega
 have h7:=this (ZM (Q4 f) (QG q));omega
set_option maxHeartbeats 32000000 in
theorem XdA (f:Fl) (q:List Int) (i j:Inp) (d:Nat):Con Tryz.prog 8 true [aF f,lI q,.agg [.c (.sl 1 (Xe i.s)),.c (.sl 1 (Xe i.p)),.c (.sl 1 (Xe i.r)),.c (.sl 1 (Xe j.s)),.c (.sl 1 (Xe j.p)),.c (.sl 1 (Xe j.r))]] (.v (lb true)) none d:=by
 have ck:=X77;have cf:=Xbx f [q] (by simp);obtain⟨FQ,hFQ⟩:∃x,fitQ f [q]=x:=⟨_,rfl⟩;rw[hFQ]at cf;have hsm:=fun h:FQ=true=>XdJ (X1V (hFQ.trans h)).1;have hla:=fun h:FQ=true=>(X1V (hFQ.trans h)).2 q (by simp);obtain⟨C,hC⟩:∃x,Q0 f=x:=⟨_,rfl⟩;have cc:=fun h:FQ=true=>Zl f (by have:=(hsm h).vars;omega) (by have:=(hsm h).hats;omega) (by have:=(hsm h).nodes;omega) (hsm h).bnd;have ca:=fun h:FQ=true=>X2A f (by have:=(hsm h).nodes;omega) q (by have:=hla h;omega);have hnv:=fun h:FQ=true=>(hsm h).vars;have cst:=fun h:FQ=true=>X7I f.vars i (by have:=(hsm h).vars;omega);have cst2:=fun h:FQ=true=>X7I f.vars j (by have:=(hsm h).vars;omega);have hok:=X7L (szL f.body) q;have hl1:=fun h:FQ=true=>Nat.le_trans (X3l (szL f.body) q) (hla h);obtain⟨A,hA⟩:∃x,X1u (szL f.body) q=x:=⟨_,rfl⟩;rw[hA]at ca hok hl1;have hou:=fun(h:FQ=true) (h0:C=0) (h1:(stL i f.vars 0 0 0 [] true).2=0) (h2:(stL j f.vars 0 0 0 [] true).2=0)=>uo_mk (hsm h) (hC.trans h0) h1 h2 hok (hl1 h) (neL_len (hsm h) hok);obtain⟨a,ha⟩:∃x,(stL i f.vars 0 0 0 [] true).1=x:=⟨_,rfl⟩;obtain⟨b,hb⟩:∃x,(stL j f.vars 0 0 0 [] true).1=x:=⟨_,rfl⟩;obtain⟨S,hS⟩:∃x,(stL i f.vars 0 0 0 [] true).2=x:=⟨_,rfl⟩;obtain⟨S2,hS2⟩:∃x,(stL j f.vars 0 0 0 [] true).2=x:=⟨_,rfl⟩;rw[ha,hS]at cst;rw[hb,hS2]at cst2;rw[ha,hb,hS,hS2]at hou;rw[hC]at cc;simp only[lQ,X3g,List.map_cons,List.map_nil]at cf;clear hC hsm hla hok hA hFQ hl1 ha hb hS hS2;obtain⟨vars,hats,body⟩:=f;obtain⟨is,ip,ir⟩:=i;obtain⟨js,jp,jr⟩:=j;simp only at hnv;simp only[aF,Fl.enc,List.map_cons,List.map_nil,aI]at cf cc ca cst cst2⊢;have hz1:Xds 1 [] []=[]:=rfl;have hz2:Xds 2 [] []=[]:=rfl;have hz3:Xds 3 [] []=[]:=rfl;have hz4:Xe []=[]:=rfl;refine X5 Tryz.func8 ?_;simp only[Tryz.f8];refine X3 ?_;refine X1<|X1<|(Xm [⟨false,.v (lb true),none⟩] ?_ ?_)
 · first|exact ck _|exact trivial|simpa[*]using ck _
 refine(Xa rfl (fun h2=>?_) fun h2=>?_)
 · exact absurd h2 (by simp)
 (try simp only[BN]at h2);rcases FQ with _|_
 · refine X1<|X1<|(WP [some ⟨true,.v (lb false),none⟩,none] (by simp[*];first|exact⟨rfl,Iff.rfl⟩|exact⟨rfl,trivial⟩|rfl) ?_ ?_)
   · first|exact trivial|exact cf _|simpa using cf _
   refine(Xa rfl (fun h6=>?_) fun h6=>?_)
   · (try simp only[BN]at h6);refine X3 ?_;exact Xc
   exact absurd h6 (by simp)
 have cc:=cc rfl;have ca:=ca rfl;have cst:=cst rfl;have cst2:=cst2 rfl;have hou:=hou rfl;have hnv:=hnv rfl;refine X1<|X1<|(Xm [⟨true,.v (lb true),none⟩,⟨true,.v (li C),none⟩] ?_ ?_)
 · first|exact⟨cf _,cc _⟩|exact trivial|(repeat' first|exact trivial|exact cf _|exact cc _|apply And.intro)
 refine(Xa rfl (fun h6=>?_) fun h6=>?_)
 · (try simp only[BN]at h6);refine X3 ?_;exact Xc
 (try simp only[BN]at h6);have hz:C=0:=by simpa using h6
 subst hz;have hou:=hou rfl;clear h6 cc cf ck;refine Xj [⟨false,.tup [lI a,li S],none⟩] ?_ ?_
 · first|exact cst _|exact trivial|simpa[*]using cst _
 refine Xj [⟨false,.tup [lI b,li S2],none⟩] ?_ ?_
 · first|exact cst2 _|exact trivial|simpa[*]using cst2 _
 refine X1<|X1<|X2 ?_;refine(Xa rfl (fun h12=>?_) fun h12=>?_)
 · (try simp only[BN]at h12);refine X3 ?_;exact Xc
 (try simp only[BN]at h12);have hz:S=0∧S2=0:=by simpa using h12
 obtain⟨rfl,rfl⟩:=hz;obtain⟨m,ND,M,O,t1,t2,cn,cm,cr,cr2,lO,lN,lm,get⟩:=hou rfl rfl;obtain⟨mv,mh,mb⟩:=M;have ce:=X0H O O lO lO;rw[decide_eq_true rfl]at ce;have chN:=fun x=>X3x ND x lN;simp only at lm get cr2;simp only[aF,Fl.enc,List.map_cons,List.map_nil,aI]at cn cm cr cr2;clear h12 cst cst2 hou lO lN;refine Xj [⟨false,.v (lI A),none⟩] ?_ ?_
 · first|exact ca _|exact trivial|simpa[*]using ca _
 refine Xj [⟨false,.tup [lI ND,li 0],none⟩] ?_ ?_
 · first|exact cn _|exact trivial|simpa[*]using cn _
 refine X1<|X1<|X2 ?_;refine(Xa rfl (fun h18=>?_) fun h18=>?_)
 · exact absurd h18 (by simp)
 (try simp only[BN]at h18);refine X3 ?_;refine X1<|X1<|X2 ?_;refine X4<|(Xf [1,3,5,7,9,11,13,68] (fun(k:Nat)=>[(69,.v (li k))]) (fun k=>[(3,.box [.c (.sl 5 (Xv vars)),.c (.sl 6 (Xu hats)),.c (.sl 10 (X9 body))]),(5,.box [.c (.sl 1 (Xe is)),.c (.sl 1 (Xe ip)),.c (.sl 1 (Xe ir)),.c (.sl 1 (Xe js)),.c (.sl 1 (Xe jp)),.c (.sl 1 (Xe jr))]),(13,.box [.own 1001,.own 1002,.own 1003]),(1001,.row 3 1 (Xe (Xds 1 (vars.take k) (m.take k)))),(1002,.row 3 1 (Xe (Xds 2 (vars.take k) (m.take k)))),(1003,.row 3 1 (Xe (Xds 3 (vars.take k) (m.take k))))]) (fun k=>k≤vars.length) (fun k=>vars.length - k) (0:Nat) (Nat.zero_le _) ?_ ?_)
 · exact X6 (fun n=>n) [1001,1002,1003]
 rintro k hk;simp only[upS,X8,Xw]
 try simp only[X8,KN,Nat.reduceBEq,if_true,if_false,ins,Nat.reduceLT]
 refine X3 ?_;refine X1<|(X7 rfl (fun h25=>Xb ?_) (fun h25=>?_))
 · (try simp only[BN]at h25);have hlt:k<vars.length:=by first|omega|simpa using h25
   obtain⟨w,he,hd⟩:=Xs hlt;have hw1:=XA hlt (by omega);have hk1:k+1≤vars.length:=hlt;obtain⟨x,y,hax,hby,hmk⟩:=get k hlt;have ex:=X4A hax;have ey:=X4A hby;have chk:=chN k;obtain⟨G,hG⟩:∃g,decide ((k:Int)∈ND)=g:=⟨_,rfl⟩;rw[hG]at chk hmk;obtain⟨p1,hp1⟩:∃p,Xds 1 (vars.take k) (m.take k)=p:=⟨_,rfl⟩;obtain⟨p2,hp2⟩:∃p,Xds 2 (vars.take k) (m.take k)=p:=⟨_,rfl⟩;obtain⟨p3,hp3⟩:∃p,Xds 3 (vars.take k) (m.take k)=p:=⟨_,rfl⟩;have b1:=Xdu 1 (vars.take k) (m.take k);have b2:=Xdu 2 (vars.take k) (m.take k);have b3:=Xdu 3 (vars.take k) (m.take k);rw[hp1,List.length_take]at b1;rw[hp2,List.length_take]at b2;rw[hp3,List.length_take]at b3;have q1:=@Xdt 1 vars m k w _ he hmk;have q2:=@Xdt 2 vars m k w _ he hmk;have q3:=@Xdt 3 vars m k w _ he hmk;rw[hp1]at q1;rw[hp2]at q2;rw[hp3]at q3;have room1:Qq (p1.length+1) 8:=XB (by omega) (by decide);have room2:Qq (p2.length+1) 8:=XB (by omega) (by decide);have room3:Qq (p3.length+1) 8:=XB (by omega) (by decide);obtain⟨wn,wk,wl,wh,wi⟩:=w
   try simp only at q1 q2 q3
   clear hlt h25 hd hax hby hmk b1 b2 b3 chN get hG hz1 hz2 hz3;refine X1<|X4<|X1<|X2 ?_;refine X3 ?_;refine(XV [1,3,5,7,9,11,13,14,68,69] (fun(z:Int)=>[(15,.v (li z))]) (fun(z:Int)=>[(3,.box [.c (.sl 5 (Xv vars)),.c (.sl 6 (Xu hats)),.c (.sl 10 (X9 body))]),(5,.box [.c (.sl 1 (Xe is)),.c (.sl 1 (Xe ip)),.c (.sl 1 (Xe ir)),.c (.sl 1 (Xe js)),.c (.sl 1 (Xe jp)),.c (.sl 1 (Xe jr))]),(13,.box [.own 1001,.own 1002,.own 1003]),(1001,.row 3 1 (Xe p1)),(1002,.row 3 1 (Xe p2)),(1003,.row 3 1 (Xe p3))]) (fun(z:Int)=>z=if G=true then x else y) ?_ ?_)
   ·
    refine Xj [⟨true,.v (lb G),none⟩] ?_ ?_
    · first|exact chk _|exact trivial|simpa[*]using chk _
    refine(Xa rfl (fun h30=>?_) fun h30=>?_)
    · (try simp only[BN]at h30);have hGt:G=true:=by simpa using h30
      clear h30;refine X2 ?_;exact⟨x,(by rw[if_pos hGt]),X6 (fun n=>n) []⟩
    (try simp only[BN]at h30);have hGf:¬G=true:=by simpa using h30
    clear h30;exact⟨y,(by rw[if_neg hGf]),X6 (fun n=>n) []⟩
   rintro z hz;simp only[upS,X8,Xw]
   try simp only[X8,KN,Nat.reduceBEq,if_true,if_false,ins,Nat.reduceLT]
   rw[←hz]at q1 q2 q3;clear hz hp1 hp2 hp3;refine X3 ?_;refine X4<|X1<|X2 ?_;refine(X7 rfl (fun h36=>?_) (fun h36=>?_))
   · (try simp only[BN]at h36);have hk0:wk=1:=by simpa using h36
     subst hk0;rw[if_pos rfl]at q1;rw[if_neg (by decide),List.append_nil]at q2 q3;clear h36;refine X2 ?_;refine X2 ?_;exact⟨k+1,hk1,by omega,X6 (fun n=>if n=1001 then 95 else n) []⟩
   (try simp only[BN]at h36);have hk1':¬wk=1:=by simpa using h36
   rw[if_neg hk1',List.append_nil]at q1;clear h36;refine X3 ?_;refine(X7 rfl (fun h41=>?_) (fun h41=>?_))
   · (try simp only[BN]at h41);have hk0:wk=2:=by simpa using h41
     subst hk0;rw[if_pos rfl]at q2;rw[if_neg (by decide),List.append_nil]at q3;clear h41;refine X2 ?_;refine X2 ?_;exact⟨k+1,hk1,by omega,X6 (fun n=>if n=1002 then 103 else n) []⟩
   (try simp only[BN]at h41);have hk2':¬wk=2:=by simpa using h41
   rw[if_neg hk2',List.append_nil]at q2;clear h41;refine X3 ?_;refine(Xa rfl (fun h46=>?_) fun h46=>?_)
   · (try simp only[BN]at h46);have hk0:wk=3:=by simpa using h46
     subst hk0;rw[if_pos rfl]at q3;clear h46;refine X2 ?_;refine X2 ?_;exact⟨k+1,hk1,by omega,X6 (fun n=>if n=1003 then 111 else n) []⟩
   (try simp only[BN]at h46);have hk3':¬wk=3:=by simpa using h46
   rw[if_neg hk3',List.append_nil]at q3;clear h46;refine X2 ?_;exact⟨k+1,hk1,by omega,X6 (fun n=>n) []⟩
 (try simp only[BN]at h25);have hkl:k=vars.length:=by first|omega|(have:¬k<vars.length:=by simpa using h25;omega)
 subst hkl;have e1:vars.take vars.length=vars:=List.take_length;have e2:m.take vars.length=m:=by rw[←lm];exact List.take_length
 rw[e1,e2];clear h25 e1 e2;refine(Xi ?_);refine XC (XJ 1001 rfl) ?_;refine XC (XJ 1002 rfl) ?_;refine XC (XJ 1003 rfl) ?_;refine Xj [⟨false,.v (.agg [.c (.sl 5 (Xv mv)),.c (.sl 6 (Xu mh)),.c (.sl 10 (X9 mb))]),none⟩] ?_ ?_
 · first|exact cm _|exact trivial|simpa[*]using cm _
 refine Xj [⟨false,.tup [.agg [.c (.sl 1 (Xe O)),.c (iC t1)],li 0],none⟩] ?_ ?_
 · first|exact cr _|exact trivial|simpa[*]using cr _
 refine Xj [⟨false,.tup [.agg [.c (.sl 1 (Xe O)),.c (iC t2)],li 0],none⟩] ?_ ?_
 · first|exact cr2 _|exact trivial|simpa[*]using cr2 _
 refine Xj [⟨true,.v (lb true),none⟩] ?_ ?_
 · first|exact ce _|exact trivial|simpa[*]using ce _
 exact Xc
end Go.Proofs.YtppjennamodfdaaGreat
