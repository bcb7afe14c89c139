/- Contracts of functions and plain facts about what they compute. Conditions: as each theorem states. -/
import Derived.Test.YtdajceakaakdoaaGreatJ22
set_option linter.unusedSimpArgs false
set_option linter.unusedVariables false
set_option linter.unnecessarySimpa false
set_option maxRecDepth 100000
set_option maxHeartbeats 2000000
namespace Go.Proofs.YtdajceakaakdoaaGreat
open Go Go.Hl
theorem Xdo {l:List (Nat×Int)} {k:Nat} {p:Nat×Int} (h:l[k]? =some p):(W6 l)[k]? =some [iC (p.1:Int),iC p.2]:=by simp[W6,h]
def X1L (ev:List (Nat×Int)) (s:Nat):List Int:=(ev.filter fun p=>decide (p.1=s)).map (·.2)
theorem Xbx {ev:List (Nat×Int)} {k s:Nat} {p:Nat×Int} (h:ev[k]? =some p):X1L (ev.take (k+1)) s=X1L (ev.take k) s++(if p.1=s then [p.2] else []):=by
 unfold X1L;rw[List.take_add_one,h,Da,DA];congr 1;by_cases h:p.1=s<;>simp[h]
theorem X7u (ev:List (Nat×Int)) (s:Nat):(X1L ev s).length<=ev.length:=by
 unfold X1L;rw[NW];exact Dh _ _
theorem XaQ (ev:List (Nat×Int)) (s:Nat) (hl:ev.length<=100000000) (d:Nat):Con Tryz.prog 31 false [.one (.c (.sl 2 (W6 ev))),li s] (.v (lI (X1L ev s))) none d:=by
 refine X5 Tryz.func31 ?_;simp only[Tryz.f31];refine X2 ?_;refine X2 ?_;refine X0<|X0<|X1 ?_;refine X3<|(Xg [1,9,10] (fun(y:Nat)=>[(5,.v (.one (.own 1005))),(11,.v (li y))]) (fun y=>[(1005,.row 3 1 (X9 (X1L (ev.take y) s)))]) (fun y=>y<=ev.length) (fun y=>ev.length - y) (0:Nat) (Nq _) ?_ ?_)
 .exact Xw (fun n=>if n=1005 then 8 else n) [] rfl (by simp[*,upS,X8]) (by simp[*,upS,X1L,X9]) (by simp[upS])
 rintro y hy;simp only[upS,X8,Xz]
 simp only[KN,Nat.reduceBEq,Nj,Nc,ins,Nat.reduceLT]
 refine X2 ?_;refine X0<|(X6 rfl (fun h5=>Xe ?_) (fun h5=>?_))
 ·simp only[BN]at h5;have hlt:y<ev.length:=by omega
  have hw1:=XD hlt (by omega);obtain⟨p,hp,_⟩:=Xt hlt;have hpe:=Xdo hp;have htk:=Xbx (s:=s) hp;have hll:=X7u (ev.take y) s;have hll2:(ev.take y).length<=ev.length:=by simp;omega
  have hroom:W5 ((X1L (ev.take y) s).length+1) 8:=⟨by unfold maxLen;omega,by omega⟩;obtain⟨ps,px⟩:=p;simp only at hpe htk;have hlt2:y+1<=ev.length:=hlt;have hsn:X9 [px]=[[iC px]]:=rfl;clear h5 hlt hp hll hll2;refine X0<|X3<|X0<|X1 ?_;refine X2 ?_;refine(Xb rfl (fun h8=>?_) fun h8=>?_)
  ·simp only[BN]at h8;have hu:ps=s:=by have:=h8;omega
   simp only[hu,Nj]at htk;clear h8;refine X1 ?_;refine X1 ?_;exact⟨y+1,hlt2,by omega,X4 (fun n=>if n=1005 then 23 else n) []⟩
  simp only[BN]at h8;have hu:¬ps=s:=by have:=h8;omega
  simp only[hu,Nc,Dq]at htk;clear h8;refine X1 ?_;exact⟨y+1,hlt2,by omega,X4 (fun n=>n) []⟩
 simp only[BN]at h5;obtain rfl:y=ev.length:=by omega
 rw[List.take_length];refine(Xi ?_);refine XC (Qy 1005 rfl) ?_;refine X2 ?_;exact Xc
section
variable {vars:List Vr} {hv:List Int} {kO:Nat->Bool}
theorem X9m {c:Int} {t:Tm} {body:Sta×(Nat->Nat)->Sta×(Nat->Nat)} (h:∀x,(body x).1.outs=x.1.outs):∀(k:Nat) (x:Sta×(Nat->Nat)),(X0N c t body k x).1.outs=x.1.outs
 |0,x=>rfl
 | k+1,x=>by
   simp only[X0N];split
   .rfl
   rw[X9m h k,h];rfl
theorem Xdn {d v n:Int} {t:Tm} {bs:List Int} {s:Sta} (h:d≠1):(QV vars hv d v n t bs s).outs=s.outs:=by
 unfold QV
 (repeat' split)<;>first|rfl|exact absurd (by assumption) h
theorem X9n:∀l:List St,∀(o:Nat),(∀j,o<=j->j<o+szL l->kO j=false)->∀x,(stD vars hv kO l o x).1.outs=x.1.outs:=by
 apply St.lind
 .intro o _ x;simp only[stD]
 intro d c v n t a b bs l ia ib il o hk x;simp only[szL,szS]at hk;simp only[stD];rw[il _ fun j h1 h2=>hk j (by omega) (by omega)];have ha:=ia (o+1) fun j h1 h2=>hk j (by omega) (by omega);have hb:=ib (o+1+szL a) fun j h1 h2=>hk j (by omega) (by omega);split
 .exact X9m ha _ _
 split
 .split
  .exact hb _
  exact ha _
 unfold X1P;split
 .rfl
 rename_i h;by_cases h1:d=1
 .exact absurd ⟨h1,hk o (by omega) (by omega)⟩ h
 exact Xdn h1
end
section
variable {N:List Nd} {steps:List St} {vars:List Vr} {nh:Nat} {hv hw:List Int} {K:Nat->Bool} {ar:List Int} {kO:Nat->Bool} {nd:Nat->Bool}
theorem Xae {nv n:Nat} {c:Int} {t:Tm} {G:(Nat->Nat)->Prop} {body body2:Sta×(Nat->Nat)->Sta×(Nat->Nat)} (ht:∀x y,G x.2->G y.2->R2 K nd n nv x y->vT x.1.vals t=vT y.1.vals t) (hb:∀x y,G x.2->G y.2->R2 K nd n nv x y->G (body x).2/\G (body2 y).2/\R2 K nd n nv (body x) (body2 y)):
  ∀(m:Nat) (x y:Sta×(Nat->Nat)),G x.2->G y.2->R2 K nd n nv x y->R2 K nd n nv (X0N c t body m x) (X0N c t body2 m y)
 |0,x,y,_,_,h=>h
 | m+1,x,y,hg,hg2,h=>by
   simp only[X0N];rw[ht x y hg hg2 h];split
   .exact h
   have h':R2 K nd n nv (tick x.1 c,x.2) (tick y.1 c,y.2):=h;obtain⟨h1,h2,h3⟩:=hb (tick x.1 c,x.2) (tick y.1 c,y.2) hg hg2 h';exact Xae ht hb m _ _ h1 h2 h3
theorem sim2 {nv:Nat} (hs:Slc N steps nv ar K) (hne:Need N steps nv K nd hv hw) (hO:∀j,kO j=true->K j=true) (hvn:vars.length=nv):∀l:List St,∀(o k after:Nat) (par:Int),Lies N steps vars nh l o k after->Sub ar o (arL l par o)->∀x y,Gd N steps nv (Wg l k after) x.2->Gd N steps nv (Wg l k after) y.2->R2 K nd steps.length nv x y->
  R2 K nd steps.length nv (stD vars hv kO l o x) (stD vars hw kO l o y):=by
 apply St.lind
 .intro o k after par _ _ x y _ _ h;rw[X0J,X0J];exact h
 intro d c v n t a b bs l ia ib il o k after par hL hA x y hg hg2 hr;obtain⟨h1,h2⟩:=hL.cons;simp only[arL]at hA;obtain⟨s1,s2⟩:=hA.app;rw[X5M]at s2;rw[XbB]at s1;simp only[szS,St.then_,St.else_]at s1 s2;obtain⟨s3,s4⟩:=s1.cons;obtain⟨s5,s6⟩:=s4.app;rw[X0F]at s6;have hg:Gd N steps nv k x.2:=hg;have hg2:Gd N steps nv k y.2:=hg2;have hgm:=X4i (hv:=hv) (kO:=kO) h1 (X03 a) (X03 b) hg;have hgm2:=X4i (hv:=hw) (kO:=kO) h1 (X03 a) (X03 b) hg2;rw[X1a,X1a];refine il _ _ _ _ h2 s2 _ _ hgm hgm2 ?_;by_cases hk:K o=true
 .unfold st1;by_cases h4:d=4
  .rw[N8 h4,N8 h4];obtain⟨⟨z0,z01,z02,z03⟩,⟨z,z1,z2,z3,z4,z5⟩,hla,_⟩:=h1.loop h4;refine Xae (G:=Gd N steps nv (k+1)) (fun x y g g2 r=>X8n hs hne hvn h1.st h1.wf hk z1 (by omega) z3 g g2 r) (fun x y g g2 r=>?_) n.toNat x y (hg.pass z01 (by omega) z03 (W2 (by omega))) (hg2.pass z01 (by omega) z03 (W2 (by omega))) hr;have gx:=g.pass z1 (by omega) z4 (W2 (by omega));have gy:=g2.pass z1 (by omega) z4 (W2 (by omega));exact⟨X03 a _ _ _ hla x gx,X03 a _ _ _ hla y gy,ia _ _ _ _ hla s5 x y gx gy r⟩
  rw[N7 h4,N7 h4];by_cases h3:d=3
  .rw[N8 h3,N8 h3];obtain⟨⟨z,z1,z2,z3,z4,z5⟩,hla,hlb⟩:=h1.if_ h3;rw[X8n hs hne hvn h1.st h1.wf hk z1 (by omega) z3 hg hg2 hr];split
   .exact ib _ _ _ _ hlb s6 (tick x.1 c,x.2) (tick y.1 c,y.2) (hg.pass z1 (by omega) z5 (W2 (by omega))) (hg2.pass z1 (by omega) z5 (W2 (by omega))) hr
   exact ia _ _ _ _ hla s5 (tick x.1 c,x.2) (tick y.1 c,y.2) (hg.pass z1 (by omega) z4 (W2 (by omega))) (hg2.pass z1 (by omega) z4 (W2 (by omega))) hr
  rw[N7 h3,N7 h3];obtain⟨z,z1,z2,z3,z4⟩:=h1.leaf h3 h4;have hT:=X8n hs hne hvn h1.st h1.wf hk z1 (by omega) z3 hg hg2 hr;unfold X1P;by_cases hdr:d=1/\kO o=false
  .rw[N8 hdr,N8 hdr];exact hr
  rw[N7 hdr,N7 hdr];obtain⟨r1,r2,r3,r4⟩:=hr;have hvar:=h1.var;obtain⟨q1,q2⟩:=X7J (hv:=hv) (hw:=hw) (d:=d) (v:=v) (n:=n) (t:=t) (bs:=bs) (s:=tick x.1 c) (s':=tick y.1 c) r1 (by rw[hvn];exact r2) (by rw[hvn];exact r3) (fun h=>(hvar h).2) (fun _=>hT) (fun h=>hne.hat o _ hk h1.st h);refine⟨q1,?_,?_,fun w hw hkw hkw2=>?_⟩
  .simp only;rw[(X1h ..).1];exact r2
  .simp only;rw[(X1h ..).1];exact r3
  simp only at hkw hkw2⊢;by_cases hd:d=0\/d=5
  .rw[N8 hd]at hkw hkw2⊢;rw[N8 hd];unfold updD at*;by_cases e:w=v.toNat
   .rw[N8 e,N8 e];exact⟨rfl,fun _=>by rw[e];exact q2 hd⟩
   rw[N7 e]at hkw hkw2⊢;rw[N7 e,WB (.inl e),WB (.inl e)];exact r4 w hw hkw hkw2
  rw[N7 hd]at hkw hkw2⊢;rw[N7 hd,WB (.inr hd),WB (.inr hd)];exact r4 w hw hkw hkw2
 have hk:K o=false:=by simpa using hk
 have hout:∀j,o<=j->j<o+(1+szL a+szL b)->K j=false:=fun j j1 j2=>by
  by_cases e:j=o
  .rw[e];exact hk
  by_cases e1:j<o+1+szL a
  .exact X8W hs.up a (o+1) o s5 hk j (by omega) e1
  exact X8W hs.up b (o+1+szL a) o s6 hk j (by omega) (by omega)
 have hoO:∀j,o<=j->j<o+(1+szL a+szL b)->kO j=false:=fun j j1 j2=>by
  cases h:kO j with
  |false=>rfl
  |true=>have:=hO j h;rw[hout j j1 j2]at this;cases this
 have e0:szL [St.mk d c v n t a b bs]=1+szL a+szL b:=by simp[szL,szS]
 have q1:=X96 (vars:=vars) (hv:=hv) (kO:=kO) [.mk d c v n t a b bs] o x;have q2:=X9n (vars:=vars) (hv:=hv) (kO:=kO) [.mk d c v n t a b bs] o (by rw[e0];exact hoO) x;have q3:=X4h (vars:=vars) (hv:=hv) (kO:=kO) [.mk d c v n t a b bs] o x;have p1:=X96 (vars:=vars) (hv:=hw) (kO:=kO) [.mk d c v n t a b bs] o y;have p2:=X9n (vars:=vars) (hv:=hw) (kO:=kO) [.mk d c v n t a b bs] o (by rw[e0];exact hoO) y;have p3:=X4h (vars:=vars) (hv:=hw) (kO:=kO) [.mk d c v n t a b bs] o y;rw[X8t]at q1 q2 q3 p1 p2 p3;rw[e0]at q1 p1;obtain⟨r1,r2,r3,r4⟩:=hr;refine⟨q2.trans (r1.trans p2.symm),q3.trans r2,p3.trans r3,fun w hw hkw hkw2=>?_⟩
 have no:∀z:Nat,o<=z->z<o+(1+szL a+szL b)->(K z=true\/steps.length<=z)->False:=fun z z1 z2 hz=>by
  have:=h1.in_ z1 z2;rcases hz with hz|hz
  .rw[hout _ z1 z2]at hz;cases hz
  omega
 rcases q1 w with⟨u1,u2⟩|⟨u1,u2⟩
 .rcases p1 w with⟨u3,u4⟩|⟨u3,u4⟩
  .rw[u1,u2,u3,u4];rw[u1]at hkw;rw[u3]at hkw2;exact r4 w hw hkw hkw2
  exact(no _ u3 u4 hkw2).elim
 exact(no _ u1 u2 hkw).elim
end
section
variable {vars:List Vr} {hv:List Int}
def X2T (s:Nat) (l:List (Nat×Int)):List Int:=(l.filter fun x=>decide (x.1=s)).map (·.2)
theorem X7x (s:Nat) (a b:List (Nat×Int)):X2T s (a++b)=X2T s a++X2T s b:=by simp[X2T]
def Re (s:Nat) (x:Sta×(Nat->Nat)) (y:Sev):Prop:=x.1.vals=y.1.vals/\x.1.outs=X2T s y.2
theorem rnd_re {s:Nat} {c:Int} {t:Tm} {body:Sta×(Nat->Nat)->Sta×(Nat->Nat)} {body2:Sev->Sev} (h:∀x y,Re s x y->Re s (body x) (body2 y)):∀(k:Nat) (x:Sta×(Nat->Nat)) (y:Sev),Re s x y->Re s (X0N c t body k x) (X4S c t body2 k y)
 |0,_,_,h=>h
 | k+1,x,y,hr=>by
   simp only[X0N,X4S];rw[hr.1];have hr':Re s (tick x.1 c,x.2) (tick y.1 c,y.2):=⟨hr.1,hr.2⟩;split
   .exact hr'
   exact rnd_re h k _ _ (h _ _ hr')
theorem XbW {d v n:Int} {t:Tm} {bs:List Int} {s:Sta} (h:d≠1):(QV vars hv d v n t bs s).outs=s.outs:=by
 unfold QV
 (repeat' split)<;>first|rfl|contradiction
theorem ev_sel (s:Nat):∀l:List St,∀(o:Nat) (x:Sta×(Nat->Nat)) (y:Sev),Re s x y->Re s (stD vars hv (fun j=>decide (j=s)) l o x) (evD vars hv l o y):=by
 apply St.lind
 .intro o x y h;simpa[stD,evD]using h
 intro d c v n t a b bs l ia ib il o x y hr;simp only[stD,evD];refine il _ _ _ ?_;by_cases h4:d=4
 .rw[N8 h4,N8 h4];exact rnd_re (fun x y h=>ia _ x y h) _ _ _ hr
 rw[N7 h4,N7 h4];have hr':Re s (tick x.1 c,x.2) (tick y.1 c,y.2):=⟨hr.1,hr.2⟩;by_cases h3:d=3
 .rw[N8 h3,N8 h3,hr.1];split
  .exact ib _ _ _ hr'
  exact ia _ _ _ hr'
 rw[N7 h3,N7 h3];unfold X1P;by_cases h1:d=1
 .subst h1;rw[N8 rfl];by_cases hs:o=s
  .rw[N7 (by simp[hs])];refine⟨X1s hr.1,?_⟩;rw[X7x,<-hr.2];have hv0:(tick x.1 c).vals=y.1.vals:=hr.1;show(tick x.1 c).outs++[vT (tick x.1 c).vals t]=x.1.outs++X2T s [(o,vT y.1.vals t)];rw[hv0];simp[X2T,hs,tick]
  rw[N8 ⟨rfl,by simp[hs]⟩];refine⟨?_,?_⟩
  .rw[hr.1];rfl
  rw[X7x,<-hr.2];simp[X2T,hs]
 rw[N7 (fun h=>h1 h.1),N7 h1];refine⟨X1s hr.1,?_⟩;rw[XbW h1];exact hr.2
end
theorem Xds (l:List St):Xl l<=1000000->∀(i:Int) (s:St),0<=i->i<=5000000->Zr l i=some s->∀d:Nat,Con Tryz.prog 27 false [lS l,li i] (.tup [aS s,lb true]) none d:=by
 revert l
 apply St.lists;intro l ih hn i s hi0 hi1 hf d;have hlen:=Qs l;have hneg:¬i<0:=by omega
 obtain⟨rd,rc,rv,rn,⟨ro,rtn,rks⟩,ra,rb,rbs⟩:=s;refine X5 Tryz.func27 ?_;simp only[Tryz.f27];simp only[aS,St.enc,Tm.enc,Nk,Nr,List.cons_append,List.nil_append];refine X2 ?_;refine X0<|X0<|X1 ?_;refine(Xb rfl (fun h2=>?_) fun h2=>?_)
 .exact absurd h2 (by simp)
 simp only at h2;refine X0<|X0<|X1 ?_;refine X3<|(Xg [0,4] (fun(x:Nat×Int)=>[(1,.v (li x.2)),(6,.v (li x.1))]) (fun x=>[(4,.box [.c (iC 0),.c (iC 0),.c (iC 0),.c (iC 0),.c (iC 0),.c (iC 0),.c (.lit XX),.c (.lit XX),.c (.lit XX),.c (.lit XX)])]) (fun x=>x.1<=l.length/\Zr (l.drop x.1) x.2=some (.mk rd rc rv rn (.mk ro rtn rks) ra rb rbs)/\0<=x.2/\x.2<=5000000) (fun x=>l.length - x.1) (0,i) ⟨Nq _,hf,hi0,hi1⟩ ?_ ?_)
 .exact X4 (fun n=>n) []
 rintro⟨k,c⟩ ⟨hk,hJ,hc0,hc1⟩;simp only[upS,X8,Xz]
 simp only[KN,Nat.reduceBEq,Nj,Nc,ins,Nat.reduceLT]
 simp only at hk hJ hc0 hc1;clear hf hi0 hi1 hneg h2;refine X0<|X0<|X1 ?_;refine(X6 rfl (fun h8=>Xe ?_) (fun h8=>?_))
 ·simp only[BN]at h8;have hlt:k<l.length:=by omega
  obtain⟨s,he,hd⟩:=Xt hlt;have hw1:=XD hlt (by omega);have hk1:k+1<=l.length:=hlt;have hmem:s∈l:=N4 he;have hnm:=QJ hmem;rw[hd]at hJ;have he':=Q4 he;have iha:=(ih s hmem).1 (by omega);have ihb:=(ih s hmem).2 (by omega);obtain⟨sd,sc,sv,sn,⟨so,stn,sks⟩,sa,sb,sbs⟩:=s;simp only[St.then_,St.else_,St.term]at iha ihb hnm;have ca:=X0h sa (by omega);have cb:=X0h sb (by omega);have hga:=X02 sa (c - 1);have hna:=Zt sa (c - 1);have hla:=Zh sa;have hlb:=Zh sb;have hsa:=X11 sa (c - 1);have hsb:=X11 sb (c - 1 - (szL sa:Int));have hgb:=X02 sb (c - 1 - (szL sa:Int));rw[X0i]at hJ;simp only[St.enc,Tm.enc,List.cons_append,List.nil_append]at he';simp only[aS]at iha ihb;generalize szL sa=na at*;generalize szL sb=nb at*;clear hlt h8 ih hmem hd he;refine X0<|X3<|X0<|X0<|X1 ?_;refine(Xb rfl (fun h10=>?_) fun h10=>?_)
  ·simp only[BN]at h10;rw[N8 (by simpa using h10)]at hJ;cases hJ;clear h10;refine X2 ?_;exact XZ ⟨.inr rfl,_,le_refl _,⟨⟨_,by simp;rfl,by simp[XG]⟩,by simp,fun h=>by cases h⟩⟩
  simp only[BN]at h10;have hne:¬c=0:=by simpa using h10
  rw[N7 hne]at hJ;have hwa:IntKind.i64.wrap (c - 1)=c - 1:=Xa;have hwb:IntKind.i64.wrap (c - 1 - (na:Int))=c - 1 - (na:Int):=Xa;have hwc:IntKind.i64.wrap (c - 1 - (na:Int) - (nb:Int))=c - 1 - (na:Int) - (nb:Int):=Xa;clear h10;refine X2 ?_;refine Xh [⟨true,.v (li (na:Int)),none⟩] ?_ ?_
  .first|exact ca _|exact trivial|simpa[*]using ca _
  refine X0<|X0<|X1 ?_;refine(Xb rfl (fun h16=>?_) fun h16=>?_)
  .simp only[BN]at h16
   have h16':c - 1<(na:Int):=by
    first|omega|(simp at h16;omega)
   obtain⟨y,hy,_⟩:=hsa (by omega) h16';rw[hy]at hJ;simp only[Option.some.injEq]at hJ;subst hJ;have ci:=iha _ _ (by omega) (by omega) hy;clear h16 hna hga hgb hsb hsa hy iha ihb;refine Xh [⟨false,.tup [.agg [.c (iC rd),.c (iC rc),.c (iC rv),.c (iC rn),.c (iC ro),.c (iC rtn),.c (.sl 3 (Xx rks)),.c (.sl 10 (X7 ra)),.c (.sl 10 (X7 rb)),.c (.sl 1 (X9 rbs))],lb true],none⟩] ?_ ?_
   .first|exact ci _|exact trivial|simpa[*]using ci _
   exact XZ ⟨.inr rfl,_,le_refl _,⟨⟨_,by simp;rfl,by simp[XG]⟩,by simp,fun h=>by cases h⟩⟩
  simp only[BN]at h16
  have h16':(na:Int)<=c - 1:=by
   first|omega|(simp at h16;omega)
  rw[hga h16']at hJ;simp only at hJ;clear h16;refine X2 ?_;refine Xh [⟨true,.v (li (nb:Int)),none⟩] ?_ ?_
  .first|exact cb _|exact trivial|simpa[*]using cb _
  refine X0<|X0<|X1 ?_;refine(Xb rfl (fun h22=>?_) fun h22=>?_)
  .simp only[BN]at h22
   have h22':c - 1 - (na:Int)<(nb:Int):=by
    first|omega|(simp at h22;omega)
   obtain⟨y,hy,_⟩:=hsb (by omega) h22';rw[hy]at hJ;simp only[Option.some.injEq]at hJ;subst hJ;have ci:=ihb _ _ (by omega) (by omega) hy;clear h22 hna hga hgb hsb hsa hy iha ihb;refine Xh [⟨false,.tup [.agg [.c (iC rd),.c (iC rc),.c (iC rv),.c (iC rn),.c (iC ro),.c (iC rtn),.c (.sl 3 (Xx rks)),.c (.sl 10 (X7 ra)),.c (.sl 10 (X7 rb)),.c (.sl 1 (X9 rbs))],lb true],none⟩] ?_ ?_
   .first|exact ci _|exact trivial|simpa[*]using ci _
   exact XZ ⟨.inr rfl,_,le_refl _,⟨⟨_,by simp;rfl,by simp[XG]⟩,by simp,fun h=>by cases h⟩⟩
  simp only[BN]at h22
  have h22':(nb:Int)<=c - 1 - (na:Int):=by
   first|omega|(simp at h22;omega)
  rw[hgb h22']at hJ;simp only at hJ;clear h22 hna hga hgb hsb hsa iha ihb;refine X1 ?_;refine X1 ?_;exact⟨(k+1,c - 1 - (na:Int) - (nb:Int)),⟨hk1,hJ,by simp only;omega,by simp only;omega⟩,by simp only;omega,X4 (fun n=>n) []⟩
 exfalso;simp only[BN]at h8;have hkl:k=l.length:=by omega
 rw[hkl,Nw,X28]at hJ;cases hJ
abbrev l8 (n:Nat):TV:=.one (.c (.lit (.int .u8 n)))
def X7Q (l:List (Nat×Int)):List (List CD):=l.map fun p=>[iC (p.1:Int),iC p.2]
set_option maxHeartbeats 32000000 in
theorem XbY (vars:List Vr) (hats:List Ht) (body:List St) (i j:Inp) (nd n V M:Nat) (a b:List Int) (S1 S2:Int)
  (ck:∀d,Con Tryz.prog 12 false [] (.v (lb true)) none d)
  (cf:∀d,Con Tryz.prog 25 true [.agg [.c (.sl 5 (Xk vars)),.c (.sl 6 (Xn hats)),.c (.sl 10 (X7 body))],li 4096,li 4096,li 256] (.v (lb true)) none d)
  (cs1:∀d,Con Tryz.prog 26 false [lV vars,.agg [.c (.sl 1 (X9 i.s)),.c (.sl 1 (X9 i.p)),.c (.sl 1 (X9 i.r))]] (.tup [lI a,li S1]) none d)
  (cs2:∀d,Con Tryz.prog 26 false [lV vars,.agg [.c (.sl 1 (X9 j.s)),.c (.sl 1 (X9 j.p)),.c (.sl 1 (X9 j.r))]] (.tup [lI b,li S2]) none d)
  (csz:∀d,Con Tryz.prog 16 true [lS body] (.v (li n)) none d)
  (hV:vars.length=V) (hM:n+V+1=M) (hM2:M<=1000) (hnd:nd<256)
  (hm:S1=0->S2=0->n≠0->∃(s:Nat) (q:St),(nd:Int).tmod (n:Int)=s/\s<=1000/\(∀d,Con Tryz.prog 27 false [lS body,li s] (.tup [.agg (q.enc.map CV.c),lb true]) none d)/\
   (q.do_=1->∃(Z:List Bool) (ED:List (List CD)) (p1 p2:List (Nat×Int)) (t1 t2:Int) (m O:List Int),Z.length=M/\
    (∀d,Con Tryz.prog 23 false [.agg [.c (.sl 5 (Xk vars)),.c (.sl 6 (Xn hats)),.c (.sl 10 (X7 body))]] (.tup [.agg [.c (iC n),.c (iC V),.c (.sl 3 ED)],li 0]) none d)/\
    (∀d,Con Tryz.prog 28 false [.agg [.c (iC n),.c (iC V),.c (.sl 3 ED)],lI [(s:Int)]] (.tup [lBl Z,li 0]) none d)/\
    (∀d,Con Tryz.prog 29 false [.agg [.c (.sl 5 (Xk vars)),.c (.sl 6 (Xn hats)),.c (.sl 10 (X7 body))],lI a] (.tup [.one (.c (.sl 2 (X7Q p1))),li t1]) none d)/\
    (∀d,Con Tryz.prog 30 false [.agg [.c (.sl 5 (Xk vars)),.c (.sl 6 (Xn hats)),.c (.sl 10 (X7 body))],lI a,lI b,lBl Z,li n] (.v (lI m)) none d)/\
    (∀d,Con Tryz.prog 29 false [.agg [.c (.sl 5 (Xk vars)),.c (.sl 6 (Xn hats)),.c (.sl 10 (X7 body))],lI m] (.tup [.one (.c (.sl 2 (X7Q p2))),li t2]) none d)/\
    (∀d,Con Tryz.prog 31 false [.one (.c (.sl 2 (X7Q p1))),li s] (.v (lI O)) none d)/\
    (∀d,Con Tryz.prog 31 false [.one (.c (.sl 2 (X7Q p2))),li s] (.v (lI O)) none d)/\O.length<=1000000000)) (d:Nat):
  Con Tryz.prog 6 true [.agg [.c (.sl 5 (Xk vars)),.c (.sl 6 (Xn hats)),.c (.sl 10 (X7 body))],.agg [.c (.sl 1 (X9 i.s)),.c (.sl 1 (X9 i.p)),.c (.sl 1 (X9 i.r)),.c (.sl 1 (X9 j.s)),.c (.sl 1 (X9 j.p)),.c (.sl 1 (X9 j.r))],l8 nd] (.v (lb true)) none d:=by
 obtain⟨is,ip,ir⟩:=i;obtain⟨js,jp,jr⟩:=j;simp only at cs1 cs2⊢;have hw1:IntKind.i64.wrap ((n:Int)+V)=n+V:=Xa;have hw2:IntKind.i64.wrap ((n:Int)+V+1)=M:=by rw[show(n:Int)+V+1=(M:Int) by omega];exact Xa
 have hwn:IntKind.i64.wrap (nd:Int)=nd:=Xa;have hik:Tryz.prog.intKind 3=.i64:=by kernel_rfl
 refine X5 Tryz.func6 ?_;simp only[Tryz.f6];refine X2 ?_;refine X0<|X0<|(Xo [⟨false,.v (lb true),none⟩] ?_ ?_)
 .first|exact ck _|exact trivial|simpa[*]using ck _
 refine(Xb rfl (fun h2=>?_) fun h2=>?_)
 .exact absurd h2 (by simp)
 simp only at h2;refine X0<|X0<|(Xo [⟨true,.v (lb true),none⟩] ?_ ?_)
 .first|exact cf _|exact trivial|simpa[*]using cf _
 refine(Xb rfl (fun h6=>?_) fun h6=>?_)
 .exact absurd h6 (by simp)
 simp only at h6;refine Xh [⟨false,.tup [lI a,li S1],none⟩] ?_ ?_
 .first|exact cs1 _|exact trivial|simpa[*]using cs1 _
 refine Xh [⟨false,.tup [lI b,li S2],none⟩] ?_ ?_
 .first|exact cs2 _|exact trivial|simpa[*]using cs2 _
 refine Xh [⟨true,.v (li n),none⟩] ?_ ?_
 .first|exact csz _|exact trivial|simpa[*]using csz _
 refine X0<|X0<|X1 ?_;refine(Xb rfl (fun h13=>?_) fun h13=>?_)
 ·simp only[BN]at h13;refine X2 ?_;exact Xc
 simp only[BN]at h13;have hz:(S1=0/\S2=0)/\¬n=0:=by simpa using h13
 obtain⟨⟨hz1,hz2⟩,hn0⟩:=hz;obtain⟨s,q,m1,hs1,cfi,hout⟩:=hm hz1 hz2 hn0;subst hz1;subst hz2;obtain⟨qo,qc,qv,qn,⟨po,tn,tk⟩,qa,qb,qbs⟩:=q;simp only[St.enc,Tm.enc,List.cons_append,List.nil_append,Nk,Nr]at cfi;simp only[St.do_]at hout;have hws:IntKind.i64.wrap (s:Int)=s:=Xa;have hns:X9 [(s:Int)]=[[iC (s:Int)]]:=rfl;clear h13 hm cs1 cs2 csz cf ck;refine X0<|(HT_runsC ?_);refine RunsC.cutE 1 [] (by simp[*];rfl) trivial (le_refl _) ?_;refine RunsC.conv 5 3 (.tmp 57) .u8 nd rfl rfl (by simp) (by simp) (by kernel_rfl) (by kernel_rfl) ?_;rw[hik,hwn];refine RunsC.doneE [] (by simp[*];rfl) trivial ?_;refine Xh [⟨false,.tup [.agg [.c (iC qo),.c (iC qc),.c (iC qv),.c (iC qn),.c (iC po),.c (iC tn),.c (.sl 3 (Xx tk)),.c (.sl 10 (X7 qa)),.c (.sl 10 (X7 qb)),.c (.sl 1 (X9 qbs))],lb true],none⟩] ?_ ?_
 .first|exact cfi _|exact trivial|simpa[*]using cfi _
 refine X0<|X0<|X1 ?_;refine(Xb rfl (fun h19=>?_) fun h19=>?_)
 ·simp only[BN]at h19;refine X2 ?_;exact Xc
 simp only[BN]at h19;have hq1:qo=1:=by simpa using h19
 obtain⟨Z,ED,p1,p2,t1,t2,m,O,hZl,cb,cB,cr1,co,cr2,cn1,cn2,hO⟩:=hout hq1;have ce:=Xa4 O O hO hO;rw[D7 rfl]at ce;simp only[lI,hns]at cB;clear h19 hout cfi;refine Xh [⟨false,.tup [.agg [.c (iC n),.c (iC V),.c (.sl 3 ED)],li 0],none⟩] ?_ ?_
 .first|exact cb _|exact trivial|simpa[*]using cb _
 refine X0<|(X5J 3 [] [⟨false,.tup [lBl Z,li 0],none⟩] (by simp[*];rfl) trivial (Qy 79 rfl) (by simp[*];first|exact⟨rfl,Iff.rfl⟩|exact⟨rfl,trivial⟩|rfl) ?_ ?_)
 .first|exact cB _|simpa using cB _
 refine X0<|X0<|X1 ?_;refine(Xb rfl (fun h25=>?_) fun h25=>?_)
 .exact Bool.noConfusion h25
 simp only at h25;refine Xh [⟨false,.tup [.one (.c (.sl 2 (X7Q p1))),li t1],none⟩] ?_ ?_
 .first|exact cr1 _|exact trivial|simpa[*]using cr1 _
 refine X0<|(XU [⟨false,.v (lI m),none⟩,⟨false,.tup [.one (.c (.sl 2 (X7Q p2))),li t2],none⟩] (by kernel_rfl) (by kernel_rfl) (by rfl) (by simp[*];first|exact⟨rfl,Iff.rfl⟩|exact⟨rfl,trivial⟩|rfl) ?_ ?_)
 .first|exact⟨co _,cr2 _⟩|exact trivial|(repeat' first|exact trivial|exact co _|exact cr2 _|apply And.intro)
 refine Xh [⟨false,.v (lI O),none⟩,⟨false,.v (lI O),none⟩,⟨true,.v (lb true),none⟩] ?_ ?_
 .first|exact⟨cn1 _,cn2 _,ce _⟩|exact trivial|(repeat' first|exact trivial|exact cn1 _|exact cn2 _|exact ce _|apply And.intro)
 exact Xc
section
variable {f:Fl} {E:List Dp} {R:Int->Prop}
open Classical in
end
theorem Xb1 {f:Fl} (h:Sm f) (h0:XR f=0) {E:List Dp} (hE:∀x,x∈ctL f.body (-1) 0++X2R (flL f.body).length f.hats (flL f.body) (grN f.body) (rcL (grN f.body) (flL f.body) f.vars.length)->x∈E) {s:Nat} {a m:List Int} (hal:a.length=f.vars.length) (hml:m.length=f.vars.length)
  (hm:∀v,v<f.vars.length->Kz E (fun n=>n=(s:Int)) ((flL f.body).length+v)=true->a[v]? =m[v]?):
  X2T s (evD f.vars (QY a f.hats) f.body 0 (⟨a,[],0⟩,[])).2=X2T s (evD f.vars (QY m f.hats) f.body 0 (⟨m,[],0⟩,[])).2:=by
 have hL:=X0g h h0;have hd:=dps_of h h0 hE;have hpl:=X7U h0;have hhf:∀h∈f.hats,Qu f.vars true h.term=true:=(X3z h.bnd h0).2.2
 have hsim:=sim2 (kO:=fun o=>decide (o=s)) (XcK (R:=fun n=>n=(s:Int)) hd hpl) (XaT hd hpl hhf hm) (fun j hj=>by
  rw[N5]at hj;rw[hj]
  exact X04.2 (.base rfl)) rfl f.body 0 1 (1+wdL f.body) (-1) hL (Sub.of_self _) (⟨a,[],0⟩,fun v=>(flL f.body).length+v) (⟨m,[],0⟩,fun v=>(flL f.body).length+v) (X3O f) (X3O f)
  ⟨rfl,hal,hml,fun v hv _ _=>⟨rfl,fun hk=>by
   rcases hk with hk|hk
   .exact hm v hv hk
   exact hm v hv hk⟩⟩
 have e1:=(ev_sel (vars:=f.vars) (hv:=QY a f.hats) s f.body 0 (⟨a,[],0⟩,fun v=>(flL f.body).length+v) (⟨a,[],0⟩,[]) ⟨rfl,rfl⟩).2;have e2:=(ev_sel (vars:=f.vars) (hv:=QY m f.hats) s f.body 0 (⟨m,[],0⟩,fun v=>(flL f.body).length+v) (⟨m,[],0⟩,[]) ⟨rfl,rfl⟩).2;rw[<-e1,<-e2];exact hsim.1
end Go.Proofs.YtdajceakaakdoaaGreat
namespace Go.Proofs.YtdajceakaakdoaaGreat
open Go Go.Hl
set_option maxHeartbeats 8000000 in
theorem XaH (f:Fl) (i j:Inp) (nd:Nat) (hnd:nd<256) (d:Nat):Con Tryz.prog 6 true [aF f,.agg [.c (.sl 1 (X9 i.s)),.c (.sl 1 (X9 i.p)),.c (.sl 1 (X9 i.r)),.c (.sl 1 (X9 j.s)),.c (.sl 1 (X9 j.p)),.c (.sl 1 (X9 j.r))],l8 nd] (.v (lb true)) none d:=by
 have ck:=X5q;have cf:=X7Z f 4096 4096 256;by_cases hfit:fitB f 4096 4096 256=true
 .rw[hfit]at cf;have hF:=fit_in hfit;have h:=fit_sm hF;have h0:=hF.code;have hv:=hF.hv;have hh:=hF.hh;have hn:=hF.hn;obtain⟨hwf,hou,hhf⟩:=X3z hF.hb h0;have hfl:=Q2 f.body;have hsz:=Zh f.body;have csz:=X0h f.body (by omega);rw[<-hfl]at csz;have hgv:∀w∈f.vars,w.low<=w.high:=fun w hw=>((ZE (Q6 h0).2.1) w hw).1;have cs1:=X2Q f.vars i (by omega);have cs2:=X2Q f.vars j (by omega);refine XbY f.vars f.hats f.body i j nd (flL f.body).length f.vars.length _ _ _ _ _ ck cf cs1 cs2 csz rfl rfl (by omega) hnd (fun hS1 hS2 hn0=>?_) d;have hla:=X4x i f.vars 0 0 0 [] true hS1;have hlb:=X4x j f.vars 0 0 0 [] true hS2;obtain⟨a,ha⟩:∃x,(stL i f.vars 0 0 0 [] true).1=x:=⟨_,rfl⟩;obtain⟨b,hb⟩:∃x,(stL j f.vars 0 0 0 [] true).1=x:=⟨_,rfl⟩;rw[ha]at hla⊢;rw[hb]at hlb⊢;simp only[List.length_nil,Nat.zero_add]at hla hlb;have hsn:=Nat.mod_lt nd (Nat.pos_of_ne_zero hn0)
  have m1:((nd:Int).tmod ((flL f.body).length:Int))=((nd%(flL f.body).length:Nat):Int):=by
   rw[Int.tmod_eq_emod_of_nonneg (by omega)];exact(Int.natCast_emod nd _).symm
  obtain⟨s,hs⟩:∃s,nd%(flL f.body).length=s:=⟨_,rfl⟩;rw[hs]at m1 hsn;obtain⟨q,hq,_⟩:=Xt hsn;refine⟨s,q,m1,by omega,fun d=>Xds f.body (by omega) (s:Int) q (by omega) (by omega) (by rw[XcF f.body s (by omega)];simpa using hq) d,fun _=>?_⟩;have hml:=X0u a b (czL (prs true true (Zo f)) [(s:Int)] ((flL f.body).length+f.vars.length+1)) (flL f.body).length f.vars.length
  have hind:=Xb1 h h0 (Xaa f) (s:=s) (a:=a) (m:=X00 a b (czL (prs true true (Zo f)) [(s:Int)] ((flL f.body).length+f.vars.length+1)) (flL f.body).length f.vars.length) hla (hml.trans hla) (fun v hvv hk=>by
   rw[X40 a b _ _ _ v hvv (by omega)];have hc:=X04.1 hk;have hz:=(X8g (P:=prs true true (Zo f)) (R:=[(s:Int)]) (N:=(flL f.body).length+f.vars.length+1) (n:=(flL f.body).length+v) (by omega)).2 (by rw[Xct];exact_mod_cast hc);rw[hz]
   rfl)
  have hl1:=X5K f a;have hl2:=X5K f (X00 a b (czL (prs true true (Zo f)) [(s:Int)] ((flL f.body).length+f.vars.length+1)) (flL f.body).length f.vars.length);have ho1:=X7u (evR f a).2 s
  refine⟨_,Qp (Zo f),(evR f a).2,(evR f (X00 a b (czL (prs true true (Zo f)) [(s:Int)] ((flL f.body).length+f.vars.length+1)) (flL f.body).length f.vars.length)).2,(evR f a).1.time,_,_,X1L (evR f a).2 s,X2P ..,X9s h h0,X9W h h0 (by omega) (by omega) s (by omega),X3A f a hla (by omega) (by omega) hgv hhf (by omega) hwf hou,
   X6a f a b _ _ hla hlb (by rw[X2P];omega) (by omega) (by omega),X3A f _ (hml.trans hla) (by omega) (by omega) hgv hhf (by omega) hwf hou,XaQ _ s (by omega),?_,by omega⟩
  have e:X1L (evR f (X00 a b (czL (prs true true (Zo f)) [(s:Int)] ((flL f.body).length+f.vars.length+1)) (flL f.body).length f.vars.length)).2 s=X1L (evR f a).2 s:=hind.symm;rw[<-e];exact XaQ _ s (by omega)
 have hfit:fitB f 4096 4096 256=false:=by simpa using hfit
 rw[hfit]at cf;obtain⟨vars,hats,body⟩:=f;simp only[aF,Fl.enc,Nk,Nr]at*;refine X5 Tryz.func6 ?_;simp only[Tryz.f6];refine X2 ?_;refine X0<|X0<|(Xo [⟨false,.v (lb true),none⟩] ?_ ?_)
 .first|exact ck _|exact trivial|simpa[*]using ck _
 refine(Xb rfl (fun h2=>?_) fun h2=>?_)
 .exact absurd h2 (by simp)
 (try simp only[BN]at h2);refine X0<|X0<|(Xo [⟨true,.v (lb false),none⟩] ?_ ?_)
 .first|exact cf _|exact trivial|simpa[*]using cf _
 refine(Xb rfl (fun h6=>?_) fun h6=>?_)
 ·(try simp only[BN]at h6);refine X2 ?_;exact Xc
 exact absurd h6 (by simp)
end Go.Proofs.YtdajceakaakdoaaGreat
