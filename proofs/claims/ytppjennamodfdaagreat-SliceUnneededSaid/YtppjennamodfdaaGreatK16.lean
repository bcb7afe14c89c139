/- Part 16: contracts of functions of the program and of the reference, and plain facts about what they compute; used by the proof of the claimed statement. Conditions: as each theorem states. -/
import Derived.Test.YtppjennamodfdaaGreatK13
import Derived.Test.YtppjennamodfdaaGreatK11
import Derived.Test.YtppjennamodfdaaGreatK7
import Derived.Test.YtppjennamodfdaaGreatK10
import Derived.Test.YtppjennamodfdaaGreatK14
import Derived.Test.YtppjennamodfdaaGreatRows
set_option linter.unusedSimpArgs false
set_option linter.unusedVariables false
set_option linter.unnecessarySimpa false
set_option maxRecDepth 100000
set_option maxHeartbeats 2000000
namespace Go.Proofs.YtppjennamodfdaaGreat
open Go Go.Hl
theorem St.lind {P:List St→Prop} (nil:P []) (cons:∀d c v n t a b bs l,P a→P b→P l→P (.mk d c v n t a b bs::l)):∀l,P l:=by
 apply St.lists;intro l ih
 induction l with
 |nil=>exact nil
 | cons s l ihl=>
   have h:=ih s (List.mem_cons_self ..);have h2:=ihl fun s hs=>ih s (List.mem_cons_of_mem _ hs);obtain⟨d,c,v,n,t,a,b,bs⟩:=s;exact cons d c v n t a b bs l h.1 h.2 h2
def Sub {α:Type} (N:List α) (k:Nat) (l:List α):Prop:=∀i x,l[i]? =some x→N[k+i]? =some x
theorem Sub.cons {α:Type} {N:List α} {k:Nat} {x:α} {l:List α} (h:Sub N k (x::l)):N[k]? =some x∧Sub N (k+1) l:=
 ⟨h 0 x rfl,fun i y hy=>by have:=h (i+1) y (by simpa using hy);rwa [show k+(i+1)=k+1+i by omega]at this⟩
theorem Sub.app {α:Type} {N:List α} {k:Nat} {a b:List α} (h:Sub N k (a++b)):Sub N k a∧Sub N (k+a.length) b:=by
 refine⟨fun i x hx=>h i x ?_,fun i x hx=>?_⟩
 · have hi:=(List.getElem?_eq_some_iff.1 hx).1;rw[List.getElem?_append_left hi,hx]
 have:=h (a.length+i) x (by rw[List.getElem?_append_right (by omega),show a.length+i - a.length=i by omega,hx])
 rwa [show k+(a.length+i)=k+a.length+i by omega]at this
theorem Sub.of_self {α:Type} (l:List α):Sub l 0 l:=fun i x hx=>by rwa [Nat.zero_add]
def updD (D:Nat→Nat) (v o:Nat):Nat→Nat:=fun x=>if x=v then o else D x
def X2x (vars:List Vr) (hv:List Int) (kO:Nat→Bool) (d c v n:Int) (t:Tm) (bs:List Int) (o:Nat) (x:Sta×(Nat→Nat)):Sta×(Nat→Nat):=
 if d=1∧kO o=false then x else(Zz vars hv d v n t bs (tick x.1 c),if d=0∨d=5 then updD x.2 v.toNat o else x.2)
def X2V (c:Int) (t:Tm) (body:Sta×(Nat→Nat)→Sta×(Nat→Nat)):Nat→Sta×(Nat→Nat)→Sta×(Nat→Nat)
 |0,x=>x
 |k+1,x=>if vT x.1.vals t=0 then(tick x.1 c,x.2)else X2V c t body k (body (tick x.1 c,x.2))
def stD (vars:List Vr) (hv:List Int) (kO:Nat→Bool):List St→Nat→Sta×(Nat→Nat)→Sta×(Nat→Nat)
 |[],_=>fun x=>x
 | .mk d c v n t a b bs::l,o=>fun x=>
   stD vars hv kO l (o+(1+szL a+szL b)) (if d=4 then X2V c t (stD vars hv kO a (o+1)) n.toNat x
    else if d=3 then(if vT x.1.vals t=0 then stD vars hv kO b (o+1+szL a) (tick x.1 c,x.2)else stD vars hv kO a (o+1) (tick x.1 c,x.2))
    else X2x vars hv kO d c v n t bs o x)
section
variable {vars:List Vr} {hv:List Int} {kO:Nat→Bool}
theorem Xby {c:Int} {t:Tm} {body:Sta×(Nat→Nat)→Sta×(Nat→Nat)} {bodyF:Sta→Sta} (h:∀x,(body x).1=bodyF x.1):∀(k:Nat) (x:Sta×(Nat→Nat)),(X2V c t body k x).1=X1y c t bodyF k x.1
 |0,x=>rfl
 | k+1,x=>by
   simp only[X2V,X1y];split
   · rfl
   rw[Xby h k,h]
theorem stD_er (keep:Int→Bool):∀l:List St,∀o:Nat,(∀(j:Nat) q,(flL l)[j]? =some q→keep ((o+j:Nat):Int)=(!decide (q.do_=1)||kO (o+j)))→∀x,(stD vars hv kO l o x).1=Qa vars hv (prL keep l o) x.1:=by
 apply St.lind
 · intro o _ x;simp[stD,prL,Qa]
 intro d c v n t a b bs l ia ib il o hk x;have h0:=hk 0 (.mk d c v n t a b bs) (by simp[flL,flS]);simp only[St.do_,Nat.add_zero]at h0
 have ha:=ia (o+1) fun j q hq=>by
  have hj:=(List.getElem?_eq_some_iff.1 hq).1;have:=hk (1+j) q (by simp only[flL,flS,List.cons_append,List.append_assoc];rw[show 1+j=j+1 by omega,List.getElem?_cons_succ,List.getElem?_append_left hj,hq])
  rwa [show o+(1+j)=o+1+j by omega]at this
 have hb:=ib (o+1+szL a) fun j q hq=>by
  have hj:=(List.getElem?_eq_some_iff.1 hq).1
  have:=hk (1+szL a+j) q (by
   simp only[flL,flS,List.cons_append,List.append_assoc]
   rw[show 1+szL a+j=(szL a+j)+1 by omega,List.getElem?_cons_succ,List.getElem?_append_right (by rw[XO];omega),XO,show szL a+j - szL a=j by omega,List.getElem?_append_left hj,hq])
  rwa [show o+(1+szL a+j)=o+1+szL a+j by omega]at this
 have hl:=il (o+(1+szL a+szL b)) fun j q hq=>by
  have:=hk (1+szL a+szL b+j) q (by
   simp only[flL];rw[List.getElem?_append_right (by rw[X5o];simp only[szS];omega),X5o];simp only[szS]
   rw[show 1+szL a+szL b+j - (1+szL a+szL b)=j by omega,hq])
  rwa [show o+(1+szL a+szL b+j)=o+(1+szL a+szL b)+j by omega]at this
 simp only[stD,prL];rw[hl];have ho:((o:Int)+((szS (.mk d c v n t a b bs):Nat):Int))=((o+(1+szL a+szL b):Nat):Int):=by simp only[szS];omega
 have ho1:((o:Int)+1)=((o+1:Nat):Int):=by omega
 have ho2:(((o+1:Nat):Int)+(szL a:Int))=((o+1+szL a:Nat):Int):=by omega
 by_cases hko:keep (o:Int)=true
 · rw[if_pos hko];simp only[List.cons_append,List.nil_append,prS,Qa];rw[ho,ho1,ho2];congr 1;split
   · exact Xby ha _ _
   split
   · split
     · exact hb _
     exact ha _
   unfold X2x;rw[if_neg];rintro⟨h1,h2⟩;rw[hko]at h0;simp[h1,h2]at h0
 rw[if_neg hko];simp only[List.nil_append];rw[ho];congr 1
 have h1:d=1∧kO o=false:=by
  have:keep (o:Int)=false:=by simpa using hko
  rw[this]at h0;have h2:=h0.symm;simp only[Bool.or_eq_false_iff,Bool.not_eq_false',decide_eq_true_eq]at h2;exact⟨of_decide_eq_true h2.1,h2.2⟩
 rw[if_neg (by omega),if_neg (by omega)];unfold X2x;rw[if_pos h1]
def Qt (lo hi:Nat) (x y:Sta×(Nat→Nat)):Prop:=∀v:Nat,(y.2 v=x.2 v∧y.1.vals[v]? =x.1.vals[v]?)∨(lo≤y.2 v∧y.2 v<hi)
theorem Qt.refl (lo hi:Nat) (x:Sta×(Nat→Nat)):Qt lo hi x x:=fun _=>.inl ⟨rfl,rfl⟩
theorem Qt.trans {lo hi:Nat} {x y z:Sta×(Nat→Nat)} (h:Qt lo hi x y) (h2:Qt lo hi y z):Qt lo hi x z:=fun v=>by
 rcases h2 v with⟨h3,h4⟩|h3
 · rcases h v with⟨h5,h6⟩|h5
   · exact .inl ⟨h3.trans h5,h4.trans h6⟩
   exact .inr ⟨by omega,by omega⟩
 exact .inr h3
theorem Qt.wide {lo hi lo' hi':Nat} {x y:Sta×(Nat→Nat)} (h:Qt lo hi x y) (h1:lo'≤lo) (h2:hi≤hi'):Qt lo' hi' x y:=fun v=>by
 rcases h v with h3|h3
 · exact .inl h3
 exact .inr ⟨by omega,by omega⟩
theorem Qt.tick {lo hi:Nat} {x y:Sta×(Nat→Nat)} {c:Int} (h:Qt lo hi (tick x.1 c,x.2) y):Qt lo hi x y:=h
theorem qt_rnd {c:Int} {t:Tm} {lo hi:Nat} {body:Sta×(Nat→Nat)→Sta×(Nat→Nat)} (h:∀x,Qt lo hi x (body x)):∀(k:Nat) (x:Sta×(Nat→Nat)),Qt lo hi x (X2V c t body k x)
 |0,x=>Qt.refl _ _ _
 | k+1,x=>by
   simp only[X2V];split
   · exact Qt.refl lo hi x
   exact(Qt.tick (h _)).trans (qt_rnd h k _)
theorem X6d {vs:List Int} {v n:Int} {x:Nat} (h:x≠v.toNat):(X6b vars vs v n)[x]? =vs[x]? :=by
 unfold X6b;split
 · rw[List.getElem?_set_ne (Ne.symm h)]
 rfl
theorem X00 {d v n:Int} {t:Tm} {bs:List Int} {s:Sta} {x:Nat} (h:x≠v.toNat∨¬(d=0∨d=5)):(Zz vars hv d v n t bs s).vals[x]? =s.vals[x]? :=by
 unfold Zz;split
 · rename_i h0;exact X6d (h.resolve_right fun h=>h (.inl h0))
 split
 · rfl
 split
 · rename_i h5;exact X6d (h.resolve_right fun h=>h (.inr h5))
 split<;>rfl
theorem XdL:∀l:List St,∀(o:Nat) (x:Sta×(Nat→Nat)),Qt o (o+szL l) x (stD vars hv kO l o x):=by
 apply St.lind
 · intro o x;simp only[stD];exact Qt.refl _ _ _
 intro d c v n t a b bs l ia ib il o x;simp only[stD,szL,szS];refine Qt.trans ?_ ((il _ _).wide (by omega) (by omega));split
 · exact qt_rnd (fun x=>(ia (o+1) x).wide (by omega) (by omega)) _ _
 split
 · split
   · exact Qt.tick ((ib _ _).wide (by omega) (by omega))
   exact Qt.tick ((ia _ _).wide (by omega) (by omega))
 unfold X2x;split
 · exact Qt.refl _ _ _
 intro y;simp only;by_cases hd:d=0∨d=5
 · rw[if_pos hd];by_cases hy:y=v.toNat
   · right;unfold updD;rw[if_pos hy];omega
   left;unfold updD;rw[if_neg hy];exact⟨rfl,X00 (.inl hy)⟩
 rw[if_neg hd];exact .inl ⟨rfl,X00 (.inr hd)⟩
theorem Xaf {c:Int} {t:Tm} {body:Sta×(Nat→Nat)→Sta×(Nat→Nat)} (h:∀x,(body x).1.outs=x.1.outs):∀(k:Nat) (x:Sta×(Nat→Nat)),(X2V c t body k x).1.outs=x.1.outs
 |0,x=>rfl
 | k+1,x=>by
   simp only[X2V];split
   · rfl
   rw[Xaf h k,h];rfl
theorem Xcm {d v n:Int} {t:Tm} {bs:List Int} {s:Sta} (h:d≠1):(Zz vars hv d v n t bs s).outs=s.outs:=by
 unfold Zz
 (repeat' split)<;>first|rfl|exact absurd (by assumption) h
theorem Xdy:∀l:List St,∀(o:Nat),(∀j,o≤j→j<o+szL l→kO j=false)→∀x,(stD vars hv kO l o x).1.outs=x.1.outs:=by
 apply St.lind
 · intro o _ x;simp only[stD]
 intro d c v n t a b bs l ia ib il o hk x;simp only[szL,szS]at hk;simp only[stD];rw[il _ fun j h1 h2=>hk j (by omega) (by omega)];have ha:=ia (o+1) fun j h1 h2=>hk j (by omega) (by omega);have hb:=ib (o+1+szL a) fun j h1 h2=>hk j (by omega) (by omega);split
 · exact Xaf ha _ _
 split
 · split
   · exact hb _
   exact ha _
 unfold X2x;split
 · rfl
 rename_i h;by_cases h1:d=1
 · exact absurd ⟨h1,hk o (by omega) (by omega)⟩ h
 exact Xcm h1
theorem X9p {c:Int} {t:Tm} {body:Sta×(Nat→Nat)→Sta×(Nat→Nat)} (h:∀x,(body x).1.vals.length=x.1.vals.length):∀(k:Nat) (x:Sta×(Nat→Nat)),(X2V c t body k x).1.vals.length=x.1.vals.length
 |0,x=>rfl
 | k+1,x=>by
   simp only[X2V];split
   · rfl
   rw[X9p h k,h];rfl
theorem Xbj {d c v n:Int} {t:Tm} {bs:List Int} {o:Nat} {x:Sta×(Nat→Nat)}:(X2x vars hv kO d c v n t bs o x).1.vals.length=x.1.vals.length:=by
 unfold X2x;split
 · rfl
 exact(X3H vars hv d v n t bs (tick x.1 c)).1
theorem Xdz:∀l:List St,∀(o:Nat) (x:Sta×(Nat→Nat)),(stD vars hv kO l o x).1.vals.length=x.1.vals.length:=by
 apply St.lind
 · intro o x;simp only[stD]
 intro d c v n t a b bs l ia ib il o x;simp only[stD];rw[il];split
 · exact X9p (ia _) _ _
 split
 · split
   · exact ib _ _
   exact ia _ _
 exact Xbj
end
end Go.Proofs.YtppjennamodfdaaGreat

namespace Go.Proofs.YtppjennamodfdaaGreat
open Go Go.Hl
def X5N (l:List St) (k after:Nat):Nat:=if l=[] then after else k
structure Gd (N:List Nd) (steps:List St) (nv k:Nat) (D:Nat→Nat):Prop where
 all:∀v,v<nv→Rc N steps nv k (D v)∧QS steps (D v)=(v:Int)
section
variable {N:List Nd} {steps:List St} {nv:Nat} {vars:List Vr} {hv:List Int} {kO:Nat→Bool}
theorem Gd.pass {k to:Nat} {D:Nat→Nat} {x:Nd} (h:Gd N steps nv k D) (hx:N[k]? =some x) (h0:x.k≠0) (hs:ZG x to) (ha:WJ steps x=false):Gd N steps nv to D:=
 ⟨fun v hv=>⟨.pass hx h0 hs (h.all v hv).1 (by rw[ha];rfl),(h.all v hv).2⟩⟩
theorem Gd.asg {k to:Nat} {D:Nat→Nat} {x:Nd} {v:Int} (h:Gd N steps nv k D) (hx:N[k]? =some x) (h0:x.k≠0) (hs:ZG x to) (ha:WJ steps x=true) (hv0:0≤v) (hva:X6D steps x=v) (hvo:QS steps x.a.toNat=v):Gd N steps nv to (updD D v.toNat x.a.toNat):=by
 refine⟨fun y hy=>?_⟩;unfold updD;by_cases e:y=v.toNat
 · rw[if_pos e];exact⟨.gen hx h0 hs ha,by rw[hvo,e];omega⟩
 rw[if_neg e];obtain⟨h1,h2⟩:=h.all y hy;refine⟨.pass hx h0 hs h1 ?_,h2⟩;rw[h2,hva];have:(y:Int)≠v:=by omega
 simp[this]
theorem gd_rnd {c:Int} {t:Tm} {k:Nat} {body:Sta×(Nat→Nat)→Sta×(Nat→Nat)} (h:∀x,Gd N steps nv k x.2→Gd N steps nv k (body x).2):∀(m:Nat) (x:Sta×(Nat→Nat)),Gd N steps nv k x.2→Gd N steps nv k (X2V c t body m x).2
 |0,x,hx=>hx
 | m+1,x,hx=>by
   simp only[X2V];split
   · exact hx
   exact gd_rnd h m _ (h _ hx)
structure Lies (N:List Nd) (steps:List St) (vars:List Vr) (nh:Nat) (l:List St) (o k after:Nat):Prop where
 g:gL l=true
 wf:wfL vars nh l=true
 nd:Sub N k (X1j l o k after)
 st:Sub steps o (flL l)
structure Lie1 (N:List Nd) (steps:List St) (vars:List Vr) (nh:Nat) (d c v n:Int) (t:Tm) (a b:List St) (bs:List Int) (o k mid:Nat):Prop where
 g:gS (.mk d c v n t a b bs)=true
 wf:wfS vars nh (.mk d c v n t a b bs)=true
 nd:Sub N k (X3d (.mk d c v n t a b bs) o k mid)
 st:steps[o]? =some (.mk d c v n t a b bs)
 sa:Sub steps (o+1) (flL a)
 sb:Sub steps (o+1+szL a) (flL b)
variable {nh:Nat}
theorem Lies.cons {d c v n:Int} {t:Tm} {a b:List St} {bs:List Int} {l:List St} {o k after:Nat} (h:Lies N steps vars nh (.mk d c v n t a b bs::l) o k after):
  Lie1 N steps vars nh d c v n t a b bs o k (X5N l (k+wdS (.mk d c v n t a b bs)) after)∧Lies N steps vars nh l (o+(1+szL a+szL b)) (k+wdS (.mk d c v n t a b bs)) after:=by
 obtain⟨hg,hw,hn,hs⟩:=h;simp only[gL,Bool.and_eq_true]at hg;simp only[wfL,Bool.and_eq_true]at hw;simp only[X1j]at hn;simp only[flL]at hs;obtain⟨n1,n2⟩:=hn.app;obtain⟨s1,s2⟩:=hs.app;rw[X6i _ _ _ _ hg.1]at n2;rw[X5o]at s2;rw[Xay]at s1;simp only[szS,St.then_,St.else_]at s1 s2 n2;obtain⟨s3,s4⟩:=s1.cons;obtain⟨s5,s6⟩:=s4.app;rw[XO]at s6;refine⟨⟨hg.1,hw.1,n1,s3,s5,s6⟩,hg.2,hw.2,?_,s2⟩;have:((o:Int)+((1+szL a+szL b:Nat):Int))=((o+(1+szL a+szL b):Nat):Int):=by omega
 rw[←this];exact n2
theorem Lie1.if_ {d c v n:Int} {t:Tm} {a b:List St} {bs:List Int} {o k mid:Nat} (h:Lie1 N steps vars nh d c v n t a b bs o k mid) (hd:d=3):
  (∃x,N[k]? =some x∧x.k=3∧x.a=o∧ZG x (X5N a (k+1) mid)∧ZG x (X5N b (k+1+wdL a) mid))∧Lies N steps vars nh a (o+1) (k+1) mid∧Lies N steps vars nh b (o+1+szL a) (k+1+wdL a) mid:=by
 obtain⟨hg,hw,hn,_,hsa,hsb⟩:=h;simp only[gS,Bool.and_eq_true]at hg;simp only[wfS,Bool.and_eq_true]at hw;unfold X3d at hn;rw[if_pos hd]at hn;obtain⟨h1,h2⟩:=hn.cons;obtain⟨h3,h4⟩:=h2.app;rw[ZJ _ _ _ _ hg.2.1]at h4;refine⟨⟨_,h1,rfl,rfl,?_,?_⟩,⟨hg.2.1,hw.2.2.2.2.2.1,h3,hsa⟩,⟨hg.2.2,hw.2.2.2.2.2.2,?_,hsb⟩⟩
 · by_cases e:a=[]<;>simp[ZG,X5N,e]
 · by_cases e:b=[]<;>simp[ZG,X5N,e]
 have:((o:Int)+1+(szL a:Int))=((o+1+szL a:Nat):Int):=by omega
 rw[←this];exact h4
theorem Lie1.loop {d c v n:Int} {t:Tm} {a b:List St} {bs:List Int} {o k mid:Nat} (h:Lie1 N steps vars nh d c v n t a b bs o k mid) (hd:d=4):
  (∃x,N[k]? =some x∧x.k=4∧ZG x (k+1))∧(∃x,N[k+1]? =some x∧x.k=5∧x.a=o∧ZG x (X5N a (k+2) (k+1))∧ZG x mid)∧Lies N steps vars nh a (o+1) (k+2) (k+1)∧b=[]:=by
 obtain⟨hg,hw,hn,_,hsa,hsb⟩:=h;simp only[gS,Bool.and_eq_true,Bool.or_eq_true,decide_eq_true_eq,List.isEmpty_iff]at hg;simp only[wfS,Bool.and_eq_true]at hw;unfold X3d at hn;rw[if_neg (by omega),if_pos hd]at hn;obtain⟨h1,h2⟩:=hn.cons;obtain⟨h3,h4⟩:=h2.cons;refine⟨⟨_,h1,rfl,?_⟩,⟨_,h3,rfl,rfl,?_,?_⟩,⟨hg.2.1,hw.2.2.2.2.2.1,h4,hsa⟩,?_⟩
 · simp[ZG]
 · by_cases e:a=[]<;>simp[ZG,X5N,e]
 · simp[ZG]
 rcases hg.1 with(h|h)|h
 · omega
 · exact h.2
 exact h.2
theorem Lie1.leaf {d c v n:Int} {t:Tm} {a b:List St} {bs:List Int} {o k mid:Nat} (h:Lie1 N steps vars nh d c v n t a b bs o k mid) (h3:d≠3) (h4:d≠4):∃x,N[k]? =some x∧x.k=2∧x.a=o∧ZG x mid:=by
 have hn:=h.nd;unfold X3d at hn;rw[if_neg h3,if_neg h4]at hn;exact⟨_,hn.cons.1,rfl,rfl,by simp[ZG]⟩
theorem Lie1.var {d c v n:Int} {t:Tm} {a b:List St} {bs:List Int} {o k mid:Nat} (h:Lie1 N steps vars nh d c v n t a b bs o k mid) (hd:d=0∨d=5):0≤v∧v.toNat<vars.length:=by
 have hw:=h.wf;simp only[wfS,Bool.and_eq_true,Bool.or_eq_true,decide_eq_true_eq]at hw;have hl:=hw.2.1.resolve_left fun h=>by omega
 obtain⟨h0,w,hw2⟩:=X4b hl;exact⟨h0,(List.getElem?_eq_some_iff.1 hw2).1⟩
theorem X0Z {x:Nd} (h:x.k≠2):WJ steps x=false:=by simp[WJ,h]
def st1 (vars:List Vr) (hv:List Int) (kO:Nat→Bool) (d c v n:Int) (t:Tm) (a b:List St) (bs:List Int) (o:Nat) (x:Sta×(Nat→Nat)):Sta×(Nat→Nat):=
 if d=4 then X2V c t (stD vars hv kO a (o+1)) n.toNat x
 else if d=3 then(if vT x.1.vals t=0 then stD vars hv kO b (o+1+szL a) (tick x.1 c,x.2)else stD vars hv kO a (o+1) (tick x.1 c,x.2))
 else X2x vars hv kO d c v n t bs o x
theorem X6w {d c v n:Int} {t:Tm} {a b:List St} {bs:List Int} {l:List St} {o:Nat} {x:Sta×(Nat→Nat)}:stD vars hv kO (.mk d c v n t a b bs::l) o x=stD vars hv kO l (o+(1+szL a+szL b)) (st1 vars hv kO d c v n t a b bs o x):=by
 simp only[stD,st1]
theorem X86 {o:Nat} {x:Sta×(Nat→Nat)}:stD vars hv kO [] o x=x:=by simp only[stD]
def GdL (N:List Nd) (steps:List St) (nv:Nat) (vars:List Vr) (nh:Nat) (hv:List Int) (kO:Nat→Bool) (l:List St):Prop:=
 ∀(o k after:Nat),Lies N steps vars nh l o k after→∀x,Gd N steps nv (X5N l k after) x.2→Gd N steps nv after (stD vars hv kO l o x).2
theorem XbB {d c v n:Int} {t:Tm} {a b:List St} {bs:List Int} {o k mid:Nat} (h:Lie1 N steps vars nh d c v n t a b bs o k mid) (ia:GdL N steps nv vars nh hv kO a) (ib:GdL N steps nv vars nh hv kO b) {x:Sta×(Nat→Nat)} (hx:Gd N steps nv k x.2):Gd N steps nv mid (st1 vars hv kO d c v n t a b bs o x).2:=by
 unfold st1;by_cases h4:d=4
 · rw[if_pos h4];obtain⟨⟨y,y1,y2,y3⟩,⟨z,z1,z2,_,z3,z4⟩,hla,_⟩:=h.loop h4;have hx1:=hx.pass y1 (by omega) y3 (X0Z (by omega));exact(gd_rnd (fun w hw=>ia _ _ _ hla w (hw.pass z1 (by omega) z3 (X0Z (by omega)))) n.toNat x hx1).pass z1 (by omega) z4 (X0Z (by omega))
 rw[if_neg h4];by_cases h3:d=3
 · rw[if_pos h3];obtain⟨⟨y,y1,y2,_,y3,y4⟩,hla,hlb⟩:=h.if_ h3;split
   · exact ib _ _ _ hlb _ (hx.pass y1 (by omega) y4 (X0Z (by omega)))
   exact ia _ _ _ hla _ (hx.pass y1 (by omega) y3 (X0Z (by omega)))
 rw[if_neg h3];obtain⟨y,y1,y2,y3,y4⟩:=h.leaf h3 h4;have hs:=h.st;have e1:steps[y.a.toNat]? =some (.mk d c v n t a b bs):=by rw[y3,Int.toNat_natCast,hs]
 unfold X2x;split
 · rename_i h1;refine hx.pass y1 (by omega) y4 ?_;unfold WJ;rw[e1];simp only[St.do_];have a1:¬d=0:=by omega
   have a2:¬d=5:=by omega
   simp[a1,a2]
 simp only;by_cases hd:d=0∨d=5
 · rw[if_pos hd]
   have:=hx.asg (v:=v) y1 (by omega) y4 (by
    unfold WJ;rw[e1]
    rcases hd with h|h<;>simp[St.do_,y2,h]) (h.var hd).1 (by unfold X6D;rw[e1];rfl) (by unfold QS;rw[e1];rfl)
   rwa [y3,Int.toNat_natCast]at this
 rw[if_neg hd];refine hx.pass y1 (by omega) y4 ?_;unfold WJ;rw[e1];simp only[St.do_];have a1:¬d=0:=fun h=>hd (.inl h);have a2:¬d=5:=fun h=>hd (.inr h);simp[a1,a2]
theorem Xb0:∀l:List St,GdL N steps nv vars nh hv kO l:=by
 apply St.lind
 · intro o k after _ x hx;rw[X86];exact hx
 intro d c v n t a b bs l ia ib il o k after hL x hx;obtain⟨h1,h2⟩:=hL.cons;rw[X6w];exact il _ _ _ h2 _ (XbB h1 ia ib hx)
end
theorem lay_nums:∀l:List St,gL l=true→∀(p k after:Nat),(((X1j l p k after).filter rdB).map (·.a)).Pairwise (· < ·)∧∀z∈((X1j l p k after).filter rdB).map (·.a),(p:Int)≤z∧z<p+szL l:=by
 apply St.lind
 · intro _ p k after;simp[X1j]
 intro d c v n t a b bs l ia ib il hg p k after;simp only[gL,gS,Bool.and_eq_true]at hg;obtain⟨⟨hs,ga,gb⟩,gl⟩:=hg;have e1:((p:Int)+1)=((p+1:Nat):Int):=by omega
 have e2:(((p+1:Nat):Int)+(szL a:Int))=((p+1+szL a:Nat):Int):=by omega
 have e3:((p:Int)+(szS (.mk d c v n t a b bs):Int))=((p+(1+szL a+szL b):Nat):Int):=by simp only[szS];omega
 have hst:∀after,(((X3d (.mk d c v n t a b bs) p k after).filter rdB).map (·.a)).Pairwise (· < ·)∧∀z∈((X3d (.mk d c v n t a b bs) p k after).filter rdB).map (·.a),(p:Int)≤z∧z<p+(1+szL a+szL b:Nat):=by
  intro after;unfold X3d;rw[e1,e2];split
  · obtain⟨a1,a2⟩:=ia ga (p+1) (k+1) after;obtain⟨b1,b2⟩:=ib gb (p+1+szL a) (k+1+wdL a) after;have hr:rdB ⟨3,p,if a=[] then after else k+1,if b=[] then after else k+1+wdL a⟩=true:=by simp[rdB]
    rw[List.filter_cons_of_pos hr];simp only[List.filter_append,List.map_cons,List.map_append];refine⟨List.pairwise_cons.2 ⟨fun z hz=>?_,List.pairwise_append.2 ⟨a1,b1,fun x hx y hy=>?_⟩⟩,fun z hz=>?_⟩
    · rcases List.mem_append.1 hz with h|h
      · have:=a2 z h;omega
      have:=b2 z h;omega
    · have:=a2 x hx;have:=b2 y hy;omega
    rcases List.mem_cons.1 hz with rfl|hz
    · omega
    rcases List.mem_append.1 hz with h|h
    · have:=a2 z h;omega
    have:=b2 z h;omega
  split
  · obtain⟨a1,a2⟩:=ia ga (p+1) (k+2) (k+1);have hr:¬rdB ⟨4,p,(k:Int)+1,-1⟩=true:=by simp[rdB]
    have hr2:rdB ⟨5,p,if a=[] then(k:Int)+1 else(k:Int)+2,after⟩=true:=by simp[rdB]
    rw[List.filter_cons_of_neg hr,List.filter_cons_of_pos hr2];simp only[List.map_cons];refine⟨List.pairwise_cons.2 ⟨fun z hz=>?_,a1⟩,fun z hz=>?_⟩
    · have:=a2 z hz;omega
    rcases List.mem_cons.1 hz with rfl|hz
    · omega
    have:=a2 z hz;omega
  have hr:rdB ⟨2,p,after,-1⟩=true:=by simp[rdB]
  rw[List.filter_cons_of_pos hr];simp only[List.filter_nil,List.map_cons,List.map_nil];refine⟨List.pairwise_singleton ..,fun z hz=>?_⟩;rw[List.mem_singleton.1 hz];omega
 obtain⟨s1,s2⟩:=hst (if l=[] then after else k+wdS (.mk d c v n t a b bs));obtain⟨l1,l2⟩:=il gl (p+(1+szL a+szL b)) (k+wdS (.mk d c v n t a b bs)) after;simp only[X1j];rw[e3];simp only[List.filter_append,List.map_append,szL,szS];refine⟨List.pairwise_append.2 ⟨s1,l1,fun x hx y hy=>?_⟩,fun z hz=>?_⟩
 · have:=s2 x hx;have:=l2 y hy;omega
 rcases List.mem_append.1 hz with h|h
 · have:=s2 z h;omega
 have:=l2 z h;omega
theorem grN_nums {l:List St} (hg:gL l=true):(((grN l).filter rdB).map (·.a)).Pairwise (· < ·):=by
 unfold grN;have h0:∀x:Int,¬rdB ⟨0,-1,x,-1⟩=true:=fun x=>by simp[rdB]
 have h1:¬rdB ⟨1,-1,-1,-1⟩=true:=by simp[rdB]
 rw[List.filter_cons_of_neg (h0 _),List.filter_append,List.filter_cons_of_neg h1,List.filter_nil,List.append_nil];exact(lay_nums l hg 0 1 (1+wdL l)).1
theorem X9R {n:Nat}:∀(l:List (Nd×List Nat)) (rd:List (List Nat)) (j:Nat),(∀p∈l,rdB p.1=true→p.1.a.toNat≠j)→(l.foldl (fun rd p=>if rdB p.1=true then rd.set p.1.a.toNat p.2 else rd) rd)[j]? =rd[j]?
 |[],_,_,_=>rfl
 | p::l,rd,j,h=>by
   rw[List.foldl_cons,X9R (n:=n) l _ j fun q hq=>h q (by simp[hq])];split
   · rename_i hb;rw[List.getElem?_set_ne (h p (by simp) hb)]
   rfl
theorem Xbw {n:Nat}:∀(l:List (Nd×List Nat)) (rd:List (List Nat)),rd.length=n→(((l.filter fun p=>rdB p.1).map fun p=>p.1.a).Pairwise (· < ·))→∀p∈l,rdB p.1=true→p.1.a.toNat<n→
  (l.foldl (fun rd p=>if rdB p.1=true then rd.set p.1.a.toNat p.2 else rd) rd)[p.1.a.toNat]? =some p.2
 |[],_,_,_,p,hp,_,_=>by cases hp
 | q ::l,rd,hl,hpw,p,hp,hb,hn=>by
   rw[List.foldl_cons];rcases List.mem_cons.1 hp with rfl|hp
   · rw[X9R (n:=n) l _ _ fun r hr hrb=>?_,if_pos hb,List.getElem?_set_self (by omega)];rw[List.filter_cons_of_pos (by simpa using hb),List.map_cons,List.pairwise_cons]at hpw;have:=hpw.1 r.1.a (List.mem_map.2 ⟨r,List.mem_filter.2 ⟨hr,hrb⟩,rfl⟩);unfold rdB at hb;simp only[Bool.and_eq_true,decide_eq_true_eq]at hb;omega
   refine Xbw l _ ?_ ?_ p hp hb hn
   · split
     · rw[List.length_set,hl]
     exact hl
   by_cases hq:rdB q.1=true
   · rw[List.filter_cons_of_pos (by simpa using hq),List.map_cons,List.pairwise_cons]at hpw;exact hpw.2
   rwa [List.filter_cons_of_neg (by simpa using hq)]at hpw
theorem XdP {f:Fl} (hg:gL f.body=true) {k:Nat} {x:Nd} {o:Nat} (hx:(grN f.body)[k]? =some x) (hk:x.k≠4) (ha:x.a=o) (ho:o<szL f.body) {d:Nat} (hd:Rc (grN f.body) (flL f.body) f.vars.length k d):∃r,(rdT f)[o]? =some r∧d∈r:=by
 obtain⟨R,hR⟩:∃R,rcL (grN f.body) (flL f.body) f.vars.length=R:=⟨_,rfl⟩;have hl:R.length=(grN f.body).length:=by rw[←hR];simp[rcL]
 have hkl:=(List.getElem?_eq_some_iff.1 hx).1;obtain⟨F,hF⟩:∃F,F=((List.range ((flL f.body).length+f.vars.length)).filter fun d=>@decide (Rc (grN f.body) (flL f.body) f.vars.length k d) (Classical.propDecidable _)):=⟨_,rfl⟩
 have hRk:R[k]? =some F:=by
  rw[←hR,hF];simp only[rcL,List.getElem?_map,List.getElem?_range hkl,Option.map_some]
 have hmem:d∈F:=by
  rw[hF,List.mem_filter];refine⟨List.mem_range.2 (rc_lt (fun y hy hasg=>?_) hd),by simpa using hd⟩;have:=XaZ hg y hy;unfold WJ at hasg;simp only[Bool.and_eq_true]at hasg;cases h2:(flL f.body)[y.a.toNat]? with
  |none=>rw[h2]at hasg;simp at hasg
  |some q=>exact(List.getElem?_eq_some_iff.1 h2).1
 refine⟨F,?_,hmem⟩;unfold rdT rdF;rw[hR];have hp:(x,F)∈(grN f.body).zip R:=List.mem_of_getElem? (i:=k) (by rw[List.getElem?_zip_eq_some];exact⟨hx,hRk⟩);have hrb:rdB x=true:=by simp[rdB,hk,ha]
 have:=Xbw (n:=szL f.body) ((grN f.body).zip R) (List.replicate (szL f.body) []) (by simp) (by
  have h1:=grN_nums hg;have h2:((grN f.body).zip R).map Prod.fst=grN f.body:=List.map_fst_zip (by omega);rw[←h2,List.filter_map,List.map_map]at h1
  exact h1) (x,F) hp hrb (by simp only[ha];omega)
 simp only[ha,Int.toNat_natCast]at this;exact this
end Go.Proofs.YtppjennamodfdaaGreat

namespace Go.Proofs.YtppjennamodfdaaGreat
open Go Go.Hl
mutual
theorem X9Y {vs ws:List Int}:∀t:Tm,(∀v∈tmV t,vs[v.toNat]? =ws[v.toNat]?)→vT vs t=vT ws t
 | .mk o n ks,h=>by
   simp only[tmV,List.mem_append]at h;simp only[vT];rw[X6Q ks fun v hv=>h v (.inr hv)];unfold valN;by_cases h24:o=24
   · have:=h n (.inl (by rw[if_pos h24];simp));subst h24;simp only[this]
   simp only[if_neg h24]
theorem X6Q {vs ws:List Int}:∀l:List Tm,(∀v∈X50 l,vs[v.toNat]? =ws[v.toNat]?)→vTs vs l=vTs ws l
 |[],_=>by simp[vTs]
 | t::l,h=>by
   simp only[X50,List.mem_append]at h;simp only[vTs];rw[X9Y t fun v hv=>h v (.inl hv),X6Q l fun v hv=>h v (.inr hv)]
end
mutual
theorem XbH {vars:List Vr} {inp:Bool}:∀t:Tm,QL vars inp t=true→∀v∈tmV t,0≤v∧v.toNat<vars.length
 | .mk o n ks,h,v,hv=>by
   simp only[QL,Bool.and_eq_true]at h;simp only[tmV,List.mem_append]at hv;rcases hv with hv|hv
   · split at hv
     · rename_i h24;rw[List.mem_singleton.1 hv];have h1:=h.1;unfold Q9 at h1;rw[if_neg (by omega),if_pos h24]at h1;simp only[Bool.and_eq_true]at h1;have h2:=h1.2;unfold X03 at h2;simp only[Bool.and_eq_true,decide_eq_true_eq]at h2;refine⟨h2.1,?_⟩;cases hw:vars[n.toNat]? with
       |none=>rw[hw]at h2;exact absurd h2.2 (by simp)
       |some w=>exact(List.getElem?_eq_some_iff.1 hw).1
     cases hv
   exact X9I ks h.2 v hv
theorem X9I {vars:List Vr} {inp:Bool}:∀l:List Tm,Zf vars inp l=true→∀v∈X50 l,0≤v∧v.toNat<vars.length
 |[],_,v,hv=>by simp[X50]at hv
 | t::l,h,v,hv=>by
   simp only[Zf,Bool.and_eq_true]at h;simp only[X50,List.mem_append]at hv;rcases hv with hv|hv
   · exact XbH t h.1 v hv
   exact X9I l h.2 v hv
end
section
variable {N:List Nd} {steps:List St} {vars:List Vr} {nh:Nat} {hv:List Int} {K:Nat→Bool} {ar:List Int} {kO:Nat→Bool}
def upK (ar:List Int) (K:Nat→Bool):Prop:=∀(j:Nat) a,ar[j]? =some a→0≤a→K j=true→K a.toNat=true
theorem XdC (h:upK ar K):∀l:List St,∀(p par:Nat),Sub ar p (arL l par p)→K par=false→∀j,p≤j→j<p+szL l→K j=false:=by
 apply St.lind
 · intro p par _ _ j h1 h2;simp only[szL]at h2;omega
 intro d c v n t a b bs l ia ib il p par hs hp j h1 h2;simp only[arL]at hs;obtain⟨s1,s2⟩:=hs.app;rw[X88]at s2;rw[Xb5]at s1;simp only[szS,St.then_,St.else_]at s1 s2;obtain⟨s3,s4⟩:=s1.cons;obtain⟨s5,s6⟩:=s4.app;rw[Zu]at s6
 have hk:K p=false:=by
  cases hk:K p with
  |false=>rfl
  |true=>exact absurd (h p _ s3 (by omega) hk) (by rw[Int.toNat_natCast,hp];simp)
 simp only[szL,szS]at h2;by_cases e:j=p
 · rw[e];exact hk
 by_cases e1:j<p+1+szL a
 · exact ia (p+1) p s5 hk j (by omega) e1
 by_cases e2:j<p+1+szL a+szL b
 · exact ib (p+1+szL a) p s6 hk j (by omega) e2
 exact il (p+(1+szL a+szL b)) par s2 hp j (by omega) (by omega)
structure Slc (N:List Nd) (steps:List St) (nv:Nat) (ar:List Int) (K:Nat→Bool):Prop where
 src:∀(o:Nat) q,K o=true→steps[o]? =some q→∀(k:Nat) (x:Nd),N[k]? =some x→x.k≠4→x.a=(o:Int)→∀d,Rc N steps nv k d→QS steps d∈tmV q.term→d<steps.length→K d=true
 up:upK ar K
def Rs (K:Nat→Bool) (n nv:Nat) (x:Sta×(Nat→Nat)) (y:Sta):Prop:=
 x.1.outs=y.outs∧x.1.vals.length=nv∧y.vals.length=nv∧∀v,v<nv→(K (x.2 v)=true∨n≤x.2 v)→x.1.vals[v]? =y.vals[v]?
def sF1 (vars:List Vr) (hv:List Int) (d c v n:Int) (t:Tm) (a b:List St) (bs:List Int) (y:Sta):Sta:=
 if d=4 then X1y c t (Qa vars hv a) n.toNat y
 else if d=3 then(if vT y.vals t=0 then Qa vars hv b (tick y c)else Qa vars hv a (tick y c))
 else Zz vars hv d v n t bs (tick y c)
theorem Xag {d c v n:Int} {t:Tm} {a b:List St} {bs:List Int} {l:List St} {y:Sta}:Qa vars hv (.mk d c v n t a b bs::l) y=Qa vars hv l (sF1 vars hv d c v n t a b bs y):=by
 simp only[Qa,sF1]
theorem XdO {d c v n:Int} {t:Tm} {a b:List St} {bs:List Int} {o:Nat} {x:Sta×(Nat→Nat)}:stD vars hv kO [.mk d c v n t a b bs] o x=st1 vars hv kO d c v n t a b bs o x:=by
 rw[X6w,X86]
theorem Lie1.in_ {d c v n:Int} {t:Tm} {a b:List St} {bs:List Int} {o k mid:Nat} (h:Lie1 N steps vars nh d c v n t a b bs o k mid) {j:Nat} (h1:o≤j) (h2:j<o+(1+szL a+szL b)):j<steps.length:=by
 have key:∀(l:List St) (p:Nat),Sub steps p (flL l)→p≤j→j<p+szL l→j<steps.length:=fun l p hs h1 h2=>by
  have hl:j - p<(flL l).length:=by rw[XO];omega
  have:=hs (j - p) (flL l)[j - p] (by simp[hl]);have:=(List.getElem?_eq_some_iff.1 this).1;omega
 by_cases e:j=o
 · rw[e];exact(List.getElem?_eq_some_iff.1 h.st).1
 by_cases e1:j<o+1+szL a
 · exact key a (o+1) h.sa (by omega) e1
 exact key b (o+1+szL a) h.sb (by omega) (by omega)
theorem X82 {nv:Nat} (hs:Slc N steps nv ar K) (hvn:vars.length=nv) {d c v n:Int} {t:Tm} {a b:List St} {bs:List Int} {o k:Nat} {x:Sta×(Nat→Nat)} {ys:List Int} (hst:steps[o]? =some (.mk d c v n t a b bs)) (hw:wfS vars nh (.mk d c v n t a b bs)=true) (hK:K o=true)
  {z:Nd} (hz:N[k]? =some z) (hz4:z.k≠4) (hza:z.a=(o:Int)) (hg:Gd N steps nv k x.2) (hr:∀w,w<nv→(K (x.2 w)=true∨(steps.length≤x.2 w∧(w:Int)∈tmV t))→x.1.vals[w]? =ys[w]?):vT x.1.vals t=vT ys t:=by
 simp only[wfS,Bool.and_eq_true]at hw;refine X9Y t fun w hw2=>?_;obtain⟨w0,w1⟩:=XbH t hw.1 w hw2;obtain⟨g1,g2⟩:=hg.all w.toNat (by omega);have hwv:((w.toNat:Nat):Int)=w:=by omega
 refine hr w.toNat (by omega) ?_;by_cases hd:x.2 w.toNat<steps.length
 · exact .inl (hs.src o _ hK hst k z hz hz4 hza _ g1 (by rw[g2,hwv];exact hw2) hd)
 exact .inr ⟨by omega,by rw[hwv];exact hw2⟩
theorem X7C {xs ys:List Int} {v z:Int} (hv0:v.toNat<vars.length) (h1:xs.length=vars.length) (h2:ys.length=vars.length):(X6b vars xs v z)[v.toNat]? =(X6b vars ys v z)[v.toNat]? :=by
 unfold X6b;have:vars[v.toNat]? =some vars[v.toNat]:=by simp[hv0]
 rw[this];simp only;rw[List.getElem?_set_self (by omega),List.getElem?_set_self (by omega)]
theorem Xda {hw:List Int} {d v n:Int} {t:Tm} {bs:List Int} {s s':Sta} (ho:s.outs=s'.outs) (h1:s.vals.length=vars.length) (h2:s'.vals.length=vars.length) (hvl:d=0∨d=5→v.toNat<vars.length) (ht:d=0∨d=1→vT s.vals t=vT s'.vals t) (hh:d=5→(hv[n.toNat]?).getD 0=(hw[n.toNat]?).getD 0):
  (Zz vars hv d v n t bs s).outs=(Zz vars hw d v n t bs s').outs∧((d=0∨d=5)→(Zz vars hv d v n t bs s).vals[v.toNat]? =(Zz vars hw d v n t bs s').vals[v.toNat]?):=by
 unfold Zz;by_cases d0:d=0
 · subst d0;rw[if_pos rfl,if_pos rfl];exact⟨ho,fun _=>by rw[ht (.inl rfl)];exact X7C (hvl (.inl rfl)) h1 h2⟩
 rw[if_neg d0,if_neg d0];by_cases d1:d=1
 · subst d1;rw[if_pos rfl,if_pos rfl];exact⟨by simp only;rw[ho,ht (.inr rfl)],fun h=>by omega⟩
 rw[if_neg d1,if_neg d1];by_cases d5:d=5
 · subst d5;rw[if_pos rfl,if_pos rfl];exact⟨ho,fun _=>by rw[hh rfl];exact X7C (hvl (.inr rfl)) h1 h2⟩
 rw[if_neg d5,if_neg d5];refine⟨?_,fun h=>by omega⟩;split<;>exact ho
theorem Xcb {nv n:Nat} {c:Int} {t:Tm} {G:(Nat→Nat)→Prop} {body:Sta×(Nat→Nat)→Sta×(Nat→Nat)} {bodyF:Sta→Sta} (ht:∀x y,G x.2→Rs K n nv x y→vT x.1.vals t=vT y.vals t) (hb:∀x y,G x.2→Rs K n nv x y→G (body x).2∧Rs K n nv (body x) (bodyF y)):
  ∀(m:Nat) (x:Sta×(Nat→Nat)) (y:Sta),G x.2→Rs K n nv x y→Rs K n nv (X2V c t body m x) (X1y c t bodyF m y)
 |0,x,y,_,h=>h
 | m+1,x,y,hg,h=>by
   simp only[X2V,X1y];rw[ht x y hg h];split
   · exact h
   have h':Rs K n nv (tick x.1 c,x.2) (tick y c):=h;obtain⟨h1,h2⟩:=hb (tick x.1 c,x.2) (tick y c) hg h';exact Xcb ht hb m _ _ h1 h2
theorem sim1 {nv:Nat} (hs:Slc N steps nv ar K) (hvn:vars.length=nv):∀l:List St,∀(o k after:Nat) (par:Int),Lies N steps vars nh l o k after→Sub ar o (arL l par o)→∀x y,Gd N steps nv (X5N l k after) x.2→Rs K steps.length nv x y→
  Rs K steps.length nv (stD vars hv K l o x) (Qa vars hv (prL (fun j=>K j.toNat) l o) y):=by
 apply St.lind
 · intro o k after par _ _ x y _ h;rw[X86];simpa[prL,Qa]using h
 intro d c v n t a b bs l ia ib il o k after par hL hA x y hg hr;obtain⟨h1,h2⟩:=hL.cons;simp only[arL]at hA;obtain⟨s1,s2⟩:=hA.app;rw[X88]at s2;rw[Xb5]at s1;simp only[szS,St.then_,St.else_]at s1 s2;obtain⟨s3,s4⟩:=s1.cons;obtain⟨s5,s6⟩:=s4.app;rw[Zu]at s6;have hg:Gd N steps nv k x.2:=hg;have hgm:=XbB (hv:=hv) (kO:=K) h1 (Xb0 a) (Xb0 b) hg;have eo:((o:Int)+((szS (.mk d c v n t a b bs):Nat):Int))=((o+(1+szL a+szL b):Nat):Int):=by simp only[szS];omega
 have eo1:((o:Int)+1)=((o+1:Nat):Int):=by omega
 have eo2:(((o+1:Nat):Int)+(szL a:Int))=((o+1+szL a:Nat):Int):=by omega
 rw[X6w];simp only[prL];simp only[Int.toNat_natCast];rw[eo];by_cases hk:K o=true
 · rw[if_pos hk];simp only[List.cons_append,List.nil_append,prS];rw[Xag,eo1,eo2];refine il _ _ _ _ h2 s2 _ _ hgm ?_;have hrt:∀(x:Sta×(Nat→Nat)) (y:Sta),Rs K steps.length nv x y→∀w,w<nv→(K (x.2 w)=true∨(steps.length≤x.2 w∧(w:Int)∈tmV t))→x.1.vals[w]? =y.vals[w]? :=fun x y h w hw h2=>h.2.2.2 w hw (h2.imp id fun h=>h.1);unfold st1 sF1;by_cases h4:d=4
   · rw[if_pos h4,if_pos h4];obtain⟨⟨z0,z01,z02,z03⟩,⟨z,z1,z2,z3,z4,z5⟩,hla,_⟩:=h1.loop h4;have hg1:=hg.pass z01 (by omega) z03 (X0Z (by omega));refine Xcb (G:=Gd N steps nv (k+1)) (fun x y g r=>X82 hs hvn h1.st h1.wf hk z1 (by omega) z3 g (hrt x y r)) (fun x y g r=>?_) n.toNat x y hg1 hr;have gx:=g.pass z1 (by omega) z4 (X0Z (by omega));exact⟨Xb0 a _ _ _ hla x gx,ia _ _ _ _ hla s5 x y gx r⟩
   rw[if_neg h4,if_neg h4];by_cases h3:d=3
   · rw[if_pos h3,if_pos h3];obtain⟨⟨z,z1,z2,z3,z4,z5⟩,hla,hlb⟩:=h1.if_ h3;rw[X82 hs hvn h1.st h1.wf hk z1 (by omega) z3 hg (hrt x y hr)];split
     · exact ib _ _ _ _ hlb s6 (tick x.1 c,x.2) (tick y c) (hg.pass z1 (by omega) z5 (X0Z (by omega))) hr
     exact ia _ _ _ _ hla s5 (tick x.1 c,x.2) (tick y c) (hg.pass z1 (by omega) z4 (X0Z (by omega))) hr
   rw[if_neg h3,if_neg h3];obtain⟨z,z1,z2,z3,z4⟩:=h1.leaf h3 h4;have hT:=X82 hs hvn h1.st h1.wf hk z1 (by omega) z3 hg (hrt x y hr);obtain⟨r1,r2,r3,r4⟩:=hr;unfold X2x;rw[if_neg (by rw[hk];simp)];have hvar:=h1.var;obtain⟨q1,q2⟩:=Xda (hv:=hv) (hw:=hv) (d:=d) (v:=v) (n:=n) (t:=t) (bs:=bs) (s:=tick x.1 c) (s':=tick y c) r1 (by rw[hvn];exact r2) (by rw[hvn];exact r3) (fun h=>(hvar h).2) (fun _=>hT) (fun _=>rfl);refine⟨q1,?_,?_,fun w hw hkw=>?_⟩
   · simp only;rw[(X3H ..).1];exact r2
   · rw[(X3H ..).1];exact r3
   simp only at hkw⊢;by_cases hd:d=0∨d=5
   · by_cases e:w=v.toNat
     · rw[e];exact q2 hd
     rw[X00 (.inl e),X00 (.inl e)];refine r4 w hw ?_;rw[if_pos hd]at hkw;unfold updD at hkw
     rwa [if_neg e]at hkw
   rw[X00 (.inr hd),X00 (.inr hd)];rw[if_neg hd]at hkw;exact r4 w hw hkw
 rw[if_neg hk];have hk:K o=false:=by simpa using hk
 simp only[List.nil_append];refine il _ _ _ _ h2 s2 _ _ hgm ?_
 have hout:∀j,o≤j→j<o+(1+szL a+szL b)→K j=false:=fun j j1 j2=>by
  by_cases e:j=o
  · rw[e];exact hk
  by_cases e1:j<o+1+szL a
  · exact XdC hs.up a (o+1) o s5 hk j (by omega) e1
  exact XdC hs.up b (o+1+szL a) o s6 hk j (by omega) (by omega)
 have e0:szL [St.mk d c v n t a b bs]=1+szL a+szL b:=by simp[szL,szS]
 have q1:=XdL (vars:=vars) (hv:=hv) (kO:=K) [.mk d c v n t a b bs] o x;have q2:=Xdy (vars:=vars) (hv:=hv) (kO:=K) [.mk d c v n t a b bs] o (by rw[e0];exact hout) x;have q3:=Xdz (vars:=vars) (hv:=hv) (kO:=K) [.mk d c v n t a b bs] o x;rw[XdO]at q1 q2 q3;rw[e0]at q1;obtain⟨r1,r2,r3,r4⟩:=hr;refine⟨q2.trans r1,q3.trans r2,r3,fun w hw hkw=>?_⟩;rcases q1 w with⟨u1,u2⟩|⟨u1,u2⟩
 · rw[u2];rw[u1]at hkw;exact r4 w hw hkw
 have:=h1.in_ u1 u2;rcases hkw with hkw|hkw
 · rw[hout _ u1 u2]at hkw;cases hkw
 omega
end
end Go.Proofs.YtppjennamodfdaaGreat

namespace Go.Proofs.YtppjennamodfdaaGreat
open Go Go.Hl
theorem X7E {f:Fl} (h:Sm f) (h0:Q0 f=0):Lies (grN f.body) (flL f.body) f.vars f.hats.length f.body 0 1 (1+wdL f.body) where
 g:=X9e f.body true (WV h0).2.2.2.1
 wf:=(X8f h.bnd h0).1
 nd:=by
  have:Sub (grN f.body) 0 (grN f.body):=Sub.of_self _;exact(Sub.cons this).2.app.1
 st:=Sub.of_self _
theorem Xdx (f:Fl):Gd (grN f.body) (flL f.body) f.vars.length (X5N f.body 1 (1+wdL f.body)) (fun v=>(flL f.body).length+v):=by
 refine⟨fun v hv=>⟨?_,?_⟩⟩
 · refine .entry (i:=0) (x:=⟨0,-1,if f.body=[] then 1+wdL f.body else 1,-1⟩) rfl rfl ?_ hv;by_cases e:f.body=[]<;>simp[ZG,X5N,e]
 unfold QS;rw[List.getElem?_eq_none (by omega)];simp only;omega
theorem XbO {f:Fl} {o d:Nat} {q:St} {a:Int} {r:List Nat} (h1:(flL f.body)[o]? =some q) (h2:(arL f.body (-1) 0)[o]? =some a) (h3:(rdT f)[o]? =some r):
  d∈(Q4 f)[o]?.getD []↔(0≤a∧d=a.toNat)∨(d<(flL f.body).length∧d∈r∧QS (flL f.body) d∈tmV q.term):=by
 have ho:=(List.getElem?_eq_some_iff.1 h1).1
 have:(Q4 f)[o]?.getD []=(if 0≤a then [a.toNat] else [])++(X2I (flL f.body) q r).filter fun d=>decide (d<(flL f.body).length):=by
  unfold Q4 X2H;rw[List.getElem?_map,List.getElem?_range ho];simp only[Option.map_some,Option.getD_some,X6X,h1,h2,h3]
 rw[this,List.mem_append,List.mem_filter,X2I,List.mem_filter,XaE];simp only[decide_eq_true_eq,X2g,List.not_mem_nil,false_or];constructor
 · rintro(h|⟨⟨h4,h5⟩,h6⟩)
   · split at h
     · rename_i h0;exact .inl ⟨h0,List.mem_singleton.1 h⟩
     cases h
   exact .inr ⟨h6,h4,h5⟩
 rintro(⟨h0,h4⟩|⟨h6,h4,h5⟩)
 · rw[if_pos h0];exact .inl (List.mem_singleton.2 h4)
 exact .inr ⟨⟨h4,h5⟩,h6⟩
theorem Xc1 {f:Fl} (h:Sm f) {q:List Int} (hq:okQ (szL f.body) q) (d:Nat):d∈bwL f q↔Cl (Q4 f) (QG q) d:=
 XaU h (by rw[QN,XO];exact hq.nat) d
def Kb (X:List Nat):Nat→Bool:=fun j=>decide (j∈X)
theorem slc_bw {f:Fl} (h:Sm f) (h0:Q0 f=0) {q:List Int} (hq:okQ (szL f.body) q):Slc (grN f.body) (flL f.body) f.vars.length (arL f.body (-1) 0) (Kb (bwL f q)):=by
 have hg:=(X7E h h0).g;have hlen:=XO f.body;have har:=Zu f.body (-1) 0;have hrl:(rdT f).length=szL f.body:=X85 _ _
 have key:∀(o d:Nat),Kb (bwL f q) o=true→d∈(Q4 f)[o]?.getD []→Kb (bwL f q) d=true:=fun o d hk hd=>by
  unfold Kb at*;rw[decide_eq_true_eq]at*;exact(Xc1 h hq d).2 (.step ((Xc1 h hq o).1 hk) hd)
 refine⟨fun o s hk hs k x hx h4 hxa d hd hv hdl=>?_,fun j a ha h1 hk=>?_⟩
 · have ho:=(List.getElem?_eq_some_iff.1 hs).1;obtain⟨r,hr,hm⟩:=XdP hg hx h4 hxa (by omega) hd;have hao:(arL f.body (-1) 0)[o]? =some ((arL f.body (-1) 0)[o]'(by omega)):=List.getElem?_eq_getElem _;exact key o d hk ((XbO hs hao hr).2 (.inr ⟨hdl,hm,hv⟩))
 have hj:=(List.getElem?_eq_some_iff.1 ha).1;have e1:(flL f.body)[j]? =some ((flL f.body)[j]'(by omega)):=List.getElem?_eq_getElem _;have e2:(rdT f)[j]? =some ((rdT f)[j]'(by omega)):=List.getElem?_eq_getElem _;exact key j a.toNat hk ((XbO e1 ha e2).2 (.inl ⟨h1,rfl⟩))
def X5b (f:Fl) (X:List Int):List Nat:=(List.range (szL f.body)).filter fun i=>match(flL f.body)[i]? with
 |some q=> !decide (q.do_=1)||decide ((i:Int)∈X)
 |none=>false
def X57 (f:Fl) (X:List Int):Fl:=⟨f.vars,f.hats,prL (kp (toI (X5b f X))) f.body 0⟩
theorem mut_kp {f:Fl} {X:List Int} {j:Nat} {q:St} (h:(flL f.body)[j]? =some q):kp (toI (X5b f X)) (j:Int)=(!decide (q.do_=1)||decide ((j:Int)∈X)):=by
 have hj:=(List.getElem?_eq_some_iff.1 h).1;rw[XO]at hj
 have h1:((j:Int)∈toI (X5b f X))↔(!decide (q.do_=1)||decide ((j:Int)∈X))=true:=by
  rw[ZP,Int.toNat_natCast,X5b,List.mem_filter,h];simp only[List.mem_range];exact⟨fun h=>h.2.2,fun h=>⟨Int.natCast_nonneg _,hj,h⟩⟩
 unfold kp;rw[Bool.eq_iff_iff,decide_eq_true_eq];exact h1
theorem X9B {f:Fl} {i:Inp} (h0:Q0 f=0) (h1:(stL i f.vars 0 0 0 [] true).2=0):(X2S f i).2=0∧(X2S f i).1.outs=(Qa f.vars (Wh (stL i f.vars 0 0 0 [] true).1 f.hats) f.body ⟨(stL i f.vars 0 0 0 [] true).1,[],0⟩).outs:=by
 have hp:X1t f i=(Qa f.vars (Wh (stL i f.vars 0 0 0 [] true).1 f.hats) f.body ⟨(stL i f.vars 0 0 0 [] true).1,[],0⟩,0):=by
  unfold X1t;rw[if_pos h0,if_pos h1]
 unfold X2S;rw[hp];simp
theorem X6K {f:Fl} (h:Sm f) (h0:Q0 f=0) {q:List Int} (hq:okQ (szL f.body) q) {i:Inp} (hi:(stL i f.vars 0 0 0 [] true).2=0):
  (X2S (pgF f (toI (bwL f q))) i).2=0∧(X2S (X57 f (toI (bwL f q))) i).2=0∧(X2S (pgF f (toI (bwL f q))) i).1.outs=(X2S (X57 f (toI (bwL f q))) i).1.outs:=by
 have hX:=X4w (n:=szL f.body) (L:=Q4 f) q;have hL:=X7E h h0;have hvl:=X7Y i f.vars 0 0 0 [] true hi;obtain⟨vals,hvals0⟩:∃x,(stL i f.vars 0 0 0 [] true).1=x:=⟨_,rfl⟩;rw[hvals0]at hvl;simp only[List.length_nil,Nat.zero_add]at hvl;obtain⟨r1,r2⟩:=X9B (f:=pgF f (toI (bwL f q))) (i:=i) (XbT h0 _) hi;obtain⟨r3,r4⟩:=X9B (f:=X57 f (toI (bwL f q))) (i:=i) (X8l _ h0 0) hi;refine⟨r1,r3,?_⟩;rw[r2,r4];have e1:(pgF f (toI (bwL f q))).vars=f.vars:=rfl;have e2:(pgF f (toI (bwL f q))).hats=f.hats:=rfl;have e3:(X57 f (toI (bwL f q))).vars=f.vars:=rfl;have e4:(X57 f (toI (bwL f q))).hats=f.hats:=rfl
 have e5:(pgF f (toI (bwL f q))).body=prL (fun j=>Kb (bwL f q) j.toNat) f.body 0:=by
  rw[XbS];simp only;refine(Wn f.body 0 fun m h1 h2=>?_).1;unfold kp Kb;exact decide_eq_decide.2 ((ZP _ _).trans ⟨fun h=>h.2,fun h=>⟨h1,h⟩⟩)
 have e6:(X57 f (toI (bwL f q))).body=prL (kp (toI (X5b f (toI (bwL f q))))) f.body 0:=rfl;rw[e1,e2,e3,e4,e5,e6,hvals0];have hs:=sim1 (hv:=Wh vals f.hats) (slc_bw h h0 hq) rfl f.body 0 1 (1+wdL f.body) (-1) hL (Sub.of_self _) (⟨vals,[],0⟩,fun v=>(flL f.body).length+v) ⟨vals,[],0⟩ (Xdx f) ⟨rfl,hvl,hvl,fun _ _ _=>rfl⟩
 have he:=stD_er (vars:=f.vars) (hv:=Wh vals f.hats) (kO:=Kb (bwL f q)) (kp (toI (X5b f (toI (bwL f q))))) f.body 0 (fun j s hs=>by
  rw[Nat.zero_add,mut_kp hs];congr 1;unfold Kb
  exact decide_eq_decide.2 ((ZP _ _).trans ⟨fun h=>by simpa using h.2,fun h=>⟨Int.natCast_nonneg _,by simpa using h⟩⟩)) (⟨vals,[],0⟩,fun v=>(flL f.body).length+v)
 have:=hs.1;rw[he]at this;exact this.symm
end Go.Proofs.YtppjennamodfdaaGreat

namespace Go.Proofs.YtppjennamodfdaaGreat
open Go Go.Hl
theorem fnd_flL:∀l:List St,∀i:Int,0≤i→Zx l i=(flL l)[i.toNat]? :=by
 apply St.lind
 · intro i _;rw[X3h];simp[flL]
 intro d c v n t a b bs l ia ib il i hi;rw[X0Y];simp only[flL,flS,List.cons_append,List.append_assoc];split
 · rename_i h0;subst h0;simp
 rename_i h0;have e1:i.toNat=(i - 1).toNat+1:=by omega
 rw[e1,List.getElem?_cons_succ];by_cases h1:i - 1<szL a
 · rw[ia (i - 1) (by omega),List.getElem?_append_left (by rw[XO];omega)];have hl:(i - 1).toNat<(flL a).length:=by rw[XO];omega
   rw[List.getElem?_eq_getElem hl]
 rw[X02 a _ (by omega)];simp only;rw[List.getElem?_append_right (by rw[XO];omega),XO];have e2:(i - 1).toNat - szL a=(i - 1 - szL a).toNat:=by omega
 rw[e2];by_cases h2:i - 1 - szL a<szL b
 · rw[ib (i - 1 - szL a) (by omega),List.getElem?_append_left (by rw[XO];omega)];have hl:(i - 1 - szL a).toNat<(flL b).length:=by rw[XO];omega
   rw[List.getElem?_eq_getElem hl]
 rw[X02 b _ (by omega)];simp only;rw[List.getElem?_append_right (by rw[XO];omega),XO];have e3:(i - 1 - szL a).toNat - szL b=(i - 1 - szL a - szL b).toNat:=by omega
 rw[e3,il _ (by omega)]
set_option maxHeartbeats 8000000 in
theorem Xa1 (f:Fl) (hb:Xk f.body≤1000000) (d:Nat):Con Tryz.prog 57 false [aF f] (.v (lS (flL f.body))) none d:=by
 have cs:=Zt f.body (by omega);have cf:=XcV f.body hb;have hnl:=QV f.body;have hfl:=XO f.body;have hfn:∀(k:Nat) q,(flL f.body)[k]? =some q→Zx f.body k=some q:=fun k q h=>by rw[fnd_flL _ _ (by omega),Int.toNat_natCast,h]
 obtain⟨vars,hats,body⟩:=f;simp only at cs cf hnl hfl hfn hb⊢;obtain⟨n,hn⟩:∃x,szL body=x:=⟨_,rfl⟩;rw[hn]at cs hnl hfl;obtain⟨L,hL⟩:∃x,flL body=x:=⟨_,rfl⟩;rw[hL]at hfl hfn⊢;clear hn hL;simp only[aF,Fl.enc,List.map_cons,List.map_nil];refine X5 Tryz.func57 ?_;simp only[Tryz.f57];refine X3 ?_;refine X3 ?_;refine X1<|X1<|(Xm [⟨true,.v (li n),none⟩] ?_ ?_)
 · first|exact cs _|exact trivial|simpa[*]using cs _
 refine X4<|(Xf [1,9] (fun(k:Nat)=>[(3,.v (.one (.own 1003))),(10,.v (li k))]) (fun k=>[(1,.box [.c (.sl 5 (Xv vars)),.c (.sl 6 (Xu hats)),.c (.sl 10 (X9 body))]),(1003,.row 76 10 (X9 (L.take k)))]) (fun k=>k≤n) (fun k=>n - k) (0:Nat) (Nat.zero_le _) ?_ ?_)
 · exact X6 (fun n=>n) [1003]
 rintro k hk;simp only[upS,X8,Xw]
 try simp only[X8,KN,Nat.reduceBEq,if_true,if_false,ins,Nat.reduceLT]
 refine X3 ?_;refine X1<|(X7 rfl (fun h5=>Xb ?_) (fun h5=>?_))
 · (try simp only[BN]at h5);have hlt:k<n:=by first|omega|simpa using h5
   obtain⟨q,he,hd⟩:=Xs (show k<L.length by omega);have hw1:IntKind.i64.wrap ((k:Int)+1)=(k:Int)+1:=Xd (by omega) (by omega);have hk1:k+1≤n:=hlt;have cfk:=cf k q (by omega) (by omega) (hfn k q he);have htk:=X6P he;have hroom:Qq (k+1) 144:=XB (by omega) (by decide);have hel:(X9 (L.take k)).length=k:=by rw[X7o,List.length_take];omega
   have hml:min k L.length=k:=by omega
   obtain⟨so,sc,sv,sn,⟨to,tn,tk⟩,sa,sb,sbs⟩:=q;simp only[aS,St.enc,Tm.enc,List.cons_append,List.nil_append,List.map_cons,List.map_nil]at cfk htk;clear hlt h5 hd cf hfn he;refine X1<|X4<|X1<|X2 ?_;refine Xj [⟨false,.tup [.agg [.c (iC so),.c (iC sc),.c (iC sv),.c (iC sn),.c (iC to),.c (iC tn),.c (.sl 3 (Xo tk)),.c (.sl 10 (X9 sa)),.c (.sl 10 (X9 sb)),.c (.sl 1 (Xe sbs))],lb true],none⟩] ?_ ?_
   · first|exact cfk _|exact trivial|simpa[*]using cfk _
   refine X2 ?_;refine X2 ?_;exact⟨k+1,hk1,by omega,X6 (fun n=>if n=1003 then 23 else n) []⟩
 (try simp only[BN]at h5);have hkl:k=n:=by first|omega|(have:¬k<n:=by simpa using h5;omega)
 have hte:L.take k=L:=List.take_of_length_le (by omega);rw[hte];clear h5;refine(Xi ?_);refine X3 ?_;exact XF ⟨.inr rfl,_,XJ 1003 rfl,⟨⟨_,by simp;rfl,by simp[XD]⟩,by simp,fun h=>by cases h⟩⟩
def mutK (L:List St) (X:List Int) (k:Nat):List Nat:=(List.range k).filter fun i=>match L[i]? with
 |some q=> !decide (q.do_=1)||decide ((i:Int)∈X)
 |none=>false
theorem Xdh {L:List St} {X:List Int} {k:Nat} {q:St} (h:L[k]? =some q):XW (mutK L X (k+1))=XW (mutK L X k)++(if(!decide (q.do_=1)||decide ((k:Int)∈X))=true then [[iC k]] else []):=by
 unfold mutK;rw[List.range_succ,List.filter_append];simp only[List.filter_cons,h,List.filter_nil];split<;>simp[XW]
theorem mutK_len (L:List St) (X:List Int) (k:Nat):(XW (mutK L X k)).length≤k:=by
 rw[len_encD];exact Nat.le_trans (List.length_filter_le _ _) (by simp)
set_option maxHeartbeats 8000000 in
theorem XdI (f:Fl) (hb:Xk f.body≤1000000) (X:List Int) (hX:X.length≤1000000000) (d:Nat):Con Tryz.prog 33 false [aF f,lI X] (.v (aF (X57 f X))) none d:=by
 have cs:=Xa1 f hb;have hnl:=QV f.body;have hfl:=XO f.body;have ch:=fun x=>X3x X x hX;have hml:X5b f X=mutK (flL f.body) X (szL f.body):=rfl;have hkl:(X5b f X).length≤szL f.body:=Nat.le_trans (List.length_filter_le _ _) (by simp)
 have ckp:∀d,Con Tryz.prog 28 false [lS f.body,.one (.c (.sl 1 (XW (X5b f X)))),li 0] (.v (lS (prL (kp (toI (X5b f X))) f.body 0))) none d:=by
  rw[X5S];exact kept_con (toI (X5b f X)) (by rw[Xc3];omega) f.body hb 0 (by omega) (by omega)
 unfold X57;obtain⟨vars,hats,body⟩:=f;simp only at cs hnl hfl ckp hkl hb⊢;obtain⟨B,hB⟩:∃x,prL (kp (toI (X5b ⟨vars,hats,body⟩ X))) body 0=x:=⟨_,rfl⟩;rw[hB]at ckp⊢;rw[hml]at ckp;simp only at ckp;obtain⟨n,hn⟩:∃x,szL body=x:=⟨_,rfl⟩;rw[hn]at hnl hfl ckp;obtain⟨L,hL⟩:∃x,flL body=x:=⟨_,rfl⟩;rw[hL]at hfl cs ckp;clear hn hL hB hml hkl;simp only[aF,Fl.enc,List.map_cons,List.map_nil]at cs⊢;have hz0:XW (mutK L X 0)=[]:=rfl;refine X5 Tryz.func33 ?_;simp only[Tryz.f33];refine X3 ?_;refine X3 ?_;refine X1<|X1<|(Xm [⟨false,.v (lS L),none⟩] ?_ ?_)
 · first|exact cs _|exact trivial|simpa[*]using cs _
 refine X4<|(Xf [1,2,4,9,10] (fun(k:Nat)=>[(5,.v (.one (.own 1003))),(11,.v (li k))]) (fun k=>[(2,.box [.c (.sl 5 (Xv vars)),.c (.sl 6 (Xu hats)),.c (.sl 10 (X9 body))]),(4,.box [.c (.lit XP),.c (.lit XP),.c (.lit XP)]),(1003,.row 3 1 (XW (mutK L X k)))]) (fun k=>k≤n) (fun k=>n - k) (0:Nat) (Nat.zero_le _) ?_ ?_)
 · exact X6 (fun n=>n) [1003]
 rintro k hk;simp only[upS,X8,Xw]
 try simp only[X8,KN,Nat.reduceBEq,if_true,if_false,ins,Nat.reduceLT]
 refine X3 ?_;refine X1<|(X7 rfl (fun h5=>Xb ?_) (fun h5=>?_))
 · (try simp only[BN]at h5);have hlt:k<n:=by first|omega|simpa using h5
   obtain⟨q,he,hd⟩:=Xs (show k<L.length by omega);have hw1:IntKind.i64.wrap ((k:Int)+1)=(k:Int)+1:=Xd (by omega) (by omega);have hk1:k+1≤n:=hlt;have he':=Q1 he;have hsn:=@Xdh L X k q he;have hlk:=mutK_len L X k;have chk:=ch k;obtain⟨M,hM⟩:∃x,XW (mutK L X k)=x:=⟨_,rfl⟩;rw[hM]at hsn hlk;have hroom:Qq (M.length+1) 8:=XB (by omega) (by decide);obtain⟨G,hG⟩:∃x,decide ((k:Int)∈X)=x:=⟨_,rfl⟩;rw[hG]at chk hsn;obtain⟨so,sc,sv,sn,⟨to,tn,tk⟩,sa,sb,sbs⟩:=q;simp only[St.enc,Tm.enc,List.cons_append,List.nil_append]at he';simp only[St.do_]at hsn;clear hlt h5 hd he hG ch;refine X1<|X4<|X1<|X2 ?_;by_cases hd1:so=1
   · subst hd1;simp only[decide_true,Bool.not_true,Bool.false_or]at hsn;refine Xj [⟨true,.v (lb G),none⟩] ?_ ?_
     · first|exact chk _|exact trivial|simpa[*]using chk _
     refine(Xa rfl (fun h8=>?_) fun h8=>?_)
     · (try simp only[BN]at h8);have hGt:G=true:=by simpa using h8
       rw[if_pos hGt]at hsn;refine X2 ?_;refine X2 ?_;exact⟨k+1,hk1,by omega,X6 (fun n=>if n=1003 then 27 else n) []⟩
     (try simp only[BN]at h8);have hGf:¬G=true:=by simpa using h8
     rw[if_neg hGf,List.append_nil]at hsn;refine X2 ?_;exact⟨k+1,hk1,by omega,X6 (fun n=>n) []⟩
   simp only[hd1,decide_false,Bool.not_false,Bool.true_or,if_true]at hsn;refine X1<|(WP [none] (by simp[*];first|exact⟨rfl,Iff.rfl⟩|exact⟨rfl,trivial⟩|rfl) ?_ ?_)
   · first|exact trivial|exact trivial|simpa using trivial
   refine(Xa rfl (fun h8=>?_) fun h8=>?_)
   · (try simp only[BN]at h8);refine X2 ?_;refine X2 ?_;exact⟨k+1,hk1,by omega,X6 (fun n=>if n=1003 then 27 else n) []⟩
   exact absurd h8 (by simp)
 (try simp only[BN]at h5);have hkl:k=n:=by first|omega|(have:¬k<n:=by simpa using h5;omega)
 subst hkl;clear h5;refine(Xi ?_);refine XC (XJ 1003 rfl) ?_;refine Xj [⟨false,.v (lS B),none⟩] ?_ ?_
 · first|exact ckp _|exact trivial|simpa[*]using ckp _
 refine X3 ?_;exact Xc
end Go.Proofs.YtppjennamodfdaaGreat

namespace Go.Proofs.YtppjennamodfdaaGreat
open Go Go.Hl
structure Ou (f:Fl) (i:Inp) (A:List Int) (X:List Int) (P M:Fl) (O:List Int) (t1 t2:Int):Prop where
 cb:∀d,Con Tryz.prog 12 false [aF f,lI A] (.tup [lI X,li 0]) none d
 cp:∀d,Con Tryz.prog 27 false [aF f,lI X] (.tup [aF P,li 0]) none d
 cc:∀d,Con Tryz.prog 25 true [aF P] (.v (li 0)) none d
 cr:∀d,Con Tryz.prog 32 false [aF P,aI i] (.tup [.agg [.c (.sl 1 (Xe O)),.c (iC t1)],li 0]) none d
 cm:∀d,Con Tryz.prog 33 false [aF f,lI X] (.v (aF M)) none d
 cr2:∀d,Con Tryz.prog 32 false [aF M,aI i] (.tup [.agg [.c (.sl 1 (Xe O)),.c (iC t2)],li 0]) none d
 lO:O.length≤1000000000
theorem pr_sm {f:Fl} (h:Sm f) (keep:Int→Bool):Sm ⟨f.vars,f.hats,prL keep f.body 0⟩ where
 vars:=h.vars
 hats:=h.hats
 nodes:=by have:=h.nodes;have:=(X6e keep f.body 0).1;simp only;omega
 bnd:=(X6e keep f.body 0).2.2.2 h.bnd
theorem ou_mk {f:Fl} (h:Sm f) (h0:Q0 f=0) {i:Inp} (hi:(stL i f.vars 0 0 0 [] true).2=0) {A:List Int} (hA:okQ (szL f.body) A) (lA:A.length≤40):∃X P M O t1 t2,Ou f i A X P M O t1 t2:=by
 have hn:(Q4 f).length=szL f.body:=by rw[QN,XO]
 have hX:okQ (szL f.body) (toI (bwL f A)):=by
  have:=X4w (n:=szL f.body) (L:=Q4 f) A
  rwa [X5Y,hn]
 have hXl:(toI (bwL f A)).length≤1000:=by
  have:=X6t (szL f.body) (Q4 f) A;have h2:=h.nodes;have h3:=QV f.body;rw[X5Y,hn];omega
 obtain⟨o1,o2,o3⟩:=X6K h h0 hA hi;have smP:Sm (pgF f (toI (bwL f A))):=by rw[XbS];exact pr_sm h _
 have smM:Sm (X57 f (toI (bwL f A))):=pr_sm h _;have cdP:Q0 (pgF f (toI (bwL f A)))=0:=XbT h0 _;have cdM:Q0 (X57 f (toI (bwL f A)))=0:=X8l _ h0 0;have r1:=X9O (pgF f (toI (bwL f A))) i (by have:=smP.vars;omega) (by have:=smP.hats;omega) (by have:=smP.nodes;omega) smP.bnd;have r2:=X9O (X57 f (toI (bwL f A))) i (by have:=smM.vars;omega) (by have:=smM.hats;omega) (by have:=smM.nodes;omega) smM.bnd;have hl:=XdF (f:=pgF f (toI (bwL f A))) smP.bnd (i:=i);rw[o1]at r1;rw[o2]at r2;simp only[aO]at r1 r2;rw[←o3]at r2;refine⟨toI (bwL f A),pgF f (toI (bwL f A)),X57 f (toI (bwL f A)),_,_,_,?_,?_,?_,r1,?_,r2,by omega⟩
 · have:=(XaG h h0).con A (by omega) hA
   rwa [←hn]at this
 · intro d;have:=X4V f h (toI (bwL f A)) (by omega) d
   rwa [X7Z h0 hX,if_pos rfl]at this
 · have:=Zl (pgF f (toI (bwL f A))) (by have:=smP.vars;omega) (by have:=smP.hats;omega) (by have:=smP.nodes;omega) smP.bnd
   rwa [cdP]at this
 exact XdI f (by have:=h.nodes;omega) _ (by omega)
set_option maxHeartbeats 16000000 in
theorem X9P (f:Fl) (q:List Int) (i:Inp) (d:Nat):Con Tryz.prog 7 true [aF f,lI q,aI i] (.v (lb true)) none d:=by
 have ck:=X77;have cf:=Xbx f [q] (by simp);obtain⟨FQ,hFQ⟩:∃x,fitQ f [q]=x:=⟨_,rfl⟩;rw[hFQ]at cf;have hsm:=fun h:FQ=true=>XdJ (X1V (hFQ.trans h)).1;have hla:=fun h:FQ=true=>(X1V (hFQ.trans h)).2 q (by simp);obtain⟨C,hC⟩:∃x,Q0 f=x:=⟨_,rfl⟩;have cc:=fun h:FQ=true=>Zl f (by have:=(hsm h).vars;omega) (by have:=(hsm h).hats;omega) (by have:=(hsm h).nodes;omega) (hsm h).bnd;have ca:=fun h:FQ=true=>X2A f (by have:=(hsm h).nodes;omega) q (by have:=hla h;omega);have cst:=fun h:FQ=true=>X7I f.vars i (by have:=(hsm h).vars;omega);obtain⟨vals,Wh⟩:∃x,(stL i f.vars 0 0 0 [] true).1=x:=⟨_,rfl⟩;obtain⟨S,hS⟩:∃x,(stL i f.vars 0 0 0 [] true).2=x:=⟨_,rfl⟩;rw[Wh,hS]at cst;have hok:=X7L (szL f.body) q;have hl1:=fun h:FQ=true=>Nat.le_trans (X3l (szL f.body) q) (hla h);obtain⟨A,hA⟩:∃x,X1u (szL f.body) q=x:=⟨_,rfl⟩;rw[hA]at ca hok hl1;have hou:=fun(h:FQ=true) (h0:C=0) (h1:S=0)=>ou_mk (hsm h) (hC.trans h0) (hS.trans h1) hok (hl1 h);rw[hC]at cc;simp only[lQ,X3g,List.map_cons,List.map_nil]at cf;clear hC hsm hla hok hA hFQ hl1 Wh hS;obtain⟨vars,hats,body⟩:=f;obtain⟨is,ip,ir⟩:=i;simp only[aF,Fl.enc,List.map_cons,List.map_nil,aI]at cf cc ca cst⊢;refine X5 Tryz.func7 ?_;simp only[Tryz.f7];refine X3 ?_;refine X1<|X1<|(Xm [⟨false,.v (lb true),none⟩] ?_ ?_)
 · first|exact ck _|exact trivial|simpa[*]using ck _
 refine(Xa rfl (fun h2=>?_) fun h2=>?_)
 · exact absurd h2 (by simp)
 (try simp only[BN]at h2);rcases FQ with _|_
 · refine X1<|X1<|(WP [some ⟨true,.v (lb false),none⟩,none] (by simp[*];first|exact⟨rfl,Iff.rfl⟩|exact⟨rfl,trivial⟩|rfl) ?_ ?_)
   · first|exact trivial|exact cf _|simpa using cf _
   refine(Xa rfl (fun h6=>?_) fun h6=>?_)
   · (try simp only[BN]at h6);refine X3 ?_;exact Xc
   exact absurd h6 (by simp)
 have cc:=cc rfl;have ca:=ca rfl;have cst:=cst rfl;have hou:=hou rfl;refine X1<|X1<|(Xm [⟨true,.v (lb true),none⟩,⟨true,.v (li C),none⟩] ?_ ?_)
 · first|exact⟨cf _,cc _⟩|exact trivial|(repeat' first|exact trivial|exact cf _|exact cc _|apply And.intro)
 refine(Xa rfl (fun h6=>?_) fun h6=>?_)
 · (try simp only[BN]at h6);refine X3 ?_;exact Xc
 (try simp only[BN]at h6);have hz:C=0:=by simpa using h6
 subst hz;have hou:=hou rfl;clear h6 cc cf ck;refine X1<|X1<|(Xm [⟨false,.tup [lI vals,li S],none⟩] ?_ ?_)
 · first|exact cst _|exact trivial|simpa[*]using cst _
 refine X3 ?_;refine(Xa rfl (fun h11=>?_) fun h11=>?_)
 · (try simp only[BN]at h11);refine X3 ?_;exact Xc
 (try simp only[BN]at h11);have hz:S=0:=by simpa using h11
 subst hz;obtain⟨X,P,M,O,t1,t2,cb,cp,ccp,cr,cm,cr2,lO⟩:=hou rfl;obtain⟨pv,ph,pb⟩:=P;obtain⟨mv,mh,mb⟩:=M;have ce:=X0H O O lO lO;rw[decide_eq_true rfl]at ce;simp only[aF,Fl.enc,List.map_cons,List.map_nil,aI]at cb cp ccp cr cm cr2;clear h11 cst hou;refine X1<|(XS [⟨false,.v (lI A),none⟩,⟨false,.tup [lI X,li 0],none⟩] (by kernel_rfl) (by kernel_rfl) (by rfl) (by simp[*];first|exact⟨rfl,Iff.rfl⟩|exact⟨rfl,trivial⟩|rfl) ?_ ?_)
 · first|exact⟨ca _,cb _⟩|exact trivial|(repeat' first|exact trivial|exact ca _|exact cb _|apply And.intro)
 refine Xj [⟨false,.tup [.agg [.c (.sl 5 (Xv pv)),.c (.sl 6 (Xu ph)),.c (.sl 10 (X9 pb))],li 0],none⟩] ?_ ?_
 · first|exact cp _|exact trivial|simpa[*]using cp _
 refine X1<|X1<|(Xm [⟨true,.v (li 0),none⟩] ?_ ?_)
 · first|exact ccp _|exact trivial|simpa[*]using ccp _
 refine(Xa rfl (fun h17=>?_) fun h17=>?_)
 · exact absurd h17 (by simp)
 (try simp only[BN]at h17);refine Xj [⟨false,.tup [.agg [.c (.sl 1 (Xe O)),.c (iC t1)],li 0],none⟩] ?_ ?_
 · first|exact cr _|exact trivial|simpa[*]using cr _
 refine X1<|(XS [⟨false,.v (.agg [.c (.sl 5 (Xv mv)),.c (.sl 6 (Xu mh)),.c (.sl 10 (X9 mb))]),none⟩,⟨false,.tup [.agg [.c (.sl 1 (Xe O)),.c (iC t2)],li 0],none⟩] (by kernel_rfl) (by kernel_rfl) (by rfl) (by simp[*];first|exact⟨rfl,Iff.rfl⟩|exact⟨rfl,trivial⟩|rfl) ?_ ?_)
 · first|exact⟨cm _,cr2 _⟩|exact trivial|(repeat' first|exact trivial|exact cm _|exact cr2 _|apply And.intro)
 refine Xj [⟨true,.v (lb true),none⟩] ?_ ?_
 · first|exact ce _|exact trivial|simpa[*]using ce _
 exact Xc
end Go.Proofs.YtppjennamodfdaaGreat

namespace Go.Proofs.YtppjennamodfdaaGreat
open Go Go.Hl Go.RowKit Go.ChangeShapes Go.Proofs.YtppjennamodfdaaGreat
theorem XdK {k:Nat} {ds:List CD} (h:Qz Tryz.prog k 52 ds):∃i:Inp,ds=[.sl 1 (Xe i.s),.sl 1 (Xe i.p),.sl 1 (Xe i.r)]:=by
 obtain⟨hl,k1,_,hx⟩:=Wr (l:=[(0,1,27),(1,1,27),(2,1,27)]) Tryz.underlying52 (by kernel_rfl) (by kernel_rfl:Tryz.prog.cellsOf 52=3) h
 match ds,hl with
 | [a0,a1,a2],_=>
   obtain⟨l0,h0⟩:=X6A (hx (0,1,27) (by simp));obtain⟨l1,h1⟩:=X6A (hx (1,1,27) (by simp));obtain⟨l2,h2⟩:=X6A (hx (2,1,27) (by simp));simp only[List.drop,List.take,List.cons.injEq,and_true]at h0 h1 h2;subst h0 h1 h2;exact⟨⟨l0,l1,l2⟩,rfl⟩
theorem aggIn:X37 Tryz.prog 52=true:=by unfold X37;rw[Tryz.underlying52]
theorem dec_Tw {k:Nat} {ds:List CD} (h:Qz Tryz.prog k 61 ds):∃i j:Inp,ds=[.sl 1 (Xe i.s),.sl 1 (Xe i.p),.sl 1 (Xe i.r),.sl 1 (Xe j.s),.sl 1 (Xe j.p),.sl 1 (Xe j.r)]:=by
 obtain⟨hl,k1,_,hx⟩:=Wr (l:=[(0,3,52),(3,3,52)]) Tryz.underlying61 (by kernel_rfl) (by kernel_rfl:Tryz.prog.cellsOf 61=6) h
 match ds,hl with
 | [a0,a1,a2,a3,a4,a5],_=>
   obtain⟨i,h0⟩:=XdK (hx (0,3,52) (by simp));obtain⟨j,h1⟩:=XdK (hx (3,3,52) (by simp));simp only[List.drop,List.take,List.cons.injEq,and_true]at h0 h1;obtain⟨e0,e1,e2⟩:=h0;obtain⟨e3,e4,e5⟩:=h1;subst e0 e1 e2 e3 e4 e5;exact⟨i,j,rfl⟩
theorem aggTw:X37 Tryz.prog 61=true:=by unfold X37;rw[Tryz.underlying61]
end Go.Proofs.YtppjennamodfdaaGreat
