/- Part 5: contracts of functions of the program and of the reference, and plain facts about what they compute; used by the proof of the claimed statement. Conditions: as each theorem states. -/
import Derived.Test.YtppjennamodfdaaGreatK2
import Derived.Test.YtppjennamodfdaaGreatK4
import Derived.Test.YtppjennamodfdaaGreatK3
import Derived.Test.YtppjennamodfdaaGreatK1
import Derived.Test.YtppjennamodfdaaGreatHmZK
set_option linter.unusedSimpArgs false
set_option linter.unusedVariables false
set_option linter.unnecessarySimpa false
set_option maxRecDepth 100000
set_option maxHeartbeats 2000000
namespace Go.Proofs.YtppjennamodfdaaGreat
open Go Go.Hl
def mSs:List St→Int→Int×Bool→Int×Bool
 |[],_,s=>s
 | .mk _ _ _ _ t a b _::l,dep,s=>
   if((s.2||decide (12<dep))||decide (1024<s.1+1))=true then(s.1+1,s.2||decide (12<dep))
   else mSs l dep (mSs b (dep+1) (mSs a (dep+1) (mTm t 1 (s.1+1,s.2||decide (12<dep)))))
theorem ZX:∀(l:List St) (dep:Int) (s:Int×Bool),s.1≤(mSs l dep s).1∧(mSs l dep s).1≤s.1+Xj l
 |[],dep,s=>by simp[mSs,Xj]
 | .mk d c v n t a b bs::l,dep,s=>by
   simp only[mSs,Xj,St.nodes];have h1:=X1a t 1 (s.1+1,s.2||decide (12<dep));have h2:=ZX a (dep+1) (mTm t 1 (s.1+1,s.2||decide (12<dep)));have h3:=ZX b (dep+1) (mSs a (dep+1) (mTm t 1 (s.1+1,s.2||decide (12<dep))));have h4:=ZX l dep (mSs b (dep+1) (mSs a (dep+1) (mTm t 1 (s.1+1,s.2||decide (12<dep)))));split
   · simp only;omega
   simp only at h1;omega
theorem Xao (l:List St):∀(dep c:Int) (b:Bool),0≤dep→0≤c→c+Xj l≤1000000000→
  X9G Tryz.prog 161 [iC c,bC b] [lS l,li dep] (.tup []) [iC (mSs l dep (c,b)).1,bC (mSs l dep (c,b)).2]:=by
 revert l
 apply St.lists;intro l ih dep c b hdep hc hn;have hlen:=Q5 l;obtain⟨res,hres⟩:∃r,mSs l dep (c,b)=r:=⟨_,rfl⟩;rw[hres];refine X3C Tryz.func161 rfl (by kernel_rfl) (Nat.le_of_ble_eq_true rfl) ?_;simp only[Tryz.f161];refine X2 ?_;refine X3<|(Xb [0,2,8,9] (fun(x:Nat×Int×Bool)=>[(10,.v (li x.1))]) (fun x=>[(1000000,.box [.c (iC x.2.1),.c (bC x.2.2)])]) (fun x=>x.1≤l.length∧mSs (l.drop x.1) dep x.2=res∧0≤x.2.1∧x.2.1+Xj (l.drop x.1)≤1000000000) (fun x=>l.length - x.1) (0,c,b) ⟨Nat.zero_le _,hres,hc,by simpa using hn⟩ ?_ ?_)
 · exact X4 (fun n=>n) []
 rintro⟨k,m,q⟩ ⟨hk,hJ,hm,hb⟩;simp only[upS,X6,Xw]
 try simp only[X6,KN,Nat.reduceBEq,if_true,if_false,ins,Nat.reduceLT]
 simp only at hk hJ hm hb;clear hres;refine X2 ?_;refine X0<|(X7 rfl (fun h3=>X9 ?_) (fun h3=>?_))
 · (try simp only[BN]at h3);have hlt:k<l.length:=by omega
   obtain⟨s,he,hd⟩:=Xo hlt;have hmem:s∈l:=List.mem_of_getElem? he;have iha:=(ih s hmem).1;have ihb:=(ih s hmem).2;have hw1:=Xy hlt (by omega);have hk1:k+1≤l.length:=hlt;rw[hd]at hJ hb;obtain⟨sd,sc,sv,sn,⟨so,stn,sks⟩,sa,sb,sbs⟩:=s;simp only[St.then_,St.else_]at iha ihb;simp only[mSs]at hJ;simp only[Xj,St.nodes]at hb;have he':=XX he;simp only[St.enc,Tm.enc,List.cons_append,List.nil_append]at he';have hw2:IntKind.i64.wrap (m+1)=m+1:=Xa (by omega) (by omega);clear hlt h3 ih hmem hd he;refine X0<|X3<|X0<|X1 ?_;refine X2 ?_;refine X2 ?_;refine X0<|X0<|(Xm [⟨true,.v (lb ((q||decide (12<dep))||decide (1024<m+1))),none⟩] ?_ ?_)
   · first|exact Z6 _ _ _|exact trivial|simpa[*]using Z6 _ _ _
   refine(Xc rfl (fun h8=>?_) fun h8=>?_)
   · (try simp only[BN]at h8);rw[if_pos (by simpa using h8)]at hJ;subst hJ;exact XR (⟨.inr rfl,_,le_refl _,⟨_,by simp[*];rfl,by simp[XK]⟩,by simp[*]⟩)
   (try simp only[BN]at h8);rw[if_neg (by simpa using h8)]at hJ;have hq0:q=false:=h8.1.1;have hdep2:dep≤12:=by omega
   have hwd:IntKind.i64.wrap (dep+1)=dep+1:=Xa (by omega) (by omega);have hqd:(q||decide (12<dep))=false:=by rw[hq0];simp;omega
   rw[hqd]at hJ;have e1:=X1a (.mk so stn sks) 1 (m+1,false);obtain⟨p1,hp1⟩:∃p,mTm (.mk so stn sks) 1 (m+1,false)=p:=⟨_,rfl⟩;have cio1:=X6J (.mk so stn sks) 1 (m+1) false (by omega) (by omega) (by omega);rw[hp1]at cio1 e1 hJ;obtain⟨c1,b1⟩:=p1;simp only at cio1 e1;have e2:=ZX sa (dep+1) (c1,b1);have cio2:=iha (dep+1) c1 b1 (by omega) (by omega) (by omega);obtain⟨p2,hp2⟩:∃p,mSs sa (dep+1) (c1,b1)=p:=⟨_,rfl⟩;rw[hp2]at cio2 e2 hJ;obtain⟨c2,b2⟩:=p2;simp only at cio2 e2;have e3:=ZX sb (dep+1) (c2,b2);have cio3:=ihb (dep+1) c2 b2 (by omega) (by omega) (by omega);obtain⟨p3,hp3⟩:∃p,mSs sb (dep+1) (c2,b2)=p:=⟨_,rfl⟩;rw[hp3]at cio3 e3 hJ;obtain⟨c3,b3⟩:=p3;simp only at cio3 e3;clear iha ihb hp1 hp2 hp3 h8 hqd;refine X0<|(X0C 3 (.tup []) ([iC c1,bC b1]) rfl (by simp[*];rfl) (by simp[ioOf, *];first|exact⟨rfl,rfl,rfl,rfl,rfl⟩|exact⟨rfl,rfl,rfl,rfl⟩|exact⟨rfl,rfl,rfl⟩|exact⟨rfl,rfl⟩|rfl) (cio1) (by simp) (by simp[*];rfl) ?_);refine X0<|(X0C 5 (.tup []) ([iC c2,bC b2]) rfl (by simp[*];rfl) (by simp[ioOf, *];first|exact⟨rfl,rfl,rfl,rfl,rfl⟩|exact⟨rfl,rfl,rfl,rfl⟩|exact⟨rfl,rfl,rfl⟩|exact⟨rfl,rfl⟩|rfl) (cio2) (by simp) (by simp[*];rfl) ?_);refine(X0C 5 (.tup []) ([iC c3,bC b3]) rfl (by simp[*];rfl) (by simp[ioOf, *];first|exact⟨rfl,rfl,rfl,rfl,rfl⟩|exact⟨rfl,rfl,rfl,rfl⟩|exact⟨rfl,rfl,rfl⟩|exact⟨rfl,rfl⟩|rfl) (cio3) (by simp) (by simp[*];rfl) ?_);refine X1 ?_;exact⟨(k+1,c3,b3),⟨hk1,hJ,by simp only;omega,by simp only;omega⟩,by simp only;omega,X4 (fun n=>n) []⟩
 (try simp only[BN]at h3);have hkl:k=l.length:=by omega
 subst hkl;rw[List.drop_length]at hJ;simp only[mSs]at hJ;subst hJ;refine(Xf ?_);exact(⟨.inl rfl,_,le_refl _,⟨_,by simp[*];rfl,by simp[XK]⟩,by simp[*]⟩)
def W7 (s:Int×Bool):Bool:=s.2||decide (1024<s.1)
theorem X4n {s:Int×Bool} (h:W7 s=false):s.2=false∧s.1≤1024:=by
 simp only[W7,Bool.or_eq_false_iff,decide_eq_false_iff_not]at h;exact⟨h.1,by omega⟩
mutual
theorem mTm_over:∀(t:Tm) (dep:Int) (s:Int×Bool),0≤s.1→W7 s=true→W7 (mTm t dep s)=true
 | .mk o n ks,dep,s,h0,h=>by
   have h1:W7 (s.1+1,s.2||decide (12<dep))=true:=by
    simp only[W7,Bool.or_eq_true,decide_eq_true_eq]at h⊢;rcases h with h|h
    · exact .inl (.inl h)
    exact .inr (by omega)
   simp only[mTm];split
   · exact h1
   exact X3Z ks (dep+1) _ (by simp only;omega) h1
theorem X3Z:∀(l:List Tm) (dep:Int) (s:Int×Bool),0≤s.1→W7 s=true→W7 (X2O l dep s)=true
 |[],dep,s,_,h=>h
 |t::l,dep,s,h0,h=>X3Z l dep _ (Int.le_trans h0 (X1a t dep s).1) (mTm_over t dep s h0 h)
end
mutual
theorem X82:∀(t:Tm) (dep:Int) (s:Int×Bool),0≤s.1→dep≤13→W7 s=false→
  (s.1+t.nodes≤1024∧dep+tdT t≤13→mTm t dep s=(s.1+t.nodes,false))∧(¬(s.1+t.nodes≤1024∧dep+tdT t≤13)→W7 (mTm t dep s)=true)
 | .mk o n ks,dep,s,h0,hd,h=>by
   obtain⟨h1,h2⟩:=X4n h;simp only[mTm,Tm.nodes,tdT,h1,Bool.false_or];by_cases hc:(decide (12<dep)||decide (1024<s.1+1))=true
   · rw[if_pos hc];simp only[Bool.or_eq_true,decide_eq_true_eq]at hc;refine⟨fun hf=>by omega,fun _=>?_⟩;simp only[W7,Bool.or_eq_true,decide_eq_true_eq];omega
   rw[if_neg hc];simp only[Bool.or_eq_true,decide_eq_true_eq,not_or]at hc;have hdd:decide (12<dep)=false:=decide_eq_false hc.1;rw[hdd];have hov:W7 (s.1+1,false)=false:=by simp only[W7,Bool.false_or,decide_eq_false_iff_not];omega
   have:=X9r ks (dep+1) (s.1+1,false) (by simp only;omega) (by omega) hov;simp only at this;refine⟨fun hf=>?_,fun hf=>this.2 (by omega)⟩;rw[this.1 (by omega)];simp only[Prod.mk.injEq,and_true];omega
theorem X9r:∀(l:List Tm) (dep:Int) (s:Int×Bool),0≤s.1→dep≤13→W7 s=false→
  (s.1+Qp l≤1024∧dep+X43 l≤13→X2O l dep s=(s.1+Qp l,false))∧(¬(s.1+Qp l≤1024∧dep+X43 l≤13)→W7 (X2O l dep s)=true)
 | [],dep,s,h0,hd,h=>by
   obtain⟨h1,h2⟩:=X4n h;obtain⟨c,b⟩:=s;simp only at h1 h2;subst h1;simp only[X2O,Qp,X43];refine⟨fun _=>by simp,fun hf=>by omega⟩
 | t ::l,dep,s,h0,hd,h=>by
   simp only[X2O,Qp,X43];have ht:=X82 t dep s h0 hd h;by_cases hf:s.1+t.nodes≤1024∧dep+tdT t≤13
   · rw[ht.1 hf];have hov:W7 (s.1+t.nodes,false)=false:=by simp only[W7,Bool.false_or,decide_eq_false_iff_not];omega
     have hl:=X9r l dep (s.1+t.nodes,false) (by simp only;omega) hd hov;simp only at hl;refine⟨fun h2=>?_,fun h2=>hl.2 (by omega)⟩;rw[hl.1 (by omega)];simp only[Prod.mk.injEq,and_true];omega
   refine⟨fun h2=>by omega,fun _=>X3Z l dep _ (Int.le_trans h0 (X1a t dep s).1) (ht.2 hf)⟩
end
theorem X0z:∀(l:List St) (dep:Int) (s:Int×Bool),0≤s.1→W7 s=true→W7 (mSs l dep s)=true
 |[],dep,s,_,h=>by simp only[mSs];exact h
 | .mk d c v n t a b bs::l,dep,s,h0,h=>by
   have h1:W7 (s.1+1,s.2||decide (12<dep))=true:=by
    simp only[W7,Bool.or_eq_true,decide_eq_true_eq]at h⊢;rcases h with h|h
    · exact .inl (.inl h)
    exact .inr (by omega)
   simp only[mSs];split
   · exact h1
   rename_i hc;exact absurd h1 hc
theorem X5d:∀(l:List St) (dep:Int) (s:Int×Bool),0≤s.1→dep≤13→W7 s=false→
  (s.1+Xj l≤1024∧dep+sdL l≤13∧Ww l=false→mSs l dep s=(s.1+Xj l,false))∧(¬(s.1+Xj l≤1024∧dep+sdL l≤13∧Ww l=false)→W7 (mSs l dep s)=true)
 | [],dep,s,h0,hd,h=>by
   obtain⟨h1,h2⟩:=X4n h;obtain⟨c,b⟩:=s;simp only at h1 h2;subst h1;simp only[mSs,Xj,sdL,Ww];refine⟨fun _=>by simp,fun hf=>absurd ⟨by omega,by omega,trivial⟩ hf⟩
 | .mk d c v n t a b bs::l,dep,s,h0,hd,h=>by
   obtain⟨h1,h2⟩:=X4n h;simp only[mSs,Xj,St.nodes,sdL,Ww,h1,Bool.false_or,Bool.or_eq_false_iff,decide_eq_false_iff_not];by_cases hc:(decide (12<dep)||decide (1024<s.1+1))=true
   · rw[if_pos hc];simp only[Bool.or_eq_true,decide_eq_true_eq]at hc;refine⟨fun hf=>by omega,fun _=>?_⟩;simp only[W7,Bool.or_eq_true,decide_eq_true_eq];omega
   rw[if_neg hc];simp only[Bool.or_eq_true,decide_eq_true_eq,not_or]at hc;have hdd:decide (12<dep)=false:=decide_eq_false hc.1;rw[hdd]
   have ov:∀x:Int,x≤1024→W7 (x,false)=false:=by
    intro x hx;simp only[W7,Bool.false_or,decide_eq_false_iff_not];omega
   have ht:=X82 t 1 (s.1+1,false) (by simp only;omega) (by omega) (ov _ (by omega));have g1:=(X1a t 1 (s.1+1,false)).1;have g2:=(ZX a (dep+1) (mTm t 1 (s.1+1,false))).1;have g3:=(ZX b (dep+1) (mSs a (dep+1) (mTm t 1 (s.1+1,false)))).1;simp only at ht g1;by_cases f1:s.1+1+t.nodes≤1024∧1+(tdT t:Int)≤13
   · rw[ht.1 f1];have ha:=X5d a (dep+1) (s.1+1+t.nodes,false) (by simp only;omega) (by omega) (ov _ (by omega));simp only at ha;by_cases f2:s.1+1+t.nodes+Xj a≤1024∧dep+1+sdL a≤13∧Ww a=false
     · rw[ha.1 f2];have hb:=X5d b (dep+1) (s.1+1+t.nodes+Xj a,false) (by simp only;omega) (by omega) (ov _ (by omega));simp only at hb;by_cases f3:s.1+1+t.nodes+Xj a+Xj b≤1024∧dep+1+sdL b≤13∧Ww b=false
       · rw[hb.1 f3];have hl:=X5d l dep (s.1+1+t.nodes+Xj a+Xj b,false) (by simp only;omega) hd (ov _ (by omega));simp only at hl;refine⟨fun hf=>?_,fun hf=>hl.2 fun h4=>hf ⟨by omega,by omega,⟨⟨by omega,f2.2.2⟩,f3.2.2⟩,h4.2.2⟩⟩;rw[hl.1 ⟨by omega,by omega,hf.2.2.2⟩];simp only[Prod.mk.injEq,and_true];omega
       refine⟨fun hf=>absurd ⟨by omega,by omega,hf.2.2.1.2⟩ f3,fun _=>X0z l dep _ ?_ (hb.2 f3)⟩;have:=(ZX b (dep+1) (s.1+1+t.nodes+Xj a,false)).1;simp only at this;omega
     refine⟨fun hf=>absurd ⟨by omega,by omega,hf.2.2.1.1.2⟩ f2,fun _=>?_⟩;have q1:=(ZX a (dep+1) (s.1+1+t.nodes,false)).1;have q2:=(ZX b (dep+1) (mSs a (dep+1) (s.1+1+t.nodes,false))).1;simp only at q1;exact X0z l dep _ (by omega) (X0z b (dep+1) _ (by omega) (ha.2 f2))
   refine⟨fun hf=>absurd ⟨by omega,by omega⟩ f1,fun _=>?_⟩;exact X0z l dep _ (by omega) (X0z b (dep+1) _ (by omega) (X0z a (dep+1) _ (by omega) (ht.2 f1)))
end Go.Proofs.YtppjennamodfdaaGreat

namespace Go.Proofs.YtppjennamodfdaaGreat
open Go Go.Hl
theorem Xak (f:Fl) (hv:X0a f.vars) (hl:f.vars.length≤1000000) (l:List St):Xj l≤1000000000→Wj l=true→∀(top:Bool) (d:Nat),
  Con Tryz.prog 65 true [aF f,lS l,lb top] (.v (li (ssC f.vars f.hats.length l top))) none d:=by
 revert l
 apply St.lists;intro l ih hn hbn top d;have hlen:=Q5 l;obtain⟨res,hres⟩:∃r,ssC f.vars f.hats.length l top=r:=⟨_,rfl⟩;rw[hres];have csh:=fun s last hb=>X9y f s last (by omega) hb;obtain⟨vars,hats,body⟩:=f;simp only at hv hl hres ih csh;refine X5 Tryz.func65 ?_;simp only[Tryz.f65];simp only[aF,Fl.enc,List.map_cons,List.map_nil];refine X2 ?_;refine X0<|X0<|X1 ?_;refine X3<|(Xb [1,2,3] (fun(x:Nat)=>[(7,.v (li x))]) (fun x=>[(3,.box [.c (.sl 5 (Xr vars)),.c (.sl 6 (Xs hats)),.c (.sl 10 (X8 body))])]) (fun x=>x≤l.length∧ssC vars hats.length (l.drop x) top=res) (fun x=>l.length - x) (0:Nat) ⟨Nat.zero_le _,hres⟩ ?_ ?_)
 · exact X4 (fun n=>n) []
 rintro k ⟨hk,hJ⟩;simp only[upS,X6,Xw]
 try simp only[X6,KN,Nat.reduceBEq,if_true,if_false,ins,Nat.reduceLT]
 clear hres;refine X0<|X0<|X1 ?_;refine(X7 rfl (fun h4=>X9 ?_) (fun h4=>?_))
 · (try simp only[BN]at h4);have hlt:k<l.length:=by omega
   obtain⟨s,he,hd⟩:=Xo hlt;have hmem:s∈l:=List.mem_of_getElem? he;have hnm:=Qk hmem;have hbm:=X1Q hbn hmem;have iha:=fun h h2=>(ih s hmem).1 h h2;have ihb:=fun h h2=>(ih s hmem).2 h h2;have hw1:=Xy hlt (by omega);have hw2:IntKind.i64.wrap ((l.length:Int) - 1)=(l.length:Int) - 1:=Xa (by omega) (by omega);have hk1:k+1≤l.length:=hlt;have hla:=X6R hk1;rw[hd]at hJ;have ct:=X6K vars false hv (by omega) s.term;have csh1:=csh s (top&&decide ((k:Int)=(l.length:Int) - 1));obtain⟨sd,sc,sv,sn,⟨so,stn,sks⟩,sa,sb,sbs⟩:=s;simp only[St.then_,St.else_,St.term,St.bounds,St.do_,St.var,St.n,St.cost]at iha ihb hnm ct csh1;simp only[X0G,Bool.and_eq_true,decide_eq_true_eq]at hbm;simp only[ssC,hla]at hJ;have ca:=iha (by omega) hbm.2.1;have cb:=ihb (by omega) hbm.2.2;have ct:=ct (by omega);have csh1:=csh1 hbm.1;have hbl:=hbm.1;have he':=XX he;simp only[St.enc,Tm.enc,List.cons_append,List.nil_append]at he';simp only[aF,Fl.enc,aS,St.enc,Tm.enc,List.map_cons,List.map_nil,List.cons_append,List.nil_append]at csh1 ca cb;have hshb:=@X6s vars hats.length sd sv sn (.mk so stn sks) sa.length sb.length sbs (top&&decide ((k:Int)=(l.length:Int) - 1));obtain⟨SH,hSH⟩:∃x,shB vars hats.length sd sv sn (.mk so stn sks) sa.length sb.length sbs (top&&decide ((k:Int)=(l.length:Int) - 1))=x:=⟨_,rfl⟩;obtain⟨NU,hNU⟩:∃x,X2E sd sc sn sbs=x:=⟨_,rfl⟩;obtain⟨TC,hTC⟩:∃x,X0F vars false (.mk so stn sks)=x:=⟨_,rfl⟩;obtain⟨SC,hSC⟩:∃x,stC vars hats.length sd sc sv sn (.mk so stn sks) sa.length sb.length sbs (top&&decide ((k:Int)=(l.length:Int) - 1))=x:=⟨_,rfl⟩;rw[hSC]at hJ;unfold stC at hSC;rw[hSH]at csh1 hshb hSC;rw[hNU]at hSC;rw[hTC]at ct hSC;have ca:=fun d=>ca false d;have cb:=fun d=>cb false d;obtain⟨SA,hSA⟩:∃x,ssC vars hats.length sa false=x:=⟨_,rfl⟩;obtain⟨SB,hSB⟩:∃x,ssC vars hats.length sb false=x:=⟨_,rfl⟩;rw[hSA]at ca hJ;rw[hSB]at cb hJ;clear hlt h4 iha ihb ih hmem hnm hd he hbm hSH hTC hSA hSB csh hla;refine X0<|X3<|X0<|X1 ?_;refine X0<|X0<|(Xm [⟨true,.v (lb SH),none⟩] ?_ ?_)
   · first|exact csh1 _|exact trivial|simpa[*]using csh1 _
   refine(Xc rfl (fun h7=>?_) fun h7=>?_)
   · (try simp only[BN]at h7);rw[if_pos h7]at hSC;subst hSC;rw[if_neg (by decide)]at hJ;subst hJ;refine X2 ?_;exact Xe
   (try simp only[BN]at h7);rw[if_neg (by simp[h7])]at hSC;obtain⟨hs6,hs5,hs4⟩:=hshb h7;clear hshb csh1;refine X2 ?_;refine(XL [1,2,3,7,8] (fun(z:Int)=>[(9,.v (li z))]) (fun(z:Int)=>[(3,.box [.c (.sl 5 (Xr vars)),.c (.sl 6 (Xs hats)),.c (.sl 10 (X8 body))]),(8,.box [.c (iC sd),.c (iC sc),.c (iC sv),.c (iC sn),.c (iC so),.c (iC stn),.c (.sl 3 (Xn sks)),.c (.sl 10 (X8 sa)),.c (.sl 10 (X8 sb)),.c (.sl 1 (Xi sbs))])]) (fun(z:Int)=>z=X32 sd) ?_ ?_)
   ·
    refine X2 ?_;refine(Xc rfl (fun h13=>?_) fun h13=>?_)
    · (try simp only[BN]at h13);refine X1 ?_;exact⟨67108864,by simp[X32,h13],X4 (fun n=>n) []⟩
    (try simp only[BN]at h13);exact⟨10000,by simp[X32,h13],X4 (fun n=>n) []⟩
   rintro M hM;simp only[upS,X6,Xw]
   try simp only[X6,KN,Nat.reduceBEq,if_true,if_false,ins,Nat.reduceLT]
   refine X0<|X0<|X1 ?_;refine(Xc rfl (fun h18=>?_) fun h18=>?_)
   · try simp only[BN]at h18
     have hz:NU=false:=by
      rw[←hNU];unfold X2E;rw[←hM];simp only[Bool.and_eq_false_iff,Bool.or_eq_true,Bool.and_eq_true,Bool.not_eq_false',decide_eq_true_eq];by_cases hn0:sn<0
      · have:=hs4 hn0;omega
      omega
     rw[if_pos hz]at hSC;subst hSC;rw[if_neg (by decide)]at hJ;subst hJ;refine X2 ?_;exact Xe
   try simp only[BN]at h18
   have hz:NU=(decide (sd≠6)||X3S sbs):=by
    rw[←hNU];unfold X2E;rw[←hM]
    rw[show(!(decide (sc<0)||decide (M<sc)||(decide (sd=4)&&(decide (sn<0)||decide (4096<sn)))))=true by
     simp only[Bool.or_eq_false_iff,Bool.and_eq_false_iff,Bool.not_eq_true',decide_eq_false_iff_not]
     omega]
    rfl
   clear h18 hNU hM hs4;rcases Xa9 sbs with h0|⟨b0,hb0⟩
   · subst h0;have hd6:sd≠6:=fun h=>hs6 h rfl;have hw3:IntKind.i64.wrap (-1)=-1:=by decide
     have hz2:NU=true:=by rw[hz];simp[hd6]
     rw[if_neg (by simp[hz2])]at hSC;clear hs6 hs5 hz;refine X0<|X0<|X1 ?_;refine(Xc rfl (fun h22=>?_) fun h22=>?_)
     · exact absurd h22 (by simp)
     (try simp only[BN]at h22);subst hSC;refine Xh [⟨true,.v (li TC),none⟩] ?_ ?_
     · first|exact ct _|exact trivial|simpa[*]using ct _
     refine X0<|X0<|X1 ?_;refine(Xc rfl (fun h27=>?_) fun h27=>?_)
     · (try simp only[BN]at h27);rw[if_neg h27]at hJ;subst hJ;refine X2 ?_;exact Xe
     (try simp only[BN]at h27);rw[if_pos (by simpa using h27)]at hJ;refine Xh [⟨true,.v (li SA),none⟩] ?_ ?_
     · first|exact ca _|exact trivial|simpa[*]using ca _
     refine X0<|X0<|X1 ?_;refine(Xc rfl (fun h32=>?_) fun h32=>?_)
     · (try simp only[BN]at h32);rw[if_neg h32]at hJ;subst hJ;refine X2 ?_;exact Xe
     (try simp only[BN]at h32);rw[if_pos (by simpa using h32)]at hJ;refine Xh [⟨true,.v (li SB),none⟩] ?_ ?_
     · first|exact cb _|exact trivial|simpa[*]using cb _
     refine X2 ?_;refine(Xc rfl (fun h37=>?_) fun h37=>?_)
     · (try simp only[BN]at h37);rw[if_neg h37]at hJ;subst hJ;refine X2 ?_;exact Xe
     (try simp only[BN]at h37);rw[if_pos (by simpa using h37)]at hJ;refine X1 ?_;exact⟨k+1,⟨hk1,hJ⟩,by omega,X4 (fun n=>n) []⟩
   have hpos:1≤sbs.length:=(List.getElem?_eq_some_iff.1 hb0).1;obtain⟨x,hx⟩:=X7b (show sbs.length - 1<sbs.length by omega);have hd6:sd=6:=Classical.byContradiction fun h=>by rw[hs5 h]at hpos;simp at hpos
   have hw3:IntKind.i64.wrap ((sbs.length:Int) - 1)=(sbs.length:Int) - 1:=Xa (by omega) (by omega);have hw4:0≤(sbs.length:Int) - 1:=by omega
   have hw5:((sbs.length:Int) - 1).toNat=sbs.length - 1:=by omega
   have hw6:1≤(sbs.length:Int):=by omega
   have hw7:decide (0<(sbs.length:Int))=true:=decide_eq_true (by omega);have hz2:NU=decide (x≤67108864):=by rw[hz];unfold X3S;rw[hx,hd6];simp
   have hne:sbs≠[]:=by intro h;rw[h]at hpos;simp at hpos
   clear hs6 hs5 hz hb0 hpos;refine X0<|X0<|X1 ?_;refine(Xc rfl (fun h22=>?_) fun h22=>?_)
   · try simp only[BN]at h22
     have hx2:67108864<x:=by
      omega
     rw[if_pos (by rw[hz2];exact decide_eq_false (by omega))]at hSC;subst hSC;rw[if_neg (by decide)]at hJ;subst hJ;refine X2 ?_;exact Xe
   try simp only[BN]at h22
   have hx2:x≤67108864:=by
    first
     |omega
     | (rcases h22 with h|h
        · exact absurd h (by simp[hne])
        omega)
   rw[if_neg (by rw[hz2,decide_eq_true hx2];decide)]at hSC;subst hSC;refine Xh [⟨true,.v (li TC),none⟩] ?_ ?_
   · first|exact ct _|exact trivial|simpa[*]using ct _
   refine X0<|X0<|X1 ?_;refine(Xc rfl (fun h27=>?_) fun h27=>?_)
   · (try simp only[BN]at h27);rw[if_neg h27]at hJ;subst hJ;refine X2 ?_;exact Xe
   (try simp only[BN]at h27);rw[if_pos (by simpa using h27)]at hJ;refine Xh [⟨true,.v (li SA),none⟩] ?_ ?_
   · first|exact ca _|exact trivial|simpa[*]using ca _
   refine X0<|X0<|X1 ?_;refine(Xc rfl (fun h32=>?_) fun h32=>?_)
   · (try simp only[BN]at h32);rw[if_neg h32]at hJ;subst hJ;refine X2 ?_;exact Xe
   (try simp only[BN]at h32);rw[if_pos (by simpa using h32)]at hJ;refine Xh [⟨true,.v (li SB),none⟩] ?_ ?_
   · first|exact cb _|exact trivial|simpa[*]using cb _
   refine X2 ?_;refine(Xc rfl (fun h37=>?_) fun h37=>?_)
   · (try simp only[BN]at h37);rw[if_neg h37]at hJ;subst hJ;refine X2 ?_;exact Xe
   (try simp only[BN]at h37);rw[if_pos (by simpa using h37)]at hJ;refine X1 ?_;exact⟨k+1,⟨hk1,hJ⟩,by omega,X4 (fun n=>n) []⟩
 (try simp only[BN]at h4);have hkl:k=l.length:=by omega
 rw[hkl,List.drop_length]at hJ;simp only[ssC]at hJ;subst hJ;refine(Xf ?_);refine X2 ?_;exact Xe
end Go.Proofs.YtppjennamodfdaaGreat

namespace Go.Proofs.YtppjennamodfdaaGreat
open Go Go.Hl Go.RowKit
inductive CWk:CV→CV→Prop where
 |refl (x:CV):CWk x x
 |nil (s:Nat):CWk (.c (.lit XU)) (.c (.sl s []))
inductive LWk:List CV→List CV→Prop where
 |nil:LWk [] []
 |cons {x y:CV} {l m:List CV}:CWk x y→LWk l m→LWk (x::l) (y::m)
theorem CWk.rel {F:Nat→Prop} {γ:Nat→Value} {w:World} {x y:CV} (h:CWk x y) {v:Value} (hr:Xt F γ w x v):Xt F γ w y v:=by
 cases h with
 |refl=>exact hr
 | nil s=>
   have:v=XU:=Xd.lit_eq (γ:=γ) (F:=F) (w:=w) (r:=.v (.one (.c (.lit XU)))) rfl hr;rw[this];exact CRel.nil s
theorem LWk.len {l m:List CV} (h:LWk l m):m.length=l.length:=by
 induction h with
 |nil=>rfl
 |cons _ _ ih=>simp[ih]
theorem LWk.get {l m:List CV} (h:LWk l m):∀(j:Nat) y,m[j]? =some y→∃x,l[j]? =some x∧CWk x y:=by
 induction h with
 |nil=>simp
 | cons hc _ ih=>
   intro j y hj;cases j with
   |zero=>cases hj;exact⟨_,rfl,hc⟩
   |succ j=>exact ih j y hj
theorem LWk.rel {F:Nat→Prop} {γ:Nat→Value} {w:World} {l m:List CV} (h:LWk l m) {vs:Array Value} (hr:Xp F γ w l vs):Xp F γ w m vs:=by
 refine⟨hr.1.trans h.len.symm,fun j y u hy hu=>?_⟩;obtain⟨x,hx,hc⟩:=h.get j y hy;exact hc.rel (hr.2 j x u hx hu)
theorem Xa1 {s:HS} (k:Nat) {r r':RV} (hl:lkp s.regs k=some r) (hw:∀(F:Nat→Prop) (γ:Nat→Value) (w:World) v,Xd F γ w r v→Xd F γ w r' v):le s {s with regs:=ins k r' s.regs}:=by
 intro w0 B π F γ a w hr;refine⟨F,γ,fun _ h=>h,fun _ h=>.inl h,hr.heap,hr.defers,hr.nt,fun j x hj=>?_⟩;rw[XW]at hj;split at hj
 · rename_i e;cases hj;subst e;exact hw _ _ _ _ (hr.regs j r hl)
 exact hr.regs j x hj
theorem X1K {s:HS} (k:Nat) {xs:List CV} (ys:List CV) (hl:lkp s.regs k=some (.v (.agg xs))) (h:LWk xs ys):le s {s with regs:=ins k (.v (.agg ys)) s.regs}:=by
 refine Xa1 k hl fun F γ w v hv=>?_;obtain⟨vs,rfl,hc⟩:=hv;exact⟨vs,rfl,h.rel hc⟩
theorem le_one {s:HS} (k sz:Nat) (hl:lkp s.regs k=some (.v (.one (.c (.lit XU))))):le s {s with regs:=ins k (.v (.one (.c (.sl sz [])))) s.regs}:=
 Xa1 k hl fun F γ w v hv=>CWk.rel (γ:=γ) (CWk.nil sz) hv
theorem le_emp {s:HS} (k sz:Nat) {a:Addr} {cap:Nat} (hl:lkp s.regs k=some (.v (.one (.c (.lit (.slice (some a) 0 cap)))))):le s {s with regs:=ins k (.v (.one (.c (.sl sz [])))) s.regs}:=by
 refine Xa1 k hl fun F γ w v hv=>?_;have:v=.slice (some a) 0 cap:=Xd.lit_eq rfl hv;rw[this];exact CRel.emp sz a cap
theorem X7R {s:HS} (t n d:Nat) {e:TypeId} {sz:Nat} {rows:List (List CD)} (hl:opd s.regs (.tmp t)=.v (.one (.own n))) (ho:lkp s.objs n=some (.row e sz rows)) (hd:d<1000000):
  le s ⟨s.nt,[(t,.v (.one (.own d)))],[(d,.row e sz rows)]⟩:=by
 have hp:X0K (fun _=>n) d=n:=by unfold X0K;rw[if_neg (by omega)]
 refine Xu (fun _=>n) [] rfl ?_ ?_ ?_
 · refine⟨⟨rfl,?_⟩,trivial⟩;rw[hl];simp only[RV.ren,TV.ren,CV.ren,hp,List.contains_nil,Bool.false_eq_true,if_false]
 · simp only[Zm,List.contains_nil,Bool.false_eq_true,if_false,Ob.okNil,hp,ho,Ob.ren,and_self]
 simp only[Zm,true_or,and_self]
theorem XaW {P:Program} {f:FuncId} {fresh:Bool} {r:RV} {ob:Option Ob} {d s:Nat} (h1:Con P f fresh [.one (.c (.lit XU))] r ob d) (h2:∀a cap,Con P f fresh [.one (.c (.lit (.slice (some a) 0 cap)))] r ob d):Con P f fresh [.one (.c (.sl s []))] r ob d:=by
 refine⟨h1.1,fun F w vs hF hsz hargs=>?_⟩;have hv:∃u,vs[0]? =some u:=⟨vs[0]'(by rw[hsz];simp),by simp[hsz]⟩;obtain⟨u,hu⟩:=hv;have hr:CRel F w (.sl s []) u:=hargs 0 _ u rfl hu
 have go:∀(v:Value),u=v→Con P f fresh [.one (.c (.lit v))] r ob d→_:=fun v hv hc=>hc.2 F w vs hF (by simpa using hsz) fun j t u' ht hu'=>by
  cases j with
  | zero=>
    cases ht;rw[hu]at hu';cases hu';subst hv;exact CRel.lit u
  |succ j=>cases ht
 rcases CRel.sl_inv hr with⟨_,hv|⟨a,cap,hv⟩⟩|⟨b,o,cap,cells,hv,_⟩
 · exact go _ hv h1
 · exact go _ hv (h2 a cap)
 exact go _ hv (h2 _ cap)
end Go.Proofs.YtppjennamodfdaaGreat

namespace Go.Proofs.YtppjennamodfdaaGreat
open Go Go.Hl
theorem X9R {vars:List Vr} {nh:Nat} {d v n:Int} {t:Tm} {la lb:Nat} {bs:List Int} {last:Bool} (h:shB vars nh d v n t la lb bs last=true):d=3∨d=4∨(la=0∧lb=0):=by
 by_cases h3:d=3
 · exact .inl h3
 by_cases h4:d=4
 · exact .inr (.inl h4)
 refine .inr (.inr ?_);unfold shB at h;simp only[if_neg h3,if_neg h4]at h;split at h
 · simp only[Bool.and_eq_true,decide_eq_true_eq]at h;exact h.1.1.1
 split at h
 · simp only[Bool.and_eq_true,decide_eq_true_eq]at h;exact h.1.1.1
 split at h
 · simp only[Bool.and_eq_true,decide_eq_true_eq]at h;exact h.1.1.1.1
 split at h
 · simp only[Bool.and_eq_true,decide_eq_true_eq]at h;exact h.1.1.1.1.1
 split at h
 · simp only[Bool.and_eq_true,decide_eq_true_eq]at h;exact h.1.1.1.1.1
 cases h
theorem X2x {vars:List Vr} {nh:Nat}:∀(l:List St) (top:Bool),ssC vars nh l top=0→okL l=true
 |[],_,_=>by simp[okL]
 | .mk d c v n t a b bs::l,top,h=>by
   simp only[ssC]at h;split at h
   · rename_i h0;split at h
     · rename_i ha;split at h
       · rename_i hb;have ia:=X2x a false ha;have ib:=X2x b false hb;have il:=X2x l top h;unfold stC at h0;split at h0
         · cases h0
         rename_i hs;split at h0
         · cases h0
         rename_i hn;have hs:shB vars nh d v n t a.length b.length bs (top&&l.isEmpty)=true:=by simpa using hs
         have hn:X2E d c n bs=true:=by simpa using hn
         have hf:=X9R hs;unfold X2E at hn;simp only[Bool.and_eq_true,Bool.not_eq_true',Bool.or_eq_false_iff,Bool.and_eq_false_iff,decide_eq_false_iff_not]at hn;have hm:X32 d≤67108864:=by unfold X32;split<;>omega
         simp only[okL,okS,Bool.and_eq_true,Bool.or_eq_true,decide_eq_true_eq,List.isEmpty_iff,ia,ib,il];have hla:a.length=0→a=[]:=List.eq_nil_of_length_eq_zero;have hlb:b.length=0→b=[]:=List.eq_nil_of_length_eq_zero;refine⟨⟨⟨by omega,by omega,by omega⟩,?_,by simp⟩,by simp⟩;rcases hf with hf|hf|hf
         · exact .inl hf
         · exact .inr (.inl hf)
         exact .inr (.inr ⟨hla hf.1,hlb hf.2⟩)
       rename_i hb;exact absurd h hb
     rename_i ha;exact absurd h ha
   rename_i h0;exact absurd h h0
def QE:List Ht→Nat
 |[]=>0
 |h::l=>h.term.nodes+QE l
def mH:List Ht→Int×Bool→Int×Bool
 |[],s=>s
 |h::l,s=>mH l (if W7 s=true then s else mTm h.term 1 s)
theorem X0b {l:List Ht} {h:Ht} (hm:h∈l):h.term.nodes≤QE l:=by
 induction l with
 |nil=>cases hm
 | cons x l ih=>
   simp only[QE];rcases List.mem_cons.1 hm with rfl|h1
   · omega
   have:=ih h1;omega
theorem X7P:∀(l:List Ht) (s:Int×Bool),W7 s=true→W7 (mH l s)=true
 |[],s,h=>h
 | x::l,s,h=>by
   simp only[mH,if_pos h];exact X7P l s h
def X0p (l:List Ht):Bool:=l.all fun h=>decide (tdT h.term≤12)
theorem mH_fit:∀(l:List Ht) (s:Int×Bool),0≤s.1→W7 s=false→
  (s.1+QE l≤1024∧X0p l=true→W7 (mH l s)=false)∧(¬(s.1+QE l≤1024∧X0p l=true)→W7 (mH l s)=true)
 | [],s,h0,h=>by
   have:=X4n h;simp only[mH,QE,X0p,List.all_nil];exact⟨fun _=>h,fun hn=>absurd ⟨by omega,trivial⟩ hn⟩
 | x::l,s,h0,h=>by
   have ho:=X4n h;have ht:=X82 x.term 1 s h0 (by omega) h;have hle:=X1a x.term 1 s;simp only[mH,h,QE,X0p,List.all_cons,Bool.and_eq_true,decide_eq_true_eq,Bool.false_eq_true,if_false];by_cases hf:s.1+x.term.nodes≤1024∧1+(tdT x.term:Int)≤13
   · have e:=ht.1 hf;rw[e];have ih:=mH_fit l (s.1+x.term.nodes,false) (by simp only;omega) (by simp only[W7,Bool.false_or,decide_eq_false_iff_not];omega);simp only[X0p]at ih;refine⟨fun hh=>ih.1 ⟨by omega,hh.2.2⟩,fun hh=>ih.2 fun h2=>hh ⟨by omega,by omega,h2.2⟩⟩
   have e:=ht.2 hf;refine⟨fun hh=>absurd ⟨by omega,by omega⟩ hf,fun _=>X7P _ _ e⟩
def X16 (f:Fl):Bool:=((((decide (f.vars.length≤64)&&decide (f.hats.length≤8))&&decide (Xj f.body+QE f.hats≤1024))&&decide (sdL f.body≤12))&& !Ww f.body)&&X0p f.hats
def mF (f:Fl):Int×Bool:=mH f.hats (mSs f.body 1 (0,false))
theorem XaA (f:Fl):X16 f=false↔64<f.vars.length∨8<f.hats.length∨W7 (mF f)=true:=by
 have h1:=X5d f.body 1 (0,false) (by decide) (by decide) rfl;unfold mF X16;simp only[Bool.and_eq_false_iff,decide_eq_false_iff_not,Bool.not_eq_false',Nat.not_le];by_cases hs:((0:Int),false).1+Xj f.body≤1024∧1+(sdL f.body:Int)≤13∧Ww f.body=false
 · rw[h1.1 hs];have h2:=mH_fit f.hats (0+(Xj f.body:Int),false) (by simp only;omega) (by simp only[W7,Bool.false_or,decide_eq_false_iff_not];have:=hs.1;simp only at this;omega);obtain⟨a1,a2,a3⟩:=hs;simp only at a1 h2;by_cases hh:0+(Xj f.body:Int)+QE f.hats≤1024∧X0p f.hats=true
   · have e:=h2.1 hh;have e3:=hh.2;simp only[show((0:Int),false).1=0 from rfl];rw[e,a3,e3];simp;omega
   have e:=h2.2 hh;simp only[show((0:Int),false).1=0 from rfl];rw[e,a3];constructor
   · intro _;exact .inr (.inr rfl)
   intro _;by_cases hd:X0p f.hats=true
   · left;left;left;right;by_cases hc:0+(Xj f.body:Int)+QE f.hats≤1024
     · exact absurd ⟨hc,hd⟩ hh
     omega
   right;simpa using hd
 have e:=X7P f.hats _ (h1.2 hs);rw[e];constructor
 · intro _;exact .inr (.inr rfl)
 intro _;simp only at hs;by_cases ht:Ww f.body=true
 · left;right;exact ht
 have ht:Ww f.body=false:=by simpa using ht
 by_cases hd:sdL f.body≤12
 · left;left;left;right;by_cases hc:0+(Xj f.body:Int)≤1024
   · exact absurd ⟨hc,by omega,ht⟩ hs
   omega
 left;left;right;omega
def X6t (l:List St):Bool:=decide (4096<(bdL CR l ⟨0,0,0⟩).s)||(decide (8<(bdL CR l ⟨0,0,0⟩).o)||decide (67108864<(bdL CR l ⟨0,0,0⟩).t))
def Qf (f:Fl):Int:=
 if X16 f=false then 4 else if ZF f.vars=0 then
  (if hcs f.vars [] f.hats=0 then(if ssC f.vars f.hats.length f.body true=0 then(if X6t f.body=true then 4 else 0)else ssC f.vars f.hats.length f.body true)else hcs f.vars [] f.hats)
 else ZF f.vars
theorem X2s {vars:List Vr} (h:ZF vars=0):X0a vars:=by
 unfold ZF at h;split at h
 · rename_i h0;exact X3e _ _ h0
 rename_i h0;exact absurd h h0
end Go.Proofs.YtppjennamodfdaaGreat

namespace Go.Proofs.YtppjennamodfdaaGreat
open Go Go.Hl
theorem one_all (b:Nat):∀s:St,oneC b s:=by
 have key:∀l:List St,∀s∈l,oneC b s:=by
  apply St.lists;intro l ih s hs;obtain⟨o,c,v,n,⟨to,tn,tk⟩,sa,sb,bs⟩:=s;exact one_con b o c v n to tn tk sa sb bs (X2n (ih _ hs).1) (X2n (ih _ hs).2)
 exact fun s=>key [s] s (by simp)
theorem lst_all (b:Nat) (l:List St):lstC b l:=X2n fun s _=>one_all b s
def bldF (l:List St):List (List CD):=
 let x:=Q8 l [(false,0)] ([[iC 0,iC (-1),iC (-1),iC (-1)]],0)
 XF x.1.1.length x.2 x.1.1++[[iC 1,iC (-1),iC (-1),iC (-1)]]
def msG:List (Nat×List Nat):=[(511,[0,1,3,8]),(510,[1,3,8]),(509,[0,2,3,8]),(503,[0,1,4,8]),(255,[0,1,3]),(508,[2,3,8]),(502,[1,4,8]),(254,[1,3]),(505,[0,3,8]),(501,[0,2,4,8]),(253,[0,2,3]),(487,[0,1,5,8]),(247,[0,1,4]),(504,[3,8]),(500,[2,4,8]),(252,[2,3]),(486,[1,5,8]),(246,[1,4]),(497,[0,4,8]),(249,[0,3]),(485,[0,2,5,8]),(245,[0,2,4]),(455,[0,1,8]),(231,[0,1,5]),(496,[4,8]),(248,[3]),(484,[2,5,8]),(244,[2,4]),(454,[1,8]),(230,[1,5]),(481,[0,5,8]),(241,[0,4]),(453,[0,2,8]),(229,[0,2,5]),(199,[0,1]),(480,[5,8]),(240,[4]),(452,[2,8]),(228,[2,5]),(198,[1]),(449,[0,8]),(225,[0,5]),(197,[0,2]),(448,[6,8]),(224,[5]),(196,[2]),(193,[0]),(384,[7,8]),(192,[6]),(256,[8]),(128,[7])]
def nxG (b:Nat) (F:Ob) (l:List St) (nl:Nat) (x y:List (Nat×Ob)) (R:List Nat):HS:=
 {trS ⟨⟨38,some (pV b)⟩,[(1,.v (.one (.at_ 1 0))),(2,.v (.one (.at_ 2 0))),(3,.v (.one (.c (.lit (pV b)))))],[]⟩ [(0,10,.v (.one (.c (.lit (pV b))))),(1,11,.v (.one (.at_ 1 2))),(2,12,.v (lS l)),(3,13,.v (.one (.c (.lit (pV b))))),(4,14,.v (.one (.c (nxC b 0)))),(5,15,.v (.one (.own 15))),(6,16,.v (.one (.own 16))),(7,17,lit (.int .i64 nl)),(8,18,lit (.int .i64 0))] R with
  objs:=(1,F)::(2,.box [.c (.lit XU)])::if R.contains 5 then x else if R.contains 6 then(15,.row 100 1 [[nxC b 0]])::x else y}
attribute [simp] nxG
set_option maxHeartbeats 4000000 in
theorem X6H (f:Fl) (hn:1+X02 f.body≤1000000) (d:Nat):Con Tryz.prog 146 false [aF f] (.v (.agg [.c (.sl 4 (bldF f.body))])) none d:=by
 obtain⟨vars,hats,body⟩:=f;simp only at hn;obtain⟨G,hG⟩:∃x,bldF body=x:=⟨_,rfl⟩;rw[hG];unfold bldF at hG;refine X5 Tryz.func146 ?_;simp only[Tryz.f146];simp only[aF,Fl.enc,List.map_cons,List.map_nil];refine X2 ?_;refine X0<|(Xl (by simp[*,XA,Qb,XN,cellsOf,W9,Zd,Qc];rfl) ?_);refine HT_pin 9 (cs:=[.own 7,.c (iC 0)]) [(1,.v (.one (.at_ 1 0))),(2,.v (.one (.at_ 2 0))),(3,.v (.one (.at_ 1000000 0)))] [(1,.box [.c (.sl 5 (Xr vars)),.c (.sl 6 (Xs hats)),.c (.sl 10 (X8 body))]),(2,.box [.c (.lit XU)]),(7,.row 143 4 [[iC 0,iC (-1),iC (-1),iC (-1)]]),(1000000,.box [.own 7,.c (iC 0)])] rfl rfl ?_ ?_ rfl fun b=>?_
 · simp[Zm,RV.okNil,TV.okNil,CV.okNil,RV.ren,TV.ren,CV.ren,lkp]
 · simp[Zm,Ob.okNil,CV.okNil,Ob.ren,CV.ren,lkp]
 have k0:okB [(false,0)] [[iC 0,iC (-1),iC (-1),iC (-1)]]:=⟨by simp,by simp⟩;have cA:=lst_all b body [(false,0)] [[iC 0,iC (-1),iC (-1),iC (-1)]] 0 k0 (by simp;omega) (by omega) (by omega) (by simp);have k1:=Wm body [(false,0)] ([[iC 0,iC (-1),iC (-1),iC (-1)]],0) k0;have l1:=Zr body [(false,0)] ([[iC 0,iC (-1),iC (-1),iC (-1)]],0);obtain⟨⟨⟨rows3,d3⟩,sl3⟩,hx⟩:∃x,Q8 body [(false,0)] ([[iC 0,iC (-1),iC (-1),iC (-1)]],0)=x:=⟨_,rfl⟩;simp only[hx,List.length_singleton]at hG cA k1 l1;obtain⟨a1,a2,a3,a4,a5⟩:=k1;clear hx k0;refine Xz (X41 (v:=pV b) 3 rfl rfl rfl) ?_;simp only[ins,Nat.reduceLT,Nat.reduceEqDiff,if_true,if_false];refine Xz (s':=nxG b (.box [.c (.sl 5 (Xr vars)),.c (.sl 6 (Xs hats)),.c (.sl 10 (X8 body))]) body sl3.length (Wi [[iC 0,iC (-1),iC (-1),iC (-1)]] 0) [] (We 9 511)) ?_ ?_
 · refine Xu (fun n=>if n=900001 then 7 else n) [] rfl ?_ ?_ ?_
   · simp[trS, *]
   · simp[*]
   simp
 refine X0<|X0<|(QP (nxG b (.box [.c (.sl 5 (Xr vars)),.c (.sl 6 (Xs hats)),.c (.sl 10 (X8 body))]) body sl3.length (Wi [[iC 0,iC (-1),iC (-1),iC (-1)]] 0) ((16,.row 100 1 (QG b sl3))::(102,.row 143 4 rows3)::[(1000000,.box [.own 102,.c (iC d3)])])) 9 511 msG rfl (by kernel_rfl) (by kernel_rfl) (by kernel_rfl) (by kernel_rfl) (by simp[trS]) ?_ ?_)
 · simp only[msG,ZY]
   repeat' apply And.intro
   all_goals first
    |(refine XQ.evE rfl ?_;simp[trS,ins,W8];done)
    | (refine XQ.ev [⟨false,.v (.one (.c (nxC b 0))),none⟩] rfl (by simp[trS,ins,W8];first|exact⟨rfl,Iff.rfl⟩|exact⟨rfl,trivial⟩|rfl) ?_ ?_
       · simpa using X1I b 0 14
       simp[trS,ins])
    | (refine XQ.callA (fun n=>if n=1 then 15 else n) (fun n=>if n=1 then 16 else if n=900001 then 102 else n) cA rfl fun _ _=>?_
       simp[trS,ins,Qj,QQ,del,CV.ren,Ob.ren])
 refine X3<|(Xb [] (fun(x:Nat×List (List CD))=>[(2,.v (.one (.at_ 2 0))),(3,.v (.one (.c (.lit (pV b))))),(16,.v (.one (.own 16))),(17,lit (.int .i64 sl3.length)),(18,lit (.int .i64 x.1))]) (fun(x:Nat×List (List CD))=>(2,.box [.c (.lit XU)])::(16,.row 100 1 (QG b sl3))::Wi x.2 d3) (fun(x:Nat×List (List CD))=>x.1≤sl3.length∧XF rows3.length (sl3.drop x.1) x.2=XF rows3.length sl3 rows3∧(∀r∈x.2,r.length=4)∧x.2.length=rows3.length) (fun(x:Nat×List (List CD))=>sl3.length - x.1) (0,rows3) ⟨Nat.zero_le _,rfl,a1.four,rfl⟩ ?_ ?_)
 · exact Xu (fun n=>if n=900001 then 102 else n) [] rfl (by simp[upS,X6,trS]) (by simp[upS]) (by simp[upS])
 rintro⟨i,rows2⟩ ⟨g1,g2,g3,g4⟩;simp only[upS,X6,Xw]
 try simp only[X6,KN,Nat.reduceBEq,if_true,if_false,ins,Nat.reduceLT]
 simp only at g1 g2 g3 g4;simp only[nxG,trS];refine X2 ?_;refine X0<|(X7 rfl (fun h5=>X9 ?_) (fun h5=>?_))
 · (try simp only[BN]at h5);have hi:i<sl3.length:=by simpa using h5
   obtain⟨q,hq,hqd⟩:=Xo hi;have hqe:=X3U (b:=b) hq;rw[hqd]at g2;simp only[XF]at g2;have cq:=X5n b rows2 d3 rows2.length q g3 (by have:=a1.lt q (List.mem_of_getElem? hq);omega);have hw:=Xy hi (by omega:sl3.length≤1000000000);have hin2:i+1≤sl3.length:=hi;rw[←g4]at g2;clear hi hq h5 hqd;refine X0<|X3<|X0<|X1 ?_;refine Xz (X4l (v:=pV b) 3 rfl rfl rfl) ?_;simp only[ins,Nat.reduceLT,Nat.reduceEqDiff,if_true,if_false];refine(XP ?_);refine RunsN.cutE 6 [] (by simp;rfl) trivial (le_refl _) ?_;refine RunsN.callA (fun n=>n) (fun n=>if n=900001 then 101 else n) cq fun _ _=>?_;refine RunsN.doneE [] (by simp[Qj,CV.ren,Ob.ren];rfl) trivial ?_;refine Xz (X41 (v:=pV b) 3 rfl rfl rfl) ?_;simp only[ins,Nat.reduceLT,Nat.reduceEqDiff,if_true,if_false];refine X1 ?_;exact⟨(i+1,X0s rows2 q rows2.length),⟨hin2,by rw[←g4];exact g2,ZQ g3,(X1r ..).trans g4⟩,by simp only;omega,X4 (fun n=>if n=900001 then 101 else n) []⟩
 try simp only[BN]at h5
 have hi:i=sl3.length:=by
  have:¬i<sl3.length:=by simpa using h5
  omega
 subst hi;rw[List.drop_length]at g2;simp only[XF]at g2;rw[←g2]at hG;have hroom:Q9 (rows3.length+1) 32:=Xv (by omega) (by decide);clear h5 g2;refine Xz (X4l (v:=pV b) 3 rfl rfl rfl) ?_;simp only[ins,Nat.reduceLT,Nat.reduceEqDiff,if_true,if_false];refine(Xf ?_);refine X0<|(Xl (by simp[*,XA,Qb,XN,cellsOf,W9,Zd,Qc,Wd,QU,WA];rfl) ?_);refine Xz (XO 36 rfl) ?_;exact XR ⟨⟨⟨38,some (pV b)⟩,[(2,.v (.one (.at_ 2 0)))],[(2,.box [.c (.sl 4 G)])]⟩,Xu (fun n=>n) [] rfl (by simp) (by simp[*]) (by simp),by rfl,.inr rfl,_,le_refl _,⟨_,by simp;rfl,by simp[XK]⟩,by simp,fun h=>by cases h⟩
end Go.Proofs.YtppjennamodfdaaGreat

namespace Go.Proofs.YtppjennamodfdaaGreat
open Go Go.Hl
theorem X5h (f:Fl) (hv:f.vars.length≤1000000) (hh:f.hats.length≤1000000) (hn:Xj f.body+QE f.hats≤900000000) (hb:Wj f.body=true) (d:Nat):
  Con Tryz.prog 145 true [aF f] (.v (li (Qf f))) none d:=by
 obtain⟨res,hres⟩:∃r,Qf f=r:=⟨_,rfl⟩;rw[hres];have hso:=XaA f;have cvars:=Xcz f.vars hv;have chat:=fun hg=>XcL f hg hv hh (fun h hm=>by have:=X0b hm;omega);have cst:=fun hg=>Xa7 f hg hv f.body (by omega) hb;have cup:=fun ho=>Xc1 f.body (by omega) ho;have cms:=Xao f.body 1 0 false (by decide) (by decide) (by omega);have hms:=ZX f.body 1 (0,false);have hgood:ZF f.vars=0→X0a f.vars:=X2s;have hok:ssC f.vars f.hats.length f.body true=0→okL f.body=true:=X2x _ _;have hcmp:=fun h=>@bd_cmp f.body h;unfold Qf X6t at hres;unfold mF at hso;obtain⟨vars,hats,body⟩:=f;simp only at hv hh hn hb hres hso cvars chat cst cup cms hms hgood hok hcmp;obtain⟨m0,hm0⟩:∃m,mSs body 1 (0,false)=m:=⟨_,rfl⟩;rw[hm0]at cms hms hso;obtain⟨c0,b0⟩:=m0;simp only at cms hms;obtain⟨mE,hmE⟩:∃m,mH hats (c0,b0)=m:=⟨_,rfl⟩;rw[hmE]at hso;obtain⟨VC,hVC⟩:∃x,ZF vars=x:=⟨_,rfl⟩;obtain⟨HC,hHC⟩:∃x,hcs vars [] hats=x:=⟨_,rfl⟩;obtain⟨SC,hSC⟩:∃x,ssC vars hats.length body true=x:=⟨_,rfl⟩;rw[hVC]at cvars hres hgood;rw[hHC]at chat hres;rw[hSC]at hres hok;have cst:=fun hg=>cst hg true;rw[hSC]at cst;clear hVC hHC hSC hm0;refine X5 Tryz.func145 ?_;simp only[Tryz.f145];simp only[aF,Fl.enc,List.map_cons,List.map_nil]at chat cst⊢;refine X2 ?_;refine X2 ?_;refine X0<|(X0C 2 (.tup []) ([iC c0,bC b0]) rfl (by simp[*];rfl) (by simp[ioOf, *];first|exact⟨rfl,rfl,rfl,rfl,rfl⟩|exact⟨rfl,rfl,rfl,rfl⟩|exact⟨rfl,rfl,rfl⟩|exact⟨rfl,rfl⟩|rfl) (cms) (by simp) (by simp[*];rfl) ?_);refine X0<|X0<|X1 ?_;refine X3<|(Xb [1,3,14,15] (fun(x:Nat×Int×Bool)=>[(16,.v (li x.1))]) (fun x=>[(1,.box [.c (.sl 5 (Xr vars)),.c (.sl 6 (Xs hats)),.c (.sl 10 (X8 body))]),(3,.box [.c (iC x.2.1),.c (bC x.2.2)])]) (fun x=>x.1≤hats.length∧mH (hats.drop x.1) x.2=mE∧0≤x.2.1∧x.2.1+QE (hats.drop x.1)≤1000000000) (fun x=>hats.length - x.1) (0,c0,b0) ⟨Nat.zero_le _,by simpa using hmE,by simp only;omega,by simp only[List.drop_zero];omega⟩ ?_ ?_)
 · exact X4 (fun n=>n) []
 rintro⟨k,m,q⟩ ⟨hk,hJ,hm,hbb⟩;simp only[upS,X6,Xw]
 try simp only[X6,KN,Nat.reduceBEq,if_true,if_false,ins,Nat.reduceLT]
 simp only at hk hJ hm hbb;clear hmE hms cms;refine X2 ?_;refine X0<|(X7 rfl (fun h6=>X9 ?_) (fun h6=>?_))
 · (try simp only[BN]at h6);have hlt:k<hats.length:=by omega
   obtain⟨h,he,hd⟩:=Xo hlt;have hw1:=Xy hlt (by omega);have hk1:k+1≤hats.length:=hlt;rw[hd]at hJ hbb;simp only[mH,QE]at hJ hbb;have hle:=X1a h.term 1 (m,q);have cmt:=X6J h.term 1 m q (by decide) hm (by omega);obtain⟨nm,lo,hi,⟨o,tn,ks⟩⟩:=h;simp only at hle cmt hJ hbb;obtain⟨m1,hm1⟩:∃x,mTm (.mk o tn ks) 1 (m,q)=x:=⟨_,rfl⟩;rw[hm1]at cmt hle hJ;obtain⟨c1,b1⟩:=m1;simp only[aT,Tm.enc,List.map_cons,List.map_nil]at cmt hle;clear hlt h6 hd hm1 hso hres chat cst cup hok hcmp;refine X0<|X3<|X0<|X1 ?_;refine Xh [⟨true,.v (lb (q||decide (1024<m))),none⟩] ?_ ?_
   · first|exact Z6 _ _ _|exact trivial|simpa[*]using Z6 _ _ _
   refine(Xc rfl (fun h9=>?_) fun h9=>?_)
   · try simp only[BN]at h9
     have hov:W7 (m,q)=false:=by
      simp only[W7,Bool.or_eq_false_iff,decide_eq_false_iff_not]
      first|exact h9|simpa using h9
     rw[if_neg (by rw[hov];decide)]at hJ;clear hov;refine(X0C 2 (.tup []) ([iC c1,bC b1]) rfl (by simp[*];rfl) (by simp[ioOf, *];first|exact⟨rfl,rfl,rfl,rfl,rfl⟩|exact⟨rfl,rfl,rfl,rfl⟩|exact⟨rfl,rfl,rfl⟩|exact⟨rfl,rfl⟩|rfl) (cmt) (by simp) (by simp[*];rfl) ?_);refine X1 ?_;exact⟨(k+1,c1,b1),⟨hk1,hJ,by simp only;omega,by simp only;omega⟩,by simp only;omega,X4 (fun n=>n) []⟩
   try simp only[BN]at h9
   have hov:W7 (m,q)=true:=by
    simp only[W7,Bool.or_eq_true,decide_eq_true_eq]
    first|exact h9|simpa using h9
   rw[if_pos hov]at hJ;clear hov;refine X1 ?_;exact⟨(k+1,m,q),⟨hk1,hJ,hm,by simp only;omega⟩,by simp only;omega,X4 (fun n=>n) []⟩
 (try simp only[BN]at h6);have hkl:k=hats.length:=by omega
 subst hkl;rw[List.drop_length]at hJ;simp only[mH]at hJ;subst hJ;simp only[W7,Bool.or_eq_true,decide_eq_true_eq]at hso;refine(Xf ?_);refine X0<|X0<|(Xm [⟨true,.v (lb (q||decide (1024<m))),none⟩] ?_ ?_)
 · first|exact Z6 _ _ _|exact trivial|simpa[*]using Z6 _ _ _
 refine(Xc rfl (fun h16=>?_) fun h16=>?_)
 · try simp only[BN]at h16
   rw [if_pos (hso.2 (by
       simp only[or_assoc]at h16;rcases h16 with h|h|h|h
       · exact .inl (by omega)
       · exact .inr (.inl (by omega))
       · exact .inr (.inr (.inl h))
       exact .inr (.inr (.inr h))))]at hres
   subst hres;refine X2 ?_;exact Xe
 try simp only[BN]at h16
 rw [if_neg (by
     rw[hso];rintro(h|h|h|h)
     · omega
     · omega
     · exact absurd h (by simp[h16])
     omega)]at hres
 refine X0<|X0<|(Xm [⟨true,.v (li VC),none⟩] ?_ ?_)
 · first|exact cvars _|exact trivial|simpa[*]using cvars _
 refine X2 ?_;refine(Xc rfl (fun h21=>?_) fun h21=>?_)
 · (try simp only[BN]at h21);rw[if_neg h21]at hres;subst hres;refine X2 ?_;exact Xe
 (try simp only[BN]at h21);have hv0:VC=0:=by simpa using h21
 have hg:=hgood hv0;have chat:=chat hg;have cst:=cst hg;rw[if_pos hv0]at hres;clear cvars hgood h21;refine X0<|X0<|(Xm [⟨true,.v (li HC),none⟩] ?_ ?_)
 · first|exact chat _|exact trivial|simpa[*]using chat _
 refine X2 ?_;refine(Xc rfl (fun h26=>?_) fun h26=>?_)
 · (try simp only[BN]at h26);rw[if_neg h26]at hres;subst hres;refine X2 ?_;exact Xe
 (try simp only[BN]at h26);have hh0:HC=0:=by simpa using h26
 rw[if_pos hh0]at hres;clear chat h26;refine X0<|X0<|(Xm [⟨true,.v (li SC),none⟩] ?_ ?_)
 · first|exact cst _|exact trivial|simpa[*]using cst _
 refine X2 ?_;refine(Xc rfl (fun h31=>?_) fun h31=>?_)
 · (try simp only[BN]at h31);rw[if_neg h31]at hres;subst hres;refine X2 ?_;exact Xe
 (try simp only[BN]at h31);have hs0:SC=0:=by simpa using h31
 rw[if_pos hs0]at hres;have hok:=hok hs0;have cup:=cup hok;have hcmp:=hcmp hok;obtain⟨X,hX⟩:∃x,bdL CP body ⟨0,0,0⟩=x:=⟨_,rfl⟩;obtain⟨Y,hY⟩:∃x,bdL CR body ⟨0,0,0⟩=x:=⟨_,rfl⟩;rw[hX]at cup hcmp;rw[hY]at hcmp hres;obtain⟨x1,x2,x3⟩:=X;obtain⟨y1,y2,y3⟩:=Y;simp only[Bool.or_eq_true,decide_eq_true_eq]at hcmp hres;clear hX hY cst h31 hok;refine X0<|X0<|(Xm [⟨true,.v (aB ⟨x1,x2,x3⟩),none⟩] ?_ ?_)
 · first|exact cup _|exact trivial|simpa[*]using cup _
 refine X2 ?_;refine(Xc rfl (fun h36=>?_) fun h36=>?_)
 · (try simp only[BN]at h36);rw[if_pos (by omega)]at hres;subst hres;refine X2 ?_;exact Xe
 (try simp only[BN]at h36);rw[if_neg (by omega)]at hres;subst hres;refine X2 ?_;exact Xe
end Go.Proofs.YtppjennamodfdaaGreat

namespace Go.Proofs.YtppjennamodfdaaGreat
open Go Go.Hl
mutual
def szS:St→Nat
 | .mk _ _ _ _ _ a b _=>1+szL a+szL b
def szL:List St→Nat
 |[]=>0
 |s::l=>szS s+szL l
end
mutual
theorem szS_le:∀s:St,szS s≤s.nodes
 | .mk _ _ _ _ t a b _=>by have:=Qu a;have:=Qu b;simp only[szS,St.nodes];omega
theorem Qu:∀l:List St,szL l≤Xj l
 |[]=>by simp[szL]
 |s::l=>by have:=szS_le s;have:=Qu l;simp only[szL,Xj];omega
end
theorem X8b (s:St):1≤szS s:=by cases s;simp only[szS];omega
theorem X5b:∀l:List St,l.length≤szL l
 |[]=>by simp
 |s::l=>by have:=X5b l;have:=X8b s;simp only[szL,List.length_cons];omega
end Go.Proofs.YtppjennamodfdaaGreat

namespace Go.Proofs.YtppjennamodfdaaGreat
open Go Go.Hl
structure Nd where
 k:Int
 a:Int
 n:Int
 o:Int
 deriving DecidableEq
def Nd.enc (x:Nd):List CD:=[iC x.k,iC x.a,iC x.n,iC x.o]
attribute [simp] Nd.enc
def XD (l:List Nd):List (List CD):=l.map Nd.enc
@[simp] theorem X68 (l:List Nd):(XD l).length=l.length:=by simp[XD]
theorem ZE {l:List Nd} {i:Nat} {x:Nd} (h:l[i]? =some x):(XD l)[i]? =some x.enc:=by simp[XD,h]
mutual
def wdS:St→Nat
 | .mk o _ _ _ _ a b _=>(if o=4 then 2 else 1)+wdL a+wdL b
def wdL:List St→Nat
 |[]=>0
 |s::l=>wdS s+wdL l
end
mutual
def X1p:St→Int→Nat→Nat→List Nd
 | .mk o _ _ _ _ a b _,at_,k,after=>
   if o=3 then⟨3,at_,if a=[] then after else k+1,if b=[] then after else k+1+wdL a⟩::(Ws a (at_+1) (k+1) after++Ws b (at_+1+szL a) (k+1+wdL a) after)
   else if o=4 then⟨4,at_,k+1,-1⟩::⟨5,at_,if a=[] then k+1 else k+2,after⟩::Ws a (at_+1) (k+2) (k+1)
   else [⟨2,at_,after,-1⟩]
def Ws:List St→Int→Nat→Nat→List Nd
 |[],_,_,_=>[]
 |s::l,at_,k,after=>X1p s at_ k (if l=[] then after else k+wdS s)++Ws l (at_+szS s) (k+wdS s) after
end
def grN (l:List St):List Nd:=⟨0,-1,if l=[] then 1+wdL l else 1,-1⟩::(Ws l 0 1 (1+wdL l)++[⟨1,-1,-1,-1⟩])
theorem X5O {A B:List (List CD)} {s:Wo} {k:Nat} (h:s.2<A.length):X0s (A++B) s k=X0s A s k++B:=by
 unfold X0s setRow;rw[List.getElem?_append_left h];split
 · rw[List.set_append,if_pos h]
 rfl
theorem X5W {k:Nat}:∀(sl:List Wo) {A B:List (List CD)},(∀s∈sl,s.2<A.length)→XF k sl (A++B)=XF k sl A++B
 |[],_,_,_=>rfl
 | s::sl,A,B,h=>by
   simp only[XF];rw[X5O (h s (by simp)),X5W sl fun x hx=>by rw[X1r];exact h x (by simp[hx])]
theorem X5u {k:Nat}:∀(x y:List Wo) (rows:List (List CD)),XF k (x++y) rows=XF k y (XF k x rows)
 |[],_,_=>rfl
 |s::x,y,rows=>by simp only[List.cons_append,XF];exact X5u x y _
theorem X8N {rows:List (List CD)} {i j f g:Nat} {u v:CD} (h4:∀r∈rows,r.length=4) (hf:f<4) (hg:g<4) (h:(i,f)≠(j,g)∨u=v):setRow (setRow rows i f [u]) j g [v]=setRow (setRow rows j g [v]) i f [u]:=by
 by_cases hij:i=j
 · subst hij;cases hr:rows[i]? with
   |none=>simp[setRow,hr]
   | some r=>
     have hi:i<rows.length:=(List.getElem?_eq_some_iff.1 hr).1;have hl:=h4 r (List.mem_of_getElem? hr);simp only[setRow,hr,List.getElem?_set_self hi,List.set_set];congr 1
     match r,hl with
     | [a,b,c,d],_=>
       match f,g,hf,hg with
       |0,0,_,_|1,1,_,_|2,2,_,_|3,3,_,_=>rcases h with h|h<;>simp_all
       |0,1,_,_|0,2,_,_|0,3,_,_|1,0,_,_|1,2,_,_|1,3,_,_|2,0,_,_|2,1,_,_|2,3,_,_|3,0,_,_|3,1,_,_|3,2,_,_=>rfl
 cases hi:rows[i]? with
 |none=>simp only[setRow,hi];cases hj:rows[j]? <;>simp[hi,hij,List.getElem?_set,Ne.symm hij]
 | some r=>
   cases hj:rows[j]? with
   |none=>simp[setRow,hi,hj,List.getElem?_set,hij]
   | some q=>
     simp only[setRow,hi,hj,List.getElem?_set_ne hij,List.getElem?_set_ne (Ne.symm hij)];exact List.set_comm _ _ hij
theorem XbW {rows:List (List CD)} {s t:Wo} {j k:Nat} (h4:∀r∈rows,r.length=4) (h:s≠t∨j=k):X0s (X0s rows s j) t k=X0s (X0s rows t k) s j:=by
 unfold X0s;refine X8N h4 (by split<;>omega) (by split<;>omega) ?_;obtain⟨s1,s2⟩:=s;obtain⟨t1,t2⟩:=t;rcases h with h|h
 · refine .inl fun e=>h ?_;simp only[Prod.mk.injEq]at e⊢;refine⟨?_,e.1⟩;cases s1<;>cases t1<;>simp_all
 exact .inr (by rw[h])
theorem X2o {j k:Nat} {t:Wo}:∀(sl:List Wo) (rows:List (List CD)),(∀r∈rows,r.length=4)→((∀s∈sl,s≠t)∨j=k)→XF j sl (X0s rows t k)=X0s (XF j sl rows) t k
 |[],_,_,_=>rfl
 | s::sl,rows,h4,h=>by
   simp only[XF];rw[XbW h4 (h.imp (fun h=>Ne.symm (h s (by simp))) Eq.symm),X2o sl _ (ZQ h4) (h.imp (fun h x hx=>h x (by simp[hx])) id)]
theorem X4J {k:Nat}:∀(x y:List Wo) (rows:List (List CD)),(∀r∈rows,r.length=4)→XF k x (XF k y rows)=XF k y (XF k x rows)
 |x,[],rows,_=>rfl
 | x,t::y,rows,h4=>by
   simp only[XF];rw[X4J x y _ (ZQ h4),X2o x rows h4 (.inr rfl)]
theorem X8O:∀(l:List St) (sl:List Wo) (st:Bst),okB sl st.1→∀s∈(Q8 l sl st).2,(l=[]∧s∈sl)∨st.1.length≤s.2:=by
 have one:∀(s:St),(∀l,l=s.then_∨l=s.else_→∀(sl:List Wo) (st:Bst),okB sl st.1→∀s∈(Q8 l sl st).2,(l=[]∧s∈sl)∨st.1.length≤s.2)→
   ∀(k:Nat) (st:Bst),(∀r∈st.1,r.length=4)→k=st.1.length→∀q∈(WY s k st).2,k≤q.2:=by
  intro s ih k st h4 hk q hq;obtain⟨o,c,v,n,t,a,b,bs⟩:=s;simp only[St.then_,St.else_]at ih;unfold WY at hq;split at hq
  · have k1:okB [(false,k)] (st.1++[XY 3 st.2]):=⟨Wl h4,by simp[hk]⟩;have ok:=Wm a [(false,k)] (st.1++[XY 3 st.2],st.2+1) k1;have ia:=ih a (.inl rfl) [(false,k)] (st.1++[XY 3 st.2],st.2+1) k1;obtain⟨x,hx⟩:∃x,Q8 a [(false,k)] (st.1++[XY 3 st.2],st.2+1)=x:=⟨_,rfl⟩;simp only[hx,List.length_append,List.length_singleton]at hq ok ia;have ib:=ih b (.inr rfl) [(true,k)] x.1 ⟨ok.1.four,by simp;omega⟩;rcases List.mem_append.1 hq with hq|hq
    · rcases ia q hq with⟨_,h⟩|h
      · rw[List.mem_singleton.1 h];exact Nat.le_refl _
      omega
    rcases ib q hq with⟨_,h⟩|h
    · rw[List.mem_singleton.1 h];exact Nat.le_refl _
    omega
  split at hq
  · rw[List.mem_singleton.1 hq];exact Nat.le_succ _
  rw[List.mem_singleton.1 hq];exact Nat.le_refl _
 apply St.lists;intro l ih sl st hok q hq
 have key:∀(l:List St),(∀s∈l,∀l',l'=s.then_∨l'=s.else_→∀(sl:List Wo) (st:Bst),okB sl st.1→∀s∈(Q8 l' sl st).2,(l'=[]∧s∈sl)∨st.1.length≤s.2)→∀(sl:List Wo) (st:Bst),okB sl st.1→∀q∈(Q8 l sl st).2,(l=[]∧q∈sl)∨st.1.length≤q.2:=by
  intro l
  induction l with
  |nil=>intro _ sl st _ q hq;exact .inl ⟨rfl,hq⟩
  | cons s l il=>
    intro ih sl st hok q hq;unfold Q8 at hq;have h4:∀r∈XF st.1.length sl st.1,r.length=4:=ZD _ _ _ hok.four;have o1:=X54 s st.1.length (XF st.1.length sl st.1,st.2) h4 (Q6 ..).symm;have o2:=one s (ih s (by simp)) st.1.length (XF st.1.length sl st.1,st.2) h4 (Q6 ..).symm;obtain⟨x,hx⟩:∃x,WY s st.1.length (XF st.1.length sl st.1,st.2)=x:=⟨_,rfl⟩;simp only[hx,Q6]at hq o1 o2;rcases il (fun s hs=>ih s (by simp[hs])) x.2 x.1 o1.1 q hq with⟨_,h⟩|h
    · exact .inr (o2 q h)
    exact .inr (Nat.le_trans o1.2.1 h)
 exact key l (fun s hs l' h=>by
  rcases h with rfl|rfl
  · exact(ih s hs).1
  exact(ih s hs).2) sl st hok q hq
mutual
def gS:St→Bool
 | .mk o _ _ _ _ a b _=>(decide (o=3)||(decide (o=4)&&b.isEmpty)||(a.isEmpty&&b.isEmpty))&&(gL a&&gL b)
def gL:List St→Bool
 |[]=>true
 |s::l=>gS s&&gL l
end
theorem X8t {vars:List Vr} {nh:Nat}:∀(l:List St) (top:Bool),ssC vars nh l top=0→gL l=true
 |[],_,_=>rfl
 | .mk d c v n t a b bs::l,top,h=>by
   have hs:shB vars nh d v n t a.length b.length bs (top&&l.isEmpty)=true:=by
    simp only[ssC]at h;split at h
    · rename_i h0;unfold stC at h0;split at h0
      · cases h0
      rename_i hs;simpa using hs
    rename_i h0;exact absurd h h0
   have hr:ssC vars nh a false=0∧ssC vars nh b false=0∧ssC vars nh l top=0:=by
    simp only[ssC]at h;split at h
    · split at h
      · split at h
        · rename_i ha hb;exact⟨ha,hb,h⟩
        rename_i hb;exact absurd h hb
      rename_i ha;exact absurd h ha
    rename_i h0;exact absurd h h0
   simp only[gL,gS,Bool.and_eq_true,Bool.or_eq_true,decide_eq_true_eq,List.isEmpty_iff];refine⟨⟨?_,X8t a false hr.1,X8t b false hr.2.1⟩,X8t l top hr.2.2⟩;rcases X9R hs with h1|h1|⟨h1,h2⟩
   · exact .inl (.inl h1)
   · refine .inl (.inr ⟨h1,?_⟩);subst h1;unfold shB at hs;simp at hs;exact hs.1.2
   exact .inr ⟨List.eq_nil_of_length_eq_zero h1,List.eq_nil_of_length_eq_zero h2⟩
mutual
theorem X36:∀(s:St) (d:Int) (k after:Nat),gS s=true→(X1p s d k after).length=wdS s
 | .mk o c v n t a b bs,d,k,after,h=>by
   simp only[gS,Bool.and_eq_true,Bool.or_eq_true,decide_eq_true_eq,List.isEmpty_iff]at h;obtain⟨h,ha,hb⟩:=h;unfold X1p wdS;by_cases h3:o=3
   · have h4:¬o=4:=by omega
     rw[if_pos h3,if_neg h4];simp only[List.length_cons,List.length_append,W0 a _ _ _ ha,W0 b _ _ _ hb];omega
   rw[if_neg h3];by_cases h4:o=4
   · rw[if_pos h4,if_pos h4]
     have hb0:b=[]:=by
      rcases h with(h|h)|h
      · exact absurd h h3
      · exact h.2
      exact h.2
     subst hb0;simp only[List.length_cons,W0 a _ _ _ ha,wdL];omega
   rw[if_neg h4,if_neg h4]
   have h0:a=[]∧b=[]:=by
    rcases h with(h|h)|h
    · exact absurd h h3
    · exact absurd h.1 h4
    exact h
   rw[h0.1,h0.2];rfl
theorem W0:∀(l:List St) (d:Int) (k after:Nat),gL l=true→(Ws l d k after).length=wdL l
 |[],_,_,_,_=>rfl
 | s::l,d,k,after,h=>by
   simp only[gL,Bool.and_eq_true]at h;unfold Ws wdL;rw[List.length_append,X36 s _ _ _ h.1,W0 l _ _ _ h.2]
end
def layOK (l:List St):Prop:=gL l=true→∀(sl:List Wo) (st:Bst) (d:Int),okB sl st.1→st.2=d→
 (∀after:Nat,XF after (Q8 l sl st).2 (Q8 l sl st).1.1=XF (if l=[] then after else st.1.length) sl st.1++XD (Ws l d st.1.length after))∧(Q8 l sl st).1.2=d+szL l
def layOne (s:St):Prop:=gS s=true→∀(k:Nat) (st:Bst) (d:Int),(∀r∈st.1,r.length=4)→k=st.1.length→st.2=d→
 (∀after:Nat,XF after (WY s k st).2 (WY s k st).1.1=st.1++XD (X1p s d k after))∧(WY s k st).1.2=d+szS s
theorem XbY (a b:List Nd):XD (a++b)=XD a++XD b:=by simp[XD]
theorem X0V {A:List (List CD)} {x:List CD} {o:Bool} {k v:Nat} (hk:k=A.length):X0s (A++[x]) (o,k) v=A++[if o=true then x.take 3++[iC v]++x.drop 4 else x.take 2++[iC v]++x.drop 3]:=by
 subst hk;unfold X0s setRow;simp;cases o<;>simp
theorem Xcp (s:St) (ha:layOK s.then_) (hb:layOK s.else_):layOne s:=by
 obtain⟨o,c,v,n,t,a,b,bs⟩:=s;simp only[St.then_,St.else_]at ha hb;intro hg k st d h4 hk hd;simp only[gS,Bool.and_eq_true,Bool.or_eq_true,decide_eq_true_eq,List.isEmpty_iff]at hg;obtain⟨hg,hga,hgb⟩:=hg;have ha:=ha hga;have hb:=hb hgb;subst hd;unfold WY X1p szS;by_cases h3:o=3
 · simp only[if_pos h3];have k1:okB [(false,k)] (st.1++[XY 3 st.2]):=⟨Wl h4,by simp[hk]⟩;have ok:=Wm a [(false,k)] (st.1++[XY 3 st.2],st.2+1) k1;have sa:=X8O a [(false,k)] (st.1++[XY 3 st.2],st.2+1) k1;obtain⟨ia,ida⟩:=ha [(false,k)] (st.1++[XY 3 st.2],st.2+1) _ k1 rfl;obtain⟨x,hx⟩:∃x,Q8 a [(false,k)] (st.1++[XY 3 st.2],st.2+1)=x:=⟨_,rfl⟩;simp only[hx,List.length_append,List.length_singleton]at ok sa ia ida⊢;have k2:okB [(true,k)] x.1.1:=⟨ok.1.four,by simp;omega⟩;have ok2:=Wm b [(true,k)] x.1 k2;obtain⟨ib,idb⟩:=hb [(true,k)] x.1 _ k2 rfl;obtain⟨y,hy⟩:∃y,Q8 b [(true,k)] x.1=y:=⟨_,rfl⟩;simp only[hy]at ok2 ib idb⊢
   have hlen:x.1.1.length=k+1+wdL a:=by
    have:=congrArg List.length (ia 0);rw[Q6,List.length_append,Q6,List.length_append,List.length_singleton,X68,W0 a _ _ _ hga]at this;omega
   refine⟨fun after=>?_,by omega⟩;rw[X5u,X4J _ _ _ ok2.1.four,ib after,X5W x.2 (fun s hs=>by rw[Q6];exact ok.1.lt s hs)];simp only[XF]
   rw[X2o x.2 _ ok.1.four (.inl fun s hs=>by
    rcases sa s hs with⟨_,h⟩|h
    · rw[List.mem_singleton.1 h];simp
    intro e;rw[e]at h;simp at h;omega),ia after]
   simp only[XF];rw[X0V hk,X5O (by simp[hk]),X0V hk,hlen,ida,hk];simp only[XY,Bool.false_eq_true,if_false,if_true,List.take,List.drop,List.nil_append,List.cons_append,List.append_nil,XD,List.map_cons,List.map_append,Nd.enc,List.append_assoc];refine congrArg (st.1++ ·) ?_;congr 2;by_cases h1:a=[]<;>by_cases h2:b=[]<;>simp[h1,h2]
 by_cases h4':o=4
 · simp only[if_neg h3,if_pos h4']
   have hb0:b=[]:=by
    rcases hg with(h|h)|h
    · exact absurd h h3
    · exact h.2
    exact h.2
   subst hb0
   have hR:setRow (st.1++[XY 4 st.2]++[XY 5 st.2]) k 2 [iC ((k:Int)+1)]=st.1++[[iC 4,iC st.2,iC ((k:Int)+1),iC (-1)]]++[XY 5 st.2]:=by
    subst hk;simp[setRow]
   have k1:okB [(false,k+1)] (st.1++[[iC 4,iC st.2,iC ((k:Int)+1),iC (-1)]]++[XY 5 st.2]):=by
    rw[←hR];exact⟨X0o (Wl (Wl h4)) (by omega),by simp[WB,hk]⟩
   rw[hR];have ok:=Wm a [(false,k+1)] (st.1++[[iC 4,iC st.2,iC ((k:Int)+1),iC (-1)]]++[XY 5 st.2],st.2+1) k1;obtain⟨ia,ida⟩:=ha [(false,k+1)] (st.1++[[iC 4,iC st.2,iC ((k:Int)+1),iC (-1)]]++[XY 5 st.2],st.2+1) _ k1 rfl;obtain⟨x,hx⟩:∃x,Q8 a [(false,k+1)] (st.1++[[iC 4,iC st.2,iC ((k:Int)+1),iC (-1)]]++[XY 5 st.2],st.2+1)=x:=⟨_,rfl⟩;simp only[hx]at ok ia ida⊢;refine⟨fun after=>?_,by simp only[szL];omega⟩;simp only[XF];rw[ia (k+1)];simp only[XF];rw[X0V (by simp[hk]),X5O (by simp[hk]),X0V (by simp[hk])];simp only[XY,Bool.false_eq_true,if_false,if_true,List.take,List.drop,List.nil_append,List.cons_append,List.append_nil,XD,List.map_cons,List.map_append,Nd.enc,List.append_assoc,List.length_append,List.length_singleton,hk];refine congrArg (st.1++ ·) ?_;congr 2;by_cases h1:a=[]<;>simp[h1]
 simp only[if_neg h3,if_neg h4']
 have h0:a=[]∧b=[]:=by
  rcases hg with(h|h)|h
  · exact absurd h h3
  · exact absurd h.1 h4'
  exact h
 rw[h0.1,h0.2];refine⟨fun after=>?_,by simp only[szL];omega⟩;simp only[XF];rw[X0V hk];rfl
theorem XbG:∀l:List St,layOK l:=by
 apply St.lists;intro l ih
 have key:∀l:List St,(∀s∈l,layOne s)→layOK l:=by
  intro l
  induction l with
  | nil=>
    intro _ _ sl st d hok hd;exact⟨fun after=>by simp[Q8,Ws,XD],by simp[Q8,szL,hd]⟩
  | cons s l il=>
    intro h hg sl st d hok hd;simp only[gL,Bool.and_eq_true]at hg;have h4:∀r∈XF st.1.length sl st.1,r.length=4:=ZD _ _ _ hok.four;have o1:=X54 s st.1.length (XF st.1.length sl st.1,st.2) h4 (Q6 ..).symm;obtain⟨i1,id1⟩:=h s (by simp) hg.1 st.1.length (XF st.1.length sl st.1,st.2) d h4 (Q6 ..).symm hd;unfold Q8 Ws szL;obtain⟨x,hx⟩:∃x,WY s st.1.length (XF st.1.length sl st.1,st.2)=x:=⟨_,rfl⟩;simp only[hx]at o1 i1 id1⊢
    have hlen:x.1.1.length=st.1.length+wdS s:=by
     have:=congrArg List.length (i1 0);rw[Q6,List.length_append,Q6,X68,X36 s _ _ _ hg.1]at this;exact this
    obtain⟨i2,id2⟩:=il (fun s hs=>h s (by simp[hs])) hg.2 x.2 x.1 _ o1.1 id1;refine⟨fun after=>?_,by omega⟩;rw[i2 after,hlen,i1,XbY,if_neg (List.cons_ne_nil s l),List.append_assoc]
 exact key l fun s hs=>Xcp s (ih s hs).1 (ih s hs).2
theorem Xbf (l:List St) (hg:gL l=true):bldF l=XD (grN l):=by
 have k0:okB [(false,0)] [[iC 0,iC (-1),iC (-1),iC (-1)]]:=⟨by simp,by simp⟩;obtain⟨i1,_⟩:=XbG l hg [(false,0)] ([[iC 0,iC (-1),iC (-1),iC (-1)]],0) 0 k0 rfl;unfold bldF;obtain⟨x,hx⟩:∃x,Q8 l [(false,0)] ([[iC 0,iC (-1),iC (-1),iC (-1)]],0)=x:=⟨_,rfl⟩;simp only[hx]at i1⊢
 have hlen:x.1.1.length=1+wdL l:=by
  have:=congrArg List.length (i1 0);rw[Q6,List.length_append,Q6,X68,W0 l _ _ _ hg]at this;exact this
 rw[i1,hlen];unfold grN;simp only[XF,X0s,setRow,List.length_singleton];simp[XD];by_cases h:l=[]<;>simp[h]
end Go.Proofs.YtppjennamodfdaaGreat

namespace Go.Proofs.YtppjennamodfdaaGreat
open Go Go.Hl
abbrev wr (x:Int):Int:=IntKind.i64.wrap x
def X3r (b:Bool):Int:=if b=true then 1 else 0
def divI (a b:Int):Int:=
 if b=0 then 0 else if(!decide (a.tmod b=0)&&(decide (a<0)!=decide (b<0)))=true then wr (wr (a.tdiv b) - 1)else wr (a.tdiv b)
def modI (a b:Int):Int:=if b=0 then 0 else wr (a - wr (b*divI a b))
def binI (o a b:Int):Int:=
 if o=8 then wr (a+b)else if o=9 then wr (a - b)else if o=10 then wr (a*b)else if o=11 then divI a b else if o=12 then modI a b
 else if o=13 then X3r (decide (a=b))else if o=14 then X3r (!decide (a=b))else if o=15 then X3r (decide (a<b))else if o=16 then X3r (decide (a≤b))
 else if o=17 then X3r (decide (b<a))else if o=18 then X3r (decide (b≤a))else if o=19 then X3r (!decide (a=0)&& !decide (b=0))
 else if o=20 then X3r (!decide (a=0)|| !decide (b=0))else if o=21 then mn a b else mx a b
end Go.Proofs.YtppjennamodfdaaGreat

namespace Go.Proofs.YtppjennamodfdaaGreat
open Go Go.Hl
def selI (k0:Int) (len:Nat):Int:=wr (1+heldI k0 0 (wr ((len:Int) - 2)))
def valN (vs:List Int) (o n:Int) (k:List Int):Int:=
 if o=0 then n else if o=24 then(vs[n.toNat]?).getD 0 else if o=6 then wr (-((k[0]?).getD 0))else if o=7 then X3r (decide ((k[0]?).getD 0=0))
 else if o=23 then(if(k[0]?).getD 0=0 then(k[2]?).getD 0 else(k[1]?).getD 0)
 else if o=25 then(k[(selI ((k[0]?).getD 0) k.length).toNat]?).getD 0
 else binI o ((k[0]?).getD 0) ((k[1]?).getD 0)
mutual
def vT (vs:List Int):Tm→Int
 | .mk o n ks=>valN vs o n (vTs vs ks)
def vTs (vs:List Int):List Tm→List Int
 |[]=>[]
 |t::l=>vT vs t::vTs vs l
end
end Go.Proofs.YtppjennamodfdaaGreat

namespace Go.Proofs.YtppjennamodfdaaGreat
open Go Go.Hl
def X9p (vs:List Int) (l:List Ht):List Int:=l.map fun h=>heldI (vT vs h.term) h.low h.high
end Go.Proofs.YtppjennamodfdaaGreat

namespace Go.Proofs.YtppjennamodfdaaGreat
open Go Go.Hl
theorem X62 (l:List Vr) (hl:l.length≤1000000) (d:Nat):Con Tryz.prog 102 false [lV l] (.v (lV l)) none d:=by
 have hroom:Q9 l.length 48:=Xv (by omega) (by omega);cases l with
 | nil=>
   refine XaW ?_ ?_
   · refine X5 Tryz.func102 ?_;simp only[Tryz.f102];refine X2 ?_;refine X0<|X0<|X1 ?_;refine(Xc rfl (fun h2=>?_) fun h2=>?_)
     · (try simp only[BN]at h2);refine X2 ?_;exact XR ⟨.inr rfl,_,le_one 2 5 rfl,⟨⟨_,by simp;rfl,by simp[XK]⟩,by simp,fun h=>by cases h⟩⟩
     exact absurd h2 (by simp)
   intro a cap;refine X5 Tryz.func102 ?_;simp only[Tryz.f102];refine X2 ?_;refine X0<|X0<|X1 ?_;refine(Xc rfl (fun h2=>?_) fun h2=>?_)
   · exact absurd h2 (by simp)
   (try simp only[BN]at h2);refine Xz (le_emp 0 5 rfl) ?_;refine X2 ?_;exact XR ⟨.inr rfl,_,XO 7 rfl,⟨⟨_,by simp;rfl,by simp[XK]⟩,by simp,fun h=>by cases h⟩⟩
 | cons v r=>
   refine X5 Tryz.func102 ?_;simp only[Tryz.f102];rw[List.length_cons]at hroom;refine X2 ?_;refine X0<|X0<|X1 ?_;refine(Xc rfl (fun h2=>?_) fun h2=>?_)
   · exact absurd h2 (by simp)
   (try simp only[BN]at h2);refine X2 ?_;exact XR ⟨.inr rfl,_,XO 7 rfl,⟨⟨_,by simp;rfl,by simp[XK]⟩,by simp,fun h=>by cases h⟩⟩
theorem X6a (l:List Int) (hl:l.length≤1000000000) (d:Nat):Con Tryz.prog 34 false [lI l] (.v (lI l)) none d:=by
 have hroom:Q9 l.length 8:=⟨by unfold maxLen;omega,by omega⟩;cases l with
 | nil=>
   refine XaW ?_ ?_
   · refine X5 Tryz.func34 ?_;simp only[Tryz.f34];refine X2 ?_;refine X0<|X0<|X1 ?_;refine(Xc rfl (fun h2=>?_) fun h2=>?_)
     · (try simp only[BN]at h2);refine X2 ?_;exact XR ⟨.inr rfl,_,le_one 2 1 rfl,⟨⟨_,by simp;rfl,by simp[XK]⟩,by simp,fun h=>by cases h⟩⟩
     exact absurd h2 (by simp)
   intro a cap;refine X5 Tryz.func34 ?_;simp only[Tryz.f34];refine X2 ?_;refine X0<|X0<|X1 ?_;refine(Xc rfl (fun h2=>?_) fun h2=>?_)
   · exact absurd h2 (by simp)
   (try simp only[BN]at h2);refine Xz (le_emp 0 1 rfl) ?_;refine X2 ?_;exact XR ⟨.inr rfl,_,XO 7 rfl,⟨⟨_,by simp;rfl,by simp[XK]⟩,by simp,fun h=>by cases h⟩⟩
 | cons v r=>
   refine X5 Tryz.func34 ?_;simp only[Tryz.f34];rw[List.length_cons]at hroom;refine X2 ?_;refine X0<|X0<|X1 ?_;refine(Xc rfl (fun h2=>?_) fun h2=>?_)
   · exact absurd h2 (by simp)
   (try simp only[BN]at h2);refine X2 ?_;exact XR ⟨.inr rfl,_,XO 7 rfl,⟨⟨_,by simp;rfl,by simp[XK]⟩,by simp,fun h=>by cases h⟩⟩
end Go.Proofs.YtppjennamodfdaaGreat

namespace Go.Proofs.YtppjennamodfdaaGreat
open Go Go.Hl
@[simp] theorem encI_app (a b:List Int):Xi (a++b)=Xi a++Xi b:=by simp[Xi]
@[simp] theorem encI_one (x:Int):Xi [x]=[[iC x]]:=rfl
structure Inp where
 s:List Int
 p:List Int
 r:List Int
structure Pk where
 n:Int
 is_:Bool
 a:Nat
 b:Nat
 c:Nat
end Go.Proofs.YtppjennamodfdaaGreat

namespace Go.Proofs.YtppjennamodfdaaGreat
open Go Go.Hl
structure Sta where
 vals:List Int
 outs:List Int
 time:Int
def tick (s:Sta) (c:Int):Sta:=⟨s.vals,s.outs,wr (s.time+c)⟩
mutual
def wfS (vars:List Vr) (nh:Nat):St→Bool
 | .mk d _ v n t a b bs=>W3 vars false t&&((decide (d≠0∧d≠5)||QR vars v)&&((decide (d≠5)||(decide (0≤n)&&decide (n<nh)))&&((decide (d≠4)||decide (n≤4096))&&(decide (bs.length≤1000000000)&&(wfL vars nh a&&wfL vars nh b)))))
def wfL (vars:List Vr) (nh:Nat):List St→Bool
 |[]=>true
 |s::l=>wfS vars nh s&&wfL vars nh l
end
mutual
def oUS:St→Nat
 | .mk d _ _ n _ a b _=>if d=4 then n.toNat*oUL a else if d=3 then max (oUL a) (oUL b)else if d=1 then 1 else 0
def oUL:List St→Nat
 |[]=>0
 |s::l=>oUS s+oUL l
end
end Go.Proofs.YtppjennamodfdaaGreat

namespace Go.Proofs.YtppjennamodfdaaGreat
open Go Go.Hl
theorem XbP {vars:List Vr} {v:Int} (h:QR vars v=true):0≤v∧∃w,vars[v.toNat]? =some w:=by
 unfold QR at h;simp only[Bool.and_eq_true,decide_eq_true_eq]at h;refine⟨h.1,?_⟩;have h2:=h.2;split at h2
 · exact⟨_,by assumption⟩
 cases h2
end Go.Proofs.YtppjennamodfdaaGreat
