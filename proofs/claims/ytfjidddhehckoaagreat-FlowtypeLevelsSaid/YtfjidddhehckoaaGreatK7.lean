/- Part 7: contracts of functions of the program and of the reference, and plain facts about what they compute; used by the proof of the claimed statement. Conditions: as each theorem states. -/
import Derived.Test.YtfjidddhehckoaaGreatK1
import Derived.Test.YtfjidddhehckoaaGreatK6
import Derived.Test.YtfjidddhehckoaaGreatK5
import Derived.Test.YtfjidddhehckoaaGreatK3
set_option linter.unusedSimpArgs false
set_option linter.unusedVariables false
set_option linter.unnecessarySimpa false
set_option maxRecDepth 100000
set_option maxHeartbeats 2000000
namespace Go.Proofs.YtfjidddhehckoaaGreat
open Go Go.Hl
def mSs:List St→Int→Int×Bool→Int×Bool
 |[],_,s=>s
 | .mk _ _ _ _ t a b _::l,dep,s=>
   if((s.2||decide (12<dep))||decide (1024<s.1+1))=true then(s.1+1,s.2||decide (12<dep))
   else mSs l dep (mSs b (dep+1) (mSs a (dep+1) (mTm t 1 (s.1+1,s.2||decide (12<dep)))))
theorem mSs_le:∀(l:List St) (dep:Int) (s:Int×Bool),s.1≤(mSs l dep s).1∧(mSs l dep s).1≤s.1+nodesS l
 |[],dep,s=>by simp[mSs,nodesS]
 | .mk d c v n t a b bs::l,dep,s=>by
   simp only[mSs,nodesS,St.nodes];have h1:=mTm_le t 1 (s.1+1,s.2||decide (12<dep));have h2:=mSs_le a (dep+1) (mTm t 1 (s.1+1,s.2||decide (12<dep)));have h3:=mSs_le b (dep+1) (mSs a (dep+1) (mTm t 1 (s.1+1,s.2||decide (12<dep))));have h4:=mSs_le l dep (mSs b (dep+1) (mSs a (dep+1) (mTm t 1 (s.1+1,s.2||decide (12<dep)))));split
   · simp only;omega
   simp only at h1;omega
theorem msteps_con (l:List St):∀(dep c:Int) (b:Bool),0≤dep→0≤c→c+nodesS l≤1000000000→
  ConIO Tryz.prog 143 [iC c,bC b] [lS l,li dep] (.tup []) [iC (mSs l dep (c,b)).1,bC (mSs l dep (c,b)).2]:=by
 revert l
 apply St.lists;intro l ih dep c b hdep hc hn;have hlen:=len_nodesS l;obtain⟨res,hres⟩:∃r,mSs l dep (c,b)=r:=⟨_,rfl⟩;rw[hres];refine con_io_of_HT Tryz.func143 rfl (by kernel_rfl) (Nat.le_of_ble_eq_true rfl) ?_;simp only[Tryz.f143];refine HT_sA ?_;refine HT_block<|(HT_loopU [0,2,8,9] (fun(x:Nat×Int×Bool)=>[(10,.v (li x.1))]) (fun x=>[(1000000,.box [.c (iC x.2.1),.c (bC x.2.2)])]) (fun x=>x.1≤l.length∧mSs (l.drop x.1) dep x.2=res∧0≤x.2.1∧x.2.1+nodesS (l.drop x.1)≤1000000000) (fun x=>l.length - x.1) (0,c,b) ⟨Nat.zero_le _,hres,hc,by simpa using hn⟩ ?_ ?_)
 · exact le_mkA (fun n=>n) []
 rintro⟨k,m,q⟩ ⟨hk,hJ,hm,hb⟩;simp only[upS,keepS,insS]
 try simp only[keepS,KN,Nat.reduceBEq,if_true,if_false,ins,Nat.reduceLT]
 simp only at hk hJ hm hb;clear hres;refine HT_sA ?_;refine HT_seq<|(HT_cond rfl (fun h3=>HT_skip ?_) (fun h3=>?_))
 · (try simp only[BN]at h3);have hlt:k<l.length:=by omega
   obtain⟨s,he,hd⟩:=at_lt hlt;have hmem:s∈l:=List.mem_of_getElem? he;have iha:=(ih s hmem).1;have ihb:=(ih s hmem).2;have hw1:=wrap1 hlt (by omega);have hk1:k+1≤l.length:=hlt;rw[hd]at hJ hb;obtain⟨sd,sc,sv,sn,⟨so,stn,sks⟩,sa,sb,sbs⟩:=s;simp only[St.then_,St.else_]at iha ihb;simp only[mSs]at hJ;simp only[nodesS,St.nodes]at hb;have he':=get_encS he;simp only[St.enc,Tm.enc,List.cons_append,List.nil_append]at he';have hw2:IntKind.i64.wrap (m+1)=m+1:=wrap_in (by omega) (by omega);clear hlt h3 ih hmem hd he;refine HT_seq<|HT_block<|HT_seq<|HT_runA ?_;refine HT_sA ?_;refine HT_sA ?_;refine HT_seq<|HT_seq<|(HT_runcA [⟨true,.v (lb ((q||decide (12<dep))||decide (1024<m+1))),none⟩] ?_ ?_)
   · first|exact overP_con _ _ _|exact trivial|simpa[*]using overP_con _ _ _
   refine(HT_cs rfl (fun h8=>?_) fun h8=>?_)
   · (try simp only[BN]at h8);rw[if_pos (by simpa using h8)]at hJ;subst hJ;exact HT_ret (⟨.inr rfl,_,le_refl _,⟨_,by simp[*];rfl,by simp[resR]⟩,by simp[*]⟩)
   (try simp only[BN]at h8);rw[if_neg (by simpa using h8)]at hJ;have hq0:q=false:=h8.1.1;have hdep2:dep≤12:=by omega
   have hwd:IntKind.i64.wrap (dep+1)=dep+1:=wrap_in (by omega) (by omega);have hqd:(q||decide (12<dep))=false:=by rw[hq0];simp;omega
   rw[hqd]at hJ;have e1:=mTm_le (.mk so stn sks) 1 (m+1,false);obtain⟨p1,hp1⟩:∃p,mTm (.mk so stn sks) 1 (m+1,false)=p:=⟨_,rfl⟩;have cio1:=mterm_con (.mk so stn sks) 1 (m+1) false (by omega) (by omega) (by omega);rw[hp1]at cio1 e1 hJ;obtain⟨c1,b1⟩:=p1;simp only at cio1 e1;have e2:=mSs_le sa (dep+1) (c1,b1);have cio2:=iha (dep+1) c1 b1 (by omega) (by omega) (by omega);obtain⟨p2,hp2⟩:∃p,mSs sa (dep+1) (c1,b1)=p:=⟨_,rfl⟩;rw[hp2]at cio2 e2 hJ;obtain⟨c2,b2⟩:=p2;simp only at cio2 e2;have e3:=mSs_le sb (dep+1) (c2,b2);have cio3:=ihb (dep+1) c2 b2 (by omega) (by omega) (by omega);obtain⟨p3,hp3⟩:∃p,mSs sb (dep+1) (c2,b2)=p:=⟨_,rfl⟩;rw[hp3]at cio3 e3 hJ;obtain⟨c3,b3⟩:=p3;simp only at cio3 e3;clear iha ihb hp1 hp2 hp3 h8 hqd;refine HT_seq<|(HT_runIO 3 (.tup []) ([iC c1,bC b1]) rfl (by simp[*];rfl) (by simp[ioOf, *];first|exact⟨rfl,rfl,rfl,rfl,rfl⟩|exact⟨rfl,rfl,rfl,rfl⟩|exact⟨rfl,rfl,rfl⟩|exact⟨rfl,rfl⟩|rfl) (cio1) (by simp) (by simp[*];rfl) ?_);refine HT_seq<|(HT_runIO 5 (.tup []) ([iC c2,bC b2]) rfl (by simp[*];rfl) (by simp[ioOf, *];first|exact⟨rfl,rfl,rfl,rfl,rfl⟩|exact⟨rfl,rfl,rfl,rfl⟩|exact⟨rfl,rfl,rfl⟩|exact⟨rfl,rfl⟩|rfl) (cio2) (by simp) (by simp[*];rfl) ?_);refine(HT_runIO 5 (.tup []) ([iC c3,bC b3]) rfl (by simp[*];rfl) (by simp[ioOf, *];first|exact⟨rfl,rfl,rfl,rfl,rfl⟩|exact⟨rfl,rfl,rfl,rfl⟩|exact⟨rfl,rfl,rfl⟩|exact⟨rfl,rfl⟩|rfl) (cio3) (by simp) (by simp[*];rfl) ?_);refine HT_runA ?_;exact⟨(k+1,c3,b3),⟨hk1,hJ,by simp only;omega,by simp only;omega⟩,by simp only;omega,le_mkA (fun n=>n) []⟩
 (try simp only[BN]at h3);have hkl:k=l.length:=by omega
 subst hkl;rw[List.drop_length]at hJ;simp only[mSs]at hJ;subst hJ;refine(HT_exit ?_);exact(⟨.inl rfl,_,le_refl _,⟨_,by simp[*];rfl,by simp[resR]⟩,by simp[*]⟩)
def over (s:Int×Bool):Bool:=s.2||decide (1024<s.1)
theorem over_f {s:Int×Bool} (h:over s=false):s.2=false∧s.1≤1024:=by
 simp only[over,Bool.or_eq_false_iff,decide_eq_false_iff_not]at h;exact⟨h.1,by omega⟩
mutual
theorem mTm_over:∀(t:Tm) (dep:Int) (s:Int×Bool),0≤s.1→over s=true→over (mTm t dep s)=true
 | .mk o n ks,dep,s,h0,h=>by
   have h1:over (s.1+1,s.2||decide (12<dep))=true:=by
    simp only[over,Bool.or_eq_true,decide_eq_true_eq]at h⊢;rcases h with h|h
    · exact .inl (.inl h)
    exact .inr (by omega)
   simp only[mTm];split
   · exact h1
   exact mTms_over ks (dep+1) _ (by simp only;omega) h1
theorem mTms_over:∀(l:List Tm) (dep:Int) (s:Int×Bool),0≤s.1→over s=true→over (mTms l dep s)=true
 |[],dep,s,_,h=>h
 |t::l,dep,s,h0,h=>mTms_over l dep _ (Int.le_trans h0 (mTm_le t dep s).1) (mTm_over t dep s h0 h)
end
mutual
theorem mTm_fit:∀(t:Tm) (dep:Int) (s:Int×Bool),0≤s.1→dep≤13→over s=false→
  (s.1+t.nodes≤1024∧dep+tdT t≤13→mTm t dep s=(s.1+t.nodes,false))∧(¬(s.1+t.nodes≤1024∧dep+tdT t≤13)→over (mTm t dep s)=true)
 | .mk o n ks,dep,s,h0,hd,h=>by
   obtain⟨h1,h2⟩:=over_f h;simp only[mTm,Tm.nodes,tdT,h1,Bool.false_or];by_cases hc:(decide (12<dep)||decide (1024<s.1+1))=true
   · rw[if_pos hc];simp only[Bool.or_eq_true,decide_eq_true_eq]at hc;refine⟨fun hf=>by omega,fun _=>?_⟩;simp only[over,Bool.or_eq_true,decide_eq_true_eq];omega
   rw[if_neg hc];simp only[Bool.or_eq_true,decide_eq_true_eq,not_or]at hc;have hdd:decide (12<dep)=false:=decide_eq_false hc.1;rw[hdd];have hov:over (s.1+1,false)=false:=by simp only[over,Bool.false_or,decide_eq_false_iff_not];omega
   have:=mTms_fit ks (dep+1) (s.1+1,false) (by simp only;omega) (by omega) hov;simp only at this;refine⟨fun hf=>?_,fun hf=>this.2 (by omega)⟩;rw[this.1 (by omega)];simp only[Prod.mk.injEq,and_true];omega
theorem mTms_fit:∀(l:List Tm) (dep:Int) (s:Int×Bool),0≤s.1→dep≤13→over s=false→
  (s.1+nodesT l≤1024∧dep+tdTs l≤13→mTms l dep s=(s.1+nodesT l,false))∧(¬(s.1+nodesT l≤1024∧dep+tdTs l≤13)→over (mTms l dep s)=true)
 | [],dep,s,h0,hd,h=>by
   obtain⟨h1,h2⟩:=over_f h;obtain⟨c,b⟩:=s;simp only at h1 h2;subst h1;simp only[mTms,nodesT,tdTs];refine⟨fun _=>by simp,fun hf=>by omega⟩
 | t ::l,dep,s,h0,hd,h=>by
   simp only[mTms,nodesT,tdTs];have ht:=mTm_fit t dep s h0 hd h;by_cases hf:s.1+t.nodes≤1024∧dep+tdT t≤13
   · rw[ht.1 hf];have hov:over (s.1+t.nodes,false)=false:=by simp only[over,Bool.false_or,decide_eq_false_iff_not];omega
     have hl:=mTms_fit l dep (s.1+t.nodes,false) (by simp only;omega) hd hov;simp only at hl;refine⟨fun h2=>?_,fun h2=>hl.2 (by omega)⟩;rw[hl.1 (by omega)];simp only[Prod.mk.injEq,and_true];omega
   refine⟨fun h2=>by omega,fun _=>mTms_over l dep _ (Int.le_trans h0 (mTm_le t dep s).1) (ht.2 hf)⟩
end
theorem mSs_over:∀(l:List St) (dep:Int) (s:Int×Bool),0≤s.1→over s=true→over (mSs l dep s)=true
 |[],dep,s,_,h=>by simp only[mSs];exact h
 | .mk d c v n t a b bs::l,dep,s,h0,h=>by
   have h1:over (s.1+1,s.2||decide (12<dep))=true:=by
    simp only[over,Bool.or_eq_true,decide_eq_true_eq]at h⊢;rcases h with h|h
    · exact .inl (.inl h)
    exact .inr (by omega)
   simp only[mSs];split
   · exact h1
   rename_i hc;exact absurd h1 hc
theorem mSs_fit:∀(l:List St) (dep:Int) (s:Int×Bool),0≤s.1→dep≤13→over s=false→
  (s.1+nodesS l≤1024∧dep+sdL l≤13∧tdeep l=false→mSs l dep s=(s.1+nodesS l,false))∧(¬(s.1+nodesS l≤1024∧dep+sdL l≤13∧tdeep l=false)→over (mSs l dep s)=true)
 | [],dep,s,h0,hd,h=>by
   obtain⟨h1,h2⟩:=over_f h;obtain⟨c,b⟩:=s;simp only at h1 h2;subst h1;simp only[mSs,nodesS,sdL,tdeep];refine⟨fun _=>by simp,fun hf=>absurd ⟨by omega,by omega,trivial⟩ hf⟩
 | .mk d c v n t a b bs::l,dep,s,h0,hd,h=>by
   obtain⟨h1,h2⟩:=over_f h;simp only[mSs,nodesS,St.nodes,sdL,tdeep,h1,Bool.false_or,Bool.or_eq_false_iff,decide_eq_false_iff_not];by_cases hc:(decide (12<dep)||decide (1024<s.1+1))=true
   · rw[if_pos hc];simp only[Bool.or_eq_true,decide_eq_true_eq]at hc;refine⟨fun hf=>by omega,fun _=>?_⟩;simp only[over,Bool.or_eq_true,decide_eq_true_eq];omega
   rw[if_neg hc];simp only[Bool.or_eq_true,decide_eq_true_eq,not_or]at hc;have hdd:decide (12<dep)=false:=decide_eq_false hc.1;rw[hdd]
   have ov:∀x:Int,x≤1024→over (x,false)=false:=by
    intro x hx;simp only[over,Bool.false_or,decide_eq_false_iff_not];omega
   have ht:=mTm_fit t 1 (s.1+1,false) (by simp only;omega) (by omega) (ov _ (by omega));have g1:=(mTm_le t 1 (s.1+1,false)).1;have g2:=(mSs_le a (dep+1) (mTm t 1 (s.1+1,false))).1;have g3:=(mSs_le b (dep+1) (mSs a (dep+1) (mTm t 1 (s.1+1,false)))).1;simp only at ht g1;by_cases f1:s.1+1+t.nodes≤1024∧1+(tdT t:Int)≤13
   · rw[ht.1 f1];have ha:=mSs_fit a (dep+1) (s.1+1+t.nodes,false) (by simp only;omega) (by omega) (ov _ (by omega));simp only at ha;by_cases f2:s.1+1+t.nodes+nodesS a≤1024∧dep+1+sdL a≤13∧tdeep a=false
     · rw[ha.1 f2];have hb:=mSs_fit b (dep+1) (s.1+1+t.nodes+nodesS a,false) (by simp only;omega) (by omega) (ov _ (by omega));simp only at hb;by_cases f3:s.1+1+t.nodes+nodesS a+nodesS b≤1024∧dep+1+sdL b≤13∧tdeep b=false
       · rw[hb.1 f3];have hl:=mSs_fit l dep (s.1+1+t.nodes+nodesS a+nodesS b,false) (by simp only;omega) hd (ov _ (by omega));simp only at hl;refine⟨fun hf=>?_,fun hf=>hl.2 fun h4=>hf ⟨by omega,by omega,⟨⟨by omega,f2.2.2⟩,f3.2.2⟩,h4.2.2⟩⟩;rw[hl.1 ⟨by omega,by omega,hf.2.2.2⟩];simp only[Prod.mk.injEq,and_true];omega
       refine⟨fun hf=>absurd ⟨by omega,by omega,hf.2.2.1.2⟩ f3,fun _=>mSs_over l dep _ ?_ (hb.2 f3)⟩;have:=(mSs_le b (dep+1) (s.1+1+t.nodes+nodesS a,false)).1;simp only at this;omega
     refine⟨fun hf=>absurd ⟨by omega,by omega,hf.2.2.1.1.2⟩ f2,fun _=>?_⟩;have q1:=(mSs_le a (dep+1) (s.1+1+t.nodes,false)).1;have q2:=(mSs_le b (dep+1) (mSs a (dep+1) (s.1+1+t.nodes,false))).1;simp only at q1;exact mSs_over l dep _ (by omega) (mSs_over b (dep+1) _ (by omega) (ha.2 f2))
   refine⟨fun hf=>absurd ⟨by omega,by omega⟩ f1,fun _=>?_⟩;exact mSs_over l dep _ (by omega) (mSs_over b (dep+1) _ (by omega) (mSs_over a (dep+1) _ (by omega) (ht.2 f1)))
end Go.Proofs.YtfjidddhehckoaaGreat

namespace Go.Proofs.YtfjidddhehckoaaGreat
open Go Go.Hl
theorem stepsR_con (f:Fl) (hv:goodV f.vars) (hl:f.vars.length≤1000000) (l:List St):nodesS l≤1000000000→bndL l=true→∀(top:Bool) (d:Nat),
  Con Tryz.prog 52 true [aF f,lS l,lb top] (.v (li (ssC f.vars f.hats.length l top))) none d:=by
 revert l
 apply St.lists;intro l ih hn hbn top d;have hlen:=len_nodesS l;obtain⟨res,hres⟩:∃r,ssC f.vars f.hats.length l top=r:=⟨_,rfl⟩;rw[hres];have csh:=fun s last hb=>shapedR_con f s last (by omega) hb;obtain⟨vars,hats,body⟩:=f;simp only at hv hl hres ih csh;refine con_of_HTA Tryz.func52 ?_;simp only[Tryz.f52];simp only[aF,Fl.enc,List.map_cons,List.map_nil];refine HT_sA ?_;refine HT_seq<|HT_seq<|HT_runA ?_;refine HT_block<|(HT_loopU [1,2,3] (fun(x:Nat)=>[(7,.v (li x))]) (fun x=>[(3,.box [.c (.sl 5 (encVs vars)),.c (.sl 6 (encHs hats)),.c (.sl 10 (encSs body))])]) (fun x=>x≤l.length∧ssC vars hats.length (l.drop x) top=res) (fun x=>l.length - x) (0:Nat) ⟨Nat.zero_le _,hres⟩ ?_ ?_)
 · exact le_mkA (fun n=>n) []
 rintro k ⟨hk,hJ⟩;simp only[upS,keepS,insS]
 try simp only[keepS,KN,Nat.reduceBEq,if_true,if_false,ins,Nat.reduceLT]
 clear hres;refine HT_seq<|HT_seq<|HT_runA ?_;refine(HT_cond rfl (fun h4=>HT_skip ?_) (fun h4=>?_))
 · (try simp only[BN]at h4);have hlt:k<l.length:=by omega
   obtain⟨s,he,hd⟩:=at_lt hlt;have hmem:s∈l:=List.mem_of_getElem? he;have hnm:=nodesS_mem hmem;have hbm:=bndL_mem hbn hmem;have iha:=fun h h2=>(ih s hmem).1 h h2;have ihb:=fun h h2=>(ih s hmem).2 h h2;have hw1:=wrap1 hlt (by omega);have hw2:IntKind.i64.wrap ((l.length:Int) - 1)=(l.length:Int) - 1:=wrap_in (by omega) (by omega);have hk1:k+1≤l.length:=hlt;have hla:=drop_last hk1;rw[hd]at hJ;have ct:=termR_con vars false hv (by omega) s.term;have csh1:=csh s (top&&decide ((k:Int)=(l.length:Int) - 1));obtain⟨sd,sc,sv,sn,⟨so,stn,sks⟩,sa,sb,sbs⟩:=s;simp only[St.then_,St.else_,St.term,St.bounds,St.do_,St.var,St.n,St.cost]at iha ihb hnm ct csh1;simp only[bndS,Bool.and_eq_true,decide_eq_true_eq]at hbm;simp only[ssC,hla]at hJ;have ca:=iha (by omega) hbm.2.1;have cb:=ihb (by omega) hbm.2.2;have ct:=ct (by omega);have csh1:=csh1 hbm.1;have hbl:=hbm.1;have he':=get_encS he;simp only[St.enc,Tm.enc,List.cons_append,List.nil_append]at he';simp only[aF,Fl.enc,aS,St.enc,Tm.enc,List.map_cons,List.map_nil,List.cons_append,List.nil_append]at csh1 ca cb;have hshb:=@sh_bounds vars hats.length sd sv sn (.mk so stn sks) sa.length sb.length sbs (top&&decide ((k:Int)=(l.length:Int) - 1));obtain⟨SH,hSH⟩:∃x,shB vars hats.length sd sv sn (.mk so stn sks) sa.length sb.length sbs (top&&decide ((k:Int)=(l.length:Int) - 1))=x:=⟨_,rfl⟩;obtain⟨NU,hNU⟩:∃x,numB sd sc sn sbs=x:=⟨_,rfl⟩;obtain⟨TC,hTC⟩:∃x,termC vars false (.mk so stn sks)=x:=⟨_,rfl⟩;obtain⟨SC,hSC⟩:∃x,stC vars hats.length sd sc sv sn (.mk so stn sks) sa.length sb.length sbs (top&&decide ((k:Int)=(l.length:Int) - 1))=x:=⟨_,rfl⟩;rw[hSC]at hJ;unfold stC at hSC;rw[hSH]at csh1 hshb hSC;rw[hNU]at hSC;rw[hTC]at ct hSC;have ca:=fun d=>ca false d;have cb:=fun d=>cb false d;obtain⟨SA,hSA⟩:∃x,ssC vars hats.length sa false=x:=⟨_,rfl⟩;obtain⟨SB,hSB⟩:∃x,ssC vars hats.length sb false=x:=⟨_,rfl⟩;rw[hSA]at ca hJ;rw[hSB]at cb hJ;clear hlt h4 iha ihb ih hmem hnm hd he hbm hSH hTC hSA hSB csh hla;refine HT_seq<|HT_block<|HT_seq<|HT_runA ?_;refine HT_seq<|HT_seq<|(HT_runcA [⟨true,.v (lb SH),none⟩] ?_ ?_)
   · first|exact csh1 _|exact trivial|simpa[*]using csh1 _
   refine(HT_cs rfl (fun h7=>?_) fun h7=>?_)
   · (try simp only[BN]at h7);rw[if_pos h7]at hSC;subst hSC;rw[if_neg (by decide)]at hJ;subst hJ;refine HT_sA ?_;exact HT_rA
   (try simp only[BN]at h7);rw[if_neg (by simp[h7])]at hSC;obtain⟨hs6,hs5,hs4⟩:=hshb h7;clear hshb csh1;refine HT_sA ?_;refine(HT_cutU [1,2,3,7,8] (fun(z:Int)=>[(9,.v (li z))]) (fun(z:Int)=>[(3,.box [.c (.sl 5 (encVs vars)),.c (.sl 6 (encHs hats)),.c (.sl 10 (encSs body))]),(8,.box [.c (iC sd),.c (iC sc),.c (iC sv),.c (iC sn),.c (iC so),.c (iC stn),.c (.sl 3 (encTs sks)),.c (.sl 10 (encSs sa)),.c (.sl 10 (encSs sb)),.c (.sl 1 (encIs sbs))])]) (fun(z:Int)=>z=mostI sd) ?_ ?_)
   ·
    refine HT_sA ?_;refine(HT_cs rfl (fun h13=>?_) fun h13=>?_)
    · (try simp only[BN]at h13);refine HT_runA ?_;exact⟨67108864,by simp[mostI,h13],le_mkA (fun n=>n) []⟩
    (try simp only[BN]at h13);exact⟨10000,by simp[mostI,h13],le_mkA (fun n=>n) []⟩
   rintro M hM;simp only[upS,keepS,insS]
   try simp only[keepS,KN,Nat.reduceBEq,if_true,if_false,ins,Nat.reduceLT]
   refine HT_seq<|HT_seq<|HT_runA ?_;refine(HT_cs rfl (fun h18=>?_) fun h18=>?_)
   · try simp only[BN]at h18
     have hz:NU=false:=by
      rw[←hNU];unfold numB;rw[←hM];simp only[Bool.and_eq_false_iff,Bool.or_eq_true,Bool.and_eq_true,Bool.not_eq_false',decide_eq_true_eq];by_cases hn0:sn<0
      · have:=hs4 hn0;omega
      omega
     rw[if_pos hz]at hSC;subst hSC;rw[if_neg (by decide)]at hJ;subst hJ;refine HT_sA ?_;exact HT_rA
   try simp only[BN]at h18
   have hz:NU=(decide (sd≠6)||lastOk sbs):=by
    rw[←hNU];unfold numB;rw[←hM]
    rw[show(!(decide (sc<0)||decide (M<sc)||(decide (sd=4)&&(decide (sn<0)||decide (4096<sn)))))=true by
     simp only[Bool.or_eq_false_iff,Bool.and_eq_false_iff,Bool.not_eq_true',decide_eq_false_iff_not]
     omega]
    rfl
   clear h18 hNU hM hs4;rcases nil_or sbs with h0|⟨b0,hb0⟩
   · subst h0;have hd6:sd≠6:=fun h=>hs6 h rfl;have hw3:IntKind.i64.wrap (-1)=-1:=by decide
     have hz2:NU=true:=by rw[hz];simp[hd6]
     rw[if_neg (by simp[hz2])]at hSC;clear hs6 hs5 hz;refine HT_seq<|HT_seq<|HT_runA ?_;refine(HT_cs rfl (fun h22=>?_) fun h22=>?_)
     · exact absurd h22 (by simp)
     (try simp only[BN]at h22);subst hSC;refine HT_scA [⟨true,.v (li TC),none⟩] ?_ ?_
     · first|exact ct _|exact trivial|simpa[*]using ct _
     refine HT_seq<|HT_seq<|HT_runA ?_;refine(HT_cs rfl (fun h27=>?_) fun h27=>?_)
     · (try simp only[BN]at h27);rw[if_neg h27]at hJ;subst hJ;refine HT_sA ?_;exact HT_rA
     (try simp only[BN]at h27);rw[if_pos (by simpa using h27)]at hJ;refine HT_scA [⟨true,.v (li SA),none⟩] ?_ ?_
     · first|exact ca _|exact trivial|simpa[*]using ca _
     refine HT_seq<|HT_seq<|HT_runA ?_;refine(HT_cs rfl (fun h32=>?_) fun h32=>?_)
     · (try simp only[BN]at h32);rw[if_neg h32]at hJ;subst hJ;refine HT_sA ?_;exact HT_rA
     (try simp only[BN]at h32);rw[if_pos (by simpa using h32)]at hJ;refine HT_scA [⟨true,.v (li SB),none⟩] ?_ ?_
     · first|exact cb _|exact trivial|simpa[*]using cb _
     refine HT_sA ?_;refine(HT_cs rfl (fun h37=>?_) fun h37=>?_)
     · (try simp only[BN]at h37);rw[if_neg h37]at hJ;subst hJ;refine HT_sA ?_;exact HT_rA
     (try simp only[BN]at h37);rw[if_pos (by simpa using h37)]at hJ;refine HT_runA ?_;exact⟨k+1,⟨hk1,hJ⟩,by omega,le_mkA (fun n=>n) []⟩
   have hpos:1≤sbs.length:=(List.getElem?_eq_some_iff.1 hb0).1;obtain⟨x,hx⟩:=get_I (show sbs.length - 1<sbs.length by omega);have hd6:sd=6:=Classical.byContradiction fun h=>by rw[hs5 h]at hpos;simp at hpos
   have hw3:IntKind.i64.wrap ((sbs.length:Int) - 1)=(sbs.length:Int) - 1:=wrap_in (by omega) (by omega);have hw4:0≤(sbs.length:Int) - 1:=by omega
   have hw5:((sbs.length:Int) - 1).toNat=sbs.length - 1:=by omega
   have hw6:1≤(sbs.length:Int):=by omega
   have hw7:decide (0<(sbs.length:Int))=true:=decide_eq_true (by omega);have hz2:NU=decide (x≤67108864):=by rw[hz];unfold lastOk;rw[hx,hd6];simp
   have hne:sbs≠[]:=by intro h;rw[h]at hpos;simp at hpos
   clear hs6 hs5 hz hb0 hpos;refine HT_seq<|HT_seq<|HT_runA ?_;refine(HT_cs rfl (fun h22=>?_) fun h22=>?_)
   · try simp only[BN]at h22
     have hx2:67108864<x:=by
      omega
     rw[if_pos (by rw[hz2];exact decide_eq_false (by omega))]at hSC;subst hSC;rw[if_neg (by decide)]at hJ;subst hJ;refine HT_sA ?_;exact HT_rA
   try simp only[BN]at h22
   have hx2:x≤67108864:=by
    first
     |omega
     | (rcases h22 with h|h
        · exact absurd h (by simp[hne])
        omega)
   rw[if_neg (by rw[hz2,decide_eq_true hx2];decide)]at hSC;subst hSC;refine HT_scA [⟨true,.v (li TC),none⟩] ?_ ?_
   · first|exact ct _|exact trivial|simpa[*]using ct _
   refine HT_seq<|HT_seq<|HT_runA ?_;refine(HT_cs rfl (fun h27=>?_) fun h27=>?_)
   · (try simp only[BN]at h27);rw[if_neg h27]at hJ;subst hJ;refine HT_sA ?_;exact HT_rA
   (try simp only[BN]at h27);rw[if_pos (by simpa using h27)]at hJ;refine HT_scA [⟨true,.v (li SA),none⟩] ?_ ?_
   · first|exact ca _|exact trivial|simpa[*]using ca _
   refine HT_seq<|HT_seq<|HT_runA ?_;refine(HT_cs rfl (fun h32=>?_) fun h32=>?_)
   · (try simp only[BN]at h32);rw[if_neg h32]at hJ;subst hJ;refine HT_sA ?_;exact HT_rA
   (try simp only[BN]at h32);rw[if_pos (by simpa using h32)]at hJ;refine HT_scA [⟨true,.v (li SB),none⟩] ?_ ?_
   · first|exact cb _|exact trivial|simpa[*]using cb _
   refine HT_sA ?_;refine(HT_cs rfl (fun h37=>?_) fun h37=>?_)
   · (try simp only[BN]at h37);rw[if_neg h37]at hJ;subst hJ;refine HT_sA ?_;exact HT_rA
   (try simp only[BN]at h37);rw[if_pos (by simpa using h37)]at hJ;refine HT_runA ?_;exact⟨k+1,⟨hk1,hJ⟩,by omega,le_mkA (fun n=>n) []⟩
 (try simp only[BN]at h4);have hkl:k=l.length:=by omega
 rw[hkl,List.drop_length]at hJ;simp only[ssC]at hJ;subst hJ;refine(HT_exit ?_);refine HT_sA ?_;exact HT_rA
end Go.Proofs.YtfjidddhehckoaaGreat

namespace Go.Proofs.YtfjidddhehckoaaGreat
open Go Go.Hl
theorem shB_free {vars:List Vr} {nh:Nat} {d v n:Int} {t:Tm} {la lb:Nat} {bs:List Int} {last:Bool} (h:shB vars nh d v n t la lb bs last=true):d=3∨d=4∨(la=0∧lb=0):=by
 by_cases h3:d=3
 · exact .inl h3
 by_cases h4:d=4
 · exact .inr (.inl h4)
 refine .inr (.inr ?_);unfold shB at h;simp only[if_neg h3,if_neg h4]at h;split at h
 · simp only[Bool.and_eq_true,decide_eq_true_eq]at h;exact h.1.1.1
 split at h
 · simp only[Bool.and_eq_true,decide_eq_true_eq]at h;exact h.1.1.1
 split at h
 · simp only[Bool.and_eq_true,decide_eq_true_eq]at h;exact h.1.1.1.1
 split at h
 · simp only[Bool.and_eq_true,decide_eq_true_eq]at h;exact h.1.1.1.1.1
 split at h
 · simp only[Bool.and_eq_true,decide_eq_true_eq]at h;exact h.1.1.1.1.1
 cases h
theorem ssC_ok {vars:List Vr} {nh:Nat}:∀(l:List St) (top:Bool),ssC vars nh l top=0→okL l=true
 |[],_,_=>by simp[okL]
 | .mk d c v n t a b bs::l,top,h=>by
   simp only[ssC]at h;split at h
   · rename_i h0;split at h
     · rename_i ha;split at h
       · rename_i hb;have ia:=ssC_ok a false ha;have ib:=ssC_ok b false hb;have il:=ssC_ok l top h;unfold stC at h0;split at h0
         · cases h0
         rename_i hs;split at h0
         · cases h0
         rename_i hn;have hs:shB vars nh d v n t a.length b.length bs (top&&l.isEmpty)=true:=by simpa using hs
         have hn:numB d c n bs=true:=by simpa using hn
         have hf:=shB_free hs;unfold numB at hn;simp only[Bool.and_eq_true,Bool.not_eq_true',Bool.or_eq_false_iff,Bool.and_eq_false_iff,decide_eq_false_iff_not]at hn;have hm:mostI d≤67108864:=by unfold mostI;split<;>omega
         simp only[okL,okS,Bool.and_eq_true,Bool.or_eq_true,decide_eq_true_eq,List.isEmpty_iff,ia,ib,il];have hla:a.length=0→a=[]:=List.eq_nil_of_length_eq_zero;have hlb:b.length=0→b=[]:=List.eq_nil_of_length_eq_zero;refine⟨⟨⟨by omega,by omega,by omega⟩,?_,by simp⟩,by simp⟩;rcases hf with hf|hf|hf
         · exact .inl hf
         · exact .inr (.inl hf)
         exact .inr (.inr ⟨hla hf.1,hlb hf.2⟩)
       rename_i hb;exact absurd h hb
     rename_i ha;exact absurd h ha
   rename_i h0;exact absurd h h0
def nodesH:List Ht→Nat
 |[]=>0
 |h::l=>h.term.nodes+nodesH l
def mH:List Ht→Int×Bool→Int×Bool
 |[],s=>s
 |h::l,s=>mH l (if over s=true then s else mTm h.term 1 s)
theorem nodesH_mem {l:List Ht} {h:Ht} (hm:h∈l):h.term.nodes≤nodesH l:=by
 induction l with
 |nil=>cases hm
 | cons x l ih=>
   simp only[nodesH];rcases List.mem_cons.1 hm with rfl|h1
   · omega
   have:=ih h1;omega
theorem mH_over:∀(l:List Ht) (s:Int×Bool),over s=true→over (mH l s)=true
 |[],s,h=>h
 | x::l,s,h=>by
   simp only[mH,if_pos h];exact mH_over l s h
def deepH (l:List Ht):Bool:=l.all fun h=>decide (tdT h.term≤12)
theorem mH_fit:∀(l:List Ht) (s:Int×Bool),0≤s.1→over s=false→
  (s.1+nodesH l≤1024∧deepH l=true→over (mH l s)=false)∧(¬(s.1+nodesH l≤1024∧deepH l=true)→over (mH l s)=true)
 | [],s,h0,h=>by
   have:=over_f h;simp only[mH,nodesH,deepH,List.all_nil];exact⟨fun _=>h,fun hn=>absurd ⟨by omega,trivial⟩ hn⟩
 | x::l,s,h0,h=>by
   have ho:=over_f h;have ht:=mTm_fit x.term 1 s h0 (by omega) h;have hle:=mTm_le x.term 1 s;simp only[mH,h,nodesH,deepH,List.all_cons,Bool.and_eq_true,decide_eq_true_eq,Bool.false_eq_true,if_false];by_cases hf:s.1+x.term.nodes≤1024∧1+(tdT x.term:Int)≤13
   · have e:=ht.1 hf;rw[e];have ih:=mH_fit l (s.1+x.term.nodes,false) (by simp only;omega) (by simp only[over,Bool.false_or,decide_eq_false_iff_not];omega);simp only[deepH]at ih;refine⟨fun hh=>ih.1 ⟨by omega,hh.2.2⟩,fun hh=>ih.2 fun h2=>hh ⟨by omega,by omega,h2.2⟩⟩
   have e:=ht.2 hf;refine⟨fun hh=>absurd ⟨by omega,by omega⟩ hf,fun _=>mH_over _ _ e⟩
def sizesB (f:Fl):Bool:=((((decide (f.vars.length≤64)&&decide (f.hats.length≤8))&&decide (nodesS f.body+nodesH f.hats≤1024))&&decide (sdL f.body≤12))&& !tdeep f.body)&&deepH f.hats
def mF (f:Fl):Int×Bool:=mH f.hats (mSs f.body 1 (0,false))
theorem sizes_over (f:Fl):sizesB f=false↔64<f.vars.length∨8<f.hats.length∨over (mF f)=true:=by
 have h1:=mSs_fit f.body 1 (0,false) (by decide) (by decide) rfl;unfold mF sizesB;simp only[Bool.and_eq_false_iff,decide_eq_false_iff_not,Bool.not_eq_false',Nat.not_le];by_cases hs:((0:Int),false).1+nodesS f.body≤1024∧1+(sdL f.body:Int)≤13∧tdeep f.body=false
 · rw[h1.1 hs];have h2:=mH_fit f.hats (0+(nodesS f.body:Int),false) (by simp only;omega) (by simp only[over,Bool.false_or,decide_eq_false_iff_not];have:=hs.1;simp only at this;omega);obtain⟨a1,a2,a3⟩:=hs;simp only at a1 h2;by_cases hh:0+(nodesS f.body:Int)+nodesH f.hats≤1024∧deepH f.hats=true
   · have e:=h2.1 hh;have e3:=hh.2;simp only[show((0:Int),false).1=0 from rfl];rw[e,a3,e3];simp;omega
   have e:=h2.2 hh;simp only[show((0:Int),false).1=0 from rfl];rw[e,a3];constructor
   · intro _;exact .inr (.inr rfl)
   intro _;by_cases hd:deepH f.hats=true
   · left;left;left;right;by_cases hc:0+(nodesS f.body:Int)+nodesH f.hats≤1024
     · exact absurd ⟨hc,hd⟩ hh
     omega
   right;simpa using hd
 have e:=mH_over f.hats _ (h1.2 hs);rw[e];constructor
 · intro _;exact .inr (.inr rfl)
 intro _;simp only at hs;by_cases ht:tdeep f.body=true
 · left;right;exact ht
 have ht:tdeep f.body=false:=by simpa using ht
 by_cases hd:sdL f.body≤12
 · left;left;left;right;by_cases hc:0+(nodesS f.body:Int)≤1024
   · exact absurd ⟨hc,by omega,ht⟩ hs
   omega
 left;left;right;omega
def overL (l:List St):Bool:=decide (4096<(bdL CR l ⟨0,0,0⟩).s)||(decide (8<(bdL CR l ⟨0,0,0⟩).o)||decide (67108864<(bdL CR l ⟨0,0,0⟩).t))
def codeC (f:Fl):Int:=
 if sizesB f=false then 4 else if varsC f.vars=0 then
  (if hcs f.vars [] f.hats=0 then(if ssC f.vars f.hats.length f.body true=0 then(if overL f.body=true then 4 else 0)else ssC f.vars f.hats.length f.body true)else hcs f.vars [] f.hats)
 else varsC f.vars
theorem varsC_good {vars:List Vr} (h:varsC vars=0):goodV vars:=by
 unfold varsC at h;split at h
 · rename_i h0;exact vcs_good _ _ h0
 rename_i h0;exact absurd h h0
end Go.Proofs.YtfjidddhehckoaaGreat

namespace Go.Proofs.YtfjidddhehckoaaGreat
open Go Go.Hl
theorem sizes_con (f:Fl) (hv:f.vars.length≤1000000) (hh:f.hats.length≤1000000) (hn:nodesS f.body+nodesH f.hats≤900000000) (d:Nat):
  Con Tryz.prog 47 true [aF f] (.v (lb (sizesB f))) none d:=by
 obtain⟨res,hres⟩:∃r,sizesB f=r:=⟨_,rfl⟩;rw[hres];have cn:=nodes_con f.body (by omega);have csd:=sdepth_con f.body (by omega);have ctd:=tdeep_con f.body (by omega);unfold sizesB at hres;obtain⟨vars,hats,body⟩:=f;simp only at hv hh hn hres cn csd ctd;refine con_of_HTA Tryz.func47 ?_;simp only[Tryz.f47];simp only[aF,Fl.enc,List.map_cons,List.map_nil];refine HT_sA ?_;refine HT_seq<|HT_seq<|HT_runA ?_;refine(HT_cs rfl (fun h2=>?_) fun h2=>?_)
 · try simp only[BN]at h2
   have hz:(decide (vars.length≤64)&&decide (hats.length≤8))=false:=by
    simp only[Bool.and_eq_false_iff,decide_eq_false_iff_not];omega
   rw[hz]at hres;simp only[Bool.false_and]at hres;subst hres;refine HT_sA ?_;exact HT_rA
 try simp only[BN]at h2
 have hz:(decide (vars.length≤64)&&decide (hats.length≤8))=true:=by
  simp only[Bool.and_eq_true,decide_eq_true_eq];omega
 rw[hz]at hres;simp only[Bool.true_and]at hres;refine HT_scA [⟨true,.v (li (nodesS body)),none⟩] ?_ ?_
 · first|exact cn _|exact trivial|simpa[*]using cn _
 refine HT_seq<|HT_seq<|HT_runA ?_;refine HT_block<|(HT_loopU [1] (fun(x:Nat×Nat)=>[(3,.v (li x.2)),(4,.v (li x.1))]) (fun x=>[(1,.box [.c (.sl 5 (encVs vars)),.c (.sl 6 (encHs hats)),.c (.sl 10 (encSs body))])]) (fun x=>x.1≤hats.length∧x.2+nodesH (hats.drop x.1)=nodesS body+nodesH hats∧deepH (hats.drop x.1)=deepH hats) (fun x=>hats.length - x.1) (0,nodesS body) ⟨Nat.zero_le _,by simp,by simp⟩ ?_ ?_)
 · exact le_mkA (fun n=>n) []
 rintro⟨k,n⟩ ⟨hk,hJ,hJ2⟩;simp only[upS,keepS,insS]
 try simp only[keepS,KN,Nat.reduceBEq,if_true,if_false,ins,Nat.reduceLT]
 simp only at hk hJ hJ2;refine HT_seq<|HT_seq<|HT_runA ?_;refine(HT_cond rfl (fun h9=>HT_skip ?_) (fun h9=>?_))
 · (try simp only[BN]at h9);have hlt:k<hats.length:=by omega
   obtain⟨h,he,hd⟩:=at_lt hlt;have hw1:=wrap1 hlt (by omega);have hk1:k+1≤hats.length:=hlt;rw[hd]at hJ hJ2;simp only[nodesH]at hJ;have hJ2:(decide (tdT h.term≤12)&&deepH (hats.drop (k+1)))=deepH hats:=hJ2;have ctn:=tnodes_con h.term (by omega);have ctd2:=tdepth_con h.term (by omega);have hw2:IntKind.i64.wrap ((n:Int)+h.term.nodes)=((n+h.term.nodes:Nat):Int):=by rw[wrap_in (by omega) (by omega)];simp
   obtain⟨nm,lo,hi,⟨o,tn,ks⟩⟩:=h;simp only at hJ hJ2 ctn ctd2 hw2;simp only[aT,Tm.enc,List.map_cons,List.map_nil]at ctn ctd2;obtain⟨N,hN⟩:∃x,(Tm.mk o tn ks).nodes=x:=⟨_,rfl⟩;obtain⟨D,hD⟩:∃x,tdT (Tm.mk o tn ks)=x:=⟨_,rfl⟩;rw[hN]at ctn hJ hw2;rw[hD]at ctd2 hJ2;clear hlt h9 hd hN hD;refine HT_seq<|HT_block<|HT_seq<|(HT_runcA [⟨true,.v (li N),none⟩] ?_ ?_)
   · first|exact ctn _|exact trivial|simpa[*]using ctn _
   refine HT_scA [⟨true,.v (li D),none⟩] ?_ ?_
   · first|exact ctd2 _|exact trivial|simpa[*]using ctd2 _
   refine(HT_cs rfl (fun h12=>?_) fun h12=>?_)
   · (try simp only[BN]at h12);have hz2:deepH hats=false:=by rw[←hJ2];simp only[Bool.and_eq_false_iff,decide_eq_false_iff_not];omega
     rw[hz2,Bool.and_false]at hres;subst hres;refine HT_sA ?_;exact HT_rA
   (try simp only[BN]at h12);rw[decide_eq_true (by omega),Bool.true_and]at hJ2;refine HT_runA ?_;exact⟨(k+1,n+N),⟨hk1,by simp only;omega,hJ2⟩,by simp only;omega,le_mkA (fun n=>n) []⟩
 (try simp only[BN]at h9);have hkl:k=hats.length:=by omega
 subst hkl;rw[List.drop_length]at hJ hJ2;simp only[nodesH,Nat.add_zero]at hJ;have hJ2:deepH hats=true:=hJ2.symm;rw[hJ2,Bool.and_true,←hJ]at hres;obtain⟨S,hS⟩:∃x,sdL body=x:=⟨_,rfl⟩;obtain⟨T,hT⟩:∃x,tdeep body=x:=⟨_,rfl⟩;rw[hS]at csd hres;rw[hT]at ctd hres;have e1:decide (n≤1024)=decide ((n:Int)≤1024):=by rw[Bool.eq_iff_iff,decide_eq_true_eq,decide_eq_true_eq];omega
 have e2:decide (S≤12)=decide ((S:Int)≤12):=by rw[Bool.eq_iff_iff,decide_eq_true_eq,decide_eq_true_eq];omega
 rw[e1,e2]at hres;clear e1 e2 hS hT hJ2 h9 hJ;refine(HT_exit ?_);refine HT_scA [⟨true,.v (li S),none⟩,⟨true,.v (lb T),none⟩] ?_ ?_
 · first|exact⟨csd _,ctd _⟩|exact trivial|(repeat' first|exact trivial|exact csd _|exact ctd _|apply And.intro)
 exact(HT_retE (fun h=>⟨.inr rfl,h⟩) _ (by simp[*];rfl) (by subst hres;simp[resR]) (by simp))
end Go.Proofs.YtfjidddhehckoaaGreat

namespace Go.Proofs.YtfjidddhehckoaaGreat
open Go Go.Hl
theorem checkR_con (f:Fl) (hv:f.vars.length≤1000000) (hh:f.hats.length≤1000000) (hn:nodesS f.body+nodesH f.hats≤900000000) (hb:bndL f.body=true) (d:Nat):
  Con Tryz.prog 22 true [aF f] (.v (li (codeC f))) none d:=by
 obtain⟨res,hres⟩:∃r,codeC f=r:=⟨_,rfl⟩;rw[hres];have csz:=sizes_con f hv hh hn;have cvars:=varsR_con f.vars hv;have ct:=fun(hg:goodV f.vars) (h:Ht) (hm:h∈f.hats)=>termR_con f.vars true hg (by omega) h.term (by have:=nodesH_mem hm;omega);have cst:=fun hg=>stepsR_con f hg hv f.body (by omega) hb;have cup:=fun ho=>boundsR_con f.body (by omega) ho;have hgood:varsC f.vars=0→goodV f.vars:=varsC_good;have hok:ssC f.vars f.hats.length f.body true=0→okL f.body=true:=ssC_ok _ _;unfold codeC overL at hres;obtain⟨SZ,hSZ⟩:∃x,sizesB f=x:=⟨_,rfl⟩;rw[hSZ]at csz hres;obtain⟨vars,hats,body⟩:=f;simp only at hv hh hn hb hres csz cvars ct cst cup hgood hok;obtain⟨VC,hVC⟩:∃x,varsC vars=x:=⟨_,rfl⟩;obtain⟨HC,hHC⟩:∃x,hcs vars [] hats=x:=⟨_,rfl⟩;obtain⟨SC,hSC⟩:∃x,ssC vars hats.length body true=x:=⟨_,rfl⟩;rw[hVC]at cvars hres hgood;rw[hHC]at hres;rw[hSC]at hres hok;have cst:=fun hg=>cst hg true;rw[hSC]at cst;clear hVC hSC hSZ;refine con_of_HTA Tryz.func22 ?_;simp only[Tryz.f22];simp only[aF,Fl.enc,List.map_cons,List.map_nil]at csz cst⊢;refine HT_sA ?_;refine HT_seq<|HT_seq<|(HT_runcA [⟨true,.v (lb SZ),none⟩] ?_ ?_)
 · first|exact csz _|exact trivial|simpa[*]using csz _
 refine(HT_cs rfl (fun h2=>?_) fun h2=>?_)
 · (try simp only[BN]at h2);have hz:SZ=false:=by simpa using h2
   rw[if_pos hz]at hres;subst hres;refine HT_sA ?_;exact HT_rA
 (try simp only[BN]at h2);have hz:SZ=true:=by simpa using h2
 rw[if_neg (by rw[hz];decide)]at hres;clear csz h2;subst hz;refine HT_scA [⟨true,.v (li VC),none⟩] ?_ ?_
 · first|exact cvars _|exact trivial|simpa[*]using cvars _
 refine HT_seq<|HT_seq<|HT_runA ?_;refine(HT_cs rfl (fun h7=>?_) fun h7=>?_)
 · (try simp only[BN]at h7);rw[if_neg h7]at hres;subst hres;refine HT_sA ?_;exact HT_rA
 (try simp only[BN]at h7);have hv0:VC=0:=by simpa using h7
 have hg:=hgood hv0;have ct:=ct hg;have cst:=cst hg;rw[if_pos hv0]at hres;clear cvars hgood h7;subst hv0;refine HT_seq<|HT_seq<|HT_runA ?_;refine HT_block<|(HT_loopU [1] (fun(x:Nat)=>[(4,.v (li x))]) (fun x=>[(1,.box [.c (.sl 5 (encVs vars)),.c (.sl 6 (encHs hats)),.c (.sl 10 (encSs body))])]) (fun x=>x≤hats.length∧hcs vars (hats.take x) (hats.drop x)=HC) (fun x=>hats.length - x) (0:Nat) ⟨Nat.zero_le _,hHC⟩ ?_ ?_)
 · exact le_mkA (fun n=>n) []
 rintro k ⟨hk,hJ⟩;simp only[upS,keepS,insS]
 try simp only[keepS,KN,Nat.reduceBEq,if_true,if_false,ins,Nat.reduceLT]
 clear hHC;refine HT_seq<|HT_seq<|HT_runA ?_;refine(HT_cond rfl (fun h13=>HT_skip ?_) (fun h13=>?_))
 · (try simp only[BN]at h13);have hlt:k<hats.length:=by omega
   obtain⟨h,he,hd⟩:=at_lt hlt;have hw1:=wrap1 hlt (by omega);have hk1:k+1≤hats.length:=hlt;have hkl:(hats.take k).length=k:=by rw[List.length_take];omega
   rw[hd]at hJ;simp only[hcs]at hJ;rw[←take_snoc he]at hJ;have ct:=ct h (List.mem_of_getElem? he);obtain⟨nm,lo,hi,⟨o,tn,ks⟩⟩:=h;obtain⟨C,hC⟩:∃x,hcode vars (hats.take k) ⟨nm,lo,hi,.mk o tn ks⟩=x:=⟨_,rfl⟩;rw[hC]at hJ;simp only[hcode]at hC;simp only[aT,Tm.enc,List.map_cons,List.map_nil]at ct;obtain⟨TC,hTC⟩:∃x,termC vars true (.mk o tn ks)=x:=⟨_,rfl⟩;rw[hTC]at ct hC;clear hlt h13 hd cup hok cst hTC;refine HT_seq<|HT_block<|HT_seq<|HT_runA ?_;refine HT_seq<|HT_seq<|(HT_runcA [⟨true,.v (lb (nameB nm)),none⟩] ?_ ?_)
   · first|exact nameR_con _ _|exact trivial|simpa[*]using nameR_con _ _
   refine(HT_cs rfl (fun h16=>?_) fun h16=>?_)
   · (try simp only[BN]at h16);rw[if_pos h16]at hC;subst hC;rw[if_neg (by decide)]at hJ;subst hJ;rw[if_neg (by decide)]at hres;subst hres;refine HT_sA ?_;exact HT_rA
   (try simp only[BN]at h16);rw[if_neg (by simp[h16])]at hC;clear h16;refine HT_seq<|HT_seq<|HT_runA ?_;refine HT_block<|(HT_loopU [1,4,5] (fun(x:Nat)=>[(6,.v (li x))]) (fun x=>[(1,.box [.c (.sl 5 (encVs vars)),.c (.sl 6 (encHs hats)),.c (.sl 10 (encSs body))]),(5,.box [.c (sC nm),.c (iC lo),.c (iC hi),.c (iC o),.c (iC tn),.c (.sl 3 (encTs ks))])]) (fun x=>x≤k∧∀j:Nat,j<x→∀w,hats[j]? =some w→w.name≠nm) (fun x=>k - x) (0:Nat) ⟨Nat.zero_le _,fun j hj=>absurd hj (Nat.not_lt_zero j)⟩ ?_ ?_)
   · exact le_mkA (fun n=>n) []
   rintro j ⟨hj,hno⟩;simp only[upS,keepS,insS]
   try simp only[keepS,KN,Nat.reduceBEq,if_true,if_false,ins,Nat.reduceLT]
   refine HT_seq<|HT_seq<|HT_runA ?_;refine(HT_cond rfl (fun h22=>HT_skip ?_) (fun h22=>?_))
   · (try simp only[BN]at h22);have hjk:j<k:=by omega
     obtain⟨w,hw⟩:∃w,hats[j]? =some w:=⟨hats[j],by simp[show j<hats.length by omega]⟩;have hwj:=wrap1 hjk (by omega);have hj1:j+1≤k:=hjk
     have hmemw:w∈hats.take k:=by
      have:(hats.take k)[j]? =some w:=by rw[List.getElem?_take_of_lt hjk];exact hw
      exact List.mem_of_getElem? this
     obtain⟨n2,l2,i2,⟨o2,t2,k2⟩⟩:=w;clear hjk h22;refine HT_seq<|HT_block<|HT_seq<|(HT_drun (by kernel_rfl) (by kernel_rfl) (by rfl) (by simp[*];rfl) ?_);refine(HT_cs rfl (fun h24=>?_) fun h24=>?_)
     · try simp only[BN]at h24
       have hany:((hats.take k).any fun w=>decide (w.name=nm))=true:=by
        rw[List.any_eq_true];exact⟨_,hmemw,by simpa using h24⟩
       rw[if_pos hany]at hC;subst hC;rw[if_neg (by decide)]at hJ;subst hJ;rw[if_neg (by decide)]at hres;subst hres;refine HT_sA ?_;exact HT_rA
     (try simp only[BN]at h24);refine HT_runA ?_
     exact⟨j+1,⟨hj1,fun i hi u hu=>by
      rcases Nat.lt_or_eq_of_le (Nat.le_of_lt_succ hi)with h|h
      · exact hno i h u hu
      subst h;rw[hw]at hu;cases hu
      simpa using h24⟩,by omega,le_mkA (fun n=>n) []⟩
   (try simp only[BN]at h22);have hjk:j=k:=by omega
   subst hjk
   have hany:((hats.take j).any fun w=>decide (w.name=nm))=false:=by
    rw[List.any_eq_false];intro w hw;obtain⟨i,hi⟩:=List.mem_iff_getElem?.1 hw;have hij:i<j:=by have:=(List.getElem?_eq_some_iff.1 hi).1;omega
    rw[List.getElem?_take_of_lt hij]at hi;simpa using hno i hij w hi
   rw[if_neg (by simp[hany])]at hC;clear hno hkl hany;refine(HT_exit ?_);refine HT_seq<|HT_seq<|(HT_runcA [⟨true,.v (lb (boundedB lo hi)),none⟩] ?_ ?_)
   · first|exact boundedR_con _ _ _|exact trivial|simpa[*]using boundedR_con _ _ _
   refine(HT_cs rfl (fun h30=>?_) fun h30=>?_)
   · (try simp only[BN]at h30);rw[if_pos h30]at hC;subst hC;rw[if_neg (by decide)]at hJ;subst hJ;rw[if_neg (by decide)]at hres;subst hres;refine HT_sA ?_;exact HT_rA
   (try simp only[BN]at h30);rw[if_neg (by simp[h30])]at hC;subst hC;clear h30;refine HT_scA [⟨true,.v (li TC),none⟩] ?_ ?_
   · first|exact ct _|exact trivial|simpa[*]using ct _
   refine HT_sA ?_;refine(HT_cs rfl (fun h35=>?_) fun h35=>?_)
   · (try simp only[BN]at h35);rw[if_neg h35]at hJ;subst hJ;rw[if_neg h35]at hres;subst hres;refine HT_sA ?_;exact HT_rA
   (try simp only[BN]at h35);rw[if_pos (by simpa using h35)]at hJ;refine HT_runA ?_;exact⟨j+1,⟨hk1,hJ⟩,by omega,le_mkA (fun n=>n) []⟩
 (try simp only[BN]at h13);have hkl:k=hats.length:=by omega
 rw[hkl,List.drop_length]at hJ;simp only[hcs]at hJ;rw[if_pos hJ.symm]at hres;clear hJ hkl hk h13 ct;refine(HT_exit ?_);refine HT_scA [⟨true,.v (li SC),none⟩] ?_ ?_
 · first|exact cst _|exact trivial|simpa[*]using cst _
 refine HT_seq<|HT_seq<|HT_runA ?_;refine(HT_cs rfl (fun h42=>?_) fun h42=>?_)
 · (try simp only[BN]at h42);rw[if_neg h42]at hres;subst hres;refine HT_sA ?_;exact HT_rA
 (try simp only[BN]at h42);have hs0:SC=0:=by simpa using h42
 rw[if_pos hs0]at hres;have hok:=hok hs0;have cup:=cup hok;obtain⟨Y,hY⟩:∃x,bdL CR body ⟨0,0,0⟩=x:=⟨_,rfl⟩;rw[hY]at hres cup;obtain⟨y1,y2,y3⟩:=Y;simp only[Bool.or_eq_true,decide_eq_true_eq]at hres;simp only at cup;clear hY cst h42 hok;refine HT_scA [⟨true,.tup [li y1,li y2,li y3],none⟩] ?_ ?_
 · first|exact cup _|exact trivial|simpa[*]using cup _
 refine HT_seq<|HT_seq<|HT_runA ?_;refine(HT_cs rfl (fun h47=>?_) fun h47=>?_)
 · (try simp only[BN]at h47);rw[if_pos (by omega)]at hres;subst hres;refine HT_sA ?_;exact HT_rA
 (try simp only[BN]at h47);rw[if_neg (by omega)]at hres;subst hres;refine HT_sA ?_;exact HT_rA
end Go.Proofs.YtfjidddhehckoaaGreat

namespace Go.Proofs.YtfjidddhehckoaaGreat
open Go Go.Hl
structure Obs where
 outs:List Int
 time:Int
end Go.Proofs.YtfjidddhehckoaaGreat

namespace Go.Proofs.YtfjidddhehckoaaGreat
open Go Go.Hl
theorem termC_form {vars:List Vr} {inp:Bool} {t:Tm} (h:termC vars inp t=0):formB vars inp t=true:=by
 unfold termC at h;split at h
 · assumption
 cases h
theorem hcs_form {vars:List Vr}:∀(l seen:List Ht),hcs vars seen l=0→∀h∈l,formB vars true h.term=true
 |[],_,_,h,hm=>by cases hm
 | x ::l,seen,h0,h,hm=>by
   simp only[hcs]at h0;split at h0
   · rename_i hx;rcases List.mem_cons.1 hm with rfl|h1
     · unfold hcode at hx;split at hx
       · cases hx
       split at hx
       · cases hx
       split at hx
       · cases hx
       exact termC_form hx
     exact hcs_form l _ h0 h h1
   rename_i hx;exact absurd h0 hx
theorem ssC_split {vars:List Vr} {nh:Nat} {d c v n:Int} {t:Tm} {a b:List St} {bs:List Int} {l:List St} {top:Bool} (h:ssC vars nh (.mk d c v n t a b bs::l) top=0):
  shB vars nh d v n t a.length b.length bs (top&&l.isEmpty)=true∧numB d c n bs=true∧termC vars false t=0∧ssC vars nh a false=0∧ssC vars nh b false=0∧ssC vars nh l top=0:=by
 simp only[ssC]at h;split at h
 · rename_i h0;split at h
   · rename_i ha;split at h
     · rename_i hb;unfold stC at h0;split at h0
       · cases h0
       rename_i hs;split at h0
       · cases h0
       rename_i hn;exact⟨by simpa using hs,by simpa using hn,h0,ha,hb,h⟩
     rename_i hb;exact absurd h hb
   rename_i ha;exact absurd h ha
 rename_i h0;exact absurd h h0
theorem shB_local {vars:List Vr} {nh:Nat} {d v n:Int} {t:Tm} {la lb_:Nat} {bs:List Int} {last:Bool} (h:shB vars nh d v n t la lb_ bs last=true) (hd:d=0∨d=5):localB vars v=true∧(d=5→0≤n∧n<nh):=by
 unfold shB at h;rcases hd with rfl|rfl
 · simp only[if_true,Bool.and_eq_true]at h;exact⟨h.1.1.2,fun h=>by cases h⟩
 simp only[show ¬(5:Int)=0 by decide,show ¬(5:Int)=1 by decide,show ¬(5:Int)=2 by decide,show ¬(5:Int)=3 by decide,show ¬(5:Int)=4 by decide,if_true,if_false,Bool.and_eq_true,decide_eq_true_eq]at h;exact⟨h.1.1.1.1.2,fun _=>⟨h.1.1.1.2,h.1.1.2⟩⟩
theorem numB_in {d c n:Int} {bs:List Int} (h:numB d c n bs=true):0≤c∧(d=4→0≤n∧n≤4096):=by
 unfold numB at h;simp only[Bool.and_eq_true,Bool.not_eq_true',Bool.or_eq_false_iff,Bool.and_eq_false_iff,decide_eq_false_iff_not]at h;refine⟨by omega,fun h4=>?_⟩;rcases h.1.2 with h1|h1
 · exact absurd h4 h1
 omega
theorem ssC_wf {vars:List Vr} {nh:Nat}:∀(l:List St) (top:Bool),ssC vars nh l top=0→bndL l=true→wfL vars nh l=true
 |[],_,_,_=>by simp[wfL]
 | .mk d c v n t a b bs::l,top,h,hb=>by
   obtain⟨hs,hn,ht,ha,hb',hl⟩:=ssC_split h;simp only[bndL,bndS,Bool.and_eq_true,decide_eq_true_eq]at hb;have ia:=ssC_wf a false ha hb.1.2.1;have ib:=ssC_wf b false hb' hb.1.2.2;have il:=ssC_wf l top hl hb.2;have hn4:=(numB_in hn).2;simp only[wfL,wfS,ia,ib,il,termC_form ht,Bool.and_true,Bool.true_and,Bool.and_eq_true,Bool.or_eq_true,decide_eq_true_eq];refine⟨?_,?_,?_,hb.1.1⟩
   · by_cases hd:d=0∨d=5
     · exact .inr (shB_local hs hd).1
     exact .inl ⟨fun h=>hd (.inl h),fun h=>hd (.inr h)⟩
   · by_cases hd:d=5
     · exact .inr ((shB_local hs (.inr hd)).2 hd)
     exact .inl hd
   by_cases hd:d=4
   · exact .inr (hn4 hd).2
   exact .inl hd
theorem oU_cut:∀(l:List St) (p:B3),okL l=true→0≤p.o→mn (bdL CR l p).o 9=mn (p.o+(oUL l:Int)) 9
 |[],p,_,_=>by simp[bdL,oUL]
 | .mk d c v n t a b bs::l,p,h,hp=>by
   simp only[okL,okS,Bool.and_eq_true,Bool.or_eq_true,decide_eq_true_eq]at h;have ha:=oU_cut a ⟨0,0,0⟩ h.1.2.2.1 (Int.le_refl 0);have hb:=oU_cut b ⟨0,0,0⟩ h.1.2.2.2 (Int.le_refl 0);have na:=in3_nn (bdL_in nnCR a _ h.1.2.2.1 (in3_0 nnCR));have nb:=in3_nn (bdL_in nnCR b _ h.1.2.2.2 (in3_0 nnCR));simp only[bdL,bdS,oUL,oUS];generalize bdL CR a ⟨0,0,0⟩=A at*;generalize bdL CR b ⟨0,0,0⟩=B at*;simp only[Int.zero_add]at ha hb
   have key:0≤(bd1 d c n A B).o∧mn (bd1 d c n A B).o 9=mn (((if d=4 then n.toNat*oUL a else if d=3 then max (oUL a) (oUL b)else if d=1 then 1 else 0:Nat)):Int) 9:=by
    unfold nn3 at na nb;unfold bd1;by_cases h4:d=4
    · have hn:0≤n:=by omega
      rw[if_pos h4,if_pos h4];refine⟨Int.mul_nonneg hn na.2.1,?_⟩;have e:=mul_cut (C:=9) hn na.2.1 (Int.natCast_nonneg (oUL a)) (Int.le_refl 0) (Int.le_refl 0) ha;simp only[Int.zero_add]at e;rw[e,Int.natCast_mul,Int.toNat_of_nonneg hn]
    rw[if_neg h4,if_neg h4];by_cases h3:d=3
    · rw[if_pos h3,if_pos h3];simp only[mx,mn]at ha hb⊢;have e:((max (oUL a) (oUL b):Nat):Int)=max (oUL a:Int) (oUL b:Int):=by omega
      rw[e];refine⟨by split<;>omega,?_⟩
      (repeat' split at ha)<;>(repeat' split at hb)<;>(repeat' split)<;>omega
    rw[if_neg h3,if_neg h3];split<;>exact⟨by simp only;omega,rfl⟩
   obtain⟨k0,k1⟩:=key;generalize(bd1 d c n A B)=X at*;generalize(if d=4 then n.toNat*oUL a else if d=3 then max (oUL a) (oUL b)else if d=1 then 1 else 0:Nat)=K at*
   have e:0≤(add3 CR p X).o∧mn (add3 CR p X).o 9=mn (p.o+K) 9:=by
    simp only[add3,CR];simp only[mn]at k1⊢;refine⟨by split<;>omega,?_⟩
    (repeat' split at k1)<;>(repeat' split)<;>omega
   have il:=oU_cut l (add3 CR p X) h.2 e.1;rw[il];have e2:=e.2;generalize(add3 CR p X).o=Y at*;simp only[mn]at e2⊢;rw[Int.natCast_add]
   (repeat' split at e2)<;>(repeat' split)<;>omega
theorem code_split {f:Fl} (h:codeC f=0):sizesB f=true∧varsC f.vars=0∧hcs f.vars [] f.hats=0∧ssC f.vars f.hats.length f.body true=0∧overL f.body=false:=by
 unfold codeC at h;split at h
 · cases h
 rename_i hs;split at h
 · rename_i hv;split at h
   · rename_i hh;split at h
     · rename_i hb;split at h
       · cases h
       rename_i ho;exact⟨by simpa using hs,hv,hh,hb,by simpa using ho⟩
     rename_i hb;exact absurd h hb
   rename_i hh;exact absurd h hh
 rename_i hv;exact absurd h hv
theorem over_split {l:List St} (h:overL l=false):(bdL CR l ⟨0,0,0⟩).s≤4096∧(bdL CR l ⟨0,0,0⟩).o≤8∧(bdL CR l ⟨0,0,0⟩).t≤67108864:=by
 unfold overL at h;simp only[Bool.or_eq_false_iff,decide_eq_false_iff_not,Int.not_lt]at h;exact⟨h.1,h.2.1,h.2.2⟩
theorem code_wf {f:Fl} (hb:bndL f.body=true) (h:codeC f=0):wfL f.vars f.hats.length f.body=true∧oUL f.body≤2000000∧∀h∈f.hats,formB f.vars true h.term=true:=by
 obtain⟨_,_,hh,hs,ho⟩:=code_split h;have h8:=(over_split ho).2.1;have hc:=oU_cut f.body ⟨0,0,0⟩ (ssC_ok _ _ hs) (Int.le_refl 0);refine⟨ssC_wf _ _ hs hb,?_,hcs_form _ _ hh⟩;simp only[Int.zero_add,mn]at hc
 (repeat' split at hc)<;>omega
end Go.Proofs.YtfjidddhehckoaaGreat

namespace Go.Proofs.YtfjidddhehckoaaGreat
open Go Go.Hl
end Go.Proofs.YtfjidddhehckoaaGreat

namespace Go.Proofs.YtfjidddhehckoaaGreat
open Go Go.Hl
attribute [simp] Ob.flat
end Go.Proofs.YtfjidddhehckoaaGreat

namespace Go.Proofs.YtfjidddhehckoaaGreat
open Go Go.Hl
end Go.Proofs.YtfjidddhehckoaaGreat

namespace Go.Proofs.YtfjidddhehckoaaGreat
open Go Go.Hl
end Go.Proofs.YtfjidddhehckoaaGreat
