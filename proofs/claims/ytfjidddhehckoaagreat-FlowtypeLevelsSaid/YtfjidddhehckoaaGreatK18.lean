/- Part 18: contracts of functions of the program and of the reference, and plain facts about what they compute; used by the proof of the claimed statement. Conditions: as each theorem states. -/
import Derived.Test.YtfjidddhehckoaaGreatK7
import Derived.Test.YtfjidddhehckoaaGreatK15
import Derived.Test.YtfjidddhehckoaaGreatK17
import Derived.Test.YtfjidddhehckoaaGreatK14
import Derived.Test.YtfjidddhehckoaaGreatK10
import Derived.Test.YtfjidddhehckoaaGreatK16
set_option linter.unusedSimpArgs false
set_option linter.unusedVariables false
set_option linter.unnecessarySimpa false
set_option maxRecDepth 100000
set_option maxHeartbeats 2000000
namespace Go.Proofs.YtfjidddhehckoaaGreat
open Go Go.Hl
mutual
def tL:Tm→Int→Int
 | .mk _ _ ks,left=>tLs ks (left - 1)
def tLs:List Tm→Int→Int
 |[],left=>left
 |t::l,left=>if 0≤left then tLs l (tL t left)else left
end
def lo1 (x:Int):Int:=if x<0 then x else -1
mutual
theorem tL_in:∀(t:Tm) (left:Int),lo1 (left - 1)≤tL t left∧tL t left≤left - 1
 | .mk _ _ ks,left=>by
   simp only[tL];exact tLs_in ks (left - 1)
theorem tLs_in:∀(l:List Tm) (left:Int),lo1 left≤tLs l left∧tLs l left≤left
 | [],left=>by
   simp only[tLs,lo1];split<;>omega
 | t ::l,left=>by
   simp only[tLs];split
   · have h1:=tL_in t left;have h2:=tLs_in l (tL t left);unfold lo1 at*;refine⟨?_,by omega⟩;split
     · omega
     refine Int.le_trans ?_ h2.1;split<;>(try split at h1)<;>omega
   unfold lo1;split<;>omega
end
theorem tLs_neg (l:List Tm) (left:Int) (h:left<0):tLs l left=left:=by
 cases l with
 |nil=>rfl
 |cons t l=>simp only[tLs];rw[if_neg (by omega)]
mutual
theorem tL_pos:∀(t:Tm) (left:Int),0≤tL t left→tL t left=left - t.nodes
 | .mk _ _ ks,left=>by
   simp only[tL,Tm.nodes];intro h;have:=tLs_pos ks (left - 1) h;omega
theorem tLs_pos:∀(l:List Tm) (left:Int),0≤tLs l left→tLs l left=left - nodesT l
 |[],left=>by simp[tLs,nodesT]
 | t::l,left=>by
   simp only[tLs,nodesT];split
   · intro h;have h1:=tLs_pos l (tL t left) h;have h2:=tLs_in l (tL t left);have h3:=tL_pos t left (by omega);omega
   intro h;omega
end
def sL:List St→Int→Int
 |[],left=>left
 | .mk _ _ _ _ t a b bs::l,left=>
   if 0≤left then(if tL t (left - 1)<bs.length then -1 else sL l (sL b (sL a (tL t (left - 1) - bs.length))))else left
theorem sL_neg (l:List St) (left:Int) (h:left<0):sL l left=left:=by
 cases l with
 |nil=>simp[sL]
 |cons s l=>obtain⟨d,c,v,n,t,a,b,bs⟩:=s;simp only[sL];rw[if_neg (by omega)]
theorem sL_in:∀(l:List St) (left:Int),lo1 left≤sL l left∧sL l left≤left
 | [],left=>by
   simp only[sL,lo1];split<;>omega
 | .mk _ _ _ _ t a b bs::l,left=>by
   simp only[sL];by_cases h0:0≤left
   · rw[if_pos h0];have e:lo1 left=-1:=by unfold lo1;rw[if_neg (by omega)]
     rw[e];split
     · omega
     have h1:=tL_in t (left - 1);have ha:=sL_in a (tL t (left - 1) - bs.length);have hb:=sL_in b (sL a (tL t (left - 1) - bs.length));have hl:=sL_in l (sL b (sL a (tL t (left - 1) - bs.length)));refine⟨?_,by omega⟩;generalize sL l (sL b (sL a (tL t (left - 1) - bs.length)))=z at*;generalize sL b (sL a (tL t (left - 1) - bs.length))=y at*;generalize sL a (tL t (left - 1) - bs.length)=x at*;generalize tL t (left - 1)=w at*;unfold lo1 at ha hb hl
     (repeat' split at ha)<;>(repeat' split at hb)<;>(repeat' split at hl)<;>omega
   rw[if_neg h0];unfold lo1;split<;>omega
theorem sL_pos:∀(l:List St) (left:Int),left≤1000000→0≤sL l left→sL l left≤left - nodesS l∧bndL l=true
 |[],left,_,_=>by simp[sL,nodesS,bndL]
 | .mk _ _ _ _ t a b bs::l,left,hle,h=>by
   simp only[sL]at h⊢;by_cases h0:0≤left
   · rw[if_pos h0]at h⊢;split at h
     · omega
     rename_i hbs;rw[if_neg hbs];have i0:=tL_in t (left - 1);have ia:=sL_in a (tL t (left - 1) - bs.length);have ib:=sL_in b (sL a (tL t (left - 1) - bs.length));have il:=sL_in l (sL b (sL a (tL t (left - 1) - bs.length)));have p3:=sL_pos l (sL b (sL a (tL t (left - 1) - bs.length))) (by omega) h;have p2:=sL_pos b (sL a (tL t (left - 1) - bs.length)) (by omega) (by omega);have p1:=sL_pos a (tL t (left - 1) - bs.length) (by omega) (by omega);have p0:=tL_pos t (left - 1) (by omega);simp only[nodesS,St.nodes,bndL,bndS,p1.2,p2.2,p3.2,Bool.and_true,decide_eq_true_eq];omega
   rw[if_neg h0]at h;omega
def hL:List Ht→Int→Int
 |[],m=>m
 |h::l,m=>hL l (tL h.term m)
theorem hL_le:∀(l:List Ht) (m:Int),hL l m≤m
 |[],m=>by simp[hL]
 | h::l,m=>by
   have h1:=hL_le l (tL h.term m);have h2:=tL_in h.term m;simp only[hL];omega
theorem hL_pos:∀(l:List Ht) (m:Int),0≤hL l m→hL l m=m - nodesH l
 |[],m,_=>by simp[hL,nodesH]
 | h::l,m,h0=>by
   simp only[hL,nodesH]at h0⊢;have h1:=hL_pos l _ h0;have h2:=hL_le l (tL h.term m);have h3:=tL_pos h.term m (by omega);omega
def fewB (f:Fl) (vars nodes:Int):Bool:=if vars<f.vars.length∨vars<f.hats.length then false else decide (0≤hL f.hats (sL f.body nodes))
theorem fewB_in {f:Fl} {vars nodes:Int} (hn:nodes≤1000000) (h:fewB f vars nodes=true):f.vars.length≤vars∧f.hats.length≤vars∧nodesS f.body+nodesH f.hats≤nodes∧bndL f.body=true:=by
 unfold fewB at h;split at h
 · cases h
 rename_i h1;simp only[decide_eq_true_eq]at h;have e1:=hL_pos _ _ h;have e2:=hL_le f.hats (sL f.body nodes);have e3:=sL_pos f.body nodes hn (by omega);exact⟨by omega,by omega,by omega,e3.2⟩
theorem tleft_con (t:Tm):∀left:Int,-1000000≤left→left≤1000000→∀d:Nat,Con Tryz.prog 59 true [aT t,li left] (.v (li (tL t left))) none d:=by
 induction t using Tm.ind with
 |h o n ks ih=>
 intro left h1 h2 d;obtain⟨res,hres⟩:∃r,tL (.mk o n ks) left=r:=⟨_,rfl⟩;rw[hres];simp only[tL]at hres;have hw0:IntKind.i64.wrap (left - 1)=left - 1:=wrap_in (by omega) (by omega);refine con_of_HTA Tryz.func59 ?_;simp only[Tryz.f59];simp only[aT,Tm.enc];refine HT_sA ?_;refine HT_sA ?_;refine HT_seq<|HT_seq<|HT_runA ?_;refine HT_block<|(HT_loopU [2] (fun(x:Nat×Int)=>[(1,.v (li x.2)),(5,.v (li x.1))]) (fun x=>[(2,.box [.c (iC o),.c (iC n),.c (.sl 3 (encTs ks))])]) (fun x=>x.1≤ks.length∧tLs (ks.drop x.1) x.2=res∧-1000001≤x.2∧x.2+x.1≤1000000) (fun x=>ks.length - x.1) (0,left - 1) ⟨Nat.zero_le _,by simpa using hres,by simp only;omega,by simp only;omega⟩ ?_ ?_)
 · exact le_mkA (fun n=>n) []
 rintro⟨k,m⟩ ⟨hk,hJ,hm,hm2⟩;simp only[upS,keepS,insS]
 try simp only[keepS,KN,Nat.reduceBEq,if_true,if_false,ins,Nat.reduceLT]
 simp only at hk hJ hm hm2;refine HT_seq<|HT_seq<|HT_runA ?_;refine(HT_cond rfl (fun h5=>HT_skip ?_) (fun h5=>?_))
 · (try simp only[BN]at h5);have hlt:k<ks.length:=by omega
   have hm0:0≤m:=by omega
   obtain⟨⟨eo,en,ek⟩,he,hd⟩:=at_lt hlt;have he':=get_encT he;simp only[Tm.enc]at he';have hw1:IntKind.i64.wrap ((k:Int)+1)=(k:Int)+1:=wrap_in (by omega) (by omega);rw[hd]at hJ;simp only[tLs]at hJ;rw[if_pos hm0]at hJ;have hk1:k+1≤ks.length:=hlt;have c:=ih _ (List.mem_of_getElem? he) m (by omega) (by omega);have hti:=tL_in (.mk eo en ek) m;have hlo:-1≤lo1 (m - 1):=by unfold lo1;split<;>omega
   obtain⟨M,hM⟩:∃x,tL (.mk eo en ek) m=x:=⟨_,rfl⟩;rw[hM]at c hJ hti;clear hlt h5 hM ih hd;refine HT_seq<|HT_block<|(HT_runcA [⟨true,.v (li M),none⟩] ?_ ?_)
   · first|exact c _|exact trivial|simpa[*]using c _
   refine HT_runA ?_;exact⟨(k+1,M),⟨hk1,hJ,by simp only;omega,by simp only;omega⟩,by simp only;omega,le_mkA (fun n=>n) []⟩
 try simp only[BN]at h5
 have hz:tLs (ks.drop k) m=m:=by
  by_cases hm0:m<0
  · exact tLs_neg _ _ hm0
  have hkl:k=ks.length:=by omega
  rw[hkl,List.drop_length];rfl
 rw[hz]at hJ;subst hJ;refine(HT_exit ?_);refine HT_sA ?_;exact HT_rA
theorem sleft_con (l:List St):∀left:Int,-1000000≤left→left≤1000000→∀d:Nat,Con Tryz.prog 58 true [lS l,li left] (.v (li (sL l left))) none d:=by
 revert l
 apply St.lists;intro l ih left h1 h2 d;obtain⟨res,hres⟩:∃r,sL l left=r:=⟨_,rfl⟩;rw[hres];refine con_of_HTA Tryz.func58 ?_;simp only[Tryz.f58];refine HT_sA ?_;refine HT_seq<|HT_seq<|HT_runA ?_;refine HT_block<|(HT_loopU [0] (fun(x:Nat×Int)=>[(1,.v (li x.2)),(5,.v (li x.1))]) (fun x=>[]) (fun x=>x.1≤l.length∧sL (l.drop x.1) x.2=res∧-1000001≤x.2∧x.2+x.1≤1000000) (fun x=>l.length - x.1) (0,left) ⟨Nat.zero_le _,hres,by simp only;omega,by simp only;omega⟩ ?_ ?_)
 · exact le_mkA (fun n=>n) []
 rintro⟨k,m⟩ ⟨hk,hJ,hm,hm2⟩;simp only[upS,keepS,insS]
 try simp only[keepS,KN,Nat.reduceBEq,if_true,if_false,ins,Nat.reduceLT]
 simp only at hk hJ hm hm2;clear hres;refine HT_seq<|HT_seq<|HT_runA ?_;refine(HT_cond rfl (fun h4=>HT_skip ?_) (fun h4=>?_))
 · (try simp only[BN]at h4);have hlt:k<l.length:=by omega
   have hm0:0≤m:=by omega
   obtain⟨s,he,hd⟩:=at_lt hlt;have hmem:s∈l:=List.mem_of_getElem? he;have iha:=(ih s hmem).1;have ihb:=(ih s hmem).2;have hw1:IntKind.i64.wrap ((k:Int)+1)=(k:Int)+1:=wrap_in (by omega) (by omega);have hk1:k+1≤l.length:=hlt;have he':=get_encS he;obtain⟨sd,sc,sv,sn,⟨so,stn,sks⟩,sa,sb,sbs⟩:=s;simp only[St.then_,St.else_]at iha ihb;simp only[St.enc,Tm.enc,List.cons_append,List.nil_append]at he';rw[hd]at hJ;simp only[sL]at hJ;rw[if_pos hm0]at hJ;have hw2:IntKind.i64.wrap (m - 1)=m - 1:=wrap_in (by omega) (by omega);have c:=tleft_con (.mk so stn sks) (m - 1) (by omega) (by omega);have hti:=tL_in (.mk so stn sks) (m - 1);have hlo:-2≤lo1 (m - 1 - 1):=by unfold lo1;split<;>omega
   obtain⟨M,hM⟩:∃x,tL (.mk so stn sks) (m - 1)=x:=⟨_,rfl⟩;rw[hM]at c hJ hti;simp only[aT,Tm.enc,List.map_cons,List.map_nil]at c;clear hlt h4 hM ih hd hmem;refine HT_seq<|HT_block<|HT_seq<|(HT_runcA [⟨true,.v (li M),none⟩] ?_ ?_)
   · first|exact c _|exact trivial|simpa[*]using c _
   refine HT_seq<|HT_seq<|HT_runA ?_;refine(HT_cs rfl (fun h7=>?_) fun h7=>?_)
   · (try simp only[BN]at h7);rw[if_pos h7]at hJ;subst hJ;refine HT_sA ?_;exact HT_rA
   (try simp only[BN]at h7);rw[if_neg (by omega)]at hJ;have hw3:IntKind.i64.wrap (M - (sbs.length:Int))=M - (sbs.length:Int):=wrap_in (by omega) (by omega);have c1:=iha (M - sbs.length) (by omega) (by omega);have s1:=sL_in sa (M - sbs.length);have hl1:-1≤lo1 (M - sbs.length):=by unfold lo1;split<;>omega
   obtain⟨M1,hM1⟩:∃x,sL sa (M - sbs.length)=x:=⟨_,rfl⟩;rw[hM1]at c1 s1 hJ;have c2:=ihb M1 (by omega) (by omega);have s2:=sL_in sb M1;have hl2:-1≤lo1 M1:=by unfold lo1;split<;>omega
   obtain⟨M2,hM2⟩:∃x,sL sb M1=x:=⟨_,rfl⟩;rw[hM2]at c2 s2 hJ;clear iha ihb hM1 hM2 h7 c;refine(HT_drunc [⟨true,.v (li M1),none⟩,⟨true,.v (li M2),none⟩] (by kernel_rfl) (by kernel_rfl) (by rfl) (by simp[*];first|exact⟨rfl,Iff.rfl⟩|exact⟨rfl,trivial⟩|rfl) ?_ ?_)
   · first|exact⟨c1 _,c2 _⟩|exact trivial|(repeat' first|exact trivial|exact c1 _|exact c2 _|apply And.intro)
   refine HT_runA ?_;exact⟨(k+1,M2),⟨hk1,hJ,by simp only;omega,by simp only;omega⟩,by simp only;omega,le_mkA (fun n=>n) []⟩
 try simp only[BN]at h4
 have hz:sL (l.drop k) m=m:=by
  by_cases hm0:m<0
  · exact sL_neg _ _ hm0
  have hkl:k=l.length:=by omega
  rw[hkl,List.drop_length];simp[sL]
 rw[hz]at hJ;subst hJ;refine(HT_exit ?_);refine HT_sA ?_;exact HT_rA
theorem few_con (f:Fl) (vars nodes:Int) (hv:0≤vars∧vars≤1000) (hn:0≤nodes∧nodes≤1000) (d:Nat):Con Tryz.prog 32 true [aF f,li vars,li nodes] (.v (lb (fewB f vars nodes))) none d:=by
 obtain⟨vs,hats,body⟩:=f;obtain⟨res,hres⟩:∃r,fewB ⟨vs,hats,body⟩ vars nodes=r:=⟨_,rfl⟩;rw[hres];unfold fewB at hres;simp only at hres;have cs:=sleft_con body nodes (by omega) (by omega);have hsi:=sL_in body nodes;have hlo:-2≤lo1 nodes:=by unfold lo1;split<;>omega
 obtain⟨S,hS⟩:∃x,sL body nodes=x:=⟨_,rfl⟩;rw[hS]at hres cs hsi;clear hS;refine con_of_HTA Tryz.func32 ?_;simp only[Tryz.f32];simp only[aF,Fl.enc,List.map_cons,List.map_nil];refine HT_sA ?_;refine HT_seq<|HT_seq<|HT_runA ?_;refine(HT_cs rfl (fun h2=>?_) fun h2=>?_)
 · (try simp only[BN]at h2);rw[if_pos (by omega)]at hres;subst hres;refine HT_sA ?_;exact HT_rA
 (try simp only[BN]at h2);rw[if_neg (by omega)]at hres;obtain⟨E,hE⟩:∃x,hL hats S=x:=⟨_,rfl⟩;rw[hE]at hres;refine HT_scA [⟨true,.v (li S),none⟩] ?_ ?_
 · first|exact cs _|exact trivial|simpa[*]using cs _
 refine HT_seq<|HT_seq<|HT_runA ?_;refine HT_block<|(HT_loopU [27,28] (fun(x:Nat×Int)=>[(7,.v (li x.2)),(29,.v (li x.1))]) (fun x=>[]) (fun x=>x.1≤hats.length∧hL (hats.drop x.1) x.2=E∧-2 - (x.1:Int)≤x.2∧x.2≤1000) (fun x=>hats.length - x.1) (0,S) ⟨Nat.zero_le _,hE,by simp only;omega,by simp only;omega⟩ ?_ ?_)
 · exact le_mkA (fun n=>n) []
 rintro⟨k,m⟩ ⟨hk,hJ,hm,hm2⟩;simp only[upS,keepS,insS]
 try simp only[keepS,KN,Nat.reduceBEq,if_true,if_false,ins,Nat.reduceLT]
 simp only at hk hJ hm hm2;clear hE;refine HT_sA ?_;refine HT_seq<|(HT_cond rfl (fun h9=>HT_skip ?_) (fun h9=>?_))
 · (try simp only[BN]at h9);have hlt:k<hats.length:=by omega
   obtain⟨h,he,hd⟩:=at_lt hlt;have hw1:IntKind.i64.wrap ((k:Int)+1)=(k:Int)+1:=wrap_in (by omega) (by omega);have hk1:k+1≤hats.length:=hlt;have c:=tleft_con h.term m (by omega) (by omega);have hti:=tL_in h.term m;have hl1:-3 - (k:Int)≤lo1 (m - 1):=by unfold lo1;split<;>omega
   rw[hd]at hJ;simp only[hL]at hJ;obtain⟨nm,lo,hi,⟨o,tn,ks⟩⟩:=h;simp only at c hti hJ;obtain⟨M,hM⟩:∃x,tL (.mk o tn ks) m=x:=⟨_,rfl⟩;rw[hM]at c hJ hti;simp only[aT,Tm.enc,List.map_cons,List.map_nil]at c;clear hlt h9 hM hd;refine HT_seq<|HT_block<|HT_seq<|HT_runA ?_;refine(HT_runcA [⟨true,.v (li M),none⟩] ?_ ?_)
   · first|exact c _|exact trivial|simpa[*]using c _
   refine HT_runA ?_;exact⟨(k+1,M),⟨hk1,hJ,by simp only;omega,by simp only;omega⟩,by simp only;omega,le_mkA (fun n=>n) []⟩
 (try simp only[BN]at h9);have hkl:k=hats.length:=by omega
 rw[hkl,List.drop_length]at hJ;simp only[hL]at hJ;subst hJ;subst hres;refine(HT_exit ?_);refine HT_sA ?_;exact HT_rA
end Go.Proofs.YtfjidddhehckoaaGreat

namespace Go.Proofs.YtfjidddhehckoaaGreat
open Go Go.Hl
def xVs:List Vr:=[⟨⟨#[120]⟩,1,0,1,0⟩,⟨⟨#[121]⟩,0,0,1,0⟩]
def xS:St:=.mk 0 0 1 0 (.mk 0 1 []) [] [] []
def x0:St:=.mk 3 0 0 0 (.mk 24 0 []) [xS] [] []
def x1:St:=.mk 1 0 0 0 (.mk 24 1 []) [] [] []
def XF:Fl:=⟨xVs,[],[x0,x1]⟩
def XP (o:Int):Po:=⟨[⟨#[108,111,119]⟩,⟨#[104,105,103,104]⟩],[(0,1)],[],[],o,false⟩
theorem xcode:codeC XF=0:=by
 simp only[XF,codeC,sizesB,x0,x1,xS,sdL,tdeep,ssC];kernel_rfl
theorem xpol0:polC (XP 0)=0:=by kernel_rfl
theorem xpol1:polC (XP 1)=0:=by kernel_rfl
theorem xpin0:pinF XF (XP 0)=([1,0],0):=by
 unfold pinF;rw[xpol0,xcode];kernel_rfl
theorem xpin1:pinF XF (XP 1)=([1,0],0):=by
 unfold pinF;rw[xpol1,xcode];kernel_rfl
theorem xpht0:phtF XF (XP 0)=([],0):=by
 unfold phtF;rw[xpol0,xcode];kernel_rfl
theorem xpht1:phtF XF (XP 1)=([],0):=by
 unfold phtF;rw[xpol1,xcode];kernel_rfl
theorem xask0:askC XF (XP 0)=0:=by
 unfold askC;rw[xpin0,xpht0];simp only[XF,x0,x1,xS,relL,relS];kernel_rfl
theorem xask1:askC XF (XP 1)=0:=by
 unfold askC;rw[xpin1,xpht1];simp only[XF,x0,x1,xS,relL,relS];kernel_rfl
theorem xset:setlB XF=false:=by kernel_rfl
theorem xty0:(tyR XF (XP 0)).1=[1,1]∧(tyR XF (XP 0)).2.faults=[2]:=by
 unfold tyR envF;rw[xpin0,xpht0];simp only[XF,x0,x1,xS,tyL,tyS];exact⟨by kernel_rfl,by kernel_rfl⟩
theorem xty1:(tyR XF (XP 1)).1=[1,1]∧(tyR XF (XP 1)).2.faults=[]:=by
 unfold tyR envF;rw[xpin1,xpht1];simp only[XF,x0,x1,xS,tyL,tyS];exact⟨by kernel_rfl,by kernel_rfl⟩
theorem tyE_of {f:Fl} {p:Po} (h:setlB f=false):tyE f p=tyR f p:=by
 unfold tyE;rw[h];rfl
theorem xchk0:∃t,chkR XF (XP 0)=.tup [aTg false [2] t [1,1],li 0]:=by
 unfold chkR accB;rw[if_pos xask0,tyE_of xset,xty0.1,xty0.2];exact⟨_,rfl⟩
theorem xchk1:∃t,chkR XF (XP 1)=.tup [aTg true [] t [1,1],li 0]:=by
 unfold chkR accB;rw[if_pos xask1,tyE_of xset,xty1.1,xty1.2];exact⟨_,rfl⟩
def fitP (f:Fl) (p:Po):Bool:=fewB f 10 80&&decide (p.levels.length≤8)&&decide (p.order.length≤20)&&decide (p.inputs.length≤20)&&decide (p.hatches.length≤20)
structure Sm (f:Fl) (p:Po):Prop where
 sf:smF f
 sp:smQ p
 rep:repC f.hats.length
 nv:f.vars.length≤10
 nn:nodesS f.body+nodesH f.hats≤80
 nl:p.levels.length≤8
theorem fit_in {f:Fl} {p:Po} (h:fitP f p=true):Sm f p:=by
 unfold fitP at h;simp only[Bool.and_eq_true,decide_eq_true_eq]at h;obtain⟨⟨⟨⟨h1,h2⟩,h3⟩,h4⟩,h5⟩:=h;obtain⟨k1,k2,k3,k4⟩:=fewB_in (nodes:=80) (by decide) h1;exact⟨⟨by omega,by omega,by omega,k4⟩,⟨by omega,by omega,by omega,by omega⟩,repC_holds (by omega),by omega,by omega,h2⟩
theorem chkS_con {f:Fl} {p:Po} (h:Sm f p) (d:Nat):Con Tryz.prog 12 false [aF f,aPo p] (chkR f p) none d:=by
 refine checkT_con f p (smQ_smP h.sp) h.rep h.sf.hv h.sf.hh h.sf.hn h.sf.hb (fun ha=>?_) d
 have hJ:∀a b,okI (envF f p).n ((envF f p).J a b):=by
  have hp:(pinF f p).2=0:=by
   unfold askC at ha;split at ha
   · rename_i h1;exact absurd ha h1
   rename_i h1;simpa using h1
  obtain⟨hM,h1,_⟩:=pol_new (pin_out hp).1;exact J_ok h1 hM
 have hp:(pinF f p).2=0:=by
  unfold askC at ha;split at ha
  · rename_i h1;exact absurd ha h1
  rename_i h1;simpa using h1
 obtain⟨hpol,_,hpin⟩:=pin_out hp
 have hg:=tyL_gd hJ (fuF f p) f.body p.bot (pinF f p).1 (t0F p) (bot_ok hpol) (by
  rw[hpin];intro x hx;obtain⟨v,_,rfl⟩:=List.mem_map.1 hx
  exact lev_ok hpol v)
 have:(tyE f p).1.length=f.vars.length:=by
  show(tyR f p).1.length=_;unfold tyR;rw[hg.1,hpin,List.length_map]
 have:=h.nv;omega
theorem fit_con (f:Fl) (p:Po) (d:Nat):Con Tryz.prog 10 true [aF f,aPo p] (.v (lb (fitP f p))) none d:=by
 have cf:=few_con f 10 80 (by decide) (by decide);unfold fitP;obtain⟨FW,hFW⟩:∃x,fewB f 10 80=x:=⟨_,rfl⟩;rw[hFW]at cf⊢;obtain⟨vars,hats,body⟩:=f;obtain⟨ls,os,is,hts,ob,tm⟩:=p;have hln:(encNs ls).length=ls.length:=by simp[encNs]
 have hol:(encPr os).length=os.length:=by simp[encPr]
 have e1:(decide ((ls.length:Int)≤8))=decide (ls.length≤8):=by simp;omega
 have e2:(decide ((os.length:Int)≤20))=decide (os.length≤20):=by simp;omega
 have e3:(decide ((is.length:Int)≤20))=decide (is.length≤20):=by simp;omega
 have e4:(decide ((hts.length:Int)≤20))=decide (hts.length≤20):=by simp;omega
 clear hFW;refine con_of_HTA Tryz.func10 ?_;simp only[Tryz.f10];simp only[aF,Fl.enc,aPo,Po.enc,List.map_cons,List.map_nil]at cf⊢;refine HT_sA ?_;refine HT_scA [⟨true,.v (lb FW),none⟩] ?_ ?_
 · first|exact cf _|exact trivial|simpa[*]using cf _
 exact HT_rA
end Go.Proofs.YtfjidddhehckoaaGreat

namespace Go.Proofs.YtfjidddhehckoaaGreat
open Go Go.Hl
section
variable {e:En}
theorem ouL_ok (hJ:∀a b,okI e.n (e.J a b)) (fu:Nat) (l:List St) (pc:Int) (st:List Int) (hp:okI e.n pc) (ho:okV e.n st):(ouL e fu l pc st).length=st.length∧okV e.n (ouL e fu l pc st):=by
 have h:=tyL_gd hJ fu l pc st ⟨0,[],0,false,[],[]⟩ hp ho;have k:=(tyL_lg e fu l pc st ⟨0,[],0,false,[],[]⟩).out;rw[←k];exact⟨h.1,h.2.1⟩
theorem ouS_ok (hJ:∀a b,okI e.n (e.J a b)) (fu:Nat) (s:St) (pc:Int) (st:List Int) (hp:okI e.n pc) (ho:okV e.n st):(ouS e fu s pc st).length=st.length∧okV e.n (ouS e fu s pc st):=by
 have h:=ouL_ok hJ fu [s] pc st hp ho;simpa only[ouL]using h
theorem fx_ok (hJ:∀a b,okI e.n (e.J a b)) {nl:List Int→Int} {g:Int→List Int→List Int} (hnl:∀st,okV e.n st→okI e.n (nl st)) (hg:∀pc st,okI e.n pc→okV e.n st→(g pc st).length=st.length∧okV e.n (g pc st)):
  ∀(k:Nat) (st:List Int),okV e.n st→(fxF e.J nl g k st).length=st.length∧okV e.n (fxF e.J nl g k st)
 |0,st,ho=>⟨rfl,ho⟩
 | k+1,st,ho=>by
   simp only[fxF];obtain⟨h1,h2⟩:=hg (nl st) st (hnl st ho) ho;split
   · exact⟨rfl,ho⟩
   have:=fx_ok hJ hnl hg k (mgF e.J st (g (nl st) st)) (mgF_ok hJ _ _);rw[mgF_len _ h1]at this;exact this
theorem fx_fix (hn:0<e.n) (hM:Lt.Lat e.n e.M) {nl:List Int→Int} {g:Int→List Int→List Int} (hnl:∀st,okV e.n st→okI e.n (nl st)) (hg:∀pc st,okI e.n pc→okV e.n st→(g pc st).length=st.length∧okV e.n (g pc st)):
  ∀(k:Nat) (st:List Int),okV e.n st→muV e.n e.M st<k→mgF e.J (fxF e.J nl g k st) (g (nl (fxF e.J nl g k st)) (fxF e.J nl g k st))=fxF e.J nl g k st
 |0,st,ho,h=>absurd h (Nat.not_lt_zero _)
 | k+1,st,ho,h=>by
   simp only[fxF];obtain⟨h1,h2⟩:=hg (nl st) st (hnl st ho) ho;by_cases hm:mgF e.J st (g (nl st) st)=st
   · rw[if_pos hm];exact hm
   rw[if_neg hm];have:=(mu_mg hM h1 ho h2).2 hm;exact fx_fix hn hM hnl hg k _ (mgF_ok (J_ok hn hM) _ _) (by omega)
def LV (e:En) (a b:List Int):Prop:=a.length=b.length∧∀(i:Nat) (x y:Int),a[i]? =some x→b[i]? =some y→e.L x y
theorem LV_refl (hM:Lt.Lat e.n e.M) {a:List Int} (ha:okV e.n a):LV e a a:=⟨rfl,fun i x y hx hy=>by rw[hx]at hy;cases hy;exact L_refl hM (ha x (List.mem_of_getElem? hx))⟩
theorem LV_trans (hM:Lt.Lat e.n e.M) {a b c:List Int} (ha:okV e.n a) (hb:okV e.n b) (hc:okV e.n c) (h:LV e a b) (k:LV e b c):LV e a c:=
 ⟨h.1.trans k.1,fun i x y hx hy=>by
  have hi:=(List.getElem?_eq_some_iff.1 hx).1;obtain⟨z,hz⟩:∃z,b[i]? =some z:=⟨_,List.getElem?_eq_getElem (by have:=h.1;omega)⟩
  exact L_trans hM (ha x (List.mem_of_getElem? hx)) (hb z (List.mem_of_getElem? hz)) (hc y (List.mem_of_getElem? hy)) (h.2 i x z hx hz) (k.2 i z y hz hy)⟩
theorem mg_get2 {J:Int→Int→Int} {a b:List Int} {i:Nat} {x:Int} (h:(mgF J a b)[i]? =some x):∃y z,a[i]? =some y∧b[i]? =some z∧x=J y z:=by
 unfold mgF at h;rw[List.getElem?_zipWith]at h;cases ha:a[i]? with
 |none=>rw[ha]at h;simp at h
 | some y=>cases hb:b[i]? with
   |none=>rw[ha,hb]at h;simp at h
   |some z=>rw[ha,hb]at h;simp at h;exact⟨y,z,rfl,rfl,h.symm⟩
theorem mg_l (hn:0<e.n) (hM:Lt.Lat e.n e.M) {a b:List Int} (ha:okV e.n a) (hb:okV e.n b) (hl:b.length=a.length):LV e a (mgF e.J a b):=
 ⟨(mgF_len _ hl).symm,fun i x y hx hy=>by
   obtain⟨u,v,h1,h2,rfl⟩:=mg_get2 hy;rw[hx]at h1;cases h1
   exact J_l hM (ha x (List.mem_of_getElem? hx)) (hb v (List.mem_of_getElem? h2))⟩
theorem mg_r (hn:0<e.n) (hM:Lt.Lat e.n e.M) {a b:List Int} (ha:okV e.n a) (hb:okV e.n b) (hl:b.length=a.length):LV e b (mgF e.J a b):=
 ⟨by rw[mgF_len _ hl,hl],fun i x y hx hy=>by
  obtain⟨u,v,h1,h2,rfl⟩:=mg_get2 hy;rw[hx]at h2;cases h2
  exact J_r hM (ha u (List.mem_of_getElem? h1)) (hb x (List.mem_of_getElem? hx))⟩
theorem mg_lub (hn:0<e.n) (hM:Lt.Lat e.n e.M) {a b c:List Int} (ha:okV e.n a) (hb:okV e.n b) (hc:okV e.n c) (h:LV e a c) (k:LV e b c):LV e (mgF e.J a b) c:=
 ⟨by rw[mgF_len _ (k.1.trans h.1.symm),h.1],fun i x y hx hy=>by
  obtain⟨u,v,h1,h2,rfl⟩:=mg_get2 hx
  exact J_lub hM (ha u (List.mem_of_getElem? h1)) (hb v (List.mem_of_getElem? h2)) (hc y (List.mem_of_getElem? hy)) (h.2 i u y h1 hy) (k.2 i v y h2 hy)⟩
theorem mg_mono (hn:0<e.n) (hM:Lt.Lat e.n e.M) {a b c d:List Int} (ha:okV e.n a) (hb:okV e.n b) (hc:okV e.n c) (hd:okV e.n d) (hdc:d.length=c.length) (h:LV e a c) (k:LV e b d):LV e (mgF e.J a b) (mgF e.J c d):=
 mg_lub hn hM ha hb (mgF_ok (J_ok hn hM) _ _) (LV_trans hM ha hc (mgF_ok (J_ok hn hM) _ _) h (mg_l hn hM hc hd hdc)) (LV_trans hM hb hd (mgF_ok (J_ok hn hM) _ _) k (mg_r hn hM hc hd hdc))
theorem set_mono {a b:List Int} {k:Nat} {x y:Int} (h:LV e a b) (hx:e.L x y):LV e (a.set k x) (b.set k y):=
 ⟨by simp[h.1],fun i u v hu hv=>by
  rw[List.getElem?_set]at hu hv;by_cases hk:k=i
  · subst hk;simp only[if_true]at hu hv;split at hu
    · split at hv
      · cases hu;cases hv;exact hx
      cases hv
    cases hu
  rw[if_neg hk]at hu hv
  exact h.2 i u v hu hv⟩
theorem get_mono (hn:0<e.n) (hM:Lt.Lat e.n e.M) {a b:List Int} (h:LV e a b) (k:Nat):e.L ((a[k]?).getD 0) ((b[k]?).getD 0):=by
 cases ha:a[k]? with
 | none=>
   rw[List.getElem?_eq_none (by have:=List.getElem?_eq_none_iff.1 ha;have:=h.1;omega)];exact L_refl hM ⟨by simp,by simp;omega⟩
 | some x=>cases hb:b[k]? with
   |none=>have:=List.getElem?_eq_none_iff.1 hb;have:=(List.getElem?_eq_some_iff.1 ha).1;have:=h.1;omega
   |some y=>exact h.2 k x y ha hb
theorem get_ok (hn:0<e.n) {a:List Int} (ha:okV e.n a) (k:Nat):okI e.n ((a[k]?).getD 0):=by
 cases h:a[k]? with
 |none=>exact⟨by simp,by simp;omega⟩
 |some x=>exact ha x (List.mem_of_getElem? h)
mutual
theorem tlT_mono (hn:0<e.n) (hM:Lt.Lat e.n e.M) {st st':List Int} (ho:okV e.n st) (ho':okV e.n st') (hs:LV e st st'):∀(t:Tm) (lv lv':Int),okI e.n lv→okI e.n lv'→e.L lv lv'→e.L (tlT e.J st t lv) (tlT e.J st' t lv')
 | .mk o n ks,lv,lv',h,h',hl=>by
   simp only[tlT];by_cases h24:o=24
   · rw[if_pos h24,if_pos h24];exact tlTs_mono hn hM ho ho' hs ks _ _ (J_ok hn hM _ _) (J_ok hn hM _ _) (J_mono hn hM h (get_ok hn ho _) h' (get_ok hn ho' _) hl (get_mono hn hM hs _))
   rw[if_neg h24,if_neg h24];exact tlTs_mono hn hM ho ho' hs ks _ _ h h' hl
theorem tlTs_mono (hn:0<e.n) (hM:Lt.Lat e.n e.M) {st st':List Int} (ho:okV e.n st) (ho':okV e.n st') (hs:LV e st st'):∀(l:List Tm) (lv lv':Int),okI e.n lv→okI e.n lv'→e.L lv lv'→e.L (tlTs e.J st l lv) (tlTs e.J st' l lv')
 |[],lv,lv',h,h',hl=>by simpa only[tlTs]using hl
 | t::l,lv,lv',h,h',hl=>by
   simp only[tlTs];exact tlTs_mono hn hM ho ho' hs l _ _ (tlT_ok (J_ok hn hM) st t lv h) (tlT_ok (J_ok hn hM) st' t lv' h') (tlT_mono hn hM ho ho' hs t lv lv' h h' hl)
end
def fuel (e:En) (k fu:Nat):Prop:=e.n*k<fu
theorem fx_le (hn:0<e.n) (hM:Lt.Lat e.n e.M) {nl:List Int→Int} {g:Int→List Int→List Int} (hnl:∀st,okV e.n st→okI e.n (nl st)) (hg:∀pc st,okI e.n pc→okV e.n st→(g pc st).length=st.length∧okV e.n (g pc st)):
  ∀(k:Nat) (st:List Int),okV e.n st→LV e st (fxF e.J nl g k st)
 |0,st,ho=>LV_refl hM ho
 | k+1,st,ho=>by
   simp only[fxF];obtain⟨h1,h2⟩:=hg (nl st) st (hnl st ho) ho;split
   · exact LV_refl hM ho
   have hm:=mgF_ok (J_ok hn hM) st (g (nl st) st);exact LV_trans hM ho hm (fx_ok (J_ok hn hM) hnl hg k _ hm).2 (mg_l hn hM ho h2 h1) (fx_le hn hM hnl hg k _ hm)
theorem fx_below (hn:0<e.n) (hM:Lt.Lat e.n e.M) {nl:List Int→Int} {g:Int→List Int→List Int} (hnl:∀st,okV e.n st→okI e.n (nl st)) (hg:∀pc st,okI e.n pc→okV e.n st→(g pc st).length=st.length∧okV e.n (g pc st))
  {X:List Int} (hX:okV e.n X) (hs:∀st,okV e.n st→LV e st X→LV e (g (nl st) st) X):∀(k:Nat) (st:List Int),okV e.n st→LV e st X→LV e (fxF e.J nl g k st) X
 |0,st,ho,h=>h
 | k+1,st,ho,h=>by
   simp only[fxF];obtain⟨h1,h2⟩:=hg (nl st) st (hnl st ho) ho;split
   · exact h
   exact fx_below hn hM hnl hg hX hs k _ (mgF_ok (J_ok hn hM) _ _) (mg_lub hn hM ho h2 hX h (hs st ho h))
theorem fx_out (hn:0<e.n) (hM:Lt.Lat e.n e.M) {fu:Nat} {tm:Tm} {a:List St} {pc:Int} {st:List Int} (hp:okI e.n pc) (ho:okV e.n st) (hf:fuel e st.length fu):
  (fxF e.J (fun s=>tlT e.J s tm pc) (ouL e fu a) fu st).length=st.length∧okV e.n (fxF e.J (fun s=>tlT e.J s tm pc) (ouL e fu a) fu st)∧LV e st (fxF e.J (fun s=>tlT e.J s tm pc) (ouL e fu a) fu st)∧
  mgF e.J (fxF e.J (fun s=>tlT e.J s tm pc) (ouL e fu a) fu st) (ouL e fu a (tlT e.J (fxF e.J (fun s=>tlT e.J s tm pc) (ouL e fu a) fu st) tm pc) (fxF e.J (fun s=>tlT e.J s tm pc) (ouL e fu a) fu st))=fxF e.J (fun s=>tlT e.J s tm pc) (ouL e fu a) fu st∧
  LV e (ouL e fu a (tlT e.J (fxF e.J (fun s=>tlT e.J s tm pc) (ouL e fu a) fu st) tm pc) (fxF e.J (fun s=>tlT e.J s tm pc) (ouL e fu a) fu st)) (fxF e.J (fun s=>tlT e.J s tm pc) (ouL e fu a) fu st):=by
 have hJ:=J_ok hn hM;have hnl:∀s,okV e.n s→okI e.n (tlT e.J s tm pc):=fun s _=>tlT_ok hJ s tm pc hp;have hg:=fun p s h1 h2=>ouL_ok hJ fu a p s h1 h2;have h1:=fx_ok hJ (nl:=fun s=>tlT e.J s tm pc) hnl hg fu st ho;have h2:=fx_fix hn hM (nl:=fun s=>tlT e.J s tm pc) hnl hg fu st ho (by have:=muV_le e.n e.M st;unfold fuel at hf;omega);have h3:=fx_le hn hM (nl:=fun s=>tlT e.J s tm pc) hnl hg fu st ho;obtain⟨X,hX⟩:∃x,fxF e.J (fun s=>tlT e.J s tm pc) (ouL e fu a) fu st=x:=⟨_,rfl⟩;rw[hX]at h1 h2 h3⊢;obtain⟨k1,k2⟩:=hg (tlT e.J X tm pc) X (hnl X h1.2) h1.2;exact⟨h1.1,h1.2,h3,h2,by have:=mg_r hn hM h1.2 k2 k1;rwa [h2]at this⟩
mutual
theorem ouS_mono (hn:0<e.n) (hM:Lt.Lat e.n e.M) (fu:Nat):∀(s:St) (pc pc':Int) (st st':List Int),okI e.n pc→okI e.n pc'→okV e.n st→okV e.n st'→fuel e st'.length fu→e.L pc pc'→LV e st st'→LV e (ouS e fu s pc st) (ouS e fu s pc' st')
 | .mk d c v n tm a b bs,pc,pc',st,st',hp,hp',ho,ho',hf,hpp,hs=>by
   have hJ:=J_ok hn hM;have ht:=tlT_mono hn hM ho ho' hs tm pc pc' hp hp' hpp;simp only[ouS];split
   · obtain⟨x1,x2,x3,x4,x5⟩:=fx_out (tm:=tm) (a:=a) hn hM hp' ho' hf;obtain⟨X,hX⟩:∃x,fxF e.J (fun s=>tlT e.J s tm pc') (ouL e fu a) fu st'=x:=⟨_,rfl⟩;rw[hX]at x1 x2 x3 x4 x5⊢;have hlX:=tlT_ok hJ X tm pc' hp';have hoX:=(ouL_ok hJ fu a _ X hlX x2).2;refine fx_below hn hM (nl:=fun s=>tlT e.J s tm pc) (fun s _=>tlT_ok hJ s tm pc hp) (fun p s h1 h2=>ouL_ok hJ fu a p s h1 h2) x2 (fun s hso hsX=>?_) fu st ho (LV_trans hM ho ho' x2 hs x3);have hls:=tlT_ok hJ s tm pc hp;exact LV_trans hM (ouL_ok hJ fu a _ s hls hso).2 hoX x2 (ouL_mono hn hM fu a _ _ s X hls hlX hso x2 (by rw[x1];exact hf) (tlT_mono hn hM hso x2 hsX tm pc pc' hp hp' hpp) hsX) x5
   split
   · exact set_mono hs ht
   split
   · refine set_mono hs ?_;by_cases hh:okI e.n ((e.hv[n.toNat]?).getD 0)
     · exact J_mono hn hM hp hh hp' hh hpp (L_refl hM hh)
     have:∀x,e.J x ((e.hv[n.toNat]?).getD 0)=0:=by
      intro x;unfold En.J Lt.jmV;rw[if_neg];intro hc;apply hh;simp only[Lt.inB,Bool.and_eq_true,decide_eq_true_eq]at hc;exact⟨by omega,by omega⟩
     rw[this,this];exact L_refl hM ⟨by simp,by simp;omega⟩
   split
   · have hl:=tlT_ok hJ st tm pc hp;have hl':=tlT_ok hJ st' tm pc' hp';have a1:=ouL_ok hJ fu a _ st hl ho;have a2:=ouL_ok hJ fu a _ st' hl' ho';have b1:=ouL_ok hJ fu b _ st hl ho;have b2:=ouL_ok hJ fu b _ st' hl' ho';exact mg_mono hn hM a1.2 b1.2 a2.2 b2.2 (by rw[b2.1,a2.1]) (ouL_mono hn hM fu a _ _ st st' hl hl' ho ho' hf ht hs) (ouL_mono hn hM fu b _ _ st st' hl hl' ho ho' hf ht hs)
   exact hs
theorem ouL_mono (hn:0<e.n) (hM:Lt.Lat e.n e.M) (fu:Nat):∀(l:List St) (pc pc':Int) (st st':List Int),okI e.n pc→okI e.n pc'→okV e.n st→okV e.n st'→fuel e st'.length fu→e.L pc pc'→LV e st st'→LV e (ouL e fu l pc st) (ouL e fu l pc' st')
 |[],pc,pc',st,st',hp,hp',ho,ho',hf,hpp,hs=>by simpa only[ouL]using hs
 | s::l,pc,pc',st,st',hp,hp',ho,ho',hf,hpp,hs=>by
   have hJ:=J_ok hn hM;have h1:=ouS_ok hJ fu s pc st hp ho;have h2:=ouS_ok hJ fu s pc' st' hp' ho';simp only[ouL];exact ouL_mono hn hM fu l pc pc' _ _ hp hp' h1.2 h2.2 (by rw[h2.1];exact hf) hpp (ouS_mono hn hM fu s pc pc' st st' hp hp' ho ho' hf hpp hs)
end
end
end Go.Proofs.YtfjidddhehckoaaGreat

namespace Go.Proofs.YtfjidddhehckoaaGreat
open Go Go.Hl
section
variable {e:En}
def okE (e:En) (k:Nat) (x:Ent):Prop:=okI e.n x.2.2∧okV e.n x.2.1∧x.2.1.length=k
theorem fx_okN (hJ:∀a b,okI e.n (e.J a b)) {fu:Nat} {tm:Tm} {a:List St} {pc:Int} {st:List Int} (hp:okI e.n pc) (ho:okV e.n st):
  (fxF e.J (fun s=>tlT e.J s tm pc) (ouL e fu a) fu st).length=st.length∧okV e.n (fxF e.J (fun s=>tlT e.J s tm pc) (ouL e fu a) fu st):=
 fx_ok hJ (nl:=fun s=>tlT e.J s tm pc) (fun s _=>tlT_ok hJ s tm pc hp) (fun p s h1 h2=>ouL_ok hJ fu a p s h1 h2) fu st ho
mutual
theorem lgS_ok (hJ:∀a b,okI e.n (e.J a b)) (fu:Nat):∀(s:St) (pc:Int) (st:List Int),okI e.n pc→okV e.n st→∀x∈lgS e fu s pc st,okE e st.length x
 | .mk d c v n tm a b bs,pc,st,hp,ho=>by
   simp only[lgS];intro x hx;split at hx
   · obtain⟨x1,x2⟩:=fx_okN (fu:=fu) (tm:=tm) (a:=a) hJ hp ho;obtain⟨X,hX⟩:∃x,fxF e.J (fun s=>tlT e.J s tm pc) (ouL e fu a) fu st=x:=⟨_,rfl⟩;rw[hX]at x1 x2 hx;rcases List.mem_cons.1 hx with rfl|hx
     · exact⟨hp,x2,x1⟩
     have:=lgL_ok hJ fu a _ X (tlT_ok hJ X tm pc hp) x2 x hx
     rwa [x1]at this
   split at hx
   · rcases List.mem_cons.1 hx with rfl|hx
     · exact⟨hp,ho,rfl⟩
     rcases List.mem_append.1 hx with hx|hx
     · exact lgL_ok hJ fu a _ st (tlT_ok hJ st tm pc hp) ho x hx
     exact lgL_ok hJ fu b _ st (tlT_ok hJ st tm pc hp) ho x hx
   rw[List.mem_singleton]at hx;subst hx;exact⟨hp,ho,rfl⟩
theorem lgL_ok (hJ:∀a b,okI e.n (e.J a b)) (fu:Nat):∀(l:List St) (pc:Int) (st:List Int),okI e.n pc→okV e.n st→∀x∈lgL e fu l pc st,okE e st.length x
 |[],pc,st,hp,ho=>by intro x hx;simp[lgL]at hx
 | s::l,pc,st,hp,ho=>by
   simp only[lgL];intro x hx;obtain⟨h1,h2⟩:=ouS_ok hJ fu s pc st hp ho;rcases List.mem_append.1 hx with hx|hx
   · exact lgS_ok hJ fu s pc st hp ho x hx
   have:=lgL_ok hJ fu l pc _ hp h2 x hx
   rwa [h1]at this
end
theorem fxT_ok (hJ:∀a b,okI e.n (e.J a b)) {nl:List Int→Int} {g m:Int→List Int→List Int} (hnl:∀st,okV e.n st→okI e.n (nl st))
  (hm:∀pc st,okI e.n pc→okV e.n st→okV e.n (m pc st)):∀(k:Nat) (st:List Int),okV e.n st→okV e.n (fxT e.J nl g m k st)
 |0,st,ho=>by intro x hx;simp[fxT]at hx
 | k+1,st,ho=>by
   simp only[fxT];intro x hx;rcases List.mem_append.1 hx with hx|hx
   · exact hm _ _ (hnl st ho) ho x hx
   split at hx
   · cases hx
   exact fxT_ok hJ hnl hm k _ (mgF_ok hJ _ _) x hx
mutual
theorem tmS_ok (hJ:∀a b,okI e.n (e.J a b)) (fu:Nat):∀(s:St) (pc:Int) (st:List Int),okI e.n pc→okV e.n st→okV e.n (tmS e fu s pc st)
 | .mk d c v n tm a b bs,pc,st,hp,ho=>by
   simp only[tmS];intro x hx;split at hx
   · obtain⟨x1,x2⟩:=fx_okN (fu:=fu) (tm:=tm) (a:=a) hJ hp ho;obtain⟨X,hX⟩:∃x,fxF e.J (fun s=>tlT e.J s tm pc) (ouL e fu a) fu st=x:=⟨_,rfl⟩;rw[hX]at x1 x2 hx;rcases List.mem_append.1 hx with hx|hx
     · exact fxT_ok hJ (nl:=fun s=>tlT e.J s tm pc) (fun s _=>tlT_ok hJ s tm pc hp) (fun p s h1 h2=>tmL_ok hJ fu a p s h1 h2) fu st ho x hx
     rcases List.mem_append.1 hx with hx|hx
     · exact tmL_ok hJ fu a _ X (tlT_ok hJ X tm pc hp) x2 x hx
     split at hx
     · rw[List.mem_singleton]at hx;subst hx;exact tlT_ok hJ X tm pc hp
     cases hx
   split at hx
   · rcases List.mem_append.1 hx with hx|hx
     · exact tmL_ok hJ fu a _ st (tlT_ok hJ st tm pc hp) ho x hx
     rcases List.mem_append.1 hx with hx|hx
     · exact tmL_ok hJ fu b _ st (tlT_ok hJ st tm pc hp) ho x hx
     split at hx
     · cases hx
     rw[List.mem_singleton]at hx;subst hx;exact tlT_ok hJ st tm pc hp
   cases hx
theorem tmL_ok (hJ:∀a b,okI e.n (e.J a b)) (fu:Nat):∀(l:List St) (pc:Int) (st:List Int),okI e.n pc→okV e.n st→okV e.n (tmL e fu l pc st)
 |[],pc,st,hp,ho=>by intro x hx;simp[tmL]at hx
 | s::l,pc,st,hp,ho=>by
   simp only[tmL];intro x hx;obtain⟨h1,h2⟩:=ouS_ok hJ fu s pc st hp ho;rcases List.mem_append.1 hx with hx|hx
   · exact tmS_ok hJ fu s pc st hp ho x hx
   exact tmL_ok hJ fu l pc _ hp h2 x hx
end
def leE (e:En):List Ent→List Ent→Prop
 |[],[]=>True
 |x::l,y::m=>(x.1=y.1∧LV e x.2.1 y.2.1∧e.L x.2.2 y.2.2∧okE e y.2.1.length x∧okE e y.2.1.length y)∧leE e l m
 |_,_=>False
theorem leE_app:∀{l m l' m':List Ent},leE e l l'→leE e m m'→leE e (l++m) (l'++m')
 |[],m,[],m',_,h=>h
 |[],m,_::_,m',h,_=>by simp[leE]at h
 |_::_,m,[],m',h,_=>by simp[leE]at h
 | x::l,m,y::l',m',h,k=>by
   simp only[leE,List.cons_append]at h⊢;exact⟨h.1,leE_app h.2 k⟩
theorem flt_mono (hn:0<e.n) (hM:Lt.Lat e.n e.M) (hW:okI e.n e.W):∀{l m:List Ent},leE e l m→∀(k:Nat),∀i∈fltF e k l,i∈fltF e k m
 |[],m,_,k,i,hi=>by simp[fltF]at hi
 |_::_,[],h,k,i,hi=>by simp[leE]at h
 | x ::l,y::m,h,k,i,hi=>by
   simp only[leE]at h;obtain⟨⟨h1,h2,h3,⟨h4,h5,h6⟩,⟨h7,h8,_⟩⟩,hr⟩:=h;simp only[fltF,List.mem_append]at hi⊢;rcases hi with hi|hi
   · refine .inl ?_
     have hx:fltB e x=true:=by
      cases hf:fltB e x
      · rw[hf]at hi;simp at hi
      rfl
     rw[if_pos hx]at hi
     have hy:fltB e y=true:=by
      simp only[fltB,Bool.and_eq_true,decide_eq_true_eq,Bool.not_eq_true']at hx⊢;refine⟨by rw[←h1];exact hx.1,?_⟩;cases hb:e.B (tlT e.J y.2.1 y.1.term y.2.2) e.W
      · rfl
      have hJ:=J_ok hn hM;have ty:=tlT_ok hJ y.2.1 y.1.term _ h7;have tx:=tlT_ok hJ x.2.1 y.1.term _ h4;rw[B_iff ty hW]at hb;have:=(B_iff tx hW).2 (L_trans hM tx ty hW (tlT_mono hn hM h5 h8 h2 y.1.term _ _ h4 h7 h3) hb);rw[h1,this]at hx;exact absurd hx.2 (by decide)
     rw[if_pos hy];exact hi
   exact .inr (flt_mono hn hM hW hr (k+1) i hi)
mutual
theorem lgS_mono (hn:0<e.n) (hM:Lt.Lat e.n e.M) (fu:Nat):∀(s:St) (pc pc':Int) (st st':List Int),okI e.n pc→okI e.n pc'→okV e.n st→okV e.n st'→fuel e st'.length fu→e.L pc pc'→LV e st st'→leE e (lgS e fu s pc st) (lgS e fu s pc' st')
 | .mk d c v n tm a b bs,pc,pc',st,st',hp,hp',ho,ho',hf,hpp,hs=>by
   have hJ:=J_ok hn hM;have ht:=tlT_mono hn hM ho ho' hs tm pc pc' hp hp' hpp;simp only[lgS];split
   · have hX0:=ouS_mono hn hM fu (.mk d c v n tm a b bs) pc pc' st st' hp hp' ho ho' hf hpp hs;simp only[ouS]at hX0;rw[if_pos (by assumption),if_pos (by assumption)]at hX0;obtain⟨x1,x2⟩:=fx_okN (fu:=fu) (tm:=tm) (a:=a) hJ hp ho;obtain⟨y1,y2⟩:=fx_okN (fu:=fu) (tm:=tm) (a:=a) hJ hp' ho';obtain⟨X,hX⟩:∃x,fxF e.J (fun s=>tlT e.J s tm pc) (ouL e fu a) fu st=x:=⟨_,rfl⟩;obtain⟨Y,hY⟩:∃x,fxF e.J (fun s=>tlT e.J s tm pc') (ouL e fu a) fu st'=x:=⟨_,rfl⟩;rw[hX]at x1 x2 hX0⊢;rw[hY]at y1 y2 hX0⊢;simp only[leE];exact⟨⟨trivial,hX0,hpp,⟨hp,x2,hX0.1⟩,hp',y2,rfl⟩,lgL_mono hn hM fu a _ _ X Y (tlT_ok hJ X tm pc hp) (tlT_ok hJ Y tm pc' hp') x2 y2 (by rw[y1];exact hf) (tlT_mono hn hM x2 y2 hX0 tm pc pc' hp hp' hpp) hX0⟩
   split
   · simp only[leE];have hl:=tlT_ok hJ st tm pc hp;have hl':=tlT_ok hJ st' tm pc' hp';exact⟨⟨trivial,hs,hpp,⟨hp,ho,hs.1⟩,hp',ho',rfl⟩,leE_app (lgL_mono hn hM fu a _ _ st st' hl hl' ho ho' hf ht hs) (lgL_mono hn hM fu b _ _ st st' hl hl' ho ho' hf ht hs)⟩
   simp only[leE];exact⟨⟨trivial,hs,hpp,⟨hp,ho,hs.1⟩,hp',ho',rfl⟩,trivial⟩
theorem lgL_mono (hn:0<e.n) (hM:Lt.Lat e.n e.M) (fu:Nat):∀(l:List St) (pc pc':Int) (st st':List Int),okI e.n pc→okI e.n pc'→okV e.n st→okV e.n st'→fuel e st'.length fu→e.L pc pc'→LV e st st'→leE e (lgL e fu l pc st) (lgL e fu l pc' st')
 |[],pc,pc',st,st',hp,hp',ho,ho',hf,hpp,hs=>by simp[lgL,leE]
 | s::l,pc,pc',st,st',hp,hp',ho,ho',hf,hpp,hs=>by
   have hJ:=J_ok hn hM;have h1:=ouS_ok hJ fu s pc st hp ho;have h2:=ouS_ok hJ fu s pc' st' hp' ho';simp only[lgL];exact leE_app (lgS_mono hn hM fu s pc pc' st st' hp hp' ho ho' hf hpp hs) (lgL_mono hn hM fu l pc pc' _ _ hp hp' h1.2 h2.2 (by rw[h2.1];exact hf) hpp (ouS_mono hn hM fu s pc pc' st st' hp hp' ho ho' hf hpp hs))
end
end
end Go.Proofs.YtfjidddhehckoaaGreat

namespace Go.Proofs.YtfjidddhehckoaaGreat
open Go Go.Hl
structure Gd0 (f:Fl) (p:Po):Prop where
 hp:polC p=0
 hc:codeC f=0
 hin:(pinF f p).1=f.vars.map (levV p)
 hhl:(phtF f p).1.length=f.hats.length
 hn:0<p.n
 hM:Lt.Lat p.n p.M
 h12:p.n≤12
 ho:okI p.n p.observer
theorem ask_gd {f:Fl} {p:Po} (h:askC f p=0):Gd0 f p:=by
 have h1:(pinF f p).2=0:=by
  unfold askC at h;split at h
  · rename_i h1;exact absurd h h1
  rename_i h1;simpa using h1
 have h2:(phtF f p).2=0:=by
  unfold askC at h;rw[if_neg (by rw[h1];simp)]at h;split at h
  · rename_i h2;exact absurd h h2
  rename_i h2;simpa using h2
 obtain⟨hp,hc,hi⟩:=pin_out h1;obtain⟨hM,hn,h12⟩:=pol_new hp;refine⟨hp,hc,hi,pht_out h2,hn,hM,h12,?_⟩;unfold polC at hp;split at hp
 · rename_i h;exact absurd hp h
 split at hp
 · cases hp
 split at hp
 · rename_i h;exact absurd hp h
 split at hp
 · rename_i h;exact absurd hp h
 split at hp
 · cases hp
 exact⟨by omega,by unfold Po.n;omega⟩
section
variable {f:Fl} {p:Po}
def s0F (f:Fl) (p:Po):List Int:=f.vars.map (levV p)
def ouE (f:Fl) (p:Po):List Int:=ouL (envF f p) (fuF f p) f.body p.bot (s0F f p)
def tmE (f:Fl) (p:Po):List Int:=tmL (envF f p) (fuF f p) f.body p.bot (s0F f p)
def lgE (f:Fl) (p:Po):List Ent:=lgL (envF f p) (fuF f p) f.body p.bot (s0F f p)
theorem tyR_lg (h:Gd0 f p):(tyR f p).1=ouE f p∧(tyR f p).2.time=(tmE f p).foldl (envF f p).J p.bot∧(tyR f p).2.faults=fltF (envF f p) 0 (lgE f p)∧(tyR f p).2.states=(lgE f p).map (·.2.1)∧(tyR f p).2.counts=(lgE f p).map (·.2.2):=by
 have hl:=tyL_lg (envF f p) (fuF f p) f.body p.bot (s0F f p) (t0F p);unfold tyR;rw[show(pinF f p).1=s0F f p from h.hin];refine⟨hl.out,hl.time,?_,?_,?_⟩
 · have:=hl.faults;simpa[t0F,lgE]using this
 · have:=hl.states;simpa[t0F,lgE]using this
 have:=hl.counts;simpa[t0F,lgE]using this
theorem s0_ok (h:Gd0 f p):okV p.n (s0F f p)∧(s0F f p).length=f.vars.length:=
 ⟨fun x hx=>by
  obtain⟨v,_,rfl⟩:=List.mem_map.1 hx
  exact lev_ok h.hp v,by simp[s0F]⟩
theorem env_J (h:Gd0 f p):∀a b,okI (envF f p).n ((envF f p).J a b):=J_ok (e:=envF f p) h.hn h.hM
theorem lgE_ok (h:Gd0 f p):∀x∈lgE f p,okE (envF f p) f.vars.length x:=by
 have:=lgL_ok (env_J h) (fuF f p) f.body p.bot (s0F f p) (bot_ok h.hp) (s0_ok h).1
 rwa [(s0_ok h).2]at this
theorem tmE_ok (h:Gd0 f p):okV (envF f p).n (tmE f p):=tmL_ok (env_J h) (fuF f p) f.body p.bot (s0F f p) (bot_ok h.hp) (s0_ok h).1
theorem tyE_out:(tyE f p).1=(tyR f p).1∧(tyE f p).2.faults=(tyR f p).2.faults∧(tyE f p).2.states=(tyR f p).2.states∧(tyE f p).2.counts=(tyR f p).2.counts∧(tyE f p).2.time=if setlB f=true then p.bot else(tyR f p).2.time:=by
 unfold tyE;split
 · exact⟨rfl,rfl,rfl,rfl,rfl⟩
 exact⟨rfl,rfl,rfl,rfl,rfl⟩
theorem time_ok (h:Gd0 f p):okI p.n (tyE f p).2.time:=by
 rw[tyE_out.2.2.2.2];split
 · exact bot_ok h.hp
 rw[(tyR_lg h).2.1];exact fold_ok (e:=envF f p) h.hn h.hM _ _ (bot_ok h.hp) (tmE_ok h)
theorem fltF_len (e:En):∀(l:List Ent) (k:Nat),(fltF e k l).length≤l.length
 |[],k=>Nat.le_refl _
 | x::l,k=>by
   have:=fltF_len e l (k+1);simp only[fltF,List.length_append,List.length_cons];split
   · simp only[List.length_singleton];omega
   simp only[List.length_nil];omega
theorem lgE_len (h:Gd0 f p):(lgE f p).length=szL f.body:=lgL_len (ssC_fr _ _ (code_split h.hc).2.2.2.1)
theorem fa_len (h:Gd0 f p):(tyE f p).2.faults.length≤nodesS f.body:=by
 rw[tyE_out.2.1,(tyR_lg h).2.2.1];have h1:=fltF_len (envF f p) (lgE f p) 0;have h2:=lgE_len h;have h3:=szL_le f.body;omega
theorem fin_len (h:Gd0 f p):(tyE f p).1.length=f.vars.length:=by
 rw[tyE_out.1,(tyR_lg h).1];unfold ouE;rw[(ouL_ok (env_J h) (fuF f p) f.body p.bot (s0F f p) (bot_ok h.hp) (s0_ok h).1).1,(s0_ok h).2]
end
end Go.Proofs.YtfjidddhehckoaaGreat

namespace Go.Proofs.YtfjidddhehckoaaGreat
open Go Go.Hl
section
variable {e:En}
def lowE (e:En) (st σ τ:List Int):Prop:=∀(i:Nat) (x:Int),st[i]? =some x→e.L x e.W→σ[i]? =τ[i]?
def okH (n:Nat) (hv:List Int):Prop:=∀x∈hv,x=-1∨okI n x
structure Fm (e:En) (vars:List Vr) (fu:Nat) (l:List St):Prop where
 wf:wfL vars e.hv.length l=true
 rel:relL e.hv l=true
variable {vars:List Vr} {fu:Nat}
end
end Go.Proofs.YtfjidddhehckoaaGreat

namespace Go.Proofs.YtfjidddhehckoaaGreat
open Go Go.Hl
section
variable {e:En}
structure Low (e:En) (K:Nat) (st:List Int) (S S':Sta):Prop where
 vals:lowE e st S.vals S'.vals
 outs:S.outs=S'.outs
 l1:S.vals.length=K
 l2:S'.vals.length=K
structure tmP (e:En) (ms:List Int) (l:List St) (S S':Sta):Prop where
 eq:S.time=S'.time
 h0:0≤S.time
 h1:S.time+BT l≤1000000000000
 hb:BT l≤67108864
 no:noS l=true
 ok:okL l=true
 lo:∀x∈ms,e.L x e.W
variable {vars:List Vr} {fu:Nat}
end
end Go.Proofs.YtfjidddhehckoaaGreat

namespace Go.Proofs.YtfjidddhehckoaaGreat
open Go Go.Hl
theorem bd_eqT {l:List St} (h:okL l=true) (hq:(bdL CR l ⟨0,0,0⟩).t≤67108864):(bdL CP l ⟨0,0,0⟩).t=(bdL CR l ⟨0,0,0⟩).t:=by
 have:=bdL_cut nnCR nnCP (by decide) l _ _ h (in3_0 nnCP) (in3_0 nnCR) rfl;unfold cut3 at this;simp only[B3.mk.injEq]at this;obtain⟨h1,h2,h3⟩:=this;generalize bdL CP l ⟨0,0,0⟩=p at*;generalize bdL CR l ⟨0,0,0⟩=q at*;unfold CR at h1 h2 h3;clear h1 h2;unfold mn at*;simp only at h3
 (repeat' split at h3)<;>omega
section
variable {f:Fl} {p:Po}
end
end Go.Proofs.YtfjidddhehckoaaGreat

namespace Go.Proofs.YtfjidddhehckoaaGreat
open Go Go.Hl
theorem hlF_ok {n:Nat} {nm:ByteArray}:∀(l:List Lb) (x:Int),(∀y∈l,okI n y.level)→(x=-1∨okI n x)→(hlF nm l x=-1∨okI n (hlF nm l x))
 |[],x,_,h=>h
 | y::l,x,hl,h=>by
   show hlF nm l (if nm=y.name then y.level else x)=-1∨okI n (hlF nm l (if nm=y.name then y.level else x));refine hlF_ok l _ (fun z hz=>hl z (List.mem_cons_of_mem _ hz)) ?_;split
   · exact .inr (hl y (List.mem_cons_self ..))
   exact h
section
variable {f:Fl} {p:Po}
theorem hv_okH (h:Gd0 f p):okH p.n (phtF f p).1:=by
 have e1:=htF_eq (hcs_nodup _ _ (code_split h.hc).2.2.1).2 p.hatches;unfold phtF;rw[if_neg (by rw[h.hp,h.hc];simp),e1];split
 · rename_i he;split at he
   · cases he
   intro x hx;cases hx
 rename_i r he;split at he
 · cases he;intro x hx;obtain⟨w,_,rfl⟩:=List.mem_map.1 hx;exact hlF_ok p.hatches (-1) (fun y hy=>labC_in _ _ (polC_lab h.hp).2 y hy) (.inl rfl)
 cases he
theorem ask_rel (h:askC f p=0):relL (phtF f p).1 f.body=true:=by
 unfold askC at h;split at h
 · rename_i h1;exact absurd h h1
 split at h
 · rename_i h1;exact absurd h h1
 split at h
 · assumption
 cases h
end
end Go.Proofs.YtfjidddhehckoaaGreat
