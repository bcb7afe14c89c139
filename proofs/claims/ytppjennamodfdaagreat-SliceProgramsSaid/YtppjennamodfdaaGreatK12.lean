/- Part 12: contracts of functions of the program and of the reference, and plain facts about what they compute; used by the proof of the claimed statement. Conditions: as each theorem states. -/
import Derived.Test.YtppjennamodfdaaGreatK11
import Derived.Test.YtppjennamodfdaaGreatK10
import Derived.Test.YtppjennamodfdaaGreatK6
import Derived.Test.YtppjennamodfdaaGreatK3
import Derived.Test.YtppjennamodfdaaGreatRows
set_option linter.unusedSimpArgs false
set_option linter.unusedVariables false
set_option linter.unnecessarySimpa false
set_option maxRecDepth 100000
set_option maxHeartbeats 2000000
namespace Go.Proofs.YtppjennamodfdaaGreat
open Go Go.Hl
set_option maxHeartbeats 16000000 in
theorem known_con (d:Nat):Con Tryz.prog 10 false [] (.v (lb true)) none d:=by
 have ce:=example_con;have cB:=backward_con exF exSm [4] (by decide);have cF:=forward_con exF exSm [0] (by decide);have cC:=chop_con exF exSm [0] [4] (by decide) (by decide);have cN:=needs_con exF exSm [5] (by decide);have cP:=program_con exF exSm [5] (by decide);have cL:=closed_con exF exSm [5] (by decide);rw[exAsk [4] (by decide),exBw]at cB;rw[exAsk [0] (by decide),exFw]at cF;rw[exAsk2 [0] [4] (by decide),exCh]at cC;rw[exAsk [5] (by decide),exNe]at cN;rw[exAsk [5] (by decide),exPg]at cP;rw[exAsk [5] (by decide),exCl]at cL;have e1:=eqSl_con [0,1,2,3,4] [0,1,2,3,4] (by decide) (by decide);have e2:=eqSl_con [0,2,3,4] [0,2,3,4] (by decide) (by decide);have e3:=eqSl_con [3] [3] (by decide) (by decide);have hw0:IntKind.i64.wrap 0=0:=by decide
 have hq1:room 1 8:=room_of (by decide) (by decide);have hq2:room 4 8:=room_of (by decide) (by decide);have hq3:room 5 8:=room_of (by decide) (by decide);rw[show slR 0 [0,1,2,3,4]=.tup [.one (.c (.sl 1 (encIs [0,1,2,3,4]))),li 0] from rfl]at cB;rw[show slR 0 [0,2,3,4]=.tup [.one (.c (.sl 1 (encIs [0,2,3,4]))),li 0] from rfl]at cF cC;simp only[exF,rfT,aF,aT,Fl.enc,Vr.enc,encVs,encHs,encIs,encSs,encTs,St.enc,Tm.enc,List.map_cons,List.map_nil,List.cons_append,List.nil_append,if_true,decide_true,Bool.and_true,lI]at ce cB cF cC cN cP cL e1 e2 e3;refine con_of_HTA Tryz.func10 ?_;simp only[Tryz.f10];refine HT_sA ?_;refine HT_scA [⟨false,.v (.agg [.c (.sl 5 [[sC ⟨#[120]⟩,iC 1,iC 0,iC 3,iC 0],[sC ⟨#[121]⟩,iC 0,iC 0,iC 3,iC 0],[sC ⟨#[122]⟩,iC 0,iC 0,iC 3,iC 0],[sC ⟨#[119]⟩,iC 0,iC 0,iC 3,iC 0]]),.c (.sl 6 []),.c (.sl 10 [[iC 0,iC 0,iC 1,iC 0,iC 24,iC 0,.sl 3 [],.sl 10 [],.sl 10 [],.sl 1 []],[iC 0,iC 0,iC 2,iC 0,iC 0,iC 2,.sl 3 [],.sl 10 [],.sl 10 [],.sl 1 []],[iC 3,iC 0,iC 0,iC 0,iC 24,iC 1,.sl 3 [],.sl 10 [[iC 0,iC 0,iC 2,iC 0,iC 0,iC 1,.sl 3 [],.sl 10 [],.sl 10 [],.sl 1 []]],.sl 10 [],.sl 1 []],[iC 1,iC 0,iC 0,iC 0,iC 24,iC 2,.sl 3 [],.sl 10 [],.sl 10 [],.sl 1 []],[iC 1,iC 0,iC 0,iC 0,iC 24,iC 3,.sl 3 [],.sl 10 [],.sl 10 [],.sl 1 []]])]),none⟩] ?_ ?_
 · first|exact ce _|exact trivial|simpa[*]using ce _
 refine HT_seq<|(HT_runF 2 [] [⟨false,.tup [.one (.c (.sl 1 [[iC 0],[iC 1],[iC 2],[iC 3],[iC 4]])),li 0],none⟩] (by simp[*];rfl) trivial (le_frz 17 rfl) (by simp[*];first|exact⟨rfl,Iff.rfl⟩|exact⟨rfl,trivial⟩|rfl) ?_ ?_)
 · first|exact cB _|simpa using cB _
 refine HT_seq<|(HT_runF 2 [] [⟨false,.tup [.one (.c (.sl 1 [[iC 0],[iC 2],[iC 3],[iC 4]])),li 0],none⟩] (by simp[*];rfl) trivial (le_frz 23 rfl) (by simp[*];first|exact⟨rfl,Iff.rfl⟩|exact⟨rfl,trivial⟩|rfl) ?_ ?_)
 · first|exact cF _|simpa using cF _
 refine HT_seq<|(HT_runF 3 [] [⟨false,.tup [.one (.c (.sl 1 [[iC 0],[iC 2],[iC 3],[iC 4]])),li 0],none⟩] (by simp[*];rfl) trivial (le_trans (le_frz 29 rfl) (le_frz 30 rfl)) (by simp[*];first|exact⟨rfl,Iff.rfl⟩|exact⟨rfl,trivial⟩|rfl) ?_ ?_)
 · first|exact cC _|simpa using cC _
 refine HT_seq<|(HT_runF 2 [] [⟨false,.tup [.one (.c (.sl 1 [[iC 3]])),li 0],none⟩] (by simp[*];rfl) trivial (le_frz 36 rfl) (by simp[*];first|exact⟨rfl,Iff.rfl⟩|exact⟨rfl,trivial⟩|rfl) ?_ ?_)
 · first|exact cN _|simpa using cN _
 refine HT_seq<|(HT_runF 2 [] [⟨false,.tup [.agg [.c (.sl 5 [[sC ⟨#[120]⟩,iC 1,iC 0,iC 3,iC 0],[sC ⟨#[121]⟩,iC 0,iC 0,iC 3,iC 0],[sC ⟨#[122]⟩,iC 0,iC 0,iC 3,iC 0],[sC ⟨#[119]⟩,iC 0,iC 0,iC 3,iC 0]]),.c (.sl 6 []),.c (.sl 10 [[iC 1,iC 0,iC 0,iC 0,iC 24,iC 3,.sl 3 [],.sl 10 [],.sl 10 [],.sl 1 []]])],li 0],none⟩] (by simp[*];rfl) trivial (le_frz 42 rfl) (by simp[*,allTyped,fillC,placeOf,cellsOf,dataOf];first|exact⟨rfl,Iff.rfl⟩|exact⟨rfl,trivial⟩|rfl) ?_ ?_)
 · first|exact cP _|simpa using cP _
 refine HT_seq<|(HT_runF 2 [] [⟨false,.tup [lb true,li 0],none⟩] (by simp[*];rfl) trivial (le_frz 48 rfl) (by simp[*];first|exact⟨rfl,Iff.rfl⟩|exact⟨rfl,trivial⟩|rfl) ?_ ?_)
 · first|exact cL _|simpa using cL _
 refine HT_scA [⟨true,.v (lb true),none⟩,⟨true,.v (lb true),none⟩,⟨true,.v (lb true),none⟩,⟨true,.v (lb true),none⟩] ?_ ?_
 · first|exact⟨e1 _,e2 _,e2 _,e3 _⟩|exact trivial|(repeat' first|exact trivial|exact e1 _|exact e2 _|exact e2 _|exact e3 _|apply And.intro)
 exact HT_rA
end Go.Proofs.YtppjennamodfdaaGreat

namespace Go.Proofs.YtppjennamodfdaaGreat
open Go Go.Hl
mutual
def tL:Tm→Int→Int
 | .mk _ _ ks,left=>tLs ks (left - 1)
def tLs:List Tm→Int→Int
 |[],left=>left
 |t::l,left=>if 0≤left then tLs l (tL t left)else left
end
def lo1 (x:Int):Int:=if x<0 then x else -1
mutual
theorem tL_in:∀(t:Tm) (left:Int),lo1 (left - 1)≤tL t left∧tL t left≤left - 1
 | .mk _ _ ks,left=>by
   simp only[tL];exact tLs_in ks (left - 1)
theorem tLs_in:∀(l:List Tm) (left:Int),lo1 left≤tLs l left∧tLs l left≤left
 | [],left=>by
   simp only[tLs,lo1];split<;>omega
 | t ::l,left=>by
   simp only[tLs];split
   · have h1:=tL_in t left;have h2:=tLs_in l (tL t left);unfold lo1 at*;refine⟨?_,by omega⟩;split
     · omega
     refine Int.le_trans ?_ h2.1;split<;>(try split at h1)<;>omega
   unfold lo1;split<;>omega
end
theorem tLs_neg (l:List Tm) (left:Int) (h:left<0):tLs l left=left:=by
 cases l with
 |nil=>rfl
 |cons t l=>simp only[tLs];rw[if_neg (by omega)]
mutual
theorem tL_pos:∀(t:Tm) (left:Int),0≤tL t left→tL t left=left - t.nodes
 | .mk _ _ ks,left=>by
   simp only[tL,Tm.nodes];intro h;have:=tLs_pos ks (left - 1) h;omega
theorem tLs_pos:∀(l:List Tm) (left:Int),0≤tLs l left→tLs l left=left - nodesT l
 |[],left=>by simp[tLs,nodesT]
 | t::l,left=>by
   simp only[tLs,nodesT];split
   · intro h;have h1:=tLs_pos l (tL t left) h;have h2:=tLs_in l (tL t left);have h3:=tL_pos t left (by omega);omega
   intro h;omega
end
def sL:List St→Int→Int
 |[],left=>left
 | .mk _ _ _ _ t a b bs::l,left=>
   if 0≤left then(if tL t (left - 1)<bs.length then -1 else sL l (sL b (sL a (tL t (left - 1) - bs.length))))else left
theorem sL_neg (l:List St) (left:Int) (h:left<0):sL l left=left:=by
 cases l with
 |nil=>simp[sL]
 |cons s l=>obtain⟨d,c,v,n,t,a,b,bs⟩:=s;simp only[sL];rw[if_neg (by omega)]
theorem sL_in:∀(l:List St) (left:Int),lo1 left≤sL l left∧sL l left≤left
 | [],left=>by
   simp only[sL,lo1];split<;>omega
 | .mk _ _ _ _ t a b bs::l,left=>by
   simp only[sL];by_cases h0:0≤left
   · rw[if_pos h0];have e:lo1 left=-1:=by unfold lo1;rw[if_neg (by omega)]
     rw[e];split
     · omega
     have h1:=tL_in t (left - 1);have ha:=sL_in a (tL t (left - 1) - bs.length);have hb:=sL_in b (sL a (tL t (left - 1) - bs.length));have hl:=sL_in l (sL b (sL a (tL t (left - 1) - bs.length)));refine⟨?_,by omega⟩;generalize sL l (sL b (sL a (tL t (left - 1) - bs.length)))=z at*;generalize sL b (sL a (tL t (left - 1) - bs.length))=y at*;generalize sL a (tL t (left - 1) - bs.length)=x at*;generalize tL t (left - 1)=w at*;unfold lo1 at ha hb hl
     (repeat' split at ha)<;>(repeat' split at hb)<;>(repeat' split at hl)<;>omega
   rw[if_neg h0];unfold lo1;split<;>omega
theorem sL_pos:∀(l:List St) (left:Int),left≤1000000→0≤sL l left→sL l left≤left - nodesS l∧bndL l=true
 |[],left,_,_=>by simp[sL,nodesS,bndL]
 | .mk _ _ _ _ t a b bs::l,left,hle,h=>by
   simp only[sL]at h⊢;by_cases h0:0≤left
   · rw[if_pos h0]at h⊢;split at h
     · omega
     rename_i hbs;rw[if_neg hbs];have i0:=tL_in t (left - 1);have ia:=sL_in a (tL t (left - 1) - bs.length);have ib:=sL_in b (sL a (tL t (left - 1) - bs.length));have il:=sL_in l (sL b (sL a (tL t (left - 1) - bs.length)));have p3:=sL_pos l (sL b (sL a (tL t (left - 1) - bs.length))) (by omega) h;have p2:=sL_pos b (sL a (tL t (left - 1) - bs.length)) (by omega) (by omega);have p1:=sL_pos a (tL t (left - 1) - bs.length) (by omega) (by omega);have p0:=tL_pos t (left - 1) (by omega);simp only[nodesS,St.nodes,bndL,bndS,p1.2,p2.2,p3.2,Bool.and_true,decide_eq_true_eq];omega
   rw[if_neg h0]at h;omega
def hL:List Ht→Int→Int
 |[],m=>m
 |h::l,m=>hL l (tL h.term m)
theorem hL_le:∀(l:List Ht) (m:Int),hL l m≤m
 |[],m=>by simp[hL]
 | h::l,m=>by
   have h1:=hL_le l (tL h.term m);have h2:=tL_in h.term m;simp only[hL];omega
theorem hL_pos:∀(l:List Ht) (m:Int),0≤hL l m→hL l m=m - nodesH l
 |[],m,_=>by simp[hL,nodesH]
 | h::l,m,h0=>by
   simp only[hL,nodesH]at h0⊢;have h1:=hL_pos l _ h0;have h2:=hL_le l (tL h.term m);have h3:=tL_pos h.term m (by omega);omega
def fewB (f:Fl) (vars nodes:Int):Bool:=if vars<f.vars.length∨vars<f.hats.length then false else decide (0≤hL f.hats (sL f.body nodes))
theorem fewB_in {f:Fl} {vars nodes:Int} (hn:nodes≤1000000) (h:fewB f vars nodes=true):f.vars.length≤vars∧f.hats.length≤vars∧nodesS f.body+nodesH f.hats≤nodes∧bndL f.body=true:=by
 unfold fewB at h;split at h
 · cases h
 rename_i h1;simp only[decide_eq_true_eq]at h;have e1:=hL_pos _ _ h;have e2:=hL_le f.hats (sL f.body nodes);have e3:=sL_pos f.body nodes hn (by omega);exact⟨by omega,by omega,by omega,e3.2⟩
theorem tleft_con (t:Tm):∀left:Int,-1000000≤left→left≤1000000→∀d:Nat,Con Tryz.prog 78 true [aT t,li left] (.v (li (tL t left))) none d:=by
 induction t using Tm.ind with
 |h o n ks ih=>
 intro left h1 h2 d;obtain⟨res,hres⟩:∃r,tL (.mk o n ks) left=r:=⟨_,rfl⟩;rw[hres];simp only[tL]at hres;have hw0:IntKind.i64.wrap (left - 1)=left - 1:=wrap_in (by omega) (by omega);refine con_of_HTA Tryz.func78 ?_;simp only[Tryz.f78];simp only[aT,Tm.enc];refine HT_sA ?_;refine HT_sA ?_;refine HT_seq<|HT_seq<|HT_runA ?_;refine HT_block<|(HT_loopU [2] (fun(x:Nat×Int)=>[(1,.v (li x.2)),(5,.v (li x.1))]) (fun x=>[(2,.box [.c (iC o),.c (iC n),.c (.sl 3 (encTs ks))])]) (fun x=>x.1≤ks.length∧tLs (ks.drop x.1) x.2=res∧-1000001≤x.2∧x.2+x.1≤1000000) (fun x=>ks.length - x.1) (0,left - 1) ⟨Nat.zero_le _,by simpa using hres,by simp only;omega,by simp only;omega⟩ ?_ ?_)
 · exact le_mkA (fun n=>n) []
 rintro⟨k,m⟩ ⟨hk,hJ,hm,hm2⟩;simp only[upS,keepS,insS]
 try simp only[keepS,KN,Nat.reduceBEq,if_true,if_false,ins,Nat.reduceLT]
 simp only at hk hJ hm hm2;refine HT_seq<|HT_seq<|HT_runA ?_;refine(HT_cond rfl (fun h5=>HT_skip ?_) (fun h5=>?_))
 · (try simp only[BN]at h5);have hlt:k<ks.length:=by omega
   have hm0:0≤m:=by omega
   obtain⟨⟨eo,en,ek⟩,he,hd⟩:=at_lt hlt;have he':=get_encT he;simp only[Tm.enc]at he';have hw1:IntKind.i64.wrap ((k:Int)+1)=(k:Int)+1:=wrap_in (by omega) (by omega);rw[hd]at hJ;simp only[tLs]at hJ;rw[if_pos hm0]at hJ;have hk1:k+1≤ks.length:=hlt;have c:=ih _ (List.mem_of_getElem? he) m (by omega) (by omega);have hti:=tL_in (.mk eo en ek) m;have hlo:-1≤lo1 (m - 1):=by unfold lo1;split<;>omega
   obtain⟨M,hM⟩:∃x,tL (.mk eo en ek) m=x:=⟨_,rfl⟩;rw[hM]at c hJ hti;clear hlt h5 hM ih hd;refine HT_seq<|HT_block<|(HT_runcA [⟨true,.v (li M),none⟩] ?_ ?_)
   · first|exact c _|exact trivial|simpa[*]using c _
   refine HT_runA ?_;exact⟨(k+1,M),⟨hk1,hJ,by simp only;omega,by simp only;omega⟩,by simp only;omega,le_mkA (fun n=>n) []⟩
 try simp only[BN]at h5
 have hz:tLs (ks.drop k) m=m:=by
  by_cases hm0:m<0
  · exact tLs_neg _ _ hm0
  have hkl:k=ks.length:=by omega
  rw[hkl,List.drop_length];rfl
 rw[hz]at hJ;subst hJ;refine(HT_exit ?_);refine HT_sA ?_;exact HT_rA
theorem sleft_con (l:List St):∀left:Int,-1000000≤left→left≤1000000→∀d:Nat,Con Tryz.prog 77 true [lS l,li left] (.v (li (sL l left))) none d:=by
 revert l
 apply St.lists;intro l ih left h1 h2 d;obtain⟨res,hres⟩:∃r,sL l left=r:=⟨_,rfl⟩;rw[hres];refine con_of_HTA Tryz.func77 ?_;simp only[Tryz.f77];refine HT_sA ?_;refine HT_seq<|HT_seq<|HT_runA ?_;refine HT_block<|(HT_loopU [0] (fun(x:Nat×Int)=>[(1,.v (li x.2)),(5,.v (li x.1))]) (fun x=>[]) (fun x=>x.1≤l.length∧sL (l.drop x.1) x.2=res∧-1000001≤x.2∧x.2+x.1≤1000000) (fun x=>l.length - x.1) (0,left) ⟨Nat.zero_le _,hres,by simp only;omega,by simp only;omega⟩ ?_ ?_)
 · exact le_mkA (fun n=>n) []
 rintro⟨k,m⟩ ⟨hk,hJ,hm,hm2⟩;simp only[upS,keepS,insS]
 try simp only[keepS,KN,Nat.reduceBEq,if_true,if_false,ins,Nat.reduceLT]
 simp only at hk hJ hm hm2;clear hres;refine HT_seq<|HT_seq<|HT_runA ?_;refine(HT_cond rfl (fun h4=>HT_skip ?_) (fun h4=>?_))
 · (try simp only[BN]at h4);have hlt:k<l.length:=by omega
   have hm0:0≤m:=by omega
   obtain⟨s,he,hd⟩:=at_lt hlt;have hmem:s∈l:=List.mem_of_getElem? he;have iha:=(ih s hmem).1;have ihb:=(ih s hmem).2;have hw1:IntKind.i64.wrap ((k:Int)+1)=(k:Int)+1:=wrap_in (by omega) (by omega);have hk1:k+1≤l.length:=hlt;have he':=get_encS he;obtain⟨sd,sc,sv,sn,⟨so,stn,sks⟩,sa,sb,sbs⟩:=s;simp only[St.then_,St.else_]at iha ihb;simp only[St.enc,Tm.enc,List.cons_append,List.nil_append]at he';rw[hd]at hJ;simp only[sL]at hJ;rw[if_pos hm0]at hJ;have hw2:IntKind.i64.wrap (m - 1)=m - 1:=wrap_in (by omega) (by omega);have c:=tleft_con (.mk so stn sks) (m - 1) (by omega) (by omega);have hti:=tL_in (.mk so stn sks) (m - 1);have hlo:-2≤lo1 (m - 1 - 1):=by unfold lo1;split<;>omega
   obtain⟨M,hM⟩:∃x,tL (.mk so stn sks) (m - 1)=x:=⟨_,rfl⟩;rw[hM]at c hJ hti;simp only[aT,Tm.enc,List.map_cons,List.map_nil]at c;clear hlt h4 hM ih hd hmem;refine HT_seq<|HT_block<|HT_seq<|(HT_runcA [⟨true,.v (li M),none⟩] ?_ ?_)
   · first|exact c _|exact trivial|simpa[*]using c _
   refine HT_seq<|HT_seq<|HT_runA ?_;refine(HT_cs rfl (fun h7=>?_) fun h7=>?_)
   · (try simp only[BN]at h7);rw[if_pos h7]at hJ;subst hJ;refine HT_sA ?_;exact HT_rA
   (try simp only[BN]at h7);rw[if_neg (by omega)]at hJ;have hw3:IntKind.i64.wrap (M - (sbs.length:Int))=M - (sbs.length:Int):=wrap_in (by omega) (by omega);have c1:=iha (M - sbs.length) (by omega) (by omega);have s1:=sL_in sa (M - sbs.length);have hl1:-1≤lo1 (M - sbs.length):=by unfold lo1;split<;>omega
   obtain⟨M1,hM1⟩:∃x,sL sa (M - sbs.length)=x:=⟨_,rfl⟩;rw[hM1]at c1 s1 hJ;have c2:=ihb M1 (by omega) (by omega);have s2:=sL_in sb M1;have hl2:-1≤lo1 M1:=by unfold lo1;split<;>omega
   obtain⟨M2,hM2⟩:∃x,sL sb M1=x:=⟨_,rfl⟩;rw[hM2]at c2 s2 hJ;clear iha ihb hM1 hM2 h7 c;refine(HT_drunc [⟨true,.v (li M1),none⟩,⟨true,.v (li M2),none⟩] (by kernel_rfl) (by kernel_rfl) (by rfl) (by simp[*];first|exact⟨rfl,Iff.rfl⟩|exact⟨rfl,trivial⟩|rfl) ?_ ?_)
   · first|exact⟨c1 _,c2 _⟩|exact trivial|(repeat' first|exact trivial|exact c1 _|exact c2 _|apply And.intro)
   refine HT_runA ?_;exact⟨(k+1,M2),⟨hk1,hJ,by simp only;omega,by simp only;omega⟩,by simp only;omega,le_mkA (fun n=>n) []⟩
 try simp only[BN]at h4
 have hz:sL (l.drop k) m=m:=by
  by_cases hm0:m<0
  · exact sL_neg _ _ hm0
  have hkl:k=l.length:=by omega
  rw[hkl,List.drop_length];simp[sL]
 rw[hz]at hJ;subst hJ;refine(HT_exit ?_);refine HT_sA ?_;exact HT_rA
theorem few_con (f:Fl) (vars nodes:Int) (hv:0≤vars∧vars≤1000) (hn:0≤nodes∧nodes≤1000) (d:Nat):Con Tryz.prog 41 true [aF f,li vars,li nodes] (.v (lb (fewB f vars nodes))) none d:=by
 obtain⟨vs,hats,body⟩:=f;obtain⟨res,hres⟩:∃r,fewB ⟨vs,hats,body⟩ vars nodes=r:=⟨_,rfl⟩;rw[hres];unfold fewB at hres;simp only at hres;have cs:=sleft_con body nodes (by omega) (by omega);have hsi:=sL_in body nodes;have hlo:-2≤lo1 nodes:=by unfold lo1;split<;>omega
 obtain⟨S,hS⟩:∃x,sL body nodes=x:=⟨_,rfl⟩;rw[hS]at hres cs hsi;clear hS;refine con_of_HTA Tryz.func41 ?_;simp only[Tryz.f41];simp only[aF,Fl.enc,List.map_cons,List.map_nil];refine HT_sA ?_;refine HT_seq<|HT_seq<|HT_runA ?_;refine(HT_cs rfl (fun h2=>?_) fun h2=>?_)
 · (try simp only[BN]at h2);rw[if_pos (by omega)]at hres;subst hres;refine HT_sA ?_;exact HT_rA
 (try simp only[BN]at h2);rw[if_neg (by omega)]at hres;obtain⟨E,hE⟩:∃x,hL hats S=x:=⟨_,rfl⟩;rw[hE]at hres;refine HT_scA [⟨true,.v (li S),none⟩] ?_ ?_
 · first|exact cs _|exact trivial|simpa[*]using cs _
 refine HT_seq<|HT_seq<|HT_runA ?_;refine HT_block<|(HT_loopU [27,28] (fun(x:Nat×Int)=>[(7,.v (li x.2)),(29,.v (li x.1))]) (fun x=>[]) (fun x=>x.1≤hats.length∧hL (hats.drop x.1) x.2=E∧-2 - (x.1:Int)≤x.2∧x.2≤1000) (fun x=>hats.length - x.1) (0,S) ⟨Nat.zero_le _,hE,by simp only;omega,by simp only;omega⟩ ?_ ?_)
 · exact le_mkA (fun n=>n) []
 rintro⟨k,m⟩ ⟨hk,hJ,hm,hm2⟩;simp only[upS,keepS,insS]
 try simp only[keepS,KN,Nat.reduceBEq,if_true,if_false,ins,Nat.reduceLT]
 simp only at hk hJ hm hm2;clear hE;refine HT_sA ?_;refine HT_seq<|(HT_cond rfl (fun h9=>HT_skip ?_) (fun h9=>?_))
 · (try simp only[BN]at h9);have hlt:k<hats.length:=by omega
   obtain⟨h,he,hd⟩:=at_lt hlt;have hw1:IntKind.i64.wrap ((k:Int)+1)=(k:Int)+1:=wrap_in (by omega) (by omega);have hk1:k+1≤hats.length:=hlt;have c:=tleft_con h.term m (by omega) (by omega);have hti:=tL_in h.term m;have hl1:-3 - (k:Int)≤lo1 (m - 1):=by unfold lo1;split<;>omega
   rw[hd]at hJ;simp only[hL]at hJ;obtain⟨nm,lo,hi,⟨o,tn,ks⟩⟩:=h;simp only at c hti hJ;obtain⟨M,hM⟩:∃x,tL (.mk o tn ks) m=x:=⟨_,rfl⟩;rw[hM]at c hJ hti;simp only[aT,Tm.enc,List.map_cons,List.map_nil]at c;clear hlt h9 hM hd;refine HT_seq<|HT_block<|HT_seq<|HT_runA ?_;refine(HT_runcA [⟨true,.v (li M),none⟩] ?_ ?_)
   · first|exact c _|exact trivial|simpa[*]using c _
   refine HT_runA ?_;exact⟨(k+1,M),⟨hk1,hJ,by simp only;omega,by simp only;omega⟩,by simp only;omega,le_mkA (fun n=>n) []⟩
 (try simp only[BN]at h9);have hkl:k=hats.length:=by omega
 rw[hkl,List.drop_length]at hJ;simp only[hL]at hJ;subst hJ;subst hres;refine(HT_exit ?_);refine HT_sA ?_;exact HT_rA
end Go.Proofs.YtppjennamodfdaaGreat

namespace Go.Proofs.YtppjennamodfdaaGreat
open Go Go.Hl
def ofK (vars:List Vr) (kind:Int):List Vr:=vars.filter fun v=>decide (v.kind=kind)
theorem ofK_good {vars:List Vr} (h:goodV' vars) (kind:Int):goodV' (ofK vars kind):=fun v hv=>h v (List.mem_filter.1 hv).1
theorem ofK_len (vars:List Vr) (kind:Int):(ofK vars kind).length≤vars.length:=List.length_filter_le _ _
theorem of13_con (vars:List Vr) (kind:Int) (hl:vars.length≤1000000) (d:Nat):Con Tryz.prog 121 false [lV vars,li kind] (.v (lV (ofK vars kind))) none d:=by
 obtain⟨S,hS⟩:∃S,ofK vars kind=S:=⟨_,rfl⟩;rw[hS];unfold ofK at hS;refine con_of_HTA Tryz.func121 ?_;simp only[Tryz.f121];refine HT_sA ?_;refine HT_sA ?_;refine HT_seq<|HT_seq<|HT_runA ?_;refine HT_block<|(HT_loopU [0,1] (fun(x:Nat×List Vr)=>[(5,.v (.one (.own 1005))),(6,.v (li x.1))]) (fun x=>[(1005,.row 64 5 (encVs x.2))]) (fun x=>x.1≤vars.length∧x.2=(vars.take x.1).filter fun v=>decide (v.kind=kind)) (fun x=>vars.length - x.1) (0,[]) ⟨Nat.zero_le _,by simp⟩ ?_ ?_)
 · exact le_mkA (fun n=>if n=1005 then 7 else n) []
 rintro⟨k,acc⟩ ⟨hk,hJ⟩;simp only[upS,keepS,insS]
 try simp only[keepS,KN,Nat.reduceBEq,if_true,if_false,ins,Nat.reduceLT]
 simp only at hk hJ;replace hJ:=hJ.symm;refine HT_seq<|HT_seq<|HT_runA ?_;refine(HT_cond rfl (fun h5=>HT_skip ?_) (fun h5=>?_))
 · (try simp only[BN]at h5);have hlt:k<vars.length:=by omega
   obtain⟨v,he,hd⟩:=at_lt hlt;have hw1:=wrap1 hlt (by omega);have hk1:k+1≤vars.length:=hlt;have ht:=take_snoc he;generalize hT:(vars.take k).filter (fun v=>decide (v.kind=kind))=T at hJ
   have hal:acc.length≤k:=by
    rw[←hJ,←hT];exact Nat.le_trans (List.length_filter_le _ _) (by rw[List.length_take];omega)
   have hroom:room (acc.length+1) 48:=room_of (by omega) (by omega);clear hlt h5 hS;refine HT_seq<|HT_block<|HT_seq<|HT_runA ?_;refine(HT_cs rfl (fun h7=>?_) fun h7=>?_)
   · (try simp only[BN]at h7);have hf:(vars.take (k+1)).filter (fun v=>decide (v.kind=kind))=acc++[v]:=by rw[ht,List.filter_append,hT,hJ,List.filter_cons_of_pos (by simpa using h7)];simp
     refine HT_runA ?_;refine HT_runA ?_;exact⟨(k+1,acc++[v]),⟨hk1,hf.symm⟩,by simp only;omega,le_mkA (fun n=>if n=1005 then 27 else n) []⟩
   (try simp only[BN]at h7);have hf:(vars.take (k+1)).filter (fun v=>decide (v.kind=kind))=acc:=by rw[ht,List.filter_append,hT,hJ,List.filter_cons_of_neg (by simpa using h7)];simp
   refine HT_runA ?_;exact⟨(k+1,acc),⟨hk1,hf.symm⟩,by simp only;omega,le_mkA (fun n=>n) []⟩
 (try simp only[BN]at h5);have hkl:k=vars.length:=by omega
 rw[hkl,List.take_length,hS]at hJ;subst hJ;clear hS;refine(HT_exit ?_);refine HT_sA ?_;exact HT_ret ⟨.inr rfl,_,le_frz 1005 rfl,⟨⟨_,by simp;rfl,by simp[resR]⟩,by simp,fun h=>by cases h⟩⟩
theorem space13_con (vars:List Vr) (kind:Int) (hkd:1≤kind∧kind≤3) (hv:goodV' vars) (hl:vars.length≤1000000) (hs:spc vars kind≤4096) (d:Nat):
  Con Tryz.prog 79 true [lV vars,li kind] (.tup [li (spc vars kind),li 0]) none d:=by
 have co:=of13_con vars kind hl;have hg:=ofK_good hv kind;have hn:=ofK_len vars kind;unfold spc at*;change prV (ofK vars kind) 1≤4096 at hs;change Con _ _ _ _ (.tup [li (prV (ofK vars kind) 1),li 0]) _ _;obtain⟨res,hres⟩:∃r,prV (ofK vars kind) 1=r:=⟨_,rfl⟩;rw[hres]at hs⊢;obtain⟨S,hS⟩:∃S,ofK vars kind=S:=⟨_,rfl⟩;rw[hS]at co hg hn hres;clear hS hv;refine con_of_HTA Tryz.func79 ?_;simp only[Tryz.f79];refine HT_sA ?_;refine HT_seq<|HT_seq<|HT_runA ?_;refine(HT_cs rfl (fun h2=>?_) fun h2=>?_)
 · exfalso;simp at h2;omega
 (try simp only[BN]at h2);refine HT_scA [⟨false,.v (lV S),none⟩] ?_ ?_
 · first|exact co _|exact trivial|simpa[*]using co _
 refine HT_seq<|HT_seq<|HT_runA ?_;refine HT_block<|(HT_loopU [6] (fun(x:Nat)=>[(7,.v (li x))]) (fun x=>[]) (fun x=>x≤S.length) (fun x=>S.length - x) (0:Nat) (Nat.zero_le _) ?_ ?_)
 · exact le_mkA (fun n=>n) []
 rintro k hk;simp only[upS,keepS,insS]
 try simp only[keepS,KN,Nat.reduceBEq,if_true,if_false,ins,Nat.reduceLT]
 clear co;refine HT_seq<|HT_seq<|HT_runA ?_;refine(HT_cond rfl (fun h9=>HT_skip ?_) (fun h9=>?_))
 · (try simp only[BN]at h9);have hlt:k<S.length:=by omega
   obtain⟨v,he,hd⟩:=at_lt hlt;have hw1:=wrap1 hlt (by omega);have hk1:k+1≤S.length:=hlt;have hb:=hg v (List.mem_of_getElem? he);clear hlt h9 hg hres;refine HT_seq<|HT_block<|HT_seq<|(HT_drun (by kernel_rfl) (by kernel_rfl) (by rfl) (by simp[*];rfl) ?_);refine(HT_cs rfl (fun h11=>?_) fun h11=>?_)
   · exfalso;simp at h11;omega
   (try simp only[BN]at h11);refine HT_runA ?_;exact⟨k+1,hk1,by omega,le_mkA (fun n=>n) []⟩
 (try simp only[BN]at h9);clear h9 hk;refine(HT_exit ?_);refine HT_sA ?_;refine HT_seq<|HT_seq<|HT_runA ?_;refine HT_block<|(HT_loopU [6] (fun(x:Nat×Int)=>[(8,.v (li x.2)),(9,.v (li x.1))]) (fun x=>[]) (fun x=>x.1≤S.length∧prV (S.drop x.1) x.2=res∧1≤x.2∧x.2≤4096) (fun x=>S.length - x.1) (0,1) ⟨Nat.zero_le _,hres,by decide,by decide⟩ ?_ ?_)
 · exact le_mkA (fun n=>n) []
 rintro⟨k,n⟩ ⟨hk,hJ,hn1,hn2⟩;simp only[upS,keepS,insS]
 try simp only[keepS,KN,Nat.reduceBEq,if_true,if_false,ins,Nat.reduceLT]
 simp only at hk hJ hn1 hn2;clear hres;refine HT_seq<|HT_seq<|HT_runA ?_;refine(HT_cond rfl (fun h20=>HT_skip ?_) (fun h20=>?_))
 · (try simp only[BN]at h20);have hlt:k<S.length:=by omega
   obtain⟨v,he,hd⟩:=at_lt hlt;have hw1:=wrap1 hlt (by omega);have hk1:k+1≤S.length:=hlt;have hmem:v∈S:=List.mem_of_getElem? he;have hsz:=sz_in hg hmem;have hm:=mul_in ⟨hn1,hn2⟩ hsz;have hb:=hg v hmem;have hw2:IntKind.i64.wrap (v.high - v.low)=v.high - v.low:=wrap_in (by omega) (by omega);have hw3:IntKind.i64.wrap (v.high - v.low+1)=sz v:=by rw[wrap_in (by omega) (by omega)];rfl
   have hw4:IntKind.i64.wrap (n*sz v)=n*sz v:=wrap_in (by omega) (by omega);rw[hd]at hJ;simp only[prV]at hJ;clear hlt h20 hg;refine HT_seq<|HT_block<|HT_seq<|(HT_drun (by kernel_rfl) (by kernel_rfl) (by rfl) (by simp[*];rfl) ?_);refine HT_sA ?_;refine(HT_cs rfl (fun h23=>?_) fun h23=>?_)
   · exfalso;rw[if_pos (by simpa using h23)]at hJ;omega
   (try simp only[BN]at h23);rw[if_neg (by simpa using h23)]at hJ;refine HT_runA ?_;exact⟨(k+1,n*sz v),⟨hk1,hJ,hm.1,by simp only;omega⟩,by simp only;omega,le_mkA (fun n=>n) []⟩
 (try simp only[BN]at h20);have hkl:k=S.length:=by omega
 rw[hkl,List.drop_length]at hJ;simp only[prV]at hJ;subst hJ;refine(HT_exit ?_);refine HT_sA ?_;exact HT_rA
end Go.Proofs.YtppjennamodfdaaGreat

namespace Go.Proofs.YtppjennamodfdaaGreat
open Go Go.Hl
def Inp.enc (i:Inp):List CD:=[.sl 1 (encIs i.s),.sl 1 (encIs i.p),.sl 1 (encIs i.r)]
def encNms (l:List Inp):List (List CD):=l.map Inp.enc
@[simp] theorem encNms_app (a b:List Inp):encNms (a++b)=encNms a++encNms b:=by simp[encNms]
@[simp] theorem encNms_len (l:List Inp):(encNms l).length=l.length:=by simp[encNms]
@[simp] theorem get_encNm (l:List Inp) (i:Nat):(encNms l)[i]? =l[i]?.map Inp.enc:=by simp[encNms]
end Go.Proofs.YtppjennamodfdaaGreat

namespace Go.Proofs.YtppjennamodfdaaGreat
open Go Go.Hl
theorem varsC_spc {vars:List Vr} (h:varsC vars=0):∀k,1≤k→k≤3→spc vars k≤4096:=by
 intro k h1 h2;unfold varsC at h;split at h
 · split at h
   · cases h
   rename_i hb;simp only[List.any_cons,List.any_nil,Bool.or_false,Bool.or_eq_true,badK,decide_eq_true_eq,not_or]at hb;have:k=1∨k=2∨k=3:=by omega
   rcases this with rfl|rfl|rfl<;>omega
 rename_i h0;exact absurd h h0
def fitB (f:Fl) (a b c:Int):Bool:=fewB f 10 80&&(decide (codeC f=0)&&(((decide (spc f.vars 1≤a)&&decide (spc f.vars 2≤b))&&decide (spc f.vars 3≤c))&&decide ((bdL CR f.body ⟨0,0,0⟩).s≤400)))
theorem fit17_con (f:Fl) (a b c:Int) (d:Nat):Con Tryz.prog 42 true [aF f,li a,li b,li c] (.v (lb (fitB f a b c))) none d:=by
 have cf:=few_con f 10 80 (by decide) (by decide)
 have hin:fewB f 10 80=true→f.vars.length≤1000000∧f.hats.length≤1000000∧nodesS f.body+nodesH f.hats≤80∧bndL f.body=true:=by
  intro h;have:=fewB_in (nodes:=80) (by decide) h;exact⟨by omega,by omega,by omega,this.2.2.2⟩
 have hcc:fewB f 10 80=true→∀d,Con Tryz.prog 25 true [aF f] (.v (li (codeC f))) none d:=fun h=>checkR_con f (hin h).1 (hin h).2.1 (by have:=(hin h).2.2.1;omega) (hin h).2.2.2
 have hsp:fewB f 10 80=true→codeC f=0→∀k,1≤k→k≤3→∀d,Con Tryz.prog 79 true [lV f.vars,li k] (.tup [li (spc f.vars k),li 0]) none d:=fun h h0 k k1 k2=>
  space13_con f.vars k ⟨k1,k2⟩ (varsC_good (code_split h0).2.1) (hin h).1 (varsC_spc (code_split h0).2.1 k k1 k2)
 have hbd:fewB f 10 80=true→codeC f=0→∀d,Con Tryz.prog 66 true [lS f.body] (.tup [li (bdL CR f.body ⟨0,0,0⟩).s,li (bdL CR f.body ⟨0,0,0⟩).o,li (bdL CR f.body ⟨0,0,0⟩).t]) none d:=fun h h0=>
  boundsR_con f.body (by have:=(hin h).2.2.1;omega) (ssC_ok _ _ (code_split h0).2.2.2.1)
 obtain⟨res,hres⟩:∃r,fitB f a b c=r:=⟨_,rfl⟩;rw[hres];unfold fitB at hres;obtain⟨vars,hats,body⟩:=f;simp only at hsp hbd hres;obtain⟨FW,hFW⟩:∃x,fewB ⟨vars,hats,body⟩ 10 80=x:=⟨_,rfl⟩;obtain⟨K,hK⟩:∃x,codeC ⟨vars,hats,body⟩=x:=⟨_,rfl⟩;obtain⟨S1,h1⟩:∃x,spc vars 1=x:=⟨_,rfl⟩;obtain⟨S2,h2⟩:∃x,spc vars 2=x:=⟨_,rfl⟩;obtain⟨S3,h3⟩:∃x,spc vars 3=x:=⟨_,rfl⟩;have q1:=fun h h0=>hsp h h0 1 (by decide) (by decide);have q2:=fun h h0=>hsp h h0 2 (by decide) (by decide);have q3:=fun h h0=>hsp h h0 3 (by decide) (by decide);obtain⟨⟨bs,bo,bt⟩,hB⟩:∃x,bdL CR body ⟨0,0,0⟩=x:=⟨_,rfl⟩;rw[hFW]at cf hcc q1 q2 q3 hbd hres;rw[hK]at hcc q1 q2 q3 hbd hres;rw[hB]at hbd hres;rw[h1]at q1 hres;rw[h2]at q2 hres;rw[h3]at q3 hres;simp only at hbd hres;clear hFW hK h1 h2 h3 hB hsp hin;refine con_of_HTA Tryz.func42 ?_;simp only[Tryz.f42];simp only[aF,Fl.enc,List.map_cons,List.map_nil]at cf hcc⊢;refine HT_sA ?_;rcases FW with _|_
 · clear hcc q1 q2 q3 hbd;subst hres;refine HT_seq<|HT_seq<|(HT_runcS [some ⟨true,.v (lb false),none⟩,none] (by simp[*];first|exact⟨rfl,Iff.rfl⟩|exact⟨rfl,trivial⟩|rfl) ?_ ?_)
   · first|exact trivial|exact cf _|simpa using cf _
   refine(HT_cs rfl (fun h2=>?_) fun h2=>?_)
   · (try simp only[BN]at h2);refine HT_sA ?_;exact HT_rA
   exact absurd h2 (by simp)
 have hcc:=hcc rfl;simp only[Bool.true_and]at hres;refine HT_seq<|HT_seq<|(HT_runcA [⟨true,.v (lb true),none⟩,⟨true,.v (li K),none⟩] ?_ ?_)
 · first|exact⟨cf _,hcc _⟩|exact trivial|(repeat' first|exact trivial|exact cf _|exact hcc _|apply And.intro)
 refine(HT_cs rfl (fun h2=>?_) fun h2=>?_)
 · (try simp only[BN]at h2);have hk:¬K=0:=by simpa using h2
   rw[decide_eq_false hk,Bool.false_and]at hres;subst hres;clear q1 q2 q3 hbd;refine HT_sA ?_;exact HT_rA
 (try simp only[BN]at h2);have hk:K=0:=by simpa using h2
 have q1:=q1 rfl hk;have q2:=q2 rfl hk;have q3:=q3 rfl hk;have hbd:=hbd rfl hk;rw[decide_eq_true hk,Bool.true_and]at hres;clear cf hcc h2 hk;refine HT_scA [⟨true,.tup [li S1,li 0],none⟩] ?_ ?_
 · first|exact q1 _|exact trivial|simpa[*]using q1 _
 refine HT_scA [⟨true,.tup [li S2,li 0],none⟩] ?_ ?_
 · first|exact q2 _|exact trivial|simpa[*]using q2 _
 refine HT_scA [⟨true,.tup [li S3,li 0],none⟩] ?_ ?_
 · first|exact q3 _|exact trivial|simpa[*]using q3 _
 refine HT_scA [⟨true,.tup [li bs,li bo,li bt],none⟩] ?_ ?_
 · first|exact hbd _|exact trivial|simpa[*]using hbd _
 refine HT_sA ?_;subst hres;exact HT_rA
structure Fit (f:Fl) (a b c:Int):Prop where
 hv:f.vars.length≤10
 hh:f.hats.length≤10
 hn:nodesS f.body+nodesH f.hats≤80
 hb:bndL f.body=true
 code:codeC f=0
 good:goodV' f.vars
 s1:spc f.vars 1≤a
 s2:spc f.vars 2≤b
 s3:spc f.vars 3≤c
end Go.Proofs.YtppjennamodfdaaGreat

namespace Go.Proofs.YtppjennamodfdaaGreat
open Go Go.Hl
abbrev lQ (l:List (List Int)):TV:=.one (.c (.sl 1 (encQ l)))
theorem idxQ_con (l:List (List Int)) (g:FuncId) (p:List Int→Bool) (hl:l.length≤1000000000) (hp:∀v∈l,∀d,Con Tryz.prog g true [lI v] (.v (lb (p v))) none d) (d:Nat):
  ∃r:Int,(∀d,Con Tryz.prog 76 true [lQ l,.one (.fn g [])] (.v (li r)) none d)∧(0≤r↔l.any p=true):=by
 let rec_:List (List Int)→Int→Int:=fun l k=>match l.findIdx? p with
  |some i=>k+i
  |none=>-1
 refine⟨(match l.findIdx? p with|some i=>(i:Int)|none=>-1),fun d=>?_,?_⟩
 · have hstep:∀k:Nat,(∀j:Nat,j<k→∀v,l[j]? =some v→p v=false)→∀v,l[k]? =some v→p v=true→l.findIdx? p=some k:=by
    intro k hno v hv hpv;rw[List.findIdx?_eq_some_iff_getElem];have hk:k<l.length:=(List.getElem?_eq_some_iff.1 hv).1;refine⟨hk,?_,fun j hj=>?_⟩
    · simp only[List.getElem?_eq_getElem hk,Option.some.injEq]at hv;rw[hv];exact hpv
    have:=hno j hj l[j] (by simp);simp[this]
   have hnone:(∀j:Nat,j<l.length→∀v,l[j]? =some v→p v=false)→l.findIdx? p=none:=by
    intro hno;rw[List.findIdx?_eq_none_iff];intro v hv;obtain⟨j,hj⟩:=List.mem_iff_getElem?.1 hv;exact hno j (List.getElem?_eq_some_iff.1 hj).1 v hj
   clear rec_;refine con_of_HTA Tryz.func76 ?_;simp only[Tryz.f76];refine HT_sA ?_;refine HT_seq<|HT_seq<|HT_runA ?_;refine HT_block<|(HT_loopU [0,1,7] (fun(x:Nat)=>[(8,.v (li x))]) (fun x=>[]) (fun x=>x≤l.length∧∀j:Nat,j<x→∀v,l[j]? =some v→p v=false) (fun x=>l.length - x) (0:Nat) ⟨Nat.zero_le _,fun j hj=>absurd hj (Nat.not_lt_zero j)⟩ ?_ ?_)
   · exact le_mkA (fun n=>n) []
   rintro k ⟨hk,hJ⟩;simp only[upS,keepS,insS]
   try simp only[keepS,KN,Nat.reduceBEq,if_true,if_false,ins,Nat.reduceLT]
   refine HT_sA ?_;refine HT_seq<|(HT_cond rfl (fun h4=>HT_skip ?_) (fun h4=>?_))
   · (try simp only[BN]at h4);have hlt:k<l.length:=by first|omega|simpa using h4
     obtain⟨v,he,hd⟩:=at_lt hlt;have he2:=get_encQ he;have hw1:=wrap1 hlt (by omega);have hk1:k+1≤l.length:=hlt;have hpv:=hp v (List.mem_of_getElem? he);have hs:=hstep k hJ v he;clear hlt h4 hstep hnone hp;refine HT_seq<|HT_block<|HT_seq<|HT_runA ?_;refine HT_scA [⟨true,.v (lb (p v)),none⟩] ?_ ?_
     · first|exact hpv _|exact trivial|simpa[*]using hpv _
     refine(HT_cs rfl (fun h7=>?_) fun h7=>?_)
     · (try simp only[BN]at h7);rw[hs h7];refine HT_sA ?_;exact HT_rA
     (try simp only[BN]at h7);refine HT_runA ?_;exact⟨k+1,⟨hk1,fun j hj w hw=>(Nat.lt_succ_iff_lt_or_eq.1 hj).elim (fun h=>hJ j h w hw) (fun e=>by subst e;rw[he]at hw;cases hw;exact h7)⟩,by omega,le_mkA (fun n=>n) []⟩
   (try simp only[BN]at h4);rw[hnone fun j hj=>hJ j (by omega)];refine(HT_exit ?_);refine HT_sA ?_;exact HT_rA
 rw[List.any_eq];cases h:l.findIdx? p with
 | none=>
   rw[List.findIdx?_eq_none_iff]at h;simp only[decide_eq_true_eq];constructor
   · intro h;omega
   rintro⟨v,hv,hpv⟩;have:=h v hv;rw[hpv]at this;cases this
 | some i=>
   rw[List.findIdx?_eq_some_iff_getElem]at h;obtain⟨hi,hpi,_⟩:=h;simp only[decide_eq_true_eq];exact⟨fun _=>⟨l[i],List.getElem_mem _,hpi⟩,fun _=>by omega⟩
theorem conQ_con (l:List (List Int)) (g:FuncId) (p:List Int→Bool) (hl:l.length≤1000000000) (hp:∀v∈l,∀d,Con Tryz.prog g true [lI v] (.v (lb (p v))) none d) (d:Nat):
  Con Tryz.prog 39 true [lQ l,.one (.fn g [])] (.v (lb (l.any p))) none d:=by
 obtain⟨r,hr,hi⟩:=idxQ_con l g p hl hp 0;have hd:decide (0≤r)=l.any p:=by rw[Bool.eq_iff_iff,decide_eq_true_eq];exact hi
 clear hi hp;refine con_of_HTA Tryz.func39 ?_;simp only[Tryz.f39];refine HT_sA ?_;refine HT_scA [⟨true,.v (li r),none⟩] ?_ ?_
 · first|exact hr _|exact trivial|simpa[*]using hr _
 exact HT_rA
theorem long_con (l:List Int) (d:Nat):Con Tryz.prog 40 true [lI l] (.v (lb (decide ((40:Int)<l.length)))) none d:=by
 refine con_of_HTA Tryz.func40 ?_;simp only[Tryz.f40];refine HT_sA ?_;refine HT_sA ?_;exact HT_rA
def fitQ (f:Fl) (qs:List (List Int)):Bool:= !(qs.any fun l=>decide ((40:Int)<l.length))&&(fewB f 70 300&&(decide (codeC f≠0)||(fitB f 4096 4096 256&&decide ((szL f.body:Int)≤24))))
theorem few_sm {f:Fl} (h:fewB f 70 300=true):Sm f:=by
 obtain⟨h1,h2,h3,h4⟩:=fewB_in (nodes:=300) (by decide) h;exact⟨by omega,by omega,by omega,h4⟩
end Go.Proofs.YtppjennamodfdaaGreat

namespace Go.Proofs.YtppjennamodfdaaGreat
open Go Go.Hl
set_option maxHeartbeats 8000000 in
theorem fit_con (f:Fl) (qs:List (List Int)) (hq:qs.length≤1000000) (d:Nat):Con Tryz.prog 11 true [aF f,lQ qs] (.v (lb (fitQ f qs))) none d:=by
 have cl:=conQ_con qs 40 (fun l=>decide ((40:Int)<l.length)) (by omega) (fun l _ d=>long_con l d);have cf:=few_con f 70 300 (by decide) (by decide);have hin:=fun h:fewB f 70 300=true=>fewB_in (nodes:=300) (by decide) h;have hcc:=fun h:fewB f 70 300=true=>checkR_con f (by have:=(hin h).1;omega) (by have:=(hin h).2.1;omega) (by have:=(hin h).2.2.1;omega) (hin h).2.2.2;have cft:=fit17_con f 4096 4096 256;have hsz:=fun h:fewB f 70 300=true=>sizeR_con f.body (by have:=(hin h).2.2.1;omega);obtain⟨res,hres⟩:∃r,fitQ f qs=r:=⟨_,rfl⟩;rw[hres];unfold fitQ at hres;obtain⟨A,hA⟩:∃x,(qs.any fun l=>decide ((40:Int)<l.length))=x:=⟨_,rfl⟩;obtain⟨FW,hFW⟩:∃x,fewB f 70 300=x:=⟨_,rfl⟩;obtain⟨K,hK⟩:∃x,codeC f=x:=⟨_,rfl⟩;obtain⟨FT,hFT⟩:∃x,fitB f 4096 4096 256=x:=⟨_,rfl⟩;obtain⟨Z,hZ⟩:∃x,(szL f.body:Int)=x:=⟨_,rfl⟩;rw[hA]at cl hres;rw[hFW]at cf hcc hsz hres;rw[hK]at hcc hres;rw[hFT]at cft hres;rw[hZ]at hsz hres;clear hin hA hFW hK hFT hZ;obtain⟨vars,hats,body⟩:=f;simp only[aF,Fl.enc,List.map_cons,List.map_nil]at cf hcc cft hsz⊢;refine con_of_HTA Tryz.func11 ?_;simp only[Tryz.f11];refine HT_sA ?_;refine HT_seq<|HT_seq<|(HT_runcA [⟨true,.v (lb A),none⟩] ?_ ?_)
 · first|exact cl _|exact trivial|simpa[*]using cl _
 refine(HT_cs rfl (fun h2=>?_) fun h2=>?_)
 · (try simp only[BN]at h2);have hAt:A=true:=by simpa using h2
   subst hAt;simp only[Bool.not_true,Bool.false_and]at hres;subst hres;clear h2;refine HT_sA ?_;exact HT_rA
 (try simp only[BN]at h2);have hAt:A=false:=by simpa using h2
 subst hAt;simp only[Bool.not_false,Bool.true_and]at hres;clear h2 cl;rcases FW with _|_
 · clear hcc hsz cft;subst hres;refine HT_seq<|(HT_runsN ?_);refine RunsN.cutE 3 [⟨true,.v (lb false),none⟩] (by simp[*];first|exact⟨rfl,Iff.rfl⟩|exact⟨rfl,trivial⟩|rfl) (by first|exact cf _|simpa using cf _) (le_refl _) ?_;refine RunsN.skip (.bool false) (by simp[gdOf]) (by rfl) ?_;refine RunsN.skip (.bool false) (by simp[gdOf]) (by rfl) ?_;refine RunsN.skip (.bool false) (by simp[gdOf]) (by rfl) ?_;refine RunsN.skip (.bool false) (by simp[gdOf]) (by rfl) ?_;refine RunsN.skip (.bool false) (by simp[gdOf]) (by rfl) ?_;refine RunsN.skip (.bool false) (by simp[gdOf]) (by rfl) ?_;refine RunsN.skip (.bool false) (by simp[gdOf]) (by rfl) ?_;refine RunsN.skip (.bool false) (by simp[gdOf]) (by rfl) ?_;refine RunsN.skip (.bool false) (by simp[gdOf]) (by rfl) ?_;refine RunsN.skip (.bool false) (by simp[gdOf]) (by rfl) ?_;refine RunsN.skip (.bool false) (by simp[gdOf]) (by rfl) ?_;refine RunsN.skip (.bool false) (by simp[gdOf]) (by rfl) ?_;refine RunsN.skip (.bool false) (by simp[gdOf]) (by rfl) ?_;refine RunsN.doneE [] (by simp[*];rfl) trivial ?_;exact HT_rA
 have hcc:=hcc rfl;have hsz:=hsz rfl;simp only[Bool.true_and]at hres;rcases Classical.em (K=0)with hz|hz
 · subst hz;simp only[ne_eq,not_true_eq_false,decide_false,Bool.false_or]at hres;rcases FT with _|_
   · simp only[Bool.false_and]at hres;subst hres;refine HT_seq<|(HT_runcS [some ⟨true,.v (lb true),none⟩,some ⟨true,.v (li 0),none⟩,some ⟨true,.v (lb false),none⟩,none] (by simp[*];first|exact⟨rfl,Iff.rfl⟩|exact⟨rfl,trivial⟩|rfl) ?_ ?_)
     · first|exact trivial|exact⟨cf _,hcc _,cft _⟩|simpa using⟨cf _,hcc _,cft _⟩
     exact HT_rA
   simp only[Bool.true_and]at hres;refine HT_seq<|(HT_runcS [some ⟨true,.v (lb true),none⟩,some ⟨true,.v (li 0),none⟩,some ⟨true,.v (lb true),none⟩,some ⟨true,.v (li Z),none⟩] (by simp[*];first|exact⟨rfl,Iff.rfl⟩|exact⟨rfl,trivial⟩|rfl) ?_ ?_)
   · first|exact trivial|exact⟨cf _,hcc _,cft _,hsz _⟩|simpa using⟨cf _,hcc _,cft _,hsz _⟩
   exact HT_rA
 simp only[ne_eq,hz,not_false_eq_true,decide_true,Bool.true_or]at hres;subst hres;refine HT_seq<|(HT_runsN ?_);refine RunsN.cutE 7 [⟨true,.v (lb true),none⟩,⟨true,.v (li K),none⟩] (by simp[*];first|exact⟨rfl,Iff.rfl⟩|exact⟨rfl,trivial⟩|rfl) (by first|exact⟨cf _,hcc _⟩|simpa using⟨cf _,hcc _⟩) (le_refl _) ?_;refine RunsN.skip (.bool false) (by simp[gdOf]) (by rfl) ?_;refine RunsN.skip (.bool false) (by simp[gdOf]) (by rfl) ?_;refine RunsN.skip (.bool false) (by simp[gdOf]) (by rfl) ?_;refine RunsN.skip (.bool false) (by simp[gdOf]) (by rfl) ?_;refine RunsN.skip (.bool false) (by simp[gdOf]) (by rfl) ?_;refine RunsN.skip (.bool false) (by simp[gdOf]) (by rfl) ?_;refine RunsN.skip (.bool false) (by simp[gdOf]) (by rfl) ?_;refine RunsN.skip (.bool false) (by simp[gdOf]) (by rfl) ?_;refine RunsN.doneE [] (by simp[*];rfl) trivial ?_;exact HT_rA
end Go.Proofs.YtppjennamodfdaaGreat

namespace Go.Proofs.YtppjennamodfdaaGreat
open Go Go.Hl
theorem Cl.pre {R:List (List Nat)} {d x k:Nat} (hx:x∈R[d]?.getD []) (h:Cl R [x] k):Cl R [d] k:=by
 induction h with
 |base h=>rw[List.mem_singleton.1 h];exact .step (.base (by simp)) hx
 |step _ h ih=>exact .step ih h
theorem Cl.rev {D R:List (List Nat)} (hr:∀x y:Nat,y∈R[x]?.getD []↔x∈D[y]?.getD []) {k d:Nat} (h:Cl D [k] d):Cl R [d] k:=by
 induction h with
 |base h=>rw[List.mem_singleton.1 h];exact .base (by simp)
 |step _ h ih=>exact Cl.pre ((hr _ _).2 h) ih
theorem srtF_mem (n:Nat) (t:List Nat) (d:Nat):d∈srtF n t↔d<n∧d∈t:=by simp[srtF]
theorem bw_mem {f:Fl} (h:Sm f) {q:List Int} (hq:∀d∈natL q,d<(dirT f).length) (d:Nat):d∈bwL f q↔Cl (dirT f) (natL q) d:=by
 obtain⟨h1,h2⟩:=cloF_spec (dir_ok h) hq;rw[bwL,srtF_mem,←h2];exact⟨fun h=>h.2,fun h=>⟨h1.lt d h,h⟩⟩
theorem fw_mem {f:Fl} (h:Sm f) {q:List Int} (hq:∀d∈natL q,d<(dirT f).length) (d:Nat):d∈fwL f q↔Cl (revF (dirT f)) (natL q) d:=by
 have hl:(dirT f).length≤1000:=by rw[dirT_len];exact(tab_ok h).hn
 obtain⟨h1,h2⟩:=cloF_spec (rev_ok hl (dirT_row h)) (l0:=natL q) (by rw[revF_len];exact hq);rw[fwL,srtF_mem,←h2];exact⟨fun h=>h.2,fun h=>⟨by have:=h1.lt d h;rwa [revF_len]at this,h⟩⟩
theorem dual {f:Fl} (h:Sm f) {i k:Nat} (hi:i<szL f.body) (hk:k<szL f.body):(i∈bwL f [(k:Int)]↔k∈fwL f [(i:Int)])∧k∈bwL f [(k:Int)]∧i∈fwL f [(i:Int)]:=by
 have hn:(dirT f).length=szL f.body:=by rw[dirT_len,flL_len]
 have e:∀j:Nat,natL [(j:Int)]=[j]:=fun j=>by simp[natL]
 have hb:∀j:Nat,j<szL f.body→∀d∈natL [(j:Int)],d<(dirT f).length:=fun j hj d hd=>by
  rw[e,List.mem_singleton]at hd;omega
 have hr:∀x y:Nat,y∈(revF (dirT f))[x]?.getD []↔x∈(dirT f)[y]?.getD []:=fun x y=>revF_mem (fun l hl=>(dirT_row h l hl).2) x y;rw[bw_mem h (hb k hk),bw_mem h (hb k hk),fw_mem h (hb i hi),fw_mem h (hb i hi),e,e];exact⟨⟨Cl.rev hr,Cl.rev fun x y=>(hr y x).symm⟩,.base (by simp),.base (by simp)⟩
end Go.Proofs.YtppjennamodfdaaGreat

namespace Go.Proofs.YtppjennamodfdaaGreat
open Go Go.Hl
abbrev l8 (n:Nat):TV:=.one (.c (.lit (.int .u8 n)))
theorem sub_few {f:Fl} (h:fitQ f []=true) (hc:codeC f=0):fewB f 70 300=true:=by
 unfold fitQ at h;simp only[List.any_nil,Bool.not_false,Bool.true_and,Bool.and_eq_true]at h;exact h.1
theorem emod_wrap {s n:Nat} (hs:s<256) (hn:0<n) (hn2:n≤1000):((s:Int).tmod n)=((s%n:Nat):Int):=by
 rw[Int.tmod_eq_emod_of_nonneg (by omega)];exact(Int.natCast_emod s n).symm
theorem encD_mem (l:List Nat) (i:Nat):decide ((i:Int)∈l.map Int.ofNat)=decide (i∈l):=by
 rw[Bool.eq_iff_iff];simp only[decide_eq_true_eq,List.mem_map];constructor
 · rintro⟨a,h1,h2⟩;have:a=i:=Int.ofNat.inj h2;exact this▸h1
 intro h;exact⟨i,h,rfl⟩
theorem hasD_con (l:List Nat) (i:Nat) (hl:l.length≤1000000) (d:Nat):Con Tryz.prog 18 true [.one (.c (.sl 1 (encD l))),li i] (.v (lb (decide (i∈l)))) none d:=by
 have:=has_con (l.map Int.ofNat) i (by simp only[List.length_map];omega) d;rw[encD_mem,show lI (l.map Int.ofNat)=.one (.c (.sl 1 (encD l))) by rw[encD_enc]]at this;exact this
theorem ask_one {f:Fl} (h0:codeC f=0) {k:Nat} (hk:k<szL f.body):askC f [[(k:Int)]]=0:=by
 unfold askC;rw[if_pos h0,if_pos];simp only[askB,inB,List.all_cons,List.all_nil,Bool.and_true,decide_eq_true_eq,flL_len];omega
end Go.Proofs.YtppjennamodfdaaGreat

namespace Go.Proofs.YtppjennamodfdaaGreat
open Go Go.Hl Go.RowKit Go.ChangeShapes Go.Proofs.YtppjennamodfdaaGreat
theorem tiled:Tiled Tryz.prog:=tiled_mk (by kernel_rfl)
theorem own:ownKnob Tryz.prog.godebug=none:=by kernel_rfl
theorem laidOut:laidOutB Tryz.prog=true:=by kernel_rfl
section
variable {P:Program} {k:Nat} {t:TypeId} {ds:List CD}
theorem shape_slK {α:Type} {enc:α→List CD} {e:TypeId} {c:Nat} (hu:P.underlying t=some (.slice e)) (hc:P.cellsOf e=c) (he:∀k',k'<k→∀r,Shape P k' e r→∃x,r=enc x) (h:Shape P k t ds):∃xs:List α,ds=[.sl c (xs.map enc)]:=by
 cases k with
 |zero=>exact h.elim
 | succ k=>
   unfold Shape at h;rw[hu]at h;obtain⟨rows,h1,_,h3⟩:=h;obtain⟨xs,hxs⟩:=rows_enc (enc:=enc) fun r hr=>he k (Nat.lt_succ_self k) r (h3 r hr).2;subst hxs;exact⟨xs,by rw[h1,hc]⟩
theorem shape_structK {fs:Array Field} {l:List (Nat×Nat×TypeId)} {c:Nat} (hu:P.underlying t=some (.struct fs)) (hl:segsF P fs=l) (hc:P.cellsOf t=c) (h:Shape P k t ds):ds.length=c∧∃k',k'<k∧∀x∈l,Shape P k' x.2.2 ((ds.drop x.1).take x.2.1):=by
 cases k with
 |zero=>exact h.elim
 | succ k=>
   unfold Shape at h;rw[hu]at h;have h':ds.length=P.cellsOf t∧∀x∈segsF P fs,Shape P k x.2.2 ((ds.drop x.1).take x.2.1):=h;exact⟨hc▸h'.1,k,Nat.lt_succ_self k,fun x hx=>h'.2 x (hl▸hx)⟩
end
theorem dec_i {k:Nat} {t:TypeId} {ds:List CD} (hu:Tryz.prog.underlying t=some (.int .i64)) (h:Shape Tryz.prog k t ds):∃n:Int,ds=[iC n]:=by
 obtain⟨n,h1,_⟩:=shape_int hu h;exact⟨n,h1⟩
theorem dec_s {k:Nat} {ds:List CD} (h:Shape Tryz.prog k 9 ds):∃s:ByteArray,ds=[sC s]:=by
 obtain⟨s,h1,_⟩:=shape_str Tryz.underlying9 h;exact⟨s,h1⟩
theorem dec_I {k:Nat} {ds:List CD} (h:Shape Tryz.prog k 27 ds):∃l:List Int,ds=[.sl 1 (encIs l)]:=
 shape_slK (enc:=fun x=>[iC x]) Tryz.underlying27 (by kernel_rfl:Tryz.prog.cellsOf 3=1) (fun _ _ _ hr=>dec_i Tryz.underlying3 hr) h
theorem dec_T:∀(k:Nat) (ds:List CD),Shape Tryz.prog k 74 ds→∃t:Tm,ds=t.enc:=by
 intro k
 induction k using Nat.strongRecOn with
 | ind k ih=>
   intro ds h;obtain⟨hl,k1,hk1,hx⟩:=shape_structK (l:=[(0,1,71),(1,1,3),(2,1,72)]) Tryz.underlying74 (by kernel_rfl) (by kernel_rfl:Tryz.prog.cellsOf 74=3) h
   match ds,hl with
   | [a,b,c],_=>
     obtain⟨n1,h1⟩:=dec_i Tryz.underlying71 (hx (0,1,71) (by simp));obtain⟨n2,h2⟩:=dec_i Tryz.underlying3 (hx (1,1,3) (by simp));obtain⟨ks,h3⟩:=shape_slK (enc:=Tm.enc) Tryz.underlying72 (by kernel_rfl:Tryz.prog.cellsOf 74=3) (fun k' hk' r hr=>ih k' (by omega) r hr) (hx (2,1,72) (by simp));simp only[List.drop,List.take,List.cons.injEq,and_true]at h1 h2 h3;subst h1 h2 h3;exact⟨.mk n1 n2 ks,by simp only[Tm.enc,encTs_map]⟩
theorem dec_S:∀(k:Nat) (ds:List CD),Shape Tryz.prog k 76 ds→∃s:St,ds=s.enc:=by
 intro k
 induction k using Nat.strongRecOn with
 | ind k ih=>
   intro ds h;obtain⟨hl,k1,hk1,hx⟩:=shape_structK (l:=[(0,1,70),(1,1,3),(2,1,3),(3,1,3),(4,3,74),(7,1,24),(8,1,24),(9,1,27)]) Tryz.underlying76 (by kernel_rfl) (by kernel_rfl:Tryz.prog.cellsOf 76=10) h
   match ds,hl with
   | [a0,a1,a2,a3,a4,a5,a6,a7,a8,a9],_=>
     obtain⟨n0,h0⟩:=dec_i Tryz.underlying70 (hx (0,1,70) (by simp));obtain⟨n1,h1⟩:=dec_i Tryz.underlying3 (hx (1,1,3) (by simp));obtain⟨n2,h2⟩:=dec_i Tryz.underlying3 (hx (2,1,3) (by simp));obtain⟨n3,h3⟩:=dec_i Tryz.underlying3 (hx (3,1,3) (by simp));obtain⟨t,h4⟩:=dec_T _ _ (hx (4,3,74) (by simp));obtain⟨la,h7⟩:=shape_slK (enc:=St.enc) Tryz.underlying24 (by kernel_rfl:Tryz.prog.cellsOf 76=10) (fun k' hk' r hr=>ih k' (by omega) r hr) (hx (7,1,24) (by simp));obtain⟨lb',h8⟩:=shape_slK (enc:=St.enc) Tryz.underlying24 (by kernel_rfl:Tryz.prog.cellsOf 76=10) (fun k' hk' r hr=>ih k' (by omega) r hr) (hx (8,1,24) (by simp));obtain⟨lc,h9⟩:=dec_I (hx (9,1,27) (by simp));simp only[List.drop,List.take,List.cons.injEq,and_true]at h0 h1 h2 h3 h4 h7 h8 h9;subst h0 h1 h2 h3 h7 h8 h9;refine⟨.mk n0 n1 n2 n3 t la lb' lc,?_⟩;simp only[St.enc,encSs_map,←h4,List.cons_append,List.nil_append]
theorem dec_V {k:Nat} {ds:List CD} (h:Shape Tryz.prog k 64 ds):∃v:Vr,ds=v.enc:=by
 obtain⟨hl,k1,_,hx⟩:=shape_structK (l:=[(0,1,9),(1,1,62),(2,1,3),(3,1,3),(4,1,3)]) Tryz.underlying64 (by kernel_rfl) (by kernel_rfl:Tryz.prog.cellsOf 64=5) h
 match ds,hl with
 | [a0,a1,a2,a3,a4],_=>
   obtain⟨n0,h0⟩:=dec_s (hx (0,1,9) (by simp));obtain⟨n1,h1⟩:=dec_i Tryz.underlying62 (hx (1,1,62) (by simp));obtain⟨n2,h2⟩:=dec_i Tryz.underlying3 (hx (2,1,3) (by simp));obtain⟨n3,h3⟩:=dec_i Tryz.underlying3 (hx (3,1,3) (by simp));obtain⟨n4,h4⟩:=dec_i Tryz.underlying3 (hx (4,1,3) (by simp));simp only[List.drop,List.take,List.cons.injEq,and_true]at h0 h1 h2 h3 h4;subst h0 h1 h2 h3 h4;exact⟨⟨n0,n1,n2,n3,n4⟩,rfl⟩
theorem dec_H {k:Nat} {ds:List CD} (h:Shape Tryz.prog k 99 ds):∃v:Ht,ds=v.enc:=by
 obtain⟨hl,k1,_,hx⟩:=shape_structK (l:=[(0,1,9),(1,1,3),(2,1,3),(3,3,74)]) Tryz.underlying99 (by kernel_rfl) (by kernel_rfl:Tryz.prog.cellsOf 99=6) h
 match ds,hl with
 | [a0,a1,a2,a3,a4,a5],_=>
   obtain⟨n0,h0⟩:=dec_s (hx (0,1,9) (by simp));obtain⟨n1,h1⟩:=dec_i Tryz.underlying3 (hx (1,1,3) (by simp));obtain⟨n2,h2⟩:=dec_i Tryz.underlying3 (hx (2,1,3) (by simp));obtain⟨t,h3⟩:=dec_T _ _ (hx (3,3,74) (by simp));simp only[List.drop,List.take,List.cons.injEq,and_true]at h0 h1 h2 h3;subst h0 h1 h2;exact⟨⟨n0,n1,n2,t⟩,by simp only[Ht.enc,←h3,List.cons_append,List.nil_append]⟩
theorem dec_F {k:Nat} {ds:List CD} (h:Shape Tryz.prog k 26 ds):∃f:Fl,ds=f.enc:=by
 obtain⟨hl,k1,_,hx⟩:=shape_structK (l:=[(0,1,22),(1,1,23),(2,1,24)]) Tryz.underlying26 (by kernel_rfl) (by kernel_rfl:Tryz.prog.cellsOf 26=3) h
 match ds,hl with
 | [a0,a1,a2],_=>
   obtain⟨lv,h0⟩:=shape_slK (enc:=Vr.enc) Tryz.underlying22 (by kernel_rfl:Tryz.prog.cellsOf 64=5) (fun _ _ _ hr=>dec_V hr) (hx (0,1,22) (by simp));obtain⟨lh,h1⟩:=shape_slK (enc:=Ht.enc) Tryz.underlying23 (by kernel_rfl:Tryz.prog.cellsOf 99=6) (fun _ _ _ hr=>dec_H hr) (hx (1,1,23) (by simp));obtain⟨ls,h2⟩:=shape_slK (enc:=St.enc) Tryz.underlying24 (by kernel_rfl:Tryz.prog.cellsOf 76=10) (fun k' _ r hr=>dec_S k' r hr) (hx (2,1,24) (by simp));simp only[List.drop,List.take,List.cons.injEq,and_true]at h0 h1 h2;subst h0 h1 h2;exact⟨⟨lv,lh,ls⟩,by simp only[Fl.enc,encVs,encHs,encSs_map]⟩
theorem aggF:aggT Tryz.prog 26=true:=by unfold aggT;rw[Tryz.underlying26]
end Go.Proofs.YtppjennamodfdaaGreat
