/- Part 6: contracts of functions of the program and of the reference, and plain facts about what they compute; used by the proof of the claimed statement. Conditions: as each theorem states. -/
import Derived.Test.YtppjennamodfdaaGreatK3
import Derived.Test.YtppjennamodfdaaGreatK4
import Derived.Test.YtppjennamodfdaaGreatK5
import Derived.Test.YtppjennamodfdaaGreatK1
import Derived.Test.YtppjennamodfdaaGreatHmZK
import Derived.Test.YtppjennamodfdaaGreatK2
set_option linter.unusedSimpArgs false
set_option linter.unusedVariables false
set_option linter.unnecessarySimpa false
set_option maxRecDepth 100000
set_option maxHeartbeats 2000000
namespace Go.Proofs.YtppjennamodfdaaGreat
open Go Go.Hl
theorem shB_free {vars:List Vr} {nh:Nat} {d v n:Int} {t:Tm} {la lb:Nat} {bs:List Int} {last:Bool} (h:shB vars nh d v n t la lb bs last=true):d=3∨d=4∨(la=0∧lb=0):=by
 by_cases h3:d=3
 · exact .inl h3
 by_cases h4:d=4
 · exact .inr (.inl h4)
 refine .inr (.inr ?_);unfold shB at h;simp only[if_neg h3,if_neg h4]at h;split at h
 · simp only[Bool.and_eq_true,decide_eq_true_eq]at h;exact h.1.1.1
 split at h
 · simp only[Bool.and_eq_true,decide_eq_true_eq]at h;exact h.1.1.1
 split at h
 · simp only[Bool.and_eq_true,decide_eq_true_eq]at h;exact h.1.1.1.1
 split at h
 · simp only[Bool.and_eq_true,decide_eq_true_eq]at h;exact h.1.1.1.1.1
 split at h
 · simp only[Bool.and_eq_true,decide_eq_true_eq]at h;exact h.1.1.1.1.1
 cases h
theorem ssC_ok {vars:List Vr} {nh:Nat}:∀(l:List St) (top:Bool),ssC vars nh l top=0→okL l=true
 |[],_,_=>by simp[okL]
 | .mk d c v n t a b bs::l,top,h=>by
   simp only[ssC]at h;split at h
   · rename_i h0;split at h
     · rename_i ha;split at h
       · rename_i hb;have ia:=ssC_ok a false ha;have ib:=ssC_ok b false hb;have il:=ssC_ok l top h;unfold stC at h0;split at h0
         · cases h0
         rename_i hs;split at h0
         · cases h0
         rename_i hn;have hs:shB vars nh d v n t a.length b.length bs (top&&l.isEmpty)=true:=by simpa using hs
         have hn:numB d c n bs=true:=by simpa using hn
         have hf:=shB_free hs;unfold numB at hn;simp only[Bool.and_eq_true,Bool.not_eq_true',Bool.or_eq_false_iff,Bool.and_eq_false_iff,decide_eq_false_iff_not]at hn;have hm:mostI d≤67108864:=by unfold mostI;split<;>omega
         simp only[okL,okS,Bool.and_eq_true,Bool.or_eq_true,decide_eq_true_eq,List.isEmpty_iff,ia,ib,il];have hla:a.length=0→a=[]:=List.eq_nil_of_length_eq_zero;have hlb:b.length=0→b=[]:=List.eq_nil_of_length_eq_zero;refine⟨⟨⟨by omega,by omega,by omega⟩,?_,by simp⟩,by simp⟩;rcases hf with hf|hf|hf
         · exact .inl hf
         · exact .inr (.inl hf)
         exact .inr (.inr ⟨hla hf.1,hlb hf.2⟩)
       rename_i hb;exact absurd h hb
     rename_i ha;exact absurd h ha
   rename_i h0;exact absurd h h0
def nodesH:List Ht→Nat
 |[]=>0
 |h::l=>h.term.nodes+nodesH l
def mH:List Ht→Int×Bool→Int×Bool
 |[],s=>s
 |h::l,s=>mH l (if over s=true then s else mTm h.term 1 s)
theorem nodesH_mem {l:List Ht} {h:Ht} (hm:h∈l):h.term.nodes≤nodesH l:=by
 induction l with
 |nil=>cases hm
 | cons x l ih=>
   simp only[nodesH];rcases List.mem_cons.1 hm with rfl|h1
   · omega
   have:=ih h1;omega
theorem mH_over:∀(l:List Ht) (s:Int×Bool),over s=true→over (mH l s)=true
 |[],s,h=>h
 | x::l,s,h=>by
   simp only[mH,if_pos h];exact mH_over l s h
def deepH (l:List Ht):Bool:=l.all fun h=>decide (tdT h.term≤12)
theorem mH_fit:∀(l:List Ht) (s:Int×Bool),0≤s.1→over s=false→
  (s.1+nodesH l≤1024∧deepH l=true→over (mH l s)=false)∧(¬(s.1+nodesH l≤1024∧deepH l=true)→over (mH l s)=true)
 | [],s,h0,h=>by
   have:=over_f h;simp only[mH,nodesH,deepH,List.all_nil];exact⟨fun _=>h,fun hn=>absurd ⟨by omega,trivial⟩ hn⟩
 | x::l,s,h0,h=>by
   have ho:=over_f h;have ht:=mTm_fit x.term 1 s h0 (by omega) h;have hle:=mTm_le x.term 1 s;simp only[mH,h,nodesH,deepH,List.all_cons,Bool.and_eq_true,decide_eq_true_eq,Bool.false_eq_true,if_false];by_cases hf:s.1+x.term.nodes≤1024∧1+(tdT x.term:Int)≤13
   · have e:=ht.1 hf;rw[e];have ih:=mH_fit l (s.1+x.term.nodes,false) (by simp only;omega) (by simp only[over,Bool.false_or,decide_eq_false_iff_not];omega);simp only[deepH]at ih;refine⟨fun hh=>ih.1 ⟨by omega,hh.2.2⟩,fun hh=>ih.2 fun h2=>hh ⟨by omega,by omega,h2.2⟩⟩
   have e:=ht.2 hf;refine⟨fun hh=>absurd ⟨by omega,by omega⟩ hf,fun _=>mH_over _ _ e⟩
def sizesB (f:Fl):Bool:=((((decide (f.vars.length≤64)&&decide (f.hats.length≤8))&&decide (nodesS f.body+nodesH f.hats≤1024))&&decide (sdL f.body≤12))&& !tdeep f.body)&&deepH f.hats
def mF (f:Fl):Int×Bool:=mH f.hats (mSs f.body 1 (0,false))
theorem sizes_over (f:Fl):sizesB f=false↔64<f.vars.length∨8<f.hats.length∨over (mF f)=true:=by
 have h1:=mSs_fit f.body 1 (0,false) (by decide) (by decide) rfl;unfold mF sizesB;simp only[Bool.and_eq_false_iff,decide_eq_false_iff_not,Bool.not_eq_false',Nat.not_le];by_cases hs:((0:Int),false).1+nodesS f.body≤1024∧1+(sdL f.body:Int)≤13∧tdeep f.body=false
 · rw[h1.1 hs];have h2:=mH_fit f.hats (0+(nodesS f.body:Int),false) (by simp only;omega) (by simp only[over,Bool.false_or,decide_eq_false_iff_not];have:=hs.1;simp only at this;omega);obtain⟨a1,a2,a3⟩:=hs;simp only at a1 h2;by_cases hh:0+(nodesS f.body:Int)+nodesH f.hats≤1024∧deepH f.hats=true
   · have e:=h2.1 hh;have e3:=hh.2;simp only[show((0:Int),false).1=0 from rfl];rw[e,a3,e3];simp;omega
   have e:=h2.2 hh;simp only[show((0:Int),false).1=0 from rfl];rw[e,a3];constructor
   · intro _;exact .inr (.inr rfl)
   intro _;by_cases hd:deepH f.hats=true
   · left;left;left;right;by_cases hc:0+(nodesS f.body:Int)+nodesH f.hats≤1024
     · exact absurd ⟨hc,hd⟩ hh
     omega
   right;simpa using hd
 have e:=mH_over f.hats _ (h1.2 hs);rw[e];constructor
 · intro _;exact .inr (.inr rfl)
 intro _;simp only at hs;by_cases ht:tdeep f.body=true
 · left;right;exact ht
 have ht:tdeep f.body=false:=by simpa using ht
 by_cases hd:sdL f.body≤12
 · left;left;left;right;by_cases hc:0+(nodesS f.body:Int)≤1024
   · exact absurd ⟨hc,by omega,ht⟩ hs
   omega
 left;left;right;omega
def overL (l:List St):Bool:=decide (4096<(bdL CR l ⟨0,0,0⟩).s)||(decide (8<(bdL CR l ⟨0,0,0⟩).o)||decide (67108864<(bdL CR l ⟨0,0,0⟩).t))
def codeC (f:Fl):Int:=
 if sizesB f=false then 4 else if varsC f.vars=0 then
  (if hcs f.vars [] f.hats=0 then(if ssC f.vars f.hats.length f.body true=0 then(if overL f.body=true then 4 else 0)else ssC f.vars f.hats.length f.body true)else hcs f.vars [] f.hats)
 else varsC f.vars
theorem varsC_good {vars:List Vr} (h:varsC vars=0):goodV vars:=by
 unfold varsC at h;split at h
 · rename_i h0;exact vcs_good _ _ h0
 rename_i h0;exact absurd h h0
end Go.Proofs.YtppjennamodfdaaGreat

namespace Go.Proofs.YtppjennamodfdaaGreat
open Go Go.Hl
theorem one_all (b:Nat):∀s:St,oneC b s:=by
 have key:∀l:List St,∀s∈l,oneC b s:=by
  apply St.lists;intro l ih s hs;obtain⟨o,c,v,n,⟨to,tn,tk⟩,sa,sb,bs⟩:=s;exact one_con b o c v n to tn tk sa sb bs (lst_of_one (ih _ hs).1) (lst_of_one (ih _ hs).2)
 exact fun s=>key [s] s (by simp)
theorem lst_all (b:Nat) (l:List St):lstC b l:=lst_of_one fun s _=>one_all b s
def bldF (l:List St):List (List CD):=
 let x:=bList l [(false,0)] ([[iC 0,iC (-1),iC (-1),iC (-1)]],0)
 setAll x.1.1.length x.2 x.1.1++[[iC 1,iC (-1),iC (-1),iC (-1)]]
def msG:List (Nat×List Nat):=[(511,[0,1,3,8]),(510,[1,3,8]),(509,[0,2,3,8]),(503,[0,1,4,8]),(255,[0,1,3]),(508,[2,3,8]),(502,[1,4,8]),(254,[1,3]),(505,[0,3,8]),(501,[0,2,4,8]),(253,[0,2,3]),(487,[0,1,5,8]),(247,[0,1,4]),(504,[3,8]),(500,[2,4,8]),(252,[2,3]),(486,[1,5,8]),(246,[1,4]),(497,[0,4,8]),(249,[0,3]),(485,[0,2,5,8]),(245,[0,2,4]),(455,[0,1,8]),(231,[0,1,5]),(496,[4,8]),(248,[3]),(484,[2,5,8]),(244,[2,4]),(454,[1,8]),(230,[1,5]),(481,[0,5,8]),(241,[0,4]),(453,[0,2,8]),(229,[0,2,5]),(199,[0,1]),(480,[5,8]),(240,[4]),(452,[2,8]),(228,[2,5]),(198,[1]),(449,[0,8]),(225,[0,5]),(197,[0,2]),(448,[6,8]),(224,[5]),(196,[2]),(193,[0]),(384,[7,8]),(192,[6]),(256,[8]),(128,[7])]
def nxG (b:Nat) (F:Ob) (l:List St) (nl:Nat) (x y:List (Nat×Ob)) (R:List Nat):HS:=
 {trS ⟨⟨38,some (pV b)⟩,[(1,.v (.one (.at_ 1 0))),(2,.v (.one (.at_ 2 0))),(3,.v (.one (.c (.lit (pV b)))))],[]⟩ [(0,10,.v (.one (.c (.lit (pV b))))),(1,11,.v (.one (.at_ 1 2))),(2,12,.v (lS l)),(3,13,.v (.one (.c (.lit (pV b))))),(4,14,.v (.one (.c (nxC b 0)))),(5,15,.v (.one (.own 15))),(6,16,.v (.one (.own 16))),(7,17,lit (.int .i64 nl)),(8,18,lit (.int .i64 0))] R with
  objs:=(1,F)::(2,.box [.c (.lit nilS)])::if R.contains 5 then x else if R.contains 6 then(15,.row 100 1 [[nxC b 0]])::x else y}
attribute [simp] nxG
set_option maxHeartbeats 4000000 in
theorem build_con (f:Fl) (hn:1+szNs f.body≤1000000) (d:Nat):Con Tryz.prog 146 false [aF f] (.v (.agg [.c (.sl 4 (bldF f.body))])) none d:=by
 obtain⟨vars,hats,body⟩:=f;simp only at hn;obtain⟨G,hG⟩:∃x,bldF body=x:=⟨_,rfl⟩;rw[hG];unfold bldF at hG;refine con_of_HTA Tryz.func146 ?_;simp only[Tryz.f146];simp only[aF,Fl.enc,List.map_cons,List.map_nil];refine HT_sA ?_;refine HT_seq<|(HT_run (by simp[*,allTyped,fillC,placeOf,cellsOf,rowsOf,ownOf,dataOf];rfl) ?_);refine HT_pin 9 (cs:=[.own 7,.c (iC 0)]) [(1,.v (.one (.at_ 1 0))),(2,.v (.one (.at_ 2 0))),(3,.v (.one (.at_ 1000000 0)))] [(1,.box [.c (.sl 5 (encVs vars)),.c (.sl 6 (encHs hats)),.c (.sl 10 (encSs body))]),(2,.box [.c (.lit nilS)]),(7,.row 143 4 [[iC 0,iC (-1),iC (-1),iC (-1)]]),(1000000,.box [.own 7,.c (iC 0)])] rfl rfl ?_ ?_ rfl fun b=>?_
 · simp[allL,RV.okNil,TV.okNil,CV.okNil,RV.ren,TV.ren,CV.ren,lkp]
 · simp[allL,Ob.okNil,CV.okNil,Ob.ren,CV.ren,lkp]
 have k0:okB [(false,0)] [[iC 0,iC (-1),iC (-1),iC (-1)]]:=⟨by simp,by simp⟩;have cA:=lst_all b body [(false,0)] [[iC 0,iC (-1),iC (-1),iC (-1)]] 0 k0 (by simp;omega) (by omega) (by omega) (by simp);have k1:=bList_ok body [(false,0)] ([[iC 0,iC (-1),iC (-1),iC (-1)]],0) k0;have l1:=bList_len body [(false,0)] ([[iC 0,iC (-1),iC (-1),iC (-1)]],0);obtain⟨⟨⟨rows3,d3⟩,sl3⟩,hx⟩:∃x,bList body [(false,0)] ([[iC 0,iC (-1),iC (-1),iC (-1)]],0)=x:=⟨_,rfl⟩;simp only[hx,List.length_singleton]at hG cA k1 l1;obtain⟨a1,a2,a3,a4,a5⟩:=k1;clear hx k0;refine HT_le (le_toV (v:=pV b) 3 rfl rfl rfl) ?_;simp only[ins,Nat.reduceLT,Nat.reduceEqDiff,if_true,if_false];refine HT_le (s':=nxG b (.box [.c (.sl 5 (encVs vars)),.c (.sl 6 (encHs hats)),.c (.sl 10 (encSs body))]) body sl3.length (bldO [[iC 0,iC (-1),iC (-1),iC (-1)]] 0) [] (bitsL 9 511)) ?_ ?_
 · refine le_mk (fun n=>if n=900001 then 7 else n) [] rfl ?_ ?_ ?_
   · simp[trS, *]
   · simp[*]
   simp
 refine HT_seq<|HT_seq<|(HT_bruteM (nxG b (.box [.c (.sl 5 (encVs vars)),.c (.sl 6 (encHs hats)),.c (.sl 10 (encSs body))]) body sl3.length (bldO [[iC 0,iC (-1),iC (-1),iC (-1)]] 0) ((16,.row 100 1 (encSl b sl3))::(102,.row 143 4 rows3)::[(1000000,.box [.own 102,.c (iC d3)])])) 9 511 msG rfl (by kernel_rfl) (by kernel_rfl) (by kernel_rfl) (by kernel_rfl) (by simp[trS]) ?_ ?_)
 · simp only[msG,allM]
   repeat' apply And.intro
   all_goals first
    |(refine StepW.evE rfl ?_;simp[trS,ins,putL];done)
    | (refine StepW.ev [⟨false,.v (.one (.c (nxC b 0))),none⟩] rfl (by simp[trS,ins,putL];first|exact⟨rfl,Iff.rfl⟩|exact⟨rfl,trivial⟩|rfl) ?_ ?_
       · simpa using next_con b 0 14
       simp[trS,ins])
    | (refine StepW.callA (fun n=>if n=1 then 15 else n) (fun n=>if n=1 then 16 else if n=900001 then 102 else n) cA rfl fun _ _=>?_
       simp[trS,ins,addS,dels,del,CV.ren,Ob.ren])
 refine HT_block<|(HT_loopU [] (fun(x:Nat×List (List CD))=>[(2,.v (.one (.at_ 2 0))),(3,.v (.one (.c (.lit (pV b))))),(16,.v (.one (.own 16))),(17,lit (.int .i64 sl3.length)),(18,lit (.int .i64 x.1))]) (fun(x:Nat×List (List CD))=>(2,.box [.c (.lit nilS)])::(16,.row 100 1 (encSl b sl3))::bldO x.2 d3) (fun(x:Nat×List (List CD))=>x.1≤sl3.length∧setAll rows3.length (sl3.drop x.1) x.2=setAll rows3.length sl3 rows3∧(∀r∈x.2,r.length=4)∧x.2.length=rows3.length) (fun(x:Nat×List (List CD))=>sl3.length - x.1) (0,rows3) ⟨Nat.zero_le _,rfl,a1.four,rfl⟩ ?_ ?_)
 · exact le_mk (fun n=>if n=900001 then 102 else n) [] rfl (by simp[upS,keepS,trS]) (by simp[upS]) (by simp[upS])
 rintro⟨i,rows2⟩ ⟨g1,g2,g3,g4⟩;simp only[upS,keepS,insS]
 try simp only[keepS,KN,Nat.reduceBEq,if_true,if_false,ins,Nat.reduceLT]
 simp only at g1 g2 g3 g4;simp only[nxG,trS];refine HT_sA ?_;refine HT_seq<|(HT_cond rfl (fun h5=>HT_skip ?_) (fun h5=>?_))
 · (try simp only[BN]at h5);have hi:i<sl3.length:=by simpa using h5
   obtain⟨q,hq,hqd⟩:=at_lt hi;have hqe:=get_encSl (b:=b) hq;rw[hqd]at g2;simp only[setAll]at g2;have cq:=slot_con b rows2 d3 rows2.length q g3 (by have:=a1.lt q (List.mem_of_getElem? hq);omega);have hw:=wrap1 hi (by omega:sl3.length≤1000000000);have hin2:i+1≤sl3.length:=hi;rw[←g4]at g2;clear hi hq h5 hqd;refine HT_seq<|HT_block<|HT_seq<|HT_runA ?_;refine HT_le (le_toB (v:=pV b) 3 rfl rfl rfl) ?_;simp only[ins,Nat.reduceLT,Nat.reduceEqDiff,if_true,if_false];refine(HT_runsN ?_);refine RunsN.cutE 6 [] (by simp;rfl) trivial (le_refl _) ?_;refine RunsN.callA (fun n=>n) (fun n=>if n=900001 then 101 else n) cq fun _ _=>?_;refine RunsN.doneE [] (by simp[addS,CV.ren,Ob.ren];rfl) trivial ?_;refine HT_le (le_toV (v:=pV b) 3 rfl rfl rfl) ?_;simp only[ins,Nat.reduceLT,Nat.reduceEqDiff,if_true,if_false];refine HT_runA ?_;exact⟨(i+1,setS rows2 q rows2.length),⟨hin2,by rw[←g4];exact g2,setS_four g3,(setS_len ..).trans g4⟩,by simp only;omega,le_mkA (fun n=>if n=900001 then 101 else n) []⟩
 try simp only[BN]at h5
 have hi:i=sl3.length:=by
  have:¬i<sl3.length:=by simpa using h5
  omega
 subst hi;rw[List.drop_length]at g2;simp only[setAll]at g2;rw[←g2]at hG;have hroom:room (rows3.length+1) 32:=room_of (by omega) (by decide);clear h5 g2;refine HT_le (le_toB (v:=pV b) 3 rfl rfl rfl) ?_;simp only[ins,Nat.reduceLT,Nat.reduceEqDiff,if_true,if_false];refine(HT_exit ?_);refine HT_seq<|(HT_run (by simp[*,allTyped,fillC,placeOf,cellsOf,rowsOf,ownOf,dataOf,baseOf,moreOf,matApp];rfl) ?_);refine HT_le (le_frz 36 rfl) ?_;exact HT_ret ⟨⟨⟨38,some (pV b)⟩,[(2,.v (.one (.at_ 2 0)))],[(2,.box [.c (.sl 4 G)])]⟩,le_mk (fun n=>n) [] rfl (by simp) (by simp[*]) (by simp),by rfl,.inr rfl,_,le_refl _,⟨_,by simp;rfl,by simp[resR]⟩,by simp,fun h=>by cases h⟩
end Go.Proofs.YtppjennamodfdaaGreat

namespace Go.Proofs.YtppjennamodfdaaGreat
open Go Go.Hl
theorem checkP_con (f:Fl) (hv:f.vars.length≤1000000) (hh:f.hats.length≤1000000) (hn:nodesS f.body+nodesH f.hats≤900000000) (hb:bndL f.body=true) (d:Nat):
  Con Tryz.prog 145 true [aF f] (.v (li (codeC f))) none d:=by
 obtain⟨res,hres⟩:∃r,codeC f=r:=⟨_,rfl⟩;rw[hres];have hso:=sizes_over f;have cvars:=varsP_con f.vars hv;have chat:=fun hg=>hatsP_con f hg hv hh (fun h hm=>by have:=nodesH_mem hm;omega);have cst:=fun hg=>stepsP_con f hg hv f.body (by omega) hb;have cup:=fun ho=>upper_con f.body (by omega) ho;have cms:=msteps_con f.body 1 0 false (by decide) (by decide) (by omega);have hms:=mSs_le f.body 1 (0,false);have hgood:varsC f.vars=0→goodV f.vars:=varsC_good;have hok:ssC f.vars f.hats.length f.body true=0→okL f.body=true:=ssC_ok _ _;have hcmp:=fun h=>@bd_cmp f.body h;unfold codeC overL at hres;unfold mF at hso;obtain⟨vars,hats,body⟩:=f;simp only at hv hh hn hb hres hso cvars chat cst cup cms hms hgood hok hcmp;obtain⟨m0,hm0⟩:∃m,mSs body 1 (0,false)=m:=⟨_,rfl⟩;rw[hm0]at cms hms hso;obtain⟨c0,b0⟩:=m0;simp only at cms hms;obtain⟨mE,hmE⟩:∃m,mH hats (c0,b0)=m:=⟨_,rfl⟩;rw[hmE]at hso;obtain⟨VC,hVC⟩:∃x,varsC vars=x:=⟨_,rfl⟩;obtain⟨HC,hHC⟩:∃x,hcs vars [] hats=x:=⟨_,rfl⟩;obtain⟨SC,hSC⟩:∃x,ssC vars hats.length body true=x:=⟨_,rfl⟩;rw[hVC]at cvars hres hgood;rw[hHC]at chat hres;rw[hSC]at hres hok;have cst:=fun hg=>cst hg true;rw[hSC]at cst;clear hVC hHC hSC hm0;refine con_of_HTA Tryz.func145 ?_;simp only[Tryz.f145];simp only[aF,Fl.enc,List.map_cons,List.map_nil]at chat cst⊢;refine HT_sA ?_;refine HT_sA ?_;refine HT_seq<|(HT_runIO 2 (.tup []) ([iC c0,bC b0]) rfl (by simp[*];rfl) (by simp[ioOf, *];first|exact⟨rfl,rfl,rfl,rfl,rfl⟩|exact⟨rfl,rfl,rfl,rfl⟩|exact⟨rfl,rfl,rfl⟩|exact⟨rfl,rfl⟩|rfl) (cms) (by simp) (by simp[*];rfl) ?_);refine HT_seq<|HT_seq<|HT_runA ?_;refine HT_block<|(HT_loopU [1,3,14,15] (fun(x:Nat×Int×Bool)=>[(16,.v (li x.1))]) (fun x=>[(1,.box [.c (.sl 5 (encVs vars)),.c (.sl 6 (encHs hats)),.c (.sl 10 (encSs body))]),(3,.box [.c (iC x.2.1),.c (bC x.2.2)])]) (fun x=>x.1≤hats.length∧mH (hats.drop x.1) x.2=mE∧0≤x.2.1∧x.2.1+nodesH (hats.drop x.1)≤1000000000) (fun x=>hats.length - x.1) (0,c0,b0) ⟨Nat.zero_le _,by simpa using hmE,by simp only;omega,by simp only[List.drop_zero];omega⟩ ?_ ?_)
 · exact le_mkA (fun n=>n) []
 rintro⟨k,m,q⟩ ⟨hk,hJ,hm,hbb⟩;simp only[upS,keepS,insS]
 try simp only[keepS,KN,Nat.reduceBEq,if_true,if_false,ins,Nat.reduceLT]
 simp only at hk hJ hm hbb;clear hmE hms cms;refine HT_sA ?_;refine HT_seq<|(HT_cond rfl (fun h6=>HT_skip ?_) (fun h6=>?_))
 · (try simp only[BN]at h6);have hlt:k<hats.length:=by omega
   obtain⟨h,he,hd⟩:=at_lt hlt;have hw1:=wrap1 hlt (by omega);have hk1:k+1≤hats.length:=hlt;rw[hd]at hJ hbb;simp only[mH,nodesH]at hJ hbb;have hle:=mTm_le h.term 1 (m,q);have cmt:=mterm_con h.term 1 m q (by decide) hm (by omega);obtain⟨nm,lo,hi,⟨o,tn,ks⟩⟩:=h;simp only at hle cmt hJ hbb;obtain⟨m1,hm1⟩:∃x,mTm (.mk o tn ks) 1 (m,q)=x:=⟨_,rfl⟩;rw[hm1]at cmt hle hJ;obtain⟨c1,b1⟩:=m1;simp only[aT,Tm.enc,List.map_cons,List.map_nil]at cmt hle;clear hlt h6 hd hm1 hso hres chat cst cup hok hcmp;refine HT_seq<|HT_block<|HT_seq<|HT_runA ?_;refine HT_scA [⟨true,.v (lb (q||decide (1024<m))),none⟩] ?_ ?_
   · first|exact overP_con _ _ _|exact trivial|simpa[*]using overP_con _ _ _
   refine(HT_cs rfl (fun h9=>?_) fun h9=>?_)
   · try simp only[BN]at h9
     have hov:over (m,q)=false:=by
      simp only[over,Bool.or_eq_false_iff,decide_eq_false_iff_not]
      first|exact h9|simpa using h9
     rw[if_neg (by rw[hov];decide)]at hJ;clear hov;refine(HT_runIO 2 (.tup []) ([iC c1,bC b1]) rfl (by simp[*];rfl) (by simp[ioOf, *];first|exact⟨rfl,rfl,rfl,rfl,rfl⟩|exact⟨rfl,rfl,rfl,rfl⟩|exact⟨rfl,rfl,rfl⟩|exact⟨rfl,rfl⟩|rfl) (cmt) (by simp) (by simp[*];rfl) ?_);refine HT_runA ?_;exact⟨(k+1,c1,b1),⟨hk1,hJ,by simp only;omega,by simp only;omega⟩,by simp only;omega,le_mkA (fun n=>n) []⟩
   try simp only[BN]at h9
   have hov:over (m,q)=true:=by
    simp only[over,Bool.or_eq_true,decide_eq_true_eq]
    first|exact h9|simpa using h9
   rw[if_pos hov]at hJ;clear hov;refine HT_runA ?_;exact⟨(k+1,m,q),⟨hk1,hJ,hm,by simp only;omega⟩,by simp only;omega,le_mkA (fun n=>n) []⟩
 (try simp only[BN]at h6);have hkl:k=hats.length:=by omega
 subst hkl;rw[List.drop_length]at hJ;simp only[mH]at hJ;subst hJ;simp only[over,Bool.or_eq_true,decide_eq_true_eq]at hso;refine(HT_exit ?_);refine HT_seq<|HT_seq<|(HT_runcA [⟨true,.v (lb (q||decide (1024<m))),none⟩] ?_ ?_)
 · first|exact overP_con _ _ _|exact trivial|simpa[*]using overP_con _ _ _
 refine(HT_cs rfl (fun h16=>?_) fun h16=>?_)
 · try simp only[BN]at h16
   rw [if_pos (hso.2 (by
       simp only[or_assoc]at h16;rcases h16 with h|h|h|h
       · exact .inl (by omega)
       · exact .inr (.inl (by omega))
       · exact .inr (.inr (.inl h))
       exact .inr (.inr (.inr h))))]at hres
   subst hres;refine HT_sA ?_;exact HT_rA
 try simp only[BN]at h16
 rw [if_neg (by
     rw[hso];rintro(h|h|h|h)
     · omega
     · omega
     · exact absurd h (by simp[h16])
     omega)]at hres
 refine HT_seq<|HT_seq<|(HT_runcA [⟨true,.v (li VC),none⟩] ?_ ?_)
 · first|exact cvars _|exact trivial|simpa[*]using cvars _
 refine HT_sA ?_;refine(HT_cs rfl (fun h21=>?_) fun h21=>?_)
 · (try simp only[BN]at h21);rw[if_neg h21]at hres;subst hres;refine HT_sA ?_;exact HT_rA
 (try simp only[BN]at h21);have hv0:VC=0:=by simpa using h21
 have hg:=hgood hv0;have chat:=chat hg;have cst:=cst hg;rw[if_pos hv0]at hres;clear cvars hgood h21;refine HT_seq<|HT_seq<|(HT_runcA [⟨true,.v (li HC),none⟩] ?_ ?_)
 · first|exact chat _|exact trivial|simpa[*]using chat _
 refine HT_sA ?_;refine(HT_cs rfl (fun h26=>?_) fun h26=>?_)
 · (try simp only[BN]at h26);rw[if_neg h26]at hres;subst hres;refine HT_sA ?_;exact HT_rA
 (try simp only[BN]at h26);have hh0:HC=0:=by simpa using h26
 rw[if_pos hh0]at hres;clear chat h26;refine HT_seq<|HT_seq<|(HT_runcA [⟨true,.v (li SC),none⟩] ?_ ?_)
 · first|exact cst _|exact trivial|simpa[*]using cst _
 refine HT_sA ?_;refine(HT_cs rfl (fun h31=>?_) fun h31=>?_)
 · (try simp only[BN]at h31);rw[if_neg h31]at hres;subst hres;refine HT_sA ?_;exact HT_rA
 (try simp only[BN]at h31);have hs0:SC=0:=by simpa using h31
 rw[if_pos hs0]at hres;have hok:=hok hs0;have cup:=cup hok;have hcmp:=hcmp hok;obtain⟨X,hX⟩:∃x,bdL CP body ⟨0,0,0⟩=x:=⟨_,rfl⟩;obtain⟨Y,hY⟩:∃x,bdL CR body ⟨0,0,0⟩=x:=⟨_,rfl⟩;rw[hX]at cup hcmp;rw[hY]at hcmp hres;obtain⟨x1,x2,x3⟩:=X;obtain⟨y1,y2,y3⟩:=Y;simp only[Bool.or_eq_true,decide_eq_true_eq]at hcmp hres;clear hX hY cst h31 hok;refine HT_seq<|HT_seq<|(HT_runcA [⟨true,.v (aB ⟨x1,x2,x3⟩),none⟩] ?_ ?_)
 · first|exact cup _|exact trivial|simpa[*]using cup _
 refine HT_sA ?_;refine(HT_cs rfl (fun h36=>?_) fun h36=>?_)
 · (try simp only[BN]at h36);rw[if_pos (by omega)]at hres;subst hres;refine HT_sA ?_;exact HT_rA
 (try simp only[BN]at h36);rw[if_neg (by omega)]at hres;subst hres;refine HT_sA ?_;exact HT_rA
end Go.Proofs.YtppjennamodfdaaGreat

namespace Go.Proofs.YtppjennamodfdaaGreat
open Go Go.Hl
mutual
def szS:St→Nat
 | .mk _ _ _ _ _ a b _=>1+szL a+szL b
def szL:List St→Nat
 |[]=>0
 |s::l=>szS s+szL l
end
mutual
theorem szS_le:∀s:St,szS s≤s.nodes
 | .mk _ _ _ _ t a b _=>by have:=szL_le a;have:=szL_le b;simp only[szS,St.nodes];omega
theorem szL_le:∀l:List St,szL l≤nodesS l
 |[]=>by simp[szL]
 |s::l=>by have:=szS_le s;have:=szL_le l;simp only[szL,nodesS];omega
end
theorem szS_pos (s:St):1≤szS s:=by cases s;simp only[szS];omega
theorem szL_len:∀l:List St,l.length≤szL l
 |[]=>by simp
 |s::l=>by have:=szL_len l;have:=szS_pos s;simp only[szL,List.length_cons];omega
end Go.Proofs.YtppjennamodfdaaGreat

namespace Go.Proofs.YtppjennamodfdaaGreat
open Go Go.Hl
structure Nd where
 k:Int
 a:Int
 n:Int
 o:Int
 deriving DecidableEq
def Nd.enc (x:Nd):List CD:=[iC x.k,iC x.a,iC x.n,iC x.o]
attribute [simp] Nd.enc
def encNs (l:List Nd):List (List CD):=l.map Nd.enc
@[simp] theorem len_encN (l:List Nd):(encNs l).length=l.length:=by simp[encNs]
theorem get_encN {l:List Nd} {i:Nat} {x:Nd} (h:l[i]? =some x):(encNs l)[i]? =some x.enc:=by simp[encNs,h]
mutual
def wdS:St→Nat
 | .mk o _ _ _ _ a b _=>(if o=4 then 2 else 1)+wdL a+wdL b
def wdL:List St→Nat
 |[]=>0
 |s::l=>wdS s+wdL l
end
mutual
def layS:St→Int→Nat→Nat→List Nd
 | .mk o _ _ _ _ a b _,at_,k,after=>
   if o=3 then⟨3,at_,if a=[] then after else k+1,if b=[] then after else k+1+wdL a⟩::(layL a (at_+1) (k+1) after++layL b (at_+1+szL a) (k+1+wdL a) after)
   else if o=4 then⟨4,at_,k+1,-1⟩::⟨5,at_,if a=[] then k+1 else k+2,after⟩::layL a (at_+1) (k+2) (k+1)
   else [⟨2,at_,after,-1⟩]
def layL:List St→Int→Nat→Nat→List Nd
 |[],_,_,_=>[]
 |s::l,at_,k,after=>layS s at_ k (if l=[] then after else k+wdS s)++layL l (at_+szS s) (k+wdS s) after
end
def grN (l:List St):List Nd:=⟨0,-1,if l=[] then 1+wdL l else 1,-1⟩::(layL l 0 1 (1+wdL l)++[⟨1,-1,-1,-1⟩])
theorem setS_app {A B:List (List CD)} {s:Slot} {k:Nat} (h:s.2<A.length):setS (A++B) s k=setS A s k++B:=by
 unfold setS setRow;rw[List.getElem?_append_left h];split
 · rw[List.set_append,if_pos h]
 rfl
theorem setAll_app {k:Nat}:∀(sl:List Slot) {A B:List (List CD)},(∀s∈sl,s.2<A.length)→setAll k sl (A++B)=setAll k sl A++B
 |[],_,_,_=>rfl
 | s::sl,A,B,h=>by
   simp only[setAll];rw[setS_app (h s (by simp)),setAll_app sl fun x hx=>by rw[setS_len];exact h x (by simp[hx])]
theorem setAll_cat {k:Nat}:∀(x y:List Slot) (rows:List (List CD)),setAll k (x++y) rows=setAll k y (setAll k x rows)
 |[],_,_=>rfl
 |s::x,y,rows=>by simp only[List.cons_append,setAll];exact setAll_cat x y _
theorem setRow_comm {rows:List (List CD)} {i j f g:Nat} {u v:CD} (h4:∀r∈rows,r.length=4) (hf:f<4) (hg:g<4) (h:(i,f)≠(j,g)∨u=v):setRow (setRow rows i f [u]) j g [v]=setRow (setRow rows j g [v]) i f [u]:=by
 by_cases hij:i=j
 · subst hij;cases hr:rows[i]? with
   |none=>simp[setRow,hr]
   | some r=>
     have hi:i<rows.length:=(List.getElem?_eq_some_iff.1 hr).1;have hl:=h4 r (List.mem_of_getElem? hr);simp only[setRow,hr,List.getElem?_set_self hi,List.set_set];congr 1
     match r,hl with
     | [a,b,c,d],_=>
       match f,g,hf,hg with
       |0,0,_,_|1,1,_,_|2,2,_,_|3,3,_,_=>rcases h with h|h<;>simp_all
       |0,1,_,_|0,2,_,_|0,3,_,_|1,0,_,_|1,2,_,_|1,3,_,_|2,0,_,_|2,1,_,_|2,3,_,_|3,0,_,_|3,1,_,_|3,2,_,_=>rfl
 cases hi:rows[i]? with
 |none=>simp only[setRow,hi];cases hj:rows[j]? <;>simp[hi,hij,List.getElem?_set,Ne.symm hij]
 | some r=>
   cases hj:rows[j]? with
   |none=>simp[setRow,hi,hj,List.getElem?_set,hij]
   | some q=>
     simp only[setRow,hi,hj,List.getElem?_set_ne hij,List.getElem?_set_ne (Ne.symm hij)];exact List.set_comm _ _ hij
theorem setS_comm {rows:List (List CD)} {s t:Slot} {j k:Nat} (h4:∀r∈rows,r.length=4) (h:s≠t∨j=k):setS (setS rows s j) t k=setS (setS rows t k) s j:=by
 unfold setS;refine setRow_comm h4 (by split<;>omega) (by split<;>omega) ?_;obtain⟨s1,s2⟩:=s;obtain⟨t1,t2⟩:=t;rcases h with h|h
 · refine .inl fun e=>h ?_;simp only[Prod.mk.injEq]at e⊢;refine⟨?_,e.1⟩;cases s1<;>cases t1<;>simp_all
 exact .inr (by rw[h])
theorem setAll_one {j k:Nat} {t:Slot}:∀(sl:List Slot) (rows:List (List CD)),(∀r∈rows,r.length=4)→((∀s∈sl,s≠t)∨j=k)→setAll j sl (setS rows t k)=setS (setAll j sl rows) t k
 |[],_,_,_=>rfl
 | s::sl,rows,h4,h=>by
   simp only[setAll];rw[setS_comm h4 (h.imp (fun h=>Ne.symm (h s (by simp))) Eq.symm),setAll_one sl _ (setS_four h4) (h.imp (fun h x hx=>h x (by simp[hx])) id)]
theorem setAll_comm {k:Nat}:∀(x y:List Slot) (rows:List (List CD)),(∀r∈rows,r.length=4)→setAll k x (setAll k y rows)=setAll k y (setAll k x rows)
 |x,[],rows,_=>rfl
 | x,t::y,rows,h4=>by
   simp only[setAll];rw[setAll_comm x y _ (setS_four h4),setAll_one x rows h4 (.inr rfl)]
theorem bList_slots:∀(l:List St) (sl:List Slot) (st:Bst),okB sl st.1→∀s∈(bList l sl st).2,(l=[]∧s∈sl)∨st.1.length≤s.2:=by
 have one:∀(s:St),(∀l,l=s.then_∨l=s.else_→∀(sl:List Slot) (st:Bst),okB sl st.1→∀s∈(bList l sl st).2,(l=[]∧s∈sl)∨st.1.length≤s.2)→
   ∀(k:Nat) (st:Bst),(∀r∈st.1,r.length=4)→k=st.1.length→∀q∈(bOne s k st).2,k≤q.2:=by
  intro s ih k st h4 hk q hq;obtain⟨o,c,v,n,t,a,b,bs⟩:=s;simp only[St.then_,St.else_]at ih;unfold bOne at hq;split at hq
  · have k1:okB [(false,k)] (st.1++[nodeC 3 st.2]):=⟨four_app h4,by simp[hk]⟩;have ok:=bList_ok a [(false,k)] (st.1++[nodeC 3 st.2],st.2+1) k1;have ia:=ih a (.inl rfl) [(false,k)] (st.1++[nodeC 3 st.2],st.2+1) k1;obtain⟨x,hx⟩:∃x,bList a [(false,k)] (st.1++[nodeC 3 st.2],st.2+1)=x:=⟨_,rfl⟩;simp only[hx,List.length_append,List.length_singleton]at hq ok ia;have ib:=ih b (.inr rfl) [(true,k)] x.1 ⟨ok.1.four,by simp;omega⟩;rcases List.mem_append.1 hq with hq|hq
    · rcases ia q hq with⟨_,h⟩|h
      · rw[List.mem_singleton.1 h];exact Nat.le_refl _
      omega
    rcases ib q hq with⟨_,h⟩|h
    · rw[List.mem_singleton.1 h];exact Nat.le_refl _
    omega
  split at hq
  · rw[List.mem_singleton.1 hq];exact Nat.le_succ _
  rw[List.mem_singleton.1 hq];exact Nat.le_refl _
 apply St.lists;intro l ih sl st hok q hq
 have key:∀(l:List St),(∀s∈l,∀l',l'=s.then_∨l'=s.else_→∀(sl:List Slot) (st:Bst),okB sl st.1→∀s∈(bList l' sl st).2,(l'=[]∧s∈sl)∨st.1.length≤s.2)→∀(sl:List Slot) (st:Bst),okB sl st.1→∀q∈(bList l sl st).2,(l=[]∧q∈sl)∨st.1.length≤q.2:=by
  intro l
  induction l with
  |nil=>intro _ sl st _ q hq;exact .inl ⟨rfl,hq⟩
  | cons s l il=>
    intro ih sl st hok q hq;unfold bList at hq;have h4:∀r∈setAll st.1.length sl st.1,r.length=4:=setAll_four _ _ _ hok.four;have o1:=bOne_ok s st.1.length (setAll st.1.length sl st.1,st.2) h4 (setAll_len ..).symm;have o2:=one s (ih s (by simp)) st.1.length (setAll st.1.length sl st.1,st.2) h4 (setAll_len ..).symm;obtain⟨x,hx⟩:∃x,bOne s st.1.length (setAll st.1.length sl st.1,st.2)=x:=⟨_,rfl⟩;simp only[hx,setAll_len]at hq o1 o2;rcases il (fun s hs=>ih s (by simp[hs])) x.2 x.1 o1.1 q hq with⟨_,h⟩|h
    · exact .inr (o2 q h)
    exact .inr (Nat.le_trans o1.2.1 h)
 exact key l (fun s hs l' h=>by
  rcases h with rfl|rfl
  · exact(ih s hs).1
  exact(ih s hs).2) sl st hok q hq
mutual
def gS:St→Bool
 | .mk o _ _ _ _ a b _=>(decide (o=3)||(decide (o=4)&&b.isEmpty)||(a.isEmpty&&b.isEmpty))&&(gL a&&gL b)
def gL:List St→Bool
 |[]=>true
 |s::l=>gS s&&gL l
end
theorem ssC_g {vars:List Vr} {nh:Nat}:∀(l:List St) (top:Bool),ssC vars nh l top=0→gL l=true
 |[],_,_=>rfl
 | .mk d c v n t a b bs::l,top,h=>by
   have hs:shB vars nh d v n t a.length b.length bs (top&&l.isEmpty)=true:=by
    simp only[ssC]at h;split at h
    · rename_i h0;unfold stC at h0;split at h0
      · cases h0
      rename_i hs;simpa using hs
    rename_i h0;exact absurd h h0
   have hr:ssC vars nh a false=0∧ssC vars nh b false=0∧ssC vars nh l top=0:=by
    simp only[ssC]at h;split at h
    · split at h
      · split at h
        · rename_i ha hb;exact⟨ha,hb,h⟩
        rename_i hb;exact absurd h hb
      rename_i ha;exact absurd h ha
    rename_i h0;exact absurd h h0
   simp only[gL,gS,Bool.and_eq_true,Bool.or_eq_true,decide_eq_true_eq,List.isEmpty_iff];refine⟨⟨?_,ssC_g a false hr.1,ssC_g b false hr.2.1⟩,ssC_g l top hr.2.2⟩;rcases shB_free hs with h1|h1|⟨h1,h2⟩
   · exact .inl (.inl h1)
   · refine .inl (.inr ⟨h1,?_⟩);subst h1;unfold shB at hs;simp at hs;exact hs.1.2
   exact .inr ⟨List.eq_nil_of_length_eq_zero h1,List.eq_nil_of_length_eq_zero h2⟩
mutual
theorem layS_len:∀(s:St) (d:Int) (k after:Nat),gS s=true→(layS s d k after).length=wdS s
 | .mk o c v n t a b bs,d,k,after,h=>by
   simp only[gS,Bool.and_eq_true,Bool.or_eq_true,decide_eq_true_eq,List.isEmpty_iff]at h;obtain⟨h,ha,hb⟩:=h;unfold layS wdS;by_cases h3:o=3
   · have h4:¬o=4:=by omega
     rw[if_pos h3,if_neg h4];simp only[List.length_cons,List.length_append,layL_len a _ _ _ ha,layL_len b _ _ _ hb];omega
   rw[if_neg h3];by_cases h4:o=4
   · rw[if_pos h4,if_pos h4]
     have hb0:b=[]:=by
      rcases h with(h|h)|h
      · exact absurd h h3
      · exact h.2
      exact h.2
     subst hb0;simp only[List.length_cons,layL_len a _ _ _ ha,wdL];omega
   rw[if_neg h4,if_neg h4]
   have h0:a=[]∧b=[]:=by
    rcases h with(h|h)|h
    · exact absurd h h3
    · exact absurd h.1 h4
    exact h
   rw[h0.1,h0.2];rfl
theorem layL_len:∀(l:List St) (d:Int) (k after:Nat),gL l=true→(layL l d k after).length=wdL l
 |[],_,_,_,_=>rfl
 | s::l,d,k,after,h=>by
   simp only[gL,Bool.and_eq_true]at h;unfold layL wdL;rw[List.length_append,layS_len s _ _ _ h.1,layL_len l _ _ _ h.2]
end
def layOK (l:List St):Prop:=gL l=true→∀(sl:List Slot) (st:Bst) (d:Int),okB sl st.1→st.2=d→
 (∀after:Nat,setAll after (bList l sl st).2 (bList l sl st).1.1=setAll (if l=[] then after else st.1.length) sl st.1++encNs (layL l d st.1.length after))∧(bList l sl st).1.2=d+szL l
def layOne (s:St):Prop:=gS s=true→∀(k:Nat) (st:Bst) (d:Int),(∀r∈st.1,r.length=4)→k=st.1.length→st.2=d→
 (∀after:Nat,setAll after (bOne s k st).2 (bOne s k st).1.1=st.1++encNs (layS s d k after))∧(bOne s k st).1.2=d+szS s
theorem encNs_app (a b:List Nd):encNs (a++b)=encNs a++encNs b:=by simp[encNs]
theorem setS_last {A:List (List CD)} {x:List CD} {o:Bool} {k v:Nat} (hk:k=A.length):setS (A++[x]) (o,k) v=A++[if o=true then x.take 3++[iC v]++x.drop 4 else x.take 2++[iC v]++x.drop 3]:=by
 subst hk;unfold setS setRow;simp;cases o<;>simp
theorem layOne_of (s:St) (ha:layOK s.then_) (hb:layOK s.else_):layOne s:=by
 obtain⟨o,c,v,n,t,a,b,bs⟩:=s;simp only[St.then_,St.else_]at ha hb;intro hg k st d h4 hk hd;simp only[gS,Bool.and_eq_true,Bool.or_eq_true,decide_eq_true_eq,List.isEmpty_iff]at hg;obtain⟨hg,hga,hgb⟩:=hg;have ha:=ha hga;have hb:=hb hgb;subst hd;unfold bOne layS szS;by_cases h3:o=3
 · simp only[if_pos h3];have k1:okB [(false,k)] (st.1++[nodeC 3 st.2]):=⟨four_app h4,by simp[hk]⟩;have ok:=bList_ok a [(false,k)] (st.1++[nodeC 3 st.2],st.2+1) k1;have sa:=bList_slots a [(false,k)] (st.1++[nodeC 3 st.2],st.2+1) k1;obtain⟨ia,ida⟩:=ha [(false,k)] (st.1++[nodeC 3 st.2],st.2+1) _ k1 rfl;obtain⟨x,hx⟩:∃x,bList a [(false,k)] (st.1++[nodeC 3 st.2],st.2+1)=x:=⟨_,rfl⟩;simp only[hx,List.length_append,List.length_singleton]at ok sa ia ida⊢;have k2:okB [(true,k)] x.1.1:=⟨ok.1.four,by simp;omega⟩;have ok2:=bList_ok b [(true,k)] x.1 k2;obtain⟨ib,idb⟩:=hb [(true,k)] x.1 _ k2 rfl;obtain⟨y,hy⟩:∃y,bList b [(true,k)] x.1=y:=⟨_,rfl⟩;simp only[hy]at ok2 ib idb⊢
   have hlen:x.1.1.length=k+1+wdL a:=by
    have:=congrArg List.length (ia 0);rw[setAll_len,List.length_append,setAll_len,List.length_append,List.length_singleton,len_encN,layL_len a _ _ _ hga]at this;omega
   refine⟨fun after=>?_,by omega⟩;rw[setAll_cat,setAll_comm _ _ _ ok2.1.four,ib after,setAll_app x.2 (fun s hs=>by rw[setAll_len];exact ok.1.lt s hs)];simp only[setAll]
   rw[setAll_one x.2 _ ok.1.four (.inl fun s hs=>by
    rcases sa s hs with⟨_,h⟩|h
    · rw[List.mem_singleton.1 h];simp
    intro e;rw[e]at h;simp at h;omega),ia after]
   simp only[setAll];rw[setS_last hk,setS_app (by simp[hk]),setS_last hk,hlen,ida,hk];simp only[nodeC,Bool.false_eq_true,if_false,if_true,List.take,List.drop,List.nil_append,List.cons_append,List.append_nil,encNs,List.map_cons,List.map_append,Nd.enc,List.append_assoc];refine congrArg (st.1++ ·) ?_;congr 2;by_cases h1:a=[]<;>by_cases h2:b=[]<;>simp[h1,h2]
 by_cases h4':o=4
 · simp only[if_neg h3,if_pos h4']
   have hb0:b=[]:=by
    rcases hg with(h|h)|h
    · exact absurd h h3
    · exact h.2
    exact h.2
   subst hb0
   have hR:setRow (st.1++[nodeC 4 st.2]++[nodeC 5 st.2]) k 2 [iC ((k:Int)+1)]=st.1++[[iC 4,iC st.2,iC ((k:Int)+1),iC (-1)]]++[nodeC 5 st.2]:=by
    subst hk;simp[setRow]
   have k1:okB [(false,k+1)] (st.1++[[iC 4,iC st.2,iC ((k:Int)+1),iC (-1)]]++[nodeC 5 st.2]):=by
    rw[←hR];exact⟨setRow_four (four_app (four_app h4)) (by omega),by simp[setRow_len,hk]⟩
   rw[hR];have ok:=bList_ok a [(false,k+1)] (st.1++[[iC 4,iC st.2,iC ((k:Int)+1),iC (-1)]]++[nodeC 5 st.2],st.2+1) k1;obtain⟨ia,ida⟩:=ha [(false,k+1)] (st.1++[[iC 4,iC st.2,iC ((k:Int)+1),iC (-1)]]++[nodeC 5 st.2],st.2+1) _ k1 rfl;obtain⟨x,hx⟩:∃x,bList a [(false,k+1)] (st.1++[[iC 4,iC st.2,iC ((k:Int)+1),iC (-1)]]++[nodeC 5 st.2],st.2+1)=x:=⟨_,rfl⟩;simp only[hx]at ok ia ida⊢;refine⟨fun after=>?_,by simp only[szL];omega⟩;simp only[setAll];rw[ia (k+1)];simp only[setAll];rw[setS_last (by simp[hk]),setS_app (by simp[hk]),setS_last (by simp[hk])];simp only[nodeC,Bool.false_eq_true,if_false,if_true,List.take,List.drop,List.nil_append,List.cons_append,List.append_nil,encNs,List.map_cons,List.map_append,Nd.enc,List.append_assoc,List.length_append,List.length_singleton,hk];refine congrArg (st.1++ ·) ?_;congr 2;by_cases h1:a=[]<;>simp[h1]
 simp only[if_neg h3,if_neg h4']
 have h0:a=[]∧b=[]:=by
  rcases hg with(h|h)|h
  · exact absurd h h3
  · exact absurd h.1 h4'
  exact h
 rw[h0.1,h0.2];refine⟨fun after=>?_,by simp only[szL];omega⟩;simp only[setAll];rw[setS_last hk];rfl
theorem layOK_all:∀l:List St,layOK l:=by
 apply St.lists;intro l ih
 have key:∀l:List St,(∀s∈l,layOne s)→layOK l:=by
  intro l
  induction l with
  | nil=>
    intro _ _ sl st d hok hd;exact⟨fun after=>by simp[bList,layL,encNs],by simp[bList,szL,hd]⟩
  | cons s l il=>
    intro h hg sl st d hok hd;simp only[gL,Bool.and_eq_true]at hg;have h4:∀r∈setAll st.1.length sl st.1,r.length=4:=setAll_four _ _ _ hok.four;have o1:=bOne_ok s st.1.length (setAll st.1.length sl st.1,st.2) h4 (setAll_len ..).symm;obtain⟨i1,id1⟩:=h s (by simp) hg.1 st.1.length (setAll st.1.length sl st.1,st.2) d h4 (setAll_len ..).symm hd;unfold bList layL szL;obtain⟨x,hx⟩:∃x,bOne s st.1.length (setAll st.1.length sl st.1,st.2)=x:=⟨_,rfl⟩;simp only[hx]at o1 i1 id1⊢
    have hlen:x.1.1.length=st.1.length+wdS s:=by
     have:=congrArg List.length (i1 0);rw[setAll_len,List.length_append,setAll_len,len_encN,layS_len s _ _ _ hg.1]at this;exact this
    obtain⟨i2,id2⟩:=il (fun s hs=>h s (by simp[hs])) hg.2 x.2 x.1 _ o1.1 id1;refine⟨fun after=>?_,by omega⟩;rw[i2 after,hlen,i1,encNs_app,if_neg (List.cons_ne_nil s l),List.append_assoc]
 exact key l fun s hs=>layOne_of s (ih s hs).1 (ih s hs).2
theorem bldF_eq (l:List St) (hg:gL l=true):bldF l=encNs (grN l):=by
 have k0:okB [(false,0)] [[iC 0,iC (-1),iC (-1),iC (-1)]]:=⟨by simp,by simp⟩;obtain⟨i1,_⟩:=layOK_all l hg [(false,0)] ([[iC 0,iC (-1),iC (-1),iC (-1)]],0) 0 k0 rfl;unfold bldF;obtain⟨x,hx⟩:∃x,bList l [(false,0)] ([[iC 0,iC (-1),iC (-1),iC (-1)]],0)=x:=⟨_,rfl⟩;simp only[hx]at i1⊢
 have hlen:x.1.1.length=1+wdL l:=by
  have:=congrArg List.length (i1 0);rw[setAll_len,List.length_append,setAll_len,len_encN,layL_len l _ _ _ hg]at this;exact this
 rw[i1,hlen];unfold grN;simp only[setAll,setS,setRow,List.length_singleton];simp[encNs];by_cases h:l=[]<;>simp[h]
end Go.Proofs.YtppjennamodfdaaGreat

namespace Go.Proofs.YtppjennamodfdaaGreat
open Go Go.Hl
abbrev wr (x:Int):Int:=IntKind.i64.wrap x
def flagI (b:Bool):Int:=if b=true then 1 else 0
def divI (a b:Int):Int:=
 if b=0 then 0 else if(!decide (a.tmod b=0)&&(decide (a<0)!=decide (b<0)))=true then wr (wr (a.tdiv b) - 1)else wr (a.tdiv b)
def modI (a b:Int):Int:=if b=0 then 0 else wr (a - wr (b*divI a b))
def binI (o a b:Int):Int:=
 if o=8 then wr (a+b)else if o=9 then wr (a - b)else if o=10 then wr (a*b)else if o=11 then divI a b else if o=12 then modI a b
 else if o=13 then flagI (decide (a=b))else if o=14 then flagI (!decide (a=b))else if o=15 then flagI (decide (a<b))else if o=16 then flagI (decide (a≤b))
 else if o=17 then flagI (decide (b<a))else if o=18 then flagI (decide (b≤a))else if o=19 then flagI (!decide (a=0)&& !decide (b=0))
 else if o=20 then flagI (!decide (a=0)|| !decide (b=0))else if o=21 then mn a b else mx a b
end Go.Proofs.YtppjennamodfdaaGreat

namespace Go.Proofs.YtppjennamodfdaaGreat
open Go Go.Hl
def selI (k0:Int) (len:Nat):Int:=wr (1+heldI k0 0 (wr ((len:Int) - 2)))
def valN (vs:List Int) (o n:Int) (k:List Int):Int:=
 if o=0 then n else if o=24 then(vs[n.toNat]?).getD 0 else if o=6 then wr (-((k[0]?).getD 0))else if o=7 then flagI (decide ((k[0]?).getD 0=0))
 else if o=23 then(if(k[0]?).getD 0=0 then(k[2]?).getD 0 else(k[1]?).getD 0)
 else if o=25 then(k[(selI ((k[0]?).getD 0) k.length).toNat]?).getD 0
 else binI o ((k[0]?).getD 0) ((k[1]?).getD 0)
mutual
def vT (vs:List Int):Tm→Int
 | .mk o n ks=>valN vs o n (vTs vs ks)
def vTs (vs:List Int):List Tm→List Int
 |[]=>[]
 |t::l=>vT vs t::vTs vs l
end
end Go.Proofs.YtppjennamodfdaaGreat

namespace Go.Proofs.YtppjennamodfdaaGreat
open Go Go.Hl
def hvals (vs:List Int) (l:List Ht):List Int:=l.map fun h=>heldI (vT vs h.term) h.low h.high
end Go.Proofs.YtppjennamodfdaaGreat

namespace Go.Proofs.YtppjennamodfdaaGreat
open Go Go.Hl
theorem cloneV_con (l:List Vr) (hl:l.length≤1000000) (d:Nat):Con Tryz.prog 102 false [lV l] (.v (lV l)) none d:=by
 have hroom:room l.length 48:=room_of (by omega) (by omega);cases l with
 | nil=>
   refine con_emp ?_ ?_
   · refine con_of_HTA Tryz.func102 ?_;simp only[Tryz.f102];refine HT_sA ?_;refine HT_seq<|HT_seq<|HT_runA ?_;refine(HT_cs rfl (fun h2=>?_) fun h2=>?_)
     · (try simp only[BN]at h2);refine HT_sA ?_;exact HT_ret ⟨.inr rfl,_,le_one 2 5 rfl,⟨⟨_,by simp;rfl,by simp[resR]⟩,by simp,fun h=>by cases h⟩⟩
     exact absurd h2 (by simp)
   intro a cap;refine con_of_HTA Tryz.func102 ?_;simp only[Tryz.f102];refine HT_sA ?_;refine HT_seq<|HT_seq<|HT_runA ?_;refine(HT_cs rfl (fun h2=>?_) fun h2=>?_)
   · exact absurd h2 (by simp)
   (try simp only[BN]at h2);refine HT_le (le_emp 0 5 rfl) ?_;refine HT_sA ?_;exact HT_ret ⟨.inr rfl,_,le_frz 7 rfl,⟨⟨_,by simp;rfl,by simp[resR]⟩,by simp,fun h=>by cases h⟩⟩
 | cons v r=>
   refine con_of_HTA Tryz.func102 ?_;simp only[Tryz.f102];rw[List.length_cons]at hroom;refine HT_sA ?_;refine HT_seq<|HT_seq<|HT_runA ?_;refine(HT_cs rfl (fun h2=>?_) fun h2=>?_)
   · exact absurd h2 (by simp)
   (try simp only[BN]at h2);refine HT_sA ?_;exact HT_ret ⟨.inr rfl,_,le_frz 7 rfl,⟨⟨_,by simp;rfl,by simp[resR]⟩,by simp,fun h=>by cases h⟩⟩
theorem cloneI_con (l:List Int) (hl:l.length≤1000000000) (d:Nat):Con Tryz.prog 34 false [lI l] (.v (lI l)) none d:=by
 have hroom:room l.length 8:=⟨by unfold maxLen;omega,by omega⟩;cases l with
 | nil=>
   refine con_emp ?_ ?_
   · refine con_of_HTA Tryz.func34 ?_;simp only[Tryz.f34];refine HT_sA ?_;refine HT_seq<|HT_seq<|HT_runA ?_;refine(HT_cs rfl (fun h2=>?_) fun h2=>?_)
     · (try simp only[BN]at h2);refine HT_sA ?_;exact HT_ret ⟨.inr rfl,_,le_one 2 1 rfl,⟨⟨_,by simp;rfl,by simp[resR]⟩,by simp,fun h=>by cases h⟩⟩
     exact absurd h2 (by simp)
   intro a cap;refine con_of_HTA Tryz.func34 ?_;simp only[Tryz.f34];refine HT_sA ?_;refine HT_seq<|HT_seq<|HT_runA ?_;refine(HT_cs rfl (fun h2=>?_) fun h2=>?_)
   · exact absurd h2 (by simp)
   (try simp only[BN]at h2);refine HT_le (le_emp 0 1 rfl) ?_;refine HT_sA ?_;exact HT_ret ⟨.inr rfl,_,le_frz 7 rfl,⟨⟨_,by simp;rfl,by simp[resR]⟩,by simp,fun h=>by cases h⟩⟩
 | cons v r=>
   refine con_of_HTA Tryz.func34 ?_;simp only[Tryz.f34];rw[List.length_cons]at hroom;refine HT_sA ?_;refine HT_seq<|HT_seq<|HT_runA ?_;refine(HT_cs rfl (fun h2=>?_) fun h2=>?_)
   · exact absurd h2 (by simp)
   (try simp only[BN]at h2);refine HT_sA ?_;exact HT_ret ⟨.inr rfl,_,le_frz 7 rfl,⟨⟨_,by simp;rfl,by simp[resR]⟩,by simp,fun h=>by cases h⟩⟩
end Go.Proofs.YtppjennamodfdaaGreat

namespace Go.Proofs.YtppjennamodfdaaGreat
open Go Go.Hl
@[simp] theorem encI_app (a b:List Int):encIs (a++b)=encIs a++encIs b:=by simp[encIs]
@[simp] theorem encI_one (x:Int):encIs [x]=[[iC x]]:=rfl
structure Inp where
 s:List Int
 p:List Int
 r:List Int
structure Pk where
 n:Int
 is_:Bool
 a:Nat
 b:Nat
 c:Nat
end Go.Proofs.YtppjennamodfdaaGreat

namespace Go.Proofs.YtppjennamodfdaaGreat
open Go Go.Hl
structure Sta where
 vals:List Int
 outs:List Int
 time:Int
end Go.Proofs.YtppjennamodfdaaGreat

namespace Go.Proofs.YtppjennamodfdaaGreat
open Go Go.Hl
end Go.Proofs.YtppjennamodfdaaGreat

namespace Go.Proofs.YtppjennamodfdaaGreat
open Go Go.Hl
theorem sizes_con (f:Fl) (hv:f.vars.length≤1000000) (hh:f.hats.length≤1000000) (hn:nodesS f.body+nodesH f.hats≤900000000) (d:Nat):
  Con Tryz.prog 60 true [aF f] (.v (lb (sizesB f))) none d:=by
 obtain⟨res,hres⟩:∃r,sizesB f=r:=⟨_,rfl⟩;rw[hres];have cn:=nodes_con f.body (by omega);have csd:=sdepth_con f.body (by omega);have ctd:=tdeep_con f.body (by omega);unfold sizesB at hres;obtain⟨vars,hats,body⟩:=f;simp only at hv hh hn hres cn csd ctd;refine con_of_HTA Tryz.func60 ?_;simp only[Tryz.f60];simp only[aF,Fl.enc,List.map_cons,List.map_nil];refine HT_sA ?_;refine HT_seq<|HT_seq<|HT_runA ?_;refine(HT_cs rfl (fun h2=>?_) fun h2=>?_)
 · try simp only[BN]at h2
   have hz:(decide (vars.length≤64)&&decide (hats.length≤8))=false:=by
    simp only[Bool.and_eq_false_iff,decide_eq_false_iff_not];omega
   rw[hz]at hres;simp only[Bool.false_and]at hres;subst hres;refine HT_sA ?_;exact HT_rA
 try simp only[BN]at h2
 have hz:(decide (vars.length≤64)&&decide (hats.length≤8))=true:=by
  simp only[Bool.and_eq_true,decide_eq_true_eq];omega
 rw[hz]at hres;simp only[Bool.true_and]at hres;refine HT_scA [⟨true,.v (li (nodesS body)),none⟩] ?_ ?_
 · first|exact cn _|exact trivial|simpa[*]using cn _
 refine HT_seq<|HT_seq<|HT_runA ?_;refine HT_block<|(HT_loopU [1] (fun(x:Nat×Nat)=>[(3,.v (li x.2)),(4,.v (li x.1))]) (fun x=>[(1,.box [.c (.sl 5 (encVs vars)),.c (.sl 6 (encHs hats)),.c (.sl 10 (encSs body))])]) (fun x=>x.1≤hats.length∧x.2+nodesH (hats.drop x.1)=nodesS body+nodesH hats∧deepH (hats.drop x.1)=deepH hats) (fun x=>hats.length - x.1) (0,nodesS body) ⟨Nat.zero_le _,by simp,by simp⟩ ?_ ?_)
 · exact le_mkA (fun n=>n) []
 rintro⟨k,n⟩ ⟨hk,hJ,hJ2⟩;simp only[upS,keepS,insS]
 try simp only[keepS,KN,Nat.reduceBEq,if_true,if_false,ins,Nat.reduceLT]
 simp only at hk hJ hJ2;refine HT_seq<|HT_seq<|HT_runA ?_;refine(HT_cond rfl (fun h9=>HT_skip ?_) (fun h9=>?_))
 · (try simp only[BN]at h9);have hlt:k<hats.length:=by omega
   obtain⟨h,he,hd⟩:=at_lt hlt;have hw1:=wrap1 hlt (by omega);have hk1:k+1≤hats.length:=hlt;rw[hd]at hJ hJ2;simp only[nodesH]at hJ;have hJ2:(decide (tdT h.term≤12)&&deepH (hats.drop (k+1)))=deepH hats:=hJ2;have ctn:=tnodes_con h.term (by omega);have ctd2:=tdepth_con h.term (by omega);have hw2:IntKind.i64.wrap ((n:Int)+h.term.nodes)=((n+h.term.nodes:Nat):Int):=by rw[wrap_in (by omega) (by omega)];simp
   obtain⟨nm,lo,hi,⟨o,tn,ks⟩⟩:=h;simp only at hJ hJ2 ctn ctd2 hw2;simp only[aT,Tm.enc,List.map_cons,List.map_nil]at ctn ctd2;obtain⟨N,hN⟩:∃x,(Tm.mk o tn ks).nodes=x:=⟨_,rfl⟩;obtain⟨D,hD⟩:∃x,tdT (Tm.mk o tn ks)=x:=⟨_,rfl⟩;rw[hN]at ctn hJ hw2;rw[hD]at ctd2 hJ2;clear hlt h9 hd hN hD;refine HT_seq<|HT_block<|HT_seq<|(HT_runcA [⟨true,.v (li N),none⟩] ?_ ?_)
   · first|exact ctn _|exact trivial|simpa[*]using ctn _
   refine HT_scA [⟨true,.v (li D),none⟩] ?_ ?_
   · first|exact ctd2 _|exact trivial|simpa[*]using ctd2 _
   refine(HT_cs rfl (fun h12=>?_) fun h12=>?_)
   · (try simp only[BN]at h12);have hz2:deepH hats=false:=by rw[←hJ2];simp only[Bool.and_eq_false_iff,decide_eq_false_iff_not];omega
     rw[hz2,Bool.and_false]at hres;subst hres;refine HT_sA ?_;exact HT_rA
   (try simp only[BN]at h12);rw[decide_eq_true (by omega),Bool.true_and]at hJ2;refine HT_runA ?_;exact⟨(k+1,n+N),⟨hk1,by simp only;omega,hJ2⟩,by simp only;omega,le_mkA (fun n=>n) []⟩
 (try simp only[BN]at h9);have hkl:k=hats.length:=by omega
 subst hkl;rw[List.drop_length]at hJ hJ2;simp only[nodesH,Nat.add_zero]at hJ;have hJ2:deepH hats=true:=hJ2.symm;rw[hJ2,Bool.and_true,←hJ]at hres;obtain⟨S,hS⟩:∃x,sdL body=x:=⟨_,rfl⟩;obtain⟨T,hT⟩:∃x,tdeep body=x:=⟨_,rfl⟩;rw[hS]at csd hres;rw[hT]at ctd hres;have e1:decide (n≤1024)=decide ((n:Int)≤1024):=by rw[Bool.eq_iff_iff,decide_eq_true_eq,decide_eq_true_eq];omega
 have e2:decide (S≤12)=decide ((S:Int)≤12):=by rw[Bool.eq_iff_iff,decide_eq_true_eq,decide_eq_true_eq];omega
 rw[e1,e2]at hres;clear e1 e2 hS hT hJ2 h9 hJ;refine(HT_exit ?_);refine HT_scA [⟨true,.v (li S),none⟩,⟨true,.v (lb T),none⟩] ?_ ?_
 · first|exact⟨csd _,ctd _⟩|exact trivial|(repeat' first|exact trivial|exact csd _|exact ctd _|apply And.intro)
 exact(HT_retE (fun h=>⟨.inr rfl,h⟩) _ (by simp[*];rfl) (by subst hres;simp[resR]) (by simp))
end Go.Proofs.YtppjennamodfdaaGreat

namespace Go.Proofs.YtppjennamodfdaaGreat
open Go Go.Hl
theorem checkR_con (f:Fl) (hv:f.vars.length≤1000000) (hh:f.hats.length≤1000000) (hn:nodesS f.body+nodesH f.hats≤900000000) (hb:bndL f.body=true) (d:Nat):
  Con Tryz.prog 25 true [aF f] (.v (li (codeC f))) none d:=by
 obtain⟨res,hres⟩:∃r,codeC f=r:=⟨_,rfl⟩;rw[hres];have csz:=sizes_con f hv hh hn;have cvars:=varsR_con f.vars hv;have ct:=fun(hg:goodV f.vars) (h:Ht) (hm:h∈f.hats)=>termR_con f.vars true hg (by omega) h.term (by have:=nodesH_mem hm;omega);have cst:=fun hg=>stepsR_con f hg hv f.body (by omega) hb;have cup:=fun ho=>boundsR_con f.body (by omega) ho;have hgood:varsC f.vars=0→goodV f.vars:=varsC_good;have hok:ssC f.vars f.hats.length f.body true=0→okL f.body=true:=ssC_ok _ _;unfold codeC overL at hres;obtain⟨SZ,hSZ⟩:∃x,sizesB f=x:=⟨_,rfl⟩;rw[hSZ]at csz hres;obtain⟨vars,hats,body⟩:=f;simp only at hv hh hn hb hres csz cvars ct cst cup hgood hok;obtain⟨VC,hVC⟩:∃x,varsC vars=x:=⟨_,rfl⟩;obtain⟨HC,hHC⟩:∃x,hcs vars [] hats=x:=⟨_,rfl⟩;obtain⟨SC,hSC⟩:∃x,ssC vars hats.length body true=x:=⟨_,rfl⟩;rw[hVC]at cvars hres hgood;rw[hHC]at hres;rw[hSC]at hres hok;have cst:=fun hg=>cst hg true;rw[hSC]at cst;clear hVC hSC hSZ;refine con_of_HTA Tryz.func25 ?_;simp only[Tryz.f25];simp only[aF,Fl.enc,List.map_cons,List.map_nil]at csz cst⊢;refine HT_sA ?_;refine HT_seq<|HT_seq<|(HT_runcA [⟨true,.v (lb SZ),none⟩] ?_ ?_)
 · first|exact csz _|exact trivial|simpa[*]using csz _
 refine(HT_cs rfl (fun h2=>?_) fun h2=>?_)
 · (try simp only[BN]at h2);have hz:SZ=false:=by simpa using h2
   rw[if_pos hz]at hres;subst hres;refine HT_sA ?_;exact HT_rA
 (try simp only[BN]at h2);have hz:SZ=true:=by simpa using h2
 rw[if_neg (by rw[hz];decide)]at hres;clear csz h2;subst hz;refine HT_scA [⟨true,.v (li VC),none⟩] ?_ ?_
 · first|exact cvars _|exact trivial|simpa[*]using cvars _
 refine HT_seq<|HT_seq<|HT_runA ?_;refine(HT_cs rfl (fun h7=>?_) fun h7=>?_)
 · (try simp only[BN]at h7);rw[if_neg h7]at hres;subst hres;refine HT_sA ?_;exact HT_rA
 (try simp only[BN]at h7);have hv0:VC=0:=by simpa using h7
 have hg:=hgood hv0;have ct:=ct hg;have cst:=cst hg;rw[if_pos hv0]at hres;clear cvars hgood h7;subst hv0;refine HT_seq<|HT_seq<|HT_runA ?_;refine HT_block<|(HT_loopU [1] (fun(x:Nat)=>[(4,.v (li x))]) (fun x=>[(1,.box [.c (.sl 5 (encVs vars)),.c (.sl 6 (encHs hats)),.c (.sl 10 (encSs body))])]) (fun x=>x≤hats.length∧hcs vars (hats.take x) (hats.drop x)=HC) (fun x=>hats.length - x) (0:Nat) ⟨Nat.zero_le _,hHC⟩ ?_ ?_)
 · exact le_mkA (fun n=>n) []
 rintro k ⟨hk,hJ⟩;simp only[upS,keepS,insS]
 try simp only[keepS,KN,Nat.reduceBEq,if_true,if_false,ins,Nat.reduceLT]
 clear hHC;refine HT_seq<|HT_seq<|HT_runA ?_;refine(HT_cond rfl (fun h13=>HT_skip ?_) (fun h13=>?_))
 · (try simp only[BN]at h13);have hlt:k<hats.length:=by omega
   obtain⟨h,he,hd⟩:=at_lt hlt;have hw1:=wrap1 hlt (by omega);have hk1:k+1≤hats.length:=hlt;have hkl:(hats.take k).length=k:=by rw[List.length_take];omega
   rw[hd]at hJ;simp only[hcs]at hJ;rw[←take_snoc he]at hJ;have ct:=ct h (List.mem_of_getElem? he);obtain⟨nm,lo,hi,⟨o,tn,ks⟩⟩:=h;obtain⟨C,hC⟩:∃x,hcode vars (hats.take k) ⟨nm,lo,hi,.mk o tn ks⟩=x:=⟨_,rfl⟩;rw[hC]at hJ;simp only[hcode]at hC;simp only[aT,Tm.enc,List.map_cons,List.map_nil]at ct;obtain⟨TC,hTC⟩:∃x,termC vars true (.mk o tn ks)=x:=⟨_,rfl⟩;rw[hTC]at ct hC;clear hlt h13 hd cup hok cst hTC;refine HT_seq<|HT_block<|HT_seq<|HT_runA ?_;refine HT_seq<|HT_seq<|(HT_runcA [⟨true,.v (lb (nameB nm)),none⟩] ?_ ?_)
   · first|exact nameR_con _ _|exact trivial|simpa[*]using nameR_con _ _
   refine(HT_cs rfl (fun h16=>?_) fun h16=>?_)
   · (try simp only[BN]at h16);rw[if_pos h16]at hC;subst hC;rw[if_neg (by decide)]at hJ;subst hJ;rw[if_neg (by decide)]at hres;subst hres;refine HT_sA ?_;exact HT_rA
   (try simp only[BN]at h16);rw[if_neg (by simp[h16])]at hC;clear h16;refine HT_seq<|HT_seq<|HT_runA ?_;refine HT_block<|(HT_loopU [1,4,5] (fun(x:Nat)=>[(6,.v (li x))]) (fun x=>[(1,.box [.c (.sl 5 (encVs vars)),.c (.sl 6 (encHs hats)),.c (.sl 10 (encSs body))]),(5,.box [.c (sC nm),.c (iC lo),.c (iC hi),.c (iC o),.c (iC tn),.c (.sl 3 (encTs ks))])]) (fun x=>x≤k∧∀j:Nat,j<x→∀w,hats[j]? =some w→w.name≠nm) (fun x=>k - x) (0:Nat) ⟨Nat.zero_le _,fun j hj=>absurd hj (Nat.not_lt_zero j)⟩ ?_ ?_)
   · exact le_mkA (fun n=>n) []
   rintro j ⟨hj,hno⟩;simp only[upS,keepS,insS]
   try simp only[keepS,KN,Nat.reduceBEq,if_true,if_false,ins,Nat.reduceLT]
   refine HT_seq<|HT_seq<|HT_runA ?_;refine(HT_cond rfl (fun h22=>HT_skip ?_) (fun h22=>?_))
   · (try simp only[BN]at h22);have hjk:j<k:=by omega
     obtain⟨w,hw⟩:∃w,hats[j]? =some w:=⟨hats[j],by simp[show j<hats.length by omega]⟩;have hwj:=wrap1 hjk (by omega);have hj1:j+1≤k:=hjk
     have hmemw:w∈hats.take k:=by
      have:(hats.take k)[j]? =some w:=by rw[List.getElem?_take_of_lt hjk];exact hw
      exact List.mem_of_getElem? this
     obtain⟨n2,l2,i2,⟨o2,t2,k2⟩⟩:=w;clear hjk h22;refine HT_seq<|HT_block<|HT_seq<|(HT_drun (by kernel_rfl) (by kernel_rfl) (by rfl) (by simp[*];rfl) ?_);refine(HT_cs rfl (fun h24=>?_) fun h24=>?_)
     · try simp only[BN]at h24
       have hany:((hats.take k).any fun w=>decide (w.name=nm))=true:=by
        rw[List.any_eq_true];exact⟨_,hmemw,by simpa using h24⟩
       rw[if_pos hany]at hC;subst hC;rw[if_neg (by decide)]at hJ;subst hJ;rw[if_neg (by decide)]at hres;subst hres;refine HT_sA ?_;exact HT_rA
     (try simp only[BN]at h24);refine HT_runA ?_
     exact⟨j+1,⟨hj1,fun i hi u hu=>by
      rcases Nat.lt_or_eq_of_le (Nat.le_of_lt_succ hi)with h|h
      · exact hno i h u hu
      subst h;rw[hw]at hu;cases hu
      simpa using h24⟩,by omega,le_mkA (fun n=>n) []⟩
   (try simp only[BN]at h22);have hjk:j=k:=by omega
   subst hjk
   have hany:((hats.take j).any fun w=>decide (w.name=nm))=false:=by
    rw[List.any_eq_false];intro w hw;obtain⟨i,hi⟩:=List.mem_iff_getElem?.1 hw;have hij:i<j:=by have:=(List.getElem?_eq_some_iff.1 hi).1;omega
    rw[List.getElem?_take_of_lt hij]at hi;simpa using hno i hij w hi
   rw[if_neg (by simp[hany])]at hC;clear hno hkl hany;refine(HT_exit ?_);refine HT_seq<|HT_seq<|(HT_runcA [⟨true,.v (lb (boundedB lo hi)),none⟩] ?_ ?_)
   · first|exact boundedR_con _ _ _|exact trivial|simpa[*]using boundedR_con _ _ _
   refine(HT_cs rfl (fun h30=>?_) fun h30=>?_)
   · (try simp only[BN]at h30);rw[if_pos h30]at hC;subst hC;rw[if_neg (by decide)]at hJ;subst hJ;rw[if_neg (by decide)]at hres;subst hres;refine HT_sA ?_;exact HT_rA
   (try simp only[BN]at h30);rw[if_neg (by simp[h30])]at hC;subst hC;clear h30;refine HT_scA [⟨true,.v (li TC),none⟩] ?_ ?_
   · first|exact ct _|exact trivial|simpa[*]using ct _
   refine HT_sA ?_;refine(HT_cs rfl (fun h35=>?_) fun h35=>?_)
   · (try simp only[BN]at h35);rw[if_neg h35]at hJ;subst hJ;rw[if_neg h35]at hres;subst hres;refine HT_sA ?_;exact HT_rA
   (try simp only[BN]at h35);rw[if_pos (by simpa using h35)]at hJ;refine HT_runA ?_;exact⟨j+1,⟨hk1,hJ⟩,by omega,le_mkA (fun n=>n) []⟩
 (try simp only[BN]at h13);have hkl:k=hats.length:=by omega
 rw[hkl,List.drop_length]at hJ;simp only[hcs]at hJ;rw[if_pos hJ.symm]at hres;clear hJ hkl hk h13 ct;refine(HT_exit ?_);refine HT_scA [⟨true,.v (li SC),none⟩] ?_ ?_
 · first|exact cst _|exact trivial|simpa[*]using cst _
 refine HT_seq<|HT_seq<|HT_runA ?_;refine(HT_cs rfl (fun h42=>?_) fun h42=>?_)
 · (try simp only[BN]at h42);rw[if_neg h42]at hres;subst hres;refine HT_sA ?_;exact HT_rA
 (try simp only[BN]at h42);have hs0:SC=0:=by simpa using h42
 rw[if_pos hs0]at hres;have hok:=hok hs0;have cup:=cup hok;obtain⟨Y,hY⟩:∃x,bdL CR body ⟨0,0,0⟩=x:=⟨_,rfl⟩;rw[hY]at hres cup;obtain⟨y1,y2,y3⟩:=Y;simp only[Bool.or_eq_true,decide_eq_true_eq]at hres;simp only at cup;clear hY cst h42 hok;refine HT_scA [⟨true,.tup [li y1,li y2,li y3],none⟩] ?_ ?_
 · first|exact cup _|exact trivial|simpa[*]using cup _
 refine HT_seq<|HT_seq<|HT_runA ?_;refine(HT_cs rfl (fun h47=>?_) fun h47=>?_)
 · (try simp only[BN]at h47);rw[if_pos (by omega)]at hres;subst hres;refine HT_sA ?_;exact HT_rA
 (try simp only[BN]at h47);rw[if_neg (by omega)]at hres;subst hres;refine HT_sA ?_;exact HT_rA
end Go.Proofs.YtppjennamodfdaaGreat

namespace Go.Proofs.YtppjennamodfdaaGreat
open Go Go.Hl
def st0:Sta:=⟨[],[],0⟩
structure Obs where
 outs:List Int
 time:Int
end Go.Proofs.YtppjennamodfdaaGreat

namespace Go.Proofs.YtppjennamodfdaaGreat
open Go Go.Hl
theorem code_split {f:Fl} (h:codeC f=0):sizesB f=true∧varsC f.vars=0∧hcs f.vars [] f.hats=0∧ssC f.vars f.hats.length f.body true=0∧overL f.body=false:=by
 unfold codeC at h;split at h
 · cases h
 rename_i hs;split at h
 · rename_i hv;split at h
   · rename_i hh;split at h
     · rename_i hb;split at h
       · cases h
       rename_i ho;exact⟨by simpa using hs,hv,hh,hb,by simpa using ho⟩
     rename_i hb;exact absurd h hb
   rename_i hh;exact absurd h hh
 rename_i hv;exact absurd h hv
end Go.Proofs.YtppjennamodfdaaGreat

namespace Go.Proofs.YtppjennamodfdaaGreat
open Go Go.Hl
structure Sm (f:Fl):Prop where
 vars:f.vars.length≤1000
 hats:f.hats.length≤1000
 nodes:nodesS f.body+nodesH f.hats≤1000
 bnd:bndL f.body=true
mutual
theorem szN_le:∀s:St,szN s≤2*szS s
 | .mk _ _ _ _ _ a b _=>by have:=szNs_le a;have:=szNs_le b;simp only[szN,szS];omega
theorem szNs_le:∀l:List St,szNs l≤2*szL l
 |[]=>by simp[szNs]
 |s::l=>by have:=szN_le s;have:=szNs_le l;simp only[szNs,szL];omega
end
theorem Sm.sz {f:Fl} (h:Sm f):szL f.body≤1000:=Nat.le_trans (szL_le f.body) (by have:=h.nodes;omega)
theorem code_g {f:Fl} (h:codeC f=0):gL f.body=true:=ssC_g f.body true (code_split h).2.2.2.1
mutual
theorem wdS_le:∀s:St,wdS s≤2*szS s
 | .mk o _ _ _ _ a b _=>by have:=wdL_le a;have:=wdL_le b;simp only[wdS,szS];split<;>omega
theorem wdL_le:∀l:List St,wdL l≤2*szL l
 |[]=>by simp[wdL]
 |s::l=>by have:=wdS_le s;have:=wdL_le l;simp only[wdL,szL];omega
end
theorem grN_len {l:List St} (h:gL l=true):(grN l).length=2+wdL l:=by
 simp only[grN,List.length_cons,List.length_append,layL_len l _ _ _ h,List.length_nil];omega
abbrev grC (l:List St):CD:=.sl 4 (encNs (grN l))
theorem cfgBuild_con (f:Fl) (h:Sm f) (d:Nat):Con Tryz.prog 122 false [aF f] (.tup [.agg [.c (if codeC f=0 then grC f.body else .lit nilS)],li (codeC f)]) none d:=by
 have cc:=checkP_con f (by have:=h.vars;omega) (by have:=h.hats;omega) (by have:=h.nodes;omega) h.bnd;have cb:=build_con f (by have:=h.sz;have:=szNs_le f.body;omega);have hg:=@code_g f;have he:=bldF_eq f.body;obtain⟨vars,hats,body⟩:=f;simp only at he hg;obtain⟨C,hC⟩:∃x,codeC ⟨vars,hats,body⟩=x:=⟨_,rfl⟩;rw[hC]at cc hg⊢;refine con_of_HTA Tryz.func122 ?_;simp only[Tryz.f122];simp only[aF,Fl.enc,List.map_cons,List.map_nil]at cc cb⊢;refine HT_sA ?_;refine HT_seq<|HT_seq<|(HT_runcA [⟨true,.v (li C),none⟩] ?_ ?_)
 · first|exact cc _|exact trivial|simpa[*]using cc _
 refine HT_sA ?_;refine(HT_cs rfl (fun h3=>?_) fun h3=>?_)
 · (try simp only[BN]at h3);have hz:¬C=0:=by simpa using h3
   clear h3 he hg cb;refine HT_seq<|(HT_run (by simp[*,allTyped,fillC,placeOf,cellsOf,dataOf];rfl) ?_);exact HT_ret ⟨.inr rfl,_,le_refl _,⟨_,by simp;rfl,by simp[resR,hz,nilS,li]⟩,by simp,fun h=>by cases h⟩
 (try simp only[BN]at h3);have hz:C=0:=by simpa using h3
 have he:=he (hg hz);rw[he]at cb;clear h3 he hg;refine HT_seq<|(HT_runc [⟨false,.v (.agg [.c (.sl 4 (encNs (grN body)))]),none⟩] (by simp[*,cellsOf,dataOf];first|exact⟨rfl,Iff.rfl⟩|exact⟨rfl,trivial⟩|rfl) ?_ ?_)
 · first|exact cb _|exact trivial|simpa[*,cellsOf,dataOf]using cb _
 exact HT_ret ⟨.inr rfl,_,le_refl _,⟨_,by simp;rfl,by simp[resR,hz,li]⟩,by simp,fun h=>by cases h⟩
@[simp] theorem fsN:flatS Tryz.prog 143=some [true,true,true,true]:=by kernel_rfl
@[simp] theorem arN:arrI Tryz.prog 143=none:=by kernel_rfl
theorem eqN_con (a:List Nd) (ha:a.length≤1000000000) (d:Nat):Con Tryz.prog 170 true [.one (.c (.sl 4 (encNs a))),.one (.c (.sl 4 (encNs a)))] (.v (lb true)) none d:=by
 refine con_of_HTA Tryz.func170 ?_;simp only[Tryz.f170];refine HT_sA ?_;refine HT_seq<|HT_seq<|HT_runA ?_;refine(HT_cs rfl (fun h2=>?_) fun h2=>?_)
 · cases h2
 (try simp only[BN]at h2);refine HT_seq<|HT_seq<|HT_runA ?_;refine HT_block<|(HT_loopU [0,1,12] (fun(z:Nat)=>[(13,.v (li z))]) (fun z=>[]) (fun z=>z≤a.length) (fun z=>a.length - z) (0:Nat) (Nat.zero_le _) ?_ ?_)
 · exact le_mkA (fun n=>n) []
 rintro k hk;simp only[upS,keepS,insS]
 try simp only[keepS,KN,Nat.reduceBEq,if_true,if_false,ins,Nat.reduceLT]
 refine HT_sA ?_;refine HT_seq<|(HT_cond rfl (fun h8=>HT_skip ?_) (fun h8=>?_))
 · (try simp only[BN]at h8);have hlt:k<a.length:=by omega
   obtain⟨x,he,_⟩:=at_lt hlt;have hw1:=wrap1 hlt (by omega);have hk1:k+1≤a.length:=hlt;have he':=get_encN he;simp only[Nd.enc]at he';clear hlt h8 he;refine HT_seq<|HT_block<|HT_seq<|HT_runA ?_;refine HT_seq<|(HT_drun (by kernel_rfl) (by kernel_rfl) (by rfl) (by simp[*];rfl) ?_);refine(HT_cs rfl (fun h11=>?_) fun h11=>?_)
   · cases h11
   (try simp only[BN]at h11);refine HT_runA ?_;exact⟨k+1,hk1,by omega,le_mkA (fun n=>n) []⟩
 (try simp only[BN]at h8);refine(HT_exit ?_);refine HT_sA ?_;exact HT_rA
theorem cfgCheck_con (f:Fl) (h:Sm f) (h0:codeC f=0) (d:Nat):Con Tryz.prog 147 true [aF f,.agg [.c (grC f.body)]] (.v (li 0)) none d:=by
 have cc:=checkP_con f (by have:=h.vars;omega) (by have:=h.hats;omega) (by have:=h.nodes;omega) h.bnd;have cb:=build_con f (by have:=h.sz;have:=szNs_le f.body;omega);rw[bldF_eq f.body (code_g h0)]at cb;have hlen:=grN_len (code_g h0);have ce:=eqN_con (grN f.body) (by have:=h.sz;have:=wdL_le f.body;omega);obtain⟨vars,hats,body⟩:=f;rw[h0]at cc;clear h h0 hlen;simp only at ce cb;refine con_of_HTA Tryz.func147 ?_;simp only[Tryz.f147];simp only[aF,Fl.enc,List.map_cons,List.map_nil]at cc cb⊢;refine HT_sA ?_;refine HT_seq<|HT_seq<|(HT_runcA [⟨true,.v (li 0),none⟩] ?_ ?_)
 · first|exact cc _|exact trivial|simpa[*]using cc _
 refine HT_sA ?_;refine(HT_cs rfl (fun h3=>?_) fun h3=>?_)
 · exact Bool.noConfusion h3
 (try simp only[BN]at h3);refine HT_seq<|HT_seq<|(HT_drunc [⟨false,.v (.agg [.c (.sl 4 (encNs (grN body)))]),none⟩,⟨true,.v (lb true),none⟩] (by kernel_rfl) (by kernel_rfl) (by rfl) (by simp[*];first|exact⟨rfl,Iff.rfl⟩|exact⟨rfl,trivial⟩|rfl) ?_ ?_)
 · first|exact⟨cb _,ce _⟩|exact trivial|(repeat' first|exact trivial|exact cb _|exact ce _|apply And.intro)
 refine(HT_cs rfl (fun h7=>?_) fun h7=>?_)
 · exact Bool.noConfusion h7
 (try simp only[BN]at h7);refine HT_sA ?_;exact HT_rA
end Go.Proofs.YtppjennamodfdaaGreat
