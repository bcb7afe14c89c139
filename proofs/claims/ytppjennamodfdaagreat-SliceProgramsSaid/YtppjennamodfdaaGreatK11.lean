/- Part 11: contracts of functions of the program and of the reference, and plain facts about what they compute; used by the proof of the claimed statement. Conditions: as each theorem states. -/
import Derived.Test.YtppjennamodfdaaGreatK10
import Derived.Test.YtppjennamodfdaaGreatK6
set_option linter.unusedSimpArgs false
set_option linter.unusedVariables false
set_option linter.unnecessarySimpa false
set_option maxRecDepth 100000
set_option maxHeartbeats 2000000
namespace Go.Proofs.YtppjennamodfdaaGreat
open Go Go.Hl
def msGs:List (Nat×List Nat):=[(1023,[0,3]),(1022,[1,3]),(1015,[0,4]),(1020,[2,3]),(1014,[1,4]),(999,[0]),(1016,[3]),(1012,[2,4]),(998,[1]),(1008,[4]),(996,[2]),(992,[5,6]),(960,[6]),(928,[5]),(896,[7]),(768,[8]),(512,[9])]
def nxK (regs:List (Nat×RV)) (o:List (Nat×Ob)) (outs:List (Nat×Nat×RV)) (R:List Nat):HS:=
 {trS ⟨⟨34,none⟩,regs,[]⟩ outs R with objs:=o}
theorem encSs_len:∀a:List St,(encSs a).length=a.length:=fun a=>by rw[encSs_map,List.length_map]
theorem take_encS {ks:List St} {k:Nat} {t:St} (h:ks[k]? =some t):encSs (ks.take (k+1))=encSs (ks.take k)++[t.enc]:=by
 rw[List.take_add_one,h,encSs_app];rfl
set_option maxHeartbeats 16000000 in
theorem freshSteps_con (l:List St):nodesS l≤1000000→bndL l=true→∀d,Con Tryz.prog 105 false [lS l] (.v (lS l)) none d:=by
 revert l
 apply St.lists;intro l ih hn hb d;have hlen:=len_nodesS l;refine con_of_HTA Tryz.func105 ?_;simp only[Tryz.f105];refine HT_sA ?_;refine HT_sA ?_;refine HT_seq<|HT_seq<|HT_runA ?_;refine HT_block<|(HT_loopU [6,7] (fun(y:Nat)=>[(3,.v (.one (.own 1003))),(8,.v (li y))]) (fun y=>[(1003,.row 76 10 (encSs (l.take y)))]) (fun y=>y≤l.length) (fun y=>l.length - y) (0:Nat) (Nat.zero_le _) ?_ ?_)
 · exact le_mkA (fun n=>n) [1003]
 rintro y hy;simp only[upS,keepS,insS]
 try simp only[keepS,KN,Nat.reduceBEq,if_true,if_false,ins,Nat.reduceLT]
 refine HT_sA ?_;refine HT_seq<|(HT_cond rfl (fun h5=>HT_skip ?_) (fun h5=>?_))
 · (try simp only[BN]at h5);have hlt:y<l.length:=by simpa using h5
   obtain⟨q,he,hd⟩:=at_lt hlt;have hw1:=wrap1 hlt (by omega);have hk1:y+1≤l.length:=hlt;have hmem:q∈l:=List.mem_of_getElem? he;have hnm:=nodesS_mem hmem;have hbm:=bndL_mem hb hmem;obtain⟨iha,ihb⟩:=ih q hmem;have he':=get_encS he;have htk:=take_encS he;have hroom:room (y+1) 144:=room_of (by omega) (by decide);have hel:(encSs (l.take y)).length=y:=by rw[encSs_len,List.length_take];omega
   obtain⟨so,sc,sv,sn,⟨to,tn,tk⟩,sa,sb,sbs⟩:=q;simp only[St.then_,St.else_,St.term]at iha ihb hnm;simp only[bndS,Bool.and_eq_true,decide_eq_true_eq]at hbm;simp only[St.enc,Tm.enc,List.cons_append,List.nil_append]at he' htk;have ca:=iha (by omega) hbm.2.1;have cb:=ihb (by omega) hbm.2.2;have ci:=cloneI_con sbs hbm.1;have ct:=freshTerm_con ⟨to,tn,tk⟩ (by omega);simp only[aT,Tm.enc,List.map_cons,List.map_nil]at ct;have hml:min y l.length=y:=by omega
   clear hlt h5 ih hmem hnm he hd iha ihb hbm;refine HT_seq<|HT_block<|HT_seq<|HT_runA ?_;refine HT_le (s':=⟨⟨34,none⟩,[(3,.v (.one (.own 1003))),(5,.v (.one (.at_ 5 0))),(6,.v (lS l)),(7,.v (li l.length)),(8,.v (li y))],[(5,.box [.c (iC so),.c (iC sc),.c (iC sv),.c (iC sn),.c (iC to),.c (iC tn),.c (.sl 3 (encTs tk)),.c (.sl 10 (encSs sa)),.c (.sl 10 (encSs sb)),.c (.sl 1 (encIs sbs))]),(1003,.row 76 10 (encSs (l.take y)))]⟩) (le_mk (fun n=>n) [] rfl (by simp) (by simp) (by simp)) ?_;refine HT_seq<|(HT_bruteM (nxK [(3,.v (.one (.own 1003))),(5,.v (.one (.at_ 5 0))),(6,.v (lS l)),(7,.v (li l.length)),(8,.v (li y))] [(5,.box [.c (iC so),.c (iC sc),.c (iC sv),.c (iC sn),.c (iC to),.c (iC tn),.c (.sl 3 (encTs tk)),.c (.sl 10 (encSs sa)),.c (.sl 10 (encSs sb)),.c (.sl 1 (encIs sbs))]),(1003,.row 76 10 (encSs (l.take y)))] [(0,12,.v (.one (.at_ 5 4))),(1,13,.v (.agg [.c (iC to),.c (iC tn),.c (.sl 3 (encTs tk))])),(2,14,.v (.agg [.c (iC to),.c (iC tn),.c (.sl 3 (encTs tk))])),(3,15,.v (.one (.at_ 5 9))),(4,16,.v (.one (.c (.sl 1 (encIs sbs))))),(5,17,.v (.one (.c (.sl 1 (encIs sbs))))),(6,18,.v (.one (.at_ 5 4))),(8,19,.v (.one (.at_ 5 9)))]) 10 1023 msGs rfl (by kernel_rfl) (by kernel_rfl) (by kernel_rfl) (by kernel_rfl) (by simp[nxK,trS]) ?_ ?_)
   · simp only[msGs,allM]
     repeat' apply And.intro
     all_goals first
      |(refine StepW.evE rfl ?_;simp[nxK,trS,ins,lkp,del,allTyped,fillC,placeOf,cellsOf,dataOf,rowsOf,ownOf,baseOf,moreOf];done)
      |(refine StepW.ev [⟨false,.v (.agg [.c (iC to),.c (iC tn),.c (.sl 3 (encTs tk))]),none⟩] rfl (by simp[nxK,trS,ins,lkp,del];first|exact⟨rfl,Iff.rfl⟩|exact⟨rfl,trivial⟩|rfl) ?_ (by simp[nxK,trS,ins]);first|exact ct _|simpa using ct _)
      |(refine StepW.ev [⟨false,.v (.one (.c (.sl 1 (encIs sbs)))),none⟩] rfl (by simp[nxK,trS,ins,lkp,del];first|exact⟨rfl,Iff.rfl⟩|exact⟨rfl,trivial⟩|rfl) ?_ (by simp[nxK,trS,ins]);first|exact ci _|simpa using ci _)
      |trivial
   refine HT_le (s':=⟨⟨34,none⟩,[(3,.v (.one (.own 1003))),(5,.v (.one (.at_ 5 0))),(6,.v (lS l)),(7,.v (li l.length)),(8,.v (li y))],[(5,.box [.c (iC so),.c (iC sc),.c (iC sv),.c (iC sn),.c (iC to),.c (iC tn),.c (.sl 3 (encTs tk)),.c (.sl 10 (encSs sa)),.c (.sl 10 (encSs sb)),.c (.sl 1 (encIs sbs))]),(1003,.row 76 10 (encSs (l.take y)))]⟩) (le_mk (fun n=>n) [] rfl (by simp[nxK,trS]) (by simp[nxK,trS]) (by simp)) ?_;refine HT_le (s':=⟨⟨34,none⟩,[(3,.v (.one (.own 1003))),(5,.v (.one (.at_ 5 0))),(6,.v (lS l)),(7,.v (li l.length)),(8,.v (li y))],[(5,.box [.c (iC so),.c (iC sc),.c (iC sv),.c (iC sn),.c (iC to),.c (iC tn),.c (.sl 3 (encTs tk)),.c (.sl 10 (encSs sa)),.c (.sl 10 (encSs sb)),.c (.sl 1 (encIs sbs))]),(1003,.row 76 10 (encSs (l.take y)))]⟩) (le_mk (fun n=>n) [] rfl (by simp) (by simp) (by simp)) ?_;refine HT_seq<|(HT_bruteM (nxK [(3,.v (.one (.own 1003))),(5,.v (.one (.at_ 5 0))),(6,.v (lS l)),(7,.v (li l.length)),(8,.v (li y))] [(5,.box [.c (iC so),.c (iC sc),.c (iC sv),.c (iC sn),.c (iC to),.c (iC tn),.c (.sl 3 (encTs tk)),.c (.sl 10 (encSs sa)),.c (.sl 10 (encSs sb)),.c (.sl 1 (encIs sbs))]),(1003,.row 76 10 (encSs (l.take y)))] [(0,20,.v (.one (.at_ 5 7))),(1,21,.v (lS sa)),(2,22,.v (lS sa)),(3,23,.v (.one (.at_ 5 8))),(4,24,.v (lS sb)),(5,25,.v (lS sb)),(6,26,.v (.one (.at_ 5 7))),(8,27,.v (.one (.at_ 5 8)))]) 10 1023 msGs rfl (by kernel_rfl) (by kernel_rfl) (by kernel_rfl) (by kernel_rfl) (by simp[nxK,trS]) ?_ ?_)
   · simp only[msGs,allM]
     repeat' apply And.intro
     all_goals first
      |(refine StepW.evE rfl ?_;simp[nxK,trS,ins,lkp,del,allTyped,fillC,placeOf,cellsOf,dataOf,rowsOf,ownOf,baseOf,moreOf];done)
      |(refine StepW.ev [⟨false,.v (lS sa),none⟩] rfl (by simp[nxK,trS,ins,lkp,del];first|exact⟨rfl,Iff.rfl⟩|exact⟨rfl,trivial⟩|rfl) ?_ (by simp[nxK,trS,ins]);first|exact ca _|simpa using ca _)
      |(refine StepW.ev [⟨false,.v (lS sb),none⟩] rfl (by simp[nxK,trS,ins,lkp,del];first|exact⟨rfl,Iff.rfl⟩|exact⟨rfl,trivial⟩|rfl) ?_ (by simp[nxK,trS,ins]);first|exact cb _|simpa using cb _)
      |trivial
   refine HT_le (s':=⟨⟨34,none⟩,[(3,.v (.one (.own 1003))),(5,.v (.one (.at_ 5 0))),(6,.v (lS l)),(7,.v (li l.length)),(8,.v (li y))],[(5,.box [.c (iC so),.c (iC sc),.c (iC sv),.c (iC sn),.c (iC to),.c (iC tn),.c (.sl 3 (encTs tk)),.c (.sl 10 (encSs sa)),.c (.sl 10 (encSs sb)),.c (.sl 1 (encIs sbs))]),(1003,.row 76 10 (encSs (l.take y)))]⟩) (le_mk (fun n=>n) [] rfl (by simp[nxK,trS]) (by simp[nxK,trS]) (by simp)) ?_;refine HT_runA ?_;refine HT_runA ?_;exact⟨y+1,hk1,by omega,le_mkA (fun n=>if n=1003 then 31 else n) []⟩
 try simp only[BN]at h5
 have hyl:y=l.length:=by
  have:¬y<l.length:=by simpa using h5
  omega
 subst hyl;rw[List.take_length];clear h5;refine(HT_exit ?_);refine HT_le (le_frz 1003 rfl) ?_;refine HT_sA ?_;exact HT_rA
end Go.Proofs.YtppjennamodfdaaGreat

namespace Go.Proofs.YtppjennamodfdaaGreat
open Go Go.Hl
def msV:List (Nat×List Nat):=[(511,[0,3,7]),(510,[1,3,7]),(503,[0,4,7]),(383,[0,3]),(508,[2,3,7]),(502,[1,4,7]),(382,[1,3]),(487,[0,7]),(375,[0,4]),(504,[3,7]),(500,[2,4,7]),(380,[2,3]),(486,[1,7]),(374,[1,4]),(359,[0]),(496,[4,7]),(376,[3]),(484,[2,7]),(372,[2,4]),(358,[1]),(480,[5,7]),(368,[4]),(356,[2]),(448,[6,7]),(352,[5]),(384,[7]),(320,[6]),(256,[8])]
def nxV (regs:List (Nat×RV)) (o7 o8 o9:List (Nat×Ob)) (outs:List (Nat×Nat×RV)) (R:List Nat):HS:=
 {trS ⟨⟨32,none⟩,regs,[]⟩ outs R with objs:=if R.contains 7 then o7 else if R.contains 8 then o8 else o9}
theorem encHs_map (l:List Ht):encHs l=l.map Ht.enc:=rfl
theorem encHs_len (a:List Ht):(encHs a).length=a.length:=by rw[encHs_map,List.length_map]
theorem take_encHt {ks:List Ht} {k:Nat} {t:Ht} (h:ks[k]? =some t):encHs (ks.take (k+1))=encHs (ks.take k)++[t.enc]:=by
 rw[List.take_add_one,h];simp[encHs_map]
set_option maxHeartbeats 16000000 in
theorem fresh_con (f:Fl) (h:Sm f) (d:Nat):Con Tryz.prog 68 false [aF f] (.v (aF f)) none d:=by
 have hv:=h.vars;have hh:=h.hats;have hno:=h.nodes;have cv:=cloneV_con f.vars (by omega);have cb:=freshSteps_con f.body (by omega) h.bnd;obtain⟨vars,hats,body⟩:=f;simp only at hv hh hno cv cb;simp only[aF,Fl.enc,List.map_cons,List.map_nil];clear h;refine con_of_HTA Tryz.func68 ?_;simp only[Tryz.f68];refine HT_sA ?_;refine HT_le (s':=⟨⟨32,none⟩,[(1,.v (.one (.at_ 1 0))),(2,.v (.one (.at_ 2 0)))],[(1,.box [.c (.sl 5 (encVs vars)),.c (.sl 6 (encHs hats)),.c (.sl 10 (encSs body))]),(2,.box [.c (.lit nilS),.c (.lit nilS),.c (.lit nilS)])]⟩) (le_mk (fun n=>n) [] rfl (by simp) (by simp) (by simp)) ?_;refine HT_seq<|(HT_bruteM (nxV [(1,.v (.one (.at_ 1 0))),(2,.v (.one (.at_ 2 0)))] [(1,.box [.c (.sl 5 (encVs vars)),.c (.sl 6 (encHs hats)),.c (.sl 10 (encSs body))]),(2,.box [.c (.lit nilS),.c (.lit nilS),.c (.lit nilS)])] [(1,.box [.c (.sl 5 (encVs vars)),.c (.sl 6 (encHs hats)),.c (.sl 10 (encSs body))]),(2,.box [.c (.lit nilS),.c (.lit nilS),.c (.lit nilS)]),(3,.box [.c (.lit nilS),.c (.lit nilS),.c (.lit nilS)])] [(1,.box [.c (.sl 5 (encVs vars)),.c (.sl 6 (encHs hats)),.c (.sl 10 (encSs body))]),(2,.box [.c (.lit nilS),.c (.lit nilS),.c (.lit nilS)]),(3,.box [.c (.sl 5 (encVs vars)),.c (.lit nilS),.c (.sl 10 (encSs body))])] [(0,6,.v (.one (.at_ 1 0))),(1,7,.v (lV vars)),(2,8,.v (lV vars)),(3,9,.v (.one (.at_ 1 2))),(4,10,.v (lS body)),(5,11,.v (lS body)),(6,12,.v (.agg [.c (.sl 5 (encVs vars)),.c (.lit nilS),.c (.sl 10 (encSs body))])),(7,3,.v (.one (.at_ 3 0)))]) 9 511 msV rfl (by kernel_rfl) (by kernel_rfl) (by kernel_rfl) (by kernel_rfl) (by simp[nxV,trS]) ?_ ?_)
 · simp only[msV,allM]
   repeat' apply And.intro
   all_goals first
    |(refine StepW.evE rfl ?_;simp[nxV,trS,ins,putL,lkp,del,allTyped,fillC,placeOf,cellsOf,dataOf,rowsOf,ownOf,baseOf,moreOf];done)
    |(refine StepW.ev [⟨false,.v (lV vars),none⟩] rfl (by simp[nxV,trS,ins,lkp,del];first|exact⟨rfl,Iff.rfl⟩|exact⟨rfl,trivial⟩|rfl) ?_ (by simp[nxV,trS,ins]);first|exact cv _|simpa using cv _)
    |(refine StepW.ev [⟨false,.v (lS body),none⟩] rfl (by simp[nxV,trS,ins,lkp,del];first|exact⟨rfl,Iff.rfl⟩|exact⟨rfl,trivial⟩|rfl) ?_ (by simp[nxV,trS,ins]);first|exact cb _|simpa using cb _)
    |trivial
 refine HT_le (s':=⟨⟨32,none⟩,[(1,.v (.one (.at_ 1 0))),(2,.v (.one (.at_ 2 0))),(3,.v (.one (.at_ 3 0)))],[(1,.box [.c (.sl 5 (encVs vars)),.c (.sl 6 (encHs hats)),.c (.sl 10 (encSs body))]),(2,.box [.c (.lit nilS),.c (.lit nilS),.c (.lit nilS)]),(3,.box [.c (.sl 5 (encVs vars)),.c (.lit nilS),.c (.sl 10 (encSs body))])]⟩) (le_mk (fun n=>n) [] rfl (by simp[nxV,trS]) (by simp[nxV,trS]) (by simp)) ?_;refine HT_seq<|HT_seq<|HT_runA ?_;refine HT_block<|(HT_loopU [2,3,14,15] (fun(y:Nat)=>[(16,.v (li y))]) (fun y=>[(2,.box [.c (.lit nilS),.c (.lit nilS),.c (.lit nilS)]),(3,.box [.c (.sl 5 (encVs vars)),.own 1003,.c (.sl 10 (encSs body))]),(1003,.row 99 6 (encHs (hats.take y)))]) (fun y=>y≤hats.length) (fun y=>hats.length - y) (0:Nat) (Nat.zero_le _) ?_ ?_)
 · exact le_mkA (fun n=>n) [1003]
 rintro y hy;simp only[upS,keepS,insS]
 try simp only[keepS,KN,Nat.reduceBEq,if_true,if_false,ins,Nat.reduceLT]
 clear cv cb;refine HT_sA ?_;refine HT_seq<|(HT_cond rfl (fun h5=>HT_skip ?_) (fun h5=>?_))
 · (try simp only[BN]at h5);have hlt:y<hats.length:=by simpa using h5
   obtain⟨q,he,hd⟩:=at_lt hlt;have hw1:=wrap1 hlt (by omega);have hk1:y+1≤hats.length:=hlt;have hnm:=nodesH_mem (List.mem_of_getElem? he);have he':(encHs hats)[y]? =some q.enc:=by simp[he]
   have htk:=take_encHt he;have hroom:room (y+1) 72:=room_of (by omega) (by decide);have hel:(encHs (hats.take y)).length=y:=by rw[encHs_len,List.length_take];omega
   have hml:min y hats.length=y:=by omega
   obtain⟨nm,lo,hg,⟨to,tn,tk⟩⟩:=q;have ct:=freshTerm_con ⟨to,tn,tk⟩ (by simp only at hnm;omega);simp only[Ht.enc,Tm.enc,List.cons_append,List.nil_append]at he' htk;simp only[aT,Tm.enc,List.map_cons,List.map_nil]at ct;clear hlt h5 hnm he hd;refine HT_seq<|HT_block<|HT_seq<|HT_runA ?_;refine HT_seq<|(HT_runc [⟨false,.v (.agg [.c (iC to),.c (iC tn),.c (.sl 3 (encTs tk))]),none⟩] (by simp[*,allTyped,fillC,placeOf,cellsOf,dataOf];first|exact⟨rfl,Iff.rfl⟩|exact⟨rfl,trivial⟩|rfl) ?_ ?_)
   · first|exact ct _|exact trivial|simpa[*,allTyped,fillC,placeOf,cellsOf,dataOf]using ct _
   refine HT_runA ?_;refine HT_runA ?_;exact⟨y+1,hk1,by omega,le_mkA (fun n=>if n=1003 then 28 else n) []⟩
 try simp only[BN]at h5
 have hyl:y=hats.length:=by
  have:¬y<hats.length:=by simpa using h5
  omega
 subst hyl;rw[List.take_length];clear h5;refine(HT_exit ?_);refine HT_le (le_frz 1003 rfl) ?_;refine HT_sA ?_;exact HT_rA
end Go.Proofs.YtppjennamodfdaaGreat

namespace Go.Proofs.YtppjennamodfdaaGreat
open Go Go.Hl
theorem sizeP_con (l:List St):nodesS l≤1000000000→∀d:Nat,Con Tryz.prog 132 true [lS l] (.v (li (szL l))) none d:=by
 revert l
 apply St.lists;intro l ih hn d;have hlen:=len_nodesS l;have hsl:=szL_le l;obtain⟨res,hres⟩:∃r,szL l=r:=⟨_,rfl⟩;rw[hres]at hsl⊢;refine con_of_HTA Tryz.func132 ?_;simp only[Tryz.f132];refine HT_sA ?_;refine HT_sA ?_;refine HT_seq<|HT_seq<|HT_runA ?_;refine HT_block<|(HT_loopU [8,9] (fun(x:Nat×Nat)=>[(3,.v (li ((x.2:Nat):Int))),(10,.v (li x.1))]) (fun x=>[]) (fun x=>x.1≤l.length∧x.2+szL (l.drop x.1)=res+(l.drop x.1).length) (fun x=>l.length - x.1) (0,l.length) ⟨Nat.zero_le _,by simp only[List.drop_zero,hres];omega⟩ ?_ ?_)
 · exact le_mkA (fun n=>n) []
 rintro⟨k,m⟩ ⟨hk,hJ⟩;simp only[upS,keepS,insS]
 try simp only[keepS,KN,Nat.reduceBEq,if_true,if_false,ins,Nat.reduceLT]
 simp only at hk hJ;refine HT_sA ?_;refine HT_seq<|(HT_cond rfl (fun h5=>HT_skip ?_) (fun h5=>?_))
 · (try simp only[BN]at h5);have hlt:k<l.length:=by omega
   obtain⟨s,he,hd⟩:=at_lt hlt;have hmem:s∈l:=List.mem_of_getElem? he;have hnm:=nodesS_mem hmem;have iha:=fun h=>(ih s hmem).1 h;have ihb:=fun h=>(ih s hmem).2 h;have hw1:=wrap1 hlt (by omega);have hk1:k+1≤l.length:=hlt;rw[hd]at hJ;have hrl:=szL_len (l.drop (k+1));obtain⟨sd,sc,sv,sn,⟨so,stn,sks⟩,sa,sb,sbs⟩:=s;simp only[St.then_,St.else_,St.term]at iha ihb hnm;simp only[szL,szS,List.length_cons]at hJ;have ca:=iha (by omega);have cb:=ihb (by omega);have hla:=szL_le sa;have hlb:=szL_le sb;have he':=get_encS he;simp only[St.enc,Tm.enc,List.cons_append,List.nil_append]at he';generalize szL sa=na at*;generalize szL sb=nb at*;have hw2:IntKind.i64.wrap ((na:Int)+(nb:Int))=(na:Int)+(nb:Int):=wrap_in (by omega) (by omega);have hw3:IntKind.i64.wrap ((m:Int)+((na:Int)+(nb:Int)))=(m:Int)+((na:Int)+(nb:Int)):=wrap_in (by omega) (by omega);clear hlt h5 ih hmem iha ihb;refine HT_seq<|HT_block<|HT_seq<|HT_runA ?_;refine(HT_drunc [⟨true,.v (li (na:Int)),none⟩,⟨true,.v (li (nb:Int)),none⟩] (by kernel_rfl) (by kernel_rfl) (by rfl) (by simp[*];first|exact⟨rfl,Iff.rfl⟩|exact⟨rfl,trivial⟩|rfl) ?_ ?_)
   · first|exact⟨ca _,cb _⟩|exact trivial|(repeat' first|exact trivial|exact ca _|exact cb _|apply And.intro)
   refine HT_runA ?_;exact⟨(k+1,m+(na+nb)),⟨hk1,by simp only;omega⟩,by simp only;omega,le_mkA (fun n=>n) []⟩
 (try simp only[BN]at h5);have hkl:k=l.length:=by omega
 rw[hkl,List.drop_length]at hJ;simp only[szL,List.length_nil]at hJ;have hm:m=res:=by omega
 refine(HT_exit ?_);refine HT_sA ?_;exact HT_rA
theorem sizeF_con (f:Fl) (hn:nodesS f.body≤1000000000) (d:Nat):Con Tryz.prog 101 true [aF f] (.v (li (szL f.body))) none d:=by
 have cs:=sizeP_con f.body hn;obtain⟨vars,hats,body⟩:=f;simp only at cs⊢;obtain⟨n,hn⟩:∃x,szL body=x:=⟨_,rfl⟩;rw[hn]at cs⊢;clear hn;refine con_of_HTA Tryz.func101 ?_;simp only[Tryz.f101];simp only[aF,Fl.enc,List.map_cons,List.map_nil];refine HT_sA ?_;refine HT_scA [⟨true,.v (li (n:Int)),none⟩] ?_ ?_
 · first|exact cs _|exact trivial|simpa[*]using cs _
 exact HT_rA
theorem sizeR_con (l:List St):nodesS l≤1000000000→∀d:Nat,Con Tryz.prog 26 true [lS l] (.v (li (szL l))) none d:=by
 revert l
 apply St.lists;intro l ih hn d;have hlen:=len_nodesS l;have hsl:=szL_le l;obtain⟨res,hres⟩:∃r,szL l=r:=⟨_,rfl⟩;rw[hres]at hsl⊢;refine con_of_HTA Tryz.func26 ?_;simp only[Tryz.f26];refine HT_sA ?_;refine HT_sA ?_;refine HT_seq<|HT_seq<|HT_runA ?_;refine HT_block<|(HT_loopU [0] (fun(x:Nat×Nat)=>[(3,.v (li ((x.2:Nat):Int))),(4,.v (li x.1))]) (fun x=>[]) (fun x=>x.1≤l.length∧x.2+szL (l.drop x.1)=res) (fun x=>l.length - x.1) (0,0) ⟨Nat.zero_le _,by simp[hres]⟩ ?_ ?_)
 · exact le_mkA (fun n=>n) []
 rintro⟨k,m⟩ ⟨hk,hJ⟩;simp only[upS,keepS,insS]
 try simp only[keepS,KN,Nat.reduceBEq,if_true,if_false,ins,Nat.reduceLT]
 simp only at hk hJ;refine HT_seq<|HT_seq<|HT_runA ?_;refine(HT_cond rfl (fun h5=>HT_skip ?_) (fun h5=>?_))
 · (try simp only[BN]at h5);have hlt:k<l.length:=by omega
   obtain⟨s,he,hd⟩:=at_lt hlt;have hmem:s∈l:=List.mem_of_getElem? he;have hnm:=nodesS_mem hmem;have iha:=fun h=>(ih s hmem).1 h;have ihb:=fun h=>(ih s hmem).2 h;have hw1:=wrap1 hlt (by omega);have hk1:k+1≤l.length:=hlt;rw[hd]at hJ;obtain⟨sd,sc,sv,sn,⟨so,stn,sks⟩,sa,sb,sbs⟩:=s;simp only[St.then_,St.else_,St.term]at iha ihb hnm;simp only[szL,szS]at hJ;have ca:=iha (by omega);have cb:=ihb (by omega);have he':=get_encS he;simp only[St.enc,Tm.enc,List.cons_append,List.nil_append]at he';generalize szL sa=na at*;generalize szL sb=nb at*;have hw2:IntKind.i64.wrap ((m:Int)+1)=(m:Int)+1:=wrap_in (by omega) (by omega);have hw3:IntKind.i64.wrap ((m:Int)+1+(na:Int))=(m:Int)+1+(na:Int):=wrap_in (by omega) (by omega);have hw4:IntKind.i64.wrap ((m:Int)+1+(na:Int)+(nb:Int))=(m:Int)+1+(na:Int)+(nb:Int):=wrap_in (by omega) (by omega);clear hlt h5 ih hmem iha ihb;refine HT_seq<|HT_block<|(HT_drunc [⟨true,.v (li (na:Int)),none⟩,⟨true,.v (li (nb:Int)),none⟩] (by kernel_rfl) (by kernel_rfl) (by rfl) (by simp[*];first|exact⟨rfl,Iff.rfl⟩|exact⟨rfl,trivial⟩|rfl) ?_ ?_)
   · first|exact⟨ca _,cb _⟩|exact trivial|(repeat' first|exact trivial|exact ca _|exact cb _|apply And.intro)
   refine HT_runA ?_;exact⟨(k+1,m+1+na+nb),⟨hk1,by simp only;omega⟩,by simp only;omega,le_mkA (fun n=>n) []⟩
 (try simp only[BN]at h5);have hkl:k=l.length:=by omega
 rw[hkl,List.drop_length]at hJ;simp only[szL]at hJ;have hm:m=res:=by omega
 refine(HT_exit ?_);refine HT_sA ?_;exact HT_rA
end Go.Proofs.YtppjennamodfdaaGreat

namespace Go.Proofs.YtppjennamodfdaaGreat
open Go Go.Hl
theorem copyT_con (t:Tm):t.nodes≤1000000→∀d:Nat,Con Tryz.prog 104 false [aT t] (.v (aT t)) none d:=by
 revert t
 refine Tm.ind ?_;intro o n ks ih hn d;simp only[Tm.nodes]at hn;have hlen:=len_nodesT ks;refine con_of_HTA Tryz.func104 ?_;simp only[Tryz.f104];simp only[aT,Tm.enc,List.map_cons,List.map_nil];refine HT_sA ?_;refine HT_sA ?_;refine HT_seq<|HT_seq<|HT_runA ?_;refine HT_block<|(HT_loopU [2,3,12,13] (fun(x:Nat)=>[(14,.v (li x))]) (fun x=>[(2,.box [.c (iC 0),.c (iC 0),.c (.lit nilS)]),(3,.box [.c (iC o),.c (iC n),.own 900001]),(900001,.row 74 3 (encTs (ks.take x)))]) (fun x=>x≤ks.length) (fun x=>ks.length - x) (0:Nat) (Nat.zero_le _) ?_ ?_)
 · exact le_mkA (fun n=>n) [900001]
 rintro k hk;simp only[upS,keepS,insS]
 try simp only[keepS,KN,Nat.reduceBEq,if_true,if_false,ins,Nat.reduceLT]
 refine HT_sA ?_;refine HT_seq<|(HT_cond rfl (fun h5=>HT_skip ?_) (fun h5=>?_))
 · (try simp only[BN]at h5);have hlt:k<ks.length:=by omega
   obtain⟨t,he,hd⟩:=at_lt hlt;have hw1:=wrap1 hlt (by omega);have hk1:k+1≤ks.length:=hlt;have hmem:t∈ks:=List.mem_of_getElem? he;have hnm:=nodesT_mem' hmem;have ct:=ih t hmem (by omega);have htl:(ks.take k).length=k:=by rw[List.length_take];omega
   have hroom:room (k+1) 40:=room_of (by omega) (by omega)
   have hsn:encTs (ks.take (k+1))=encTs (ks.take k)++[t.enc]:=by
    rw[encTs_map,encTs_map,List.take_add_one,he,Option.toList_some,List.map_append];rfl
   have he':=get_encT he;obtain⟨so,stn,sks⟩:=t;simp only[Tm.enc]at he' hsn;simp only[aT,Tm.enc,List.map_cons,List.map_nil]at ct;clear hlt h5 ih hmem hnm he hd;refine HT_seq<|HT_block<|HT_seq<|HT_runA ?_;refine(HT_druncH [(18,3),(24,3)] [⟨false,.v (.agg [.c (iC so),.c (iC stn),.c (.sl 3 (encTs sks))]),none⟩] (by kernel_rfl) (by kernel_rfl) (by rfl) (by simp[evcH,hokB,hintOf, *];first|exact⟨rfl,Iff.rfl⟩|exact⟨rfl,trivial⟩|rfl) ?_ ?_)
   · first|exact ct _|exact trivial|simpa[*]using ct _
   refine HT_runA ?_;exact⟨k+1,hk1,by omega,le_mkA (fun n=>if n=900001 then 23 else n) []⟩
 (try simp only[BN]at h5);have hkl:k=ks.length:=by omega
 subst hkl;simp only[List.take_length];refine(HT_exit ?_);refine HT_le (le_frz 900001 rfl) ?_;refine HT_sA ?_;exact HT_ret ⟨.inr rfl,_,le_refl _,⟨⟨_,by simp;rfl,by simp[resR]⟩,by simp,fun h=>by cases h⟩⟩
end Go.Proofs.YtppjennamodfdaaGreat

namespace Go.Proofs.YtppjennamodfdaaGreat
open Go Go.Hl
theorem copyS_of (s:St) (hn:s.nodes≤1000000) (hb:bndS s=true) (ca:∀d:Nat,Con Tryz.prog 157 false [lS s.then_] (.v (lS s.then_)) none d) (cb:∀d:Nat,Con Tryz.prog 157 false [lS s.else_] (.v (lS s.else_)) none d) (d:Nat):
  Con Tryz.prog 133 false [aS s] (.v (aS s)) none d:=by
 have ct:=copyT_con s.term;have cc:=cloneI_con s.bounds;obtain⟨sd,sc,sv,sn,⟨so,stn,sks⟩,sa,sb,sbs⟩:=s;simp only[St.then_,St.else_,St.term,St.bounds]at ca cb ct cc;simp only[bndS,Bool.and_eq_true,decide_eq_true_eq]at hb;have cc:=cc hb.1;simp only[St.nodes]at hn;have ct:=ct (by omega);simp only[aT,Tm.enc,List.map_cons,List.map_nil]at ct;clear hn hb;refine con_of_HTA Tryz.func133 ?_;simp only[Tryz.f133];simp only[aS,St.enc,Tm.enc,List.map_cons,List.map_nil,List.cons_append,List.nil_append];refine HT_sA ?_;refine HT_seq<|(HT_drunc [⟨false,.v (.agg [.c (iC so),.c (iC stn),.c (.sl 3 (encTs sks))]),none⟩,⟨false,.v (lS sa),none⟩,⟨false,.v (lS sb),none⟩,⟨false,.v (lI sbs),none⟩] (by kernel_rfl) (by kernel_rfl) (by rfl) (by simp[*,allTyped,fillC,placeOf];first|exact⟨rfl,Iff.rfl⟩|exact⟨rfl,trivial⟩|rfl) ?_ ?_)
 · first|exact⟨ct _,ca _,cb _,cc _⟩|exact trivial|(repeat' first|exact trivial|exact ct _|exact ca _|exact cb _|exact cc _|apply And.intro)
 exact HT_ret ⟨.inr rfl,_,le_refl _,⟨⟨_,by simp;rfl,by simp[resR]⟩,by simp,fun h=>by cases h⟩⟩
theorem copySs_con (l:List St):nodesS l≤1000000→bndL l=true→∀d:Nat,Con Tryz.prog 157 false [lS l] (.v (lS l)) none d:=by
 revert l
 apply St.lists;intro l ih hn hbn d;have hlen:=len_nodesS l;refine con_of_HTA Tryz.func157 ?_;simp only[Tryz.f157];refine HT_sA ?_;refine HT_sA ?_;refine HT_seq<|HT_seq<|HT_runA ?_;refine HT_block<|(HT_loopU [6,7] (fun(x:Nat)=>[(3,.v (.one (.own 1003))),(8,.v (li x))]) (fun x=>[(1003,.row 76 10 (encSs (l.take x)))]) (fun x=>x≤l.length) (fun x=>l.length - x) (0:Nat) (Nat.zero_le _) ?_ ?_)
 · exact le_mkA (fun n=>n) [1003]
 rintro k hk;simp only[upS,keepS,insS]
 try simp only[keepS,KN,Nat.reduceBEq,if_true,if_false,ins,Nat.reduceLT]
 refine HT_sA ?_;refine HT_seq<|(HT_cond rfl (fun h5=>HT_skip ?_) (fun h5=>?_))
 · (try simp only[BN]at h5);have hlt:k<l.length:=by omega
   obtain⟨s,he,hd⟩:=at_lt hlt;have hw1:=wrap1 hlt (by omega);have hk1:k+1≤l.length:=hlt;have hmem:s∈l:=List.mem_of_getElem? he;have hnm:=nodesS_mem hmem;have hbm:=bndL_mem hbn hmem
   have hsz:s.nodes≤1000000:=by
    obtain⟨sd,sc,sv,sn,t,sa,sb,sbs⟩:=s;simp only[St.then_,St.else_,St.term,St.nodes]at*;omega
   have hbab:bndL s.then_=true∧bndL s.else_=true:=by
    obtain⟨sd,sc,sv,sn,t,sa,sb,sbs⟩:=s;simp only[bndS,Bool.and_eq_true,decide_eq_true_eq]at hbm;exact hbm.2
   have cs:=copyS_of s hsz hbm ((ih s hmem).1 (by omega) hbab.1) ((ih s hmem).2 (by omega) hbab.2);have htl:(l.take k).length=k:=by rw[List.length_take];omega
   have hroom:room (k+1) 144:=room_of (by omega) (by omega)
   have hsn:encSs (l.take (k+1))=encSs (l.take k)++[s.enc]:=by
    rw[encSs_map,encSs_map,List.take_add_one,he,Option.toList_some,List.map_append];rfl
   have he':=get_encS he;obtain⟨sd,sc,sv,sn,⟨so,stn,sks⟩,sa,sb,sbs⟩:=s;simp only[St.enc,Tm.enc,List.cons_append,List.nil_append]at he' hsn;simp only[aS,St.enc,Tm.enc,List.map_cons,List.map_nil,List.cons_append,List.nil_append]at cs;clear hlt h5 ih hmem hnm he hd hbm hsz hbab;refine HT_seq<|HT_block<|HT_seq<|HT_runA ?_;refine(HT_runcA [⟨false,.v (aS (.mk sd sc sv sn (.mk so stn sks) sa sb sbs)),none⟩] ?_ ?_)
   · first|exact cs _|exact trivial|simpa[*]using cs _
   refine HT_runA ?_;exact⟨k+1,hk1,by omega,le_mkA (fun n=>if n=1003 then 16 else n) []⟩
 (try simp only[BN]at h5);have hkl:k=l.length:=by omega
 subst hkl;simp only[List.take_length];refine(HT_exit ?_);refine HT_sA ?_;exact HT_ret ⟨.inr rfl,_,le_frz 1003 rfl,⟨⟨_,by simp;rfl,by simp[resR]⟩,by simp,fun h=>by cases h⟩⟩
theorem copyS_con (s:St) (hn:s.nodes≤1000000) (hb:bndS s=true) (d:Nat):Con Tryz.prog 133 false [aS s] (.v (aS s)) none d:=by
 have hx:nodesS s.then_≤1000000∧nodesS s.else_≤1000000∧bndL s.then_=true∧bndL s.else_=true:=by
  obtain⟨sd,sc,sv,sn,t,sa,sb,sbs⟩:=s;simp only[St.then_,St.else_,St.nodes,bndS,Bool.and_eq_true,decide_eq_true_eq]at*;exact⟨by omega,by omega,hb.2⟩
 exact copyS_of s hn hb (copySs_con _ hx.1 hx.2.2.1) (copySs_con _ hx.2.1 hx.2.2.2) d
mutual
def woS:St→Int→St
 | .mk d c v n t a b bs,i=>.mk d c v n t (woL a i) (woL b (i - szL a)) bs
def woL:List St→Int→List St
 |[],_=>[]
 |s::l,i=>(if i=0 then [] else [woS s (i - 1)])++woL l (i - szS s)
end
mutual
theorem woS_id:∀(s:St) (i:Int),i<0∨(szS s:Int) - 1≤i→woS s i=s
 | .mk d c v n t a b bs,i,h=>by
   simp only[szS]at h;simp only[woS];rw[woL_id a i (by omega),woL_id b _ (by omega)]
theorem woL_id:∀(l:List St) (i:Int),i<0∨(szL l:Int)≤i→woL l i=l
 |[],i,h=>rfl
 | s::l,i,h=>by
   have hp:=szS_pos s;simp only[szL]at h;simp only[woL];rw[if_neg (by omega),woS_id s _ (by omega),woL_id l _ (by omega)];rfl
end
mutual
theorem woS_nodes:∀(s:St) (i:Int),(woS s i).nodes≤s.nodes
 | .mk d c v n t a b bs,i=>by
   have:=woL_nodes a i;have:=woL_nodes b (i - szL a);simp only[woS,St.nodes];omega
theorem woL_nodes:∀(l:List St) (i:Int),nodesS (woL l i)≤nodesS l
 |[],i=>Nat.le_refl _
 | s::l,i=>by
   have:=woS_nodes s (i - 1);have:=woL_nodes l (i - szS s);simp only[woL];split
   · simp only[List.nil_append,nodesS];omega
   simp only[List.cons_append,List.nil_append,nodesS];omega
end
mutual
theorem woS_bnd:∀(s:St) (i:Int),bndS s=true→bndS (woS s i)=true
 | .mk d c v n t a b bs,i,h=>by
   simp only[bndS,Bool.and_eq_true]at h;simp only[woS,bndS,Bool.and_eq_true];exact⟨h.1,woL_bnd a _ h.2.1,woL_bnd b _ h.2.2⟩
theorem woL_bnd:∀(l:List St) (i:Int),bndL l=true→bndL (woL l i)=true
 |[],i,h=>rfl
 | s::l,i,h=>by
   simp only[bndL,Bool.and_eq_true]at h;simp only[woL];split
   · exact woL_bnd l _ h.2
   simp only[List.cons_append,List.nil_append,bndL,Bool.and_eq_true];exact⟨woS_bnd s _ h.1,woL_bnd l _ h.2⟩
end
mutual
def fndS:St→Int→Option St
 | .mk d c v n t a b bs,i=>if i=0 then some (.mk d c v n t a b bs)else
   match fndL a (i - 1)with
   |some x=>some x
   |none=>fndL b (i - 1 - szL a)
def fndL:List St→Int→Option St
 |[],_=>none
 | s::l,i=>match fndS s i with
   |some x=>some x
   |none=>fndL l (i - szS s)
end
theorem fndL_nil (i:Int):fndL [] i=none:=by simp only[fndL]
theorem fndL_cons (d c v n:Int) (t:Tm) (a b:List St) (bs:List Int) (l:List St) (i:Int):fndL (.mk d c v n t a b bs::l) i=
  if i=0 then some (.mk d c v n t a b bs)else
  match fndL a (i - 1)with
  |some x=>some x
  | none=>match fndL b (i - 1 - szL a)with
    |some x=>some x
    |none=>fndL l (i - 1 - szL a - szL b):=by
 have h:i - ((1+szL a+szL b:Nat):Int)=i - 1 - szL a - szL b:=by omega
 simp only[fndL,fndS,szS];rw[h];by_cases h0:i=0
 · simp only[h0,if_true]
 simp only[h0,if_false];cases fndL a (i - 1)with
 |some x=>rfl
 |none=>rfl
end Go.Proofs.YtppjennamodfdaaGreat

namespace Go.Proofs.YtppjennamodfdaaGreat
open Go Go.Hl
theorem encSs_snoc (l:List St) (s:St):encSs (l++[s])=encSs l++[s.enc]:=by
 rw[encSs_map,encSs_map,List.map_append];rfl
theorem withoutP_con (l:List St):nodesS l≤1000000→bndL l=true→∀i:Int,-5000000≤i→i≤5000000→∀d:Nat,Con Tryz.prog 103 false [lS l,li i] (.v (lS (woL l i))) none d:=by
 revert l
 apply St.lists;intro l ih hn hbn i hi0 hi1 d;have hlen:=len_nodesS l;have hszl:=szL_le l;obtain⟨res,hres⟩:∃r,woL l i=r:=⟨_,rfl⟩;rw[hres];refine con_of_HTA Tryz.func103 ?_;simp only[Tryz.f103];refine HT_sA ?_;refine HT_sA ?_;refine HT_seq<|HT_seq<|HT_runA ?_;refine HT_block<|(HT_loopU [11,12] (fun(x:Nat×Int×List St)=>[(1,.v (li x.2.1)),(5,.v (.one (.own 1003))),(13,.v (li x.1))]) (fun x=>[(1003,.row 76 10 (encSs x.2.2))]) (fun x=>x.1≤l.length∧x.2.2++woL (l.drop x.1) x.2.1=res∧x.2.2.length≤x.1∧-6000000≤x.2.1 - szL (l.drop x.1)∧x.2.1≤5000000) (fun x=>l.length - x.1) (0,i,[]) ⟨Nat.zero_le _,by simpa using hres,Nat.le_refl _,by simp only[List.drop_zero];omega,hi1⟩ ?_ ?_)
 · exact le_mkA (fun n=>n) [1003]
 rintro⟨k,c,acc⟩ ⟨hk,hJ,hal,hc0,hc1⟩;simp only[upS,keepS,insS]
 try simp only[keepS,KN,Nat.reduceBEq,if_true,if_false,ins,Nat.reduceLT]
 simp only at hk hJ hal hc0 hc1;clear hres hi0 hi1;refine HT_sA ?_;refine HT_seq<|(HT_cond rfl (fun h5=>HT_skip ?_) (fun h5=>?_))
 · (try simp only[BN]at h5);have hlt:k<l.length:=by omega
   obtain⟨s,he,hd⟩:=at_lt hlt;have hw1:=wrap1 hlt (by omega);have hk1:k+1≤l.length:=hlt;have hmem:s∈l:=List.mem_of_getElem? he;have hnm:=nodesS_mem hmem;have hbm:=bndL_mem hbn hmem
   have hsz:s.nodes≤1000000:=by
    obtain⟨sd,sc,sv,sn,t,sa,sb,sbs⟩:=s;simp only[St.then_,St.else_,St.term,St.nodes]at*;omega
   have cc:=copyS_con s hsz hbm;rw[hd]at hJ hc0;simp only[woL]at hJ;simp only[szL]at hc0;have he':=get_encS he;have iha:=(ih s hmem).1 (by omega);have ihb:=(ih s hmem).2 (by omega);have hroom:room (acc.length+1) 144:=room_of (by omega) (by omega);obtain⟨sd,sc,sv,sn,⟨so,stn,sks⟩,sa,sb,sbs⟩:=s;simp only[bndS,Bool.and_eq_true,decide_eq_true_eq]at hbm;simp only[St.then_,St.else_,St.term]at iha ihb hnm;have iha:=iha hbm.2.1;have ihb:=ihb hbm.2.2;have ca:=sizeP_con sa (by omega);have cb:=sizeP_con sb (by omega);have hla:=szL_le sa;have hlb:=szL_le sb;have hida:=woL_id sa;have hidb:=woL_id sb;simp only[woS,szS]at hJ;simp only[szS]at hc0;simp only[St.enc,Tm.enc,List.cons_append,List.nil_append]at he';simp only[aS,St.enc,Tm.enc,List.map_cons,List.map_nil,List.cons_append,List.nil_append]at cc;generalize szL sa=na at*;generalize szL sb=nb at*;have hwa:IntKind.i64.wrap (c - 1)=c - 1:=wrap_in (by omega) (by omega);have hc:c - ((1+na+nb:Nat):Int)=c - 1 - ((na:Int)+(nb:Int)):=by omega
   rw[hc]at hJ;clear hlt h5 ih hmem hd he hbm hsz hc;refine HT_seq<|HT_block<|HT_seq<|HT_runA ?_;refine HT_seq<|HT_seq<|HT_runA ?_;refine(HT_cs rfl (fun h8=>?_) fun h8=>?_)
   · (try simp only[BN]at h8);have hw2:IntKind.i64.wrap ((na:Int)+(nb:Int))=(na:Int)+(nb:Int):=wrap_in (by omega) (by omega);have hw3:IntKind.i64.wrap (c - 1 - ((na:Int)+(nb:Int)))=c - 1 - ((na:Int)+(nb:Int)):=wrap_in (by omega) (by omega);rw[if_pos (by simpa using h8),List.nil_append]at hJ;clear h8 iha ihb hida hidb cc;refine HT_sA ?_;refine HT_seq<|(HT_drunc [⟨true,.v (li (na:Int)),none⟩,⟨true,.v (li (nb:Int)),none⟩] (by kernel_rfl) (by kernel_rfl) (by rfl) (by simp[*];first|exact⟨rfl,Iff.rfl⟩|exact⟨rfl,trivial⟩|rfl) ?_ ?_)
     · first|exact⟨ca _,cb _⟩|exact trivial|(repeat' first|exact trivial|exact ca _|exact cb _|apply And.intro)
     refine(HT_exit ?_);refine HT_runA ?_;exact⟨(k+1,c - 1 - ((na:Int)+(nb:Int)),acc),⟨hk1,hJ,by simp only;omega,by simp only;omega,by simp only;omega⟩,by simp only;omega,le_mkA (fun n=>n) []⟩
   (try simp only[BN]at h8);have hne:¬c=0:=by simpa using h8
   rw[if_neg hne,←List.append_assoc]at hJ;have iha:=fun h0 h1=>iha (c - 1) h0 h1;have hida:=hida (c - 1);have ihb:=fun h0 h1=>ihb (c - 1 - (na:Int)) h0 h1;have hidb:=hidb (c - 1 - (na:Int));obtain⟨A,hA⟩:∃x,woL sa (c - 1)=x:=⟨_,rfl⟩;obtain⟨B,hB⟩:∃x,woL sb (c - 1 - (na:Int))=x:=⟨_,rfl⟩;rw[hA]at iha hida hJ;rw[hB]at ihb hidb hJ;have hw4:IntKind.i64.wrap (c - 1 - (na:Int))=c - 1 - (na:Int):=wrap_in (by omega) (by omega);have hw5:IntKind.i64.wrap (c - 1 - (na:Int) - (nb:Int))=c - 1 - (na:Int) - (nb:Int):=wrap_in (by omega) (by omega);have hsn:=encSs_snoc acc (.mk sd sc sv sn (.mk so stn sks) A B sbs);simp only[St.enc,Tm.enc,List.cons_append,List.nil_append]at hsn;clear h8 hA hB;refine HT_sA ?_;refine HT_scA [⟨false,.v (.agg [.c (iC sd),.c (iC sc),.c (iC sv),.c (iC sn),.c (iC so),.c (iC stn),.c (.sl 3 (encTs sks)),.c (.sl 10 (encSs sa)),.c (.sl 10 (encSs sb)),.c (.sl 1 (encIs sbs))]),none⟩] ?_ ?_
   · first|exact cc _|exact trivial|simpa[*]using cc _
   refine(HT_cutU [1,5,7,8,11,12,13] (fun(z:Unit)=>[]) (fun(z:Unit)=>[(7,.box [.c (iC sd),.c (iC sc),.c (iC sv),.c (iC sn),.c (iC so),.c (iC stn),.c (.sl 3 (encTs sks)),.c (.sl 10 (encSs sa)),.c (.sl 10 (encSs sb)),.c (.sl 1 (encIs sbs))]),(8,.box [.c (iC sd),.c (iC sc),.c (iC sv),.c (iC sn),.c (iC so),.c (iC stn),.c (.sl 3 (encTs sks)),.c (.sl 10 (encSs A)),.c (.sl 10 (encSs sb)),.c (.sl 1 (encIs sbs))]),(1003,.row 76 10 (encSs acc))]) (fun(z:Unit)=>True) ?_ ?_)
   ·
    refine HT_scA [⟨true,.v (li (na:Int)),none⟩] ?_ ?_
    · first|exact ca _|exact trivial|simpa[*]using ca _
    refine HT_sA ?_;refine(HT_cs rfl (fun h18=>?_) fun h18=>?_)
    · try simp only[BN]at h18
      have h18':1≤c∧c - 1<(na:Int):=by
       first|omega|(simp at h18;omega)
      have iha:=iha (by omega) (by omega);refine(HT_runcA [⟨false,.v (lS A),none⟩] ?_ ?_)
      · first|exact iha _|exact trivial|simpa[*]using iha _
      exact⟨(),trivial,le_mkA (fun n=>n) []⟩
    try simp only[BN]at h18
    have hAs:A=sa:=hida (by
     first|omega|(simp at h18;omega))
    clear iha hida hsn hJ;subst hAs;exact⟨(),trivial,le_mkA (fun n=>n) []⟩
   rintro⟨⟩ hz;simp only[upS,keepS,insS]
   try simp only[keepS,KN,Nat.reduceBEq,if_true,if_false,ins,Nat.reduceLT]
   refine HT_scA [⟨true,.v (li (na:Int)),none⟩] ?_ ?_
   · first|exact ca _|exact trivial|simpa[*]using ca _
   refine(HT_cutU [1,5,7,8,11,12,13] (fun(z:Unit)=>[]) (fun(z:Unit)=>[(7,.box [.c (iC sd),.c (iC sc),.c (iC sv),.c (iC sn),.c (iC so),.c (iC stn),.c (.sl 3 (encTs sks)),.c (.sl 10 (encSs sa)),.c (.sl 10 (encSs sb)),.c (.sl 1 (encIs sbs))]),(8,.box [.c (iC sd),.c (iC sc),.c (iC sv),.c (iC sn),.c (iC so),.c (iC stn),.c (.sl 3 (encTs sks)),.c (.sl 10 (encSs A)),.c (.sl 10 (encSs B)),.c (.sl 1 (encIs sbs))]),(1003,.row 76 10 (encSs acc))]) (fun(z:Unit)=>True) ?_ ?_)
   ·
    refine HT_scA [⟨true,.v (li (nb:Int)),none⟩] ?_ ?_
    · first|exact cb _|exact trivial|simpa[*]using cb _
    refine HT_sA ?_;refine(HT_cs rfl (fun h26=>?_) fun h26=>?_)
    · try simp only[BN]at h26
      have h26':0≤c - 1 - (na:Int)∧c - 1 - (na:Int)<(nb:Int):=by
       first|omega|(simp at h26;omega)
      have ihb:=ihb (by omega) (by omega);refine(HT_runcA [⟨false,.v (lS B),none⟩] ?_ ?_)
      · first|exact ihb _|exact trivial|simpa[*]using ihb _
      exact⟨(),trivial,le_mkA (fun n=>n) []⟩
    try simp only[BN]at h26
    have hBs:B=sb:=hidb (by
     first|omega|(simp at h26;omega))
    clear ihb hidb hsn hJ;subst hBs;exact⟨(),trivial,le_mkA (fun n=>n) []⟩
   rintro⟨⟩ hz2;simp only[upS,keepS,insS]
   try simp only[keepS,KN,Nat.reduceBEq,if_true,if_false,ins,Nat.reduceLT]
   refine HT_scA [⟨true,.v (li (nb:Int)),none⟩] ?_ ?_
   · first|exact cb _|exact trivial|simpa[*]using cb _
   refine HT_runA ?_;refine HT_runA ?_;exact⟨(k+1,c - 1 - (na:Int) - (nb:Int),acc++[.mk sd sc sv sn (.mk so stn sks) A B sbs]),⟨hk1,by simp only;rw[show c - 1 - (na:Int) - (nb:Int)=c - 1 - ((na:Int)+(nb:Int)) by omega];exact hJ,by simp only[List.length_append,List.length_singleton];omega,by simp only;omega,by simp only;omega⟩,by simp only;omega,le_mkA (fun n=>if n=1003 then 77 else n) []⟩
 (try simp only[BN]at h5);have hkl:k=l.length:=by omega
 rw[hkl,List.drop_length]at hJ;simp only[woL,List.append_nil]at hJ;subst hJ;refine(HT_exit ?_);refine HT_sA ?_;exact HT_ret ⟨.inr rfl,_,le_frz 1003 rfl,⟨⟨_,by simp;rfl,by simp[resR]⟩,by simp,fun h=>by cases h⟩⟩
end Go.Proofs.YtppjennamodfdaaGreat

namespace Go.Proofs.YtppjennamodfdaaGreat
open Go Go.Hl
theorem removeP_con (f:Fl) (hv:f.vars.length≤1000000) (hh:f.hats.length≤1000000) (ht:∀h∈f.hats,h.term.nodes≤1000000) (hn:nodesS f.body≤1000000) (hb:bndL f.body=true) (i:Int) (h0:0≤i) (h1:i<(szL f.body:Int)) (d:Nat):
  Con Tryz.prog 67 false [aF f,li i] (.tup [aF ⟨f.vars,f.hats,woL f.body i⟩,li 0]) none d:=by
 have cs:=sizeF_con f (by omega);have cv:=cloneV_con f.vars hv;have hsl:=szL_le f.body;have cw:=withoutP_con f.body hn hb i (by omega) (by omega);obtain⟨vars,hats,body⟩:=f;simp only at hv hh ht cs cv cw h1;obtain⟨G,hG⟩:∃x,woL body i=x:=⟨_,rfl⟩;obtain⟨N,hN⟩:∃x,szL body=x:=⟨_,rfl⟩;rw[hN]at cs h1;rw[hG]at cw⊢;have hneg:¬i<0:=by omega
 have hge:¬(N:Int)≤i:=by omega
 clear hG hN hsl hn hb;refine con_of_HTA Tryz.func67 ?_;simp only[Tryz.f67];simp only[aF,Fl.enc,List.map_cons,List.map_nil]at cs⊢;refine HT_sA ?_;refine HT_seq<|HT_seq<|(HT_runcA [⟨true,.v (li (N:Int)),none⟩] ?_ ?_)
 · first|exact cs _|exact trivial|simpa[*]using cs _
 refine(HT_cs rfl (fun h2=>?_) fun h2=>?_)
 · exact Bool.noConfusion h2
 (try simp only[BN]at h2);refine HT_seq<|(HT_drunc [⟨false,.v (lV vars),none⟩,⟨false,.v (lS G),none⟩] (by kernel_rfl) (by kernel_rfl) (by rfl) (by simp[*,allTyped,fillC,placeOf];first|exact⟨rfl,Iff.rfl⟩|exact⟨rfl,trivial⟩|rfl) ?_ ?_)
 · first|exact⟨cv _,cw _⟩|exact trivial|(repeat' first|exact trivial|exact cv _|exact cw _|apply And.intro)
 refine HT_seq<|HT_seq<|HT_runA ?_;refine HT_block<|(HT_loopU [4,6,27,28] (fun(x:Nat)=>[(29,.v (li x))]) (fun x=>[(4,.box [.c (.lit nilS),.c (.lit nilS),.c (.lit nilS)]),(6,.box [.c (.sl 5 (encVs vars)),.own 900001,.c (.sl 10 (encSs G))]),(900001,.row 99 6 (encHs (hats.take x)))]) (fun x=>x≤hats.length) (fun x=>hats.length - x) (0:Nat) (Nat.zero_le _) ?_ ?_)
 · exact le_mkA (fun n=>n) [900001]
 rintro k hk;simp only[upS,keepS,insS]
 try simp only[keepS,KN,Nat.reduceBEq,if_true,if_false,ins,Nat.reduceLT]
 refine HT_sA ?_;refine HT_seq<|(HT_cond rfl (fun h9=>HT_skip ?_) (fun h9=>?_))
 · (try simp only[BN]at h9);have hlt:k<hats.length:=by omega
   obtain⟨h,he,hd⟩:=at_lt hlt;have hw1:=wrap1 hlt (by omega);have hk1:k+1≤hats.length:=hlt;have hmem:h∈hats:=List.mem_of_getElem? he;have ct:=copyT_con h.term (ht h hmem);have htl:(hats.take k).length=k:=by rw[List.length_take];omega
   have hroom:room (k+1) 72:=room_of (by omega) (by omega)
   have hsn:encHs (hats.take (k+1))=encHs (hats.take k)++[h.enc]:=by
    unfold encHs;rw[List.take_add_one,he,Option.toList_some,List.map_append];rfl
   have he':(encHs hats)[k]? =some h.enc:=by simp[he]
   obtain⟨hnm,hlo,hhi,⟨ho,htn,hks⟩⟩:=h;simp only[aT,Tm.enc,List.map_cons,List.map_nil]at ct;simp only[Ht.enc,Tm.enc,List.cons_append,List.nil_append]at hsn he';clear hlt h9 hmem hd he ht cs cv cw;refine HT_seq<|HT_block<|HT_seq<|HT_runA ?_;refine HT_scA [⟨false,.v (.agg [.c (iC ho),.c (iC htn),.c (.sl 3 (encTs hks))]),none⟩] ?_ ?_
   · first|exact ct _|exact trivial|simpa[*]using ct _
   refine HT_runA ?_;refine HT_runA ?_;exact⟨k+1,hk1,by omega,le_mkA (fun n=>if n=900001 then 41 else n) []⟩
 (try simp only[BN]at h9);have hkl:k=hats.length:=by omega
 subst hkl;simp only[List.take_length];refine(HT_exit ?_);refine HT_le (le_frz 900001 rfl) ?_;refine HT_sA ?_;exact HT_ret ⟨.inr rfl,_,le_refl _,⟨⟨_,by simp;rfl,by simp[resR]⟩,by simp,fun h=>by cases h⟩⟩
end Go.Proofs.YtppjennamodfdaaGreat

namespace Go.Proofs.YtppjennamodfdaaGreat
open Go Go.Hl
end Go.Proofs.YtppjennamodfdaaGreat

namespace Go.Proofs.YtppjennamodfdaaGreat
open Go Go.Hl
theorem fnd_ge:∀(l:List St) (i:Int),(szL l:Int)≤i→fndL l i=none
 |[],i,h=>fndL_nil i
 | .mk d c v n t a b bs::l,i,h=>by
   simp only[szL,szS]at h;rw[fndL_cons];rw[if_neg (by omega),fnd_ge a _ (by omega)];simp only;rw[fnd_ge b _ (by omega)];simp only;exact fnd_ge l _ (by omega)
theorem fnd_some:∀(l:List St) (i:Int),0≤i→i<(szL l:Int)→∃s,fndL l i=some s∧s.nodes≤nodesS l∧(bndL l=true→bndS s=true)∧i+szS s≤szL l∧szL (woL l i)+szS s=szL l
 |[],i,h0,h=>by simp only[szL]at h;omega
 | .mk d c v n t a b bs::l,i,h0,h=>by
   simp only[szL,szS]at h;rw[fndL_cons];split
   · rename_i e;subst e;refine⟨_,rfl,?_,?_,?_,?_⟩
     · simp only[nodesS];omega
     · intro hb;simp only[bndL,Bool.and_eq_true]at hb;exact hb.1
     · simp only[szL,szS];omega
     simp only[woL,if_pos,List.nil_append,szL];rw[woL_id l _ (by have:=szS_pos (.mk d c v n t a b bs);omega)];omega
   rename_i e;by_cases ha:i - 1<(szL a:Int)
   · obtain⟨s,h1,h2,h3,h4,h5⟩:=fnd_some a (i - 1) (by omega) ha;rw[h1];refine⟨s,rfl,?_,?_,?_,?_⟩
     · simp only[nodesS,St.nodes];omega
     · intro hb;simp only[bndL,bndS,Bool.and_eq_true]at hb;exact h3 hb.1.2.1
     · simp only[szL,szS];omega
     simp only[woL,if_neg e,woS,List.cons_append,List.nil_append,szL,szS];rw[woL_id b _ (by omega),woL_id l _ (by omega)];omega
   rw[fnd_ge a _ (by omega)];simp only;by_cases hb:i - 1 - (szL a:Int)<(szL b:Int)
   · obtain⟨s,h1,h2,h3,h4,h5⟩:=fnd_some b (i - 1 - szL a) (by omega) hb;rw[h1];refine⟨s,rfl,?_,?_,?_,?_⟩
     · simp only[nodesS,St.nodes];omega
     · intro hb;simp only[bndL,bndS,Bool.and_eq_true]at hb;exact h3 hb.1.2.2
     · simp only[szL,szS];omega
     simp only[woL,if_neg e,woS,List.cons_append,List.nil_append,szL,szS];rw[woL_id a _ (by omega),woL_id l _ (by omega)];omega
   rw[fnd_ge b _ (by omega)];simp only;obtain⟨s,h1,h2,h3,h4,h5⟩:=fnd_some l (i - 1 - szL a - szL b) (by omega) (by omega);rw[h1];refine⟨s,rfl,?_,?_,?_,?_⟩
   · simp only[nodesS];omega
   · intro hb;simp only[bndL,Bool.and_eq_true]at hb;exact h3 hb.2
   · simp only[szL,szS];omega
   simp only[woL,if_neg e,woS,List.cons_append,List.nil_append,szL,szS];rw[woL_id a _ (by omega),woL_id b _ (by omega),show i - ((1+szL a+szL b:Nat):Int)=i - 1 - szL a - szL b by omega];omega
end Go.Proofs.YtppjennamodfdaaGreat

namespace Go.Proofs.YtppjennamodfdaaGreat
open Go Go.Hl
def pgL (q:List Int):Nat→List St→List St
 |0,b=>b
 |i+1,b=>pgL q i (if(i:Int)∈q then b else woL b i)
def pgF (f:Fl) (q:List Int):Fl:=⟨f.vars,f.hats,pgL q (szL f.body) f.body⟩
theorem woL_sz {l:List St} {i:Nat} (h:i<szL l):i≤szL (woL l i):=by
 obtain⟨s,_,_,_,h1,h2⟩:=fnd_some l i (by omega) (by omega);omega
set_option maxHeartbeats 16000000 in
theorem program_con (f:Fl) (h:Sm f) (q:List Int) (hq:q.length≤100000) (d:Nat):Con Tryz.prog 27 false [aF f,.one (.c (.sl 1 (encIs q)))] (.tup [if askC f [q]=0 then aF (pgF f q)else .agg [.c (.lit nilS),.c (.lit nilS),.c (.lit nilS)],li (askC f [q])]) none d:=by
 have ca:=asked_con f h [q] (by simp) (fun q' hq'=>by rw[List.mem_singleton.1 hq'];omega);have hv:=h.vars;have hh:=h.hats;have hno:=h.nodes;have hbd:=h.bnd;have hsz:=h.sz;have hfl:=flL_len f.body;obtain⟨C,hC⟩:∃x,askC f [q]=x:=⟨_,rfl⟩;unfold askT at ca;simp only[encQ,List.map_cons,List.map_nil]at ca;rw[hC]at ca⊢;clear h hC;by_cases hz:C=0
 · subst hz;have hTab:tabC f=tabD f (flL f.body) (arL f.body (-1) 0) (rdT f):=rfl;rw[hTab]at ca;simp only[if_true]at ca⊢;obtain⟨S,hS⟩:∃x,flL f.body=x:=⟨_,rfl⟩;obtain⟨A,hA⟩:∃x,arL f.body (-1) 0=x:=⟨_,rfl⟩;obtain⟨Rd,hRd⟩:∃x,rdT f=x:=⟨_,rfl⟩;rw[hS,hA,hRd]at ca;rw[hS]at hfl;unfold pgF;obtain⟨vars,hats,body⟩:=f;simp only at hv hh hno hbd hsz hfl⊢;have hht:∀h∈hats,h.term.nodes≤1000000:=fun h hm=>by have:=nodesH_mem hm;omega
   have hcn:=fun i=>has_con q i (by omega);have crm:=fun(b:List St) (h1:nodesS b≤nodesS body) h2 (i:Nat) (h3:i+1≤szL b)=>removeP_con ⟨vars,hats,b⟩ (by simp only;omega) (by simp only;omega) hht (by simp only;omega) h2 i (by omega) (by simp only;omega);have cfr:=fun(b:List St) (h1:nodesS b≤nodesS body) h2=>fresh_con ⟨vars,hats,b⟩ ⟨hv,hh,by simp only;omega,h2⟩;simp only[aF,Fl.enc,List.map_cons,List.map_nil]at ca crm cfr⊢;obtain⟨res,hres⟩:∃x,pgL q (szL body) body=x:=⟨_,rfl⟩;rw[hres];rw[←hfl]at hres hsz;have hfl2:S.length≤szL body:=by omega
   clear hht hTab hS hA hRd hfl;refine con_of_HTA Tryz.func27 ?_;simp only[Tryz.f27];refine HT_sA ?_;refine HT_seq<|(HT_runF 3 [] [⟨false,.tup [.one (.c (tabD ⟨vars,hats,body⟩ S A Rd)),li 0],none⟩] (by simp[*];rfl) trivial (le_frz 13 rfl) (by simp[*];first|exact⟨rfl,Iff.rfl⟩|exact⟨rfl,trivial⟩|rfl) ?_ ?_)
   · first|exact ca _|simpa using ca _
   refine HT_seq<|HT_seq<|HT_runA ?_;refine(HT_cs rfl (fun h3=>?_) fun h3=>?_)
   · exact absurd h3 (by simp)
   (try simp only[BN]at h3);refine HT_sA ?_;have hw0:IntKind.i64.wrap ((S.length:Int) - 1)=(S.length:Int) - 1:=wrap_in (by omega) (by omega);refine HT_seq<|HT_seq<|HT_runA ?_;refine HT_block<|(HT_loopU [1,4,8] (fun(u:Nat×List St)=>[(9,.v (li ((u.1:Int) - 1)))]) (fun u=>[(4,.box [.c (.lit nilS),.c (.lit nilS),.c (.lit nilS)]),(8,.box [.c (.sl 5 (encVs vars)),.c (.sl 6 (encHs hats)),.c (.sl 10 (encSs u.2))])]) (fun u=>pgL q u.1 u.2=res∧nodesS u.2≤nodesS body∧bndL u.2=true∧u.1≤szL u.2∧u.1≤1000) (fun u=>u.1) (S.length,body) ⟨hres,Nat.le_refl _,hbd,by simp only;omega,by simp only;omega⟩ ?_ ?_)
   · exact le_mkA (fun n=>n) []
   rintro⟨k,b⟩ ⟨hJ,j1,j2,j3,j4⟩;simp only[upS,keepS,insS]
   try simp only[keepS,KN,Nat.reduceBEq,if_true,if_false,ins,Nat.reduceLT]
   simp only at hJ j1 j2 j3 j4;clear hres ca hw0;obtain⟨x,hx⟩:∃x:Int,(k:Int) - 1=x:=⟨_,rfl⟩;rw[hx];refine HT_seq<|HT_seq<|HT_runA ?_;refine(HT_cond rfl (fun h10=>HT_skip ?_) (fun h10=>?_))
   · (try simp only[BN]at h10);have hx0:0≤x:=by simpa using h10
     obtain⟨i,rfl⟩:∃i:Nat,x=i:=⟨x.toNat,by omega⟩;obtain rfl:k=i+1:=by omega
     have cn:=hcn (i:Int);have hw1:IntKind.i64.wrap ((i:Int) - 1)=(i:Int) - 1:=wrap_in (by omega) (by omega);have cr:=crm b j1 j2 i j3;have g1:=Nat.le_trans (woL_nodes b i) j1;have g2:=woL_bnd b i j2;have g3:=woL_sz (l:=b) (i:=i) (by omega);simp only[pgL]at hJ;obtain⟨z,hz⟩:∃z,decide ((i:Int)∈q)=z:=⟨_,rfl⟩;rw[hz]at cn;obtain⟨b2,hb2⟩:∃x,woL b i=x:=⟨_,rfl⟩;rw[hb2]at cr g1 g2 g3 hJ;clear hx hx0 h10 hcn crm cfr hb2;refine HT_seq<|HT_block<|HT_seq<|HT_seq<|(HT_runcA [⟨true,.v (lb z),none⟩] ?_ ?_)
     · first|exact cn _|exact trivial|simpa[*]using cn _
     refine(HT_cs rfl (fun h12=>?_) fun h12=>?_)
     · (try simp only[BN]at h12);have hzt:z=true:=by simpa using h12
       rw[if_pos (of_decide_eq_true (hz.trans hzt))]at hJ;clear h12 hz cr cn;refine(HT_exit ?_);refine HT_runA ?_;exact⟨(i,b),⟨hJ,j1,j2,by simp only;omega,by simp only;omega⟩,by simp only;omega,le_mkA (fun n=>n) []⟩
     (try simp only[BN]at h12);have hzt:z=false:=by simpa using h12
     rw[if_neg (of_decide_eq_false (hz.trans hzt))]at hJ;clear h12 hz cn;refine HT_seq<|(HT_runc [⟨false,.tup [.agg [.c (.sl 5 (encVs vars)),.c (.sl 6 (encHs hats)),.c (.sl 10 (encSs b2))],li 0],none⟩] (by simp[*,allTyped,fillC,placeOf,cellsOf,dataOf];first|exact⟨rfl,Iff.rfl⟩|exact⟨rfl,trivial⟩|rfl) ?_ ?_)
     · first|exact cr _|exact trivial|simpa[*,allTyped,fillC,placeOf,cellsOf,dataOf]using cr _
     refine HT_sA ?_;refine(HT_cs rfl (fun h17=>?_) fun h17=>?_)
     · exact absurd h17 (by simp)
     (try simp only[BN]at h17);refine HT_runA ?_;exact⟨(i,b2),⟨hJ,g1,g2,g3,by simp only;omega⟩,by simp only;omega,le_mkA (fun n=>n) []⟩
   (try simp only[BN]at h10);have hx0:¬0≤x:=by simpa using h10
   obtain rfl:k=0:=by omega
   simp only[pgL]at hJ;subst hJ;have cf:=cfr b j1 j2;clear hx hx0 h10 hcn crm cfr;refine(HT_exit ?_);refine HT_scA [⟨false,.v (.agg [.c (.sl 5 (encVs vars)),.c (.sl 6 (encHs hats)),.c (.sl 10 (encSs b))]),none⟩] ?_ ?_
   · first|exact cf _|exact trivial|simpa[*]using cf _
   exact HT_rA
 simp only[if_neg hz]at ca⊢;clear hv hh hno hbd hsz hfl;obtain⟨vars,hats,body⟩:=f;simp only[aF,Fl.enc,List.map_cons,List.map_nil]at ca⊢;refine con_of_HTA Tryz.func27 ?_;simp only[Tryz.f27];refine HT_sA ?_;refine HT_seq<|(HT_runF 3 [] [⟨false,.tup [.one (.c (.lit (.pointer none))),li C],none⟩] (by simp[*];rfl) trivial (le_frz 13 rfl) (by simp[*];first|exact⟨rfl,Iff.rfl⟩|exact⟨rfl,trivial⟩|rfl) ?_ ?_)
 · first|exact ca _|simpa using ca _
 refine HT_seq<|HT_seq<|HT_runA ?_;refine(HT_cs rfl (fun h3=>?_) fun h3=>?_)
 · (try simp only[BN]at h3);refine HT_sA ?_;exact HT_rA
 exact absurd h3 (by simp[hz])
end Go.Proofs.YtppjennamodfdaaGreat

namespace Go.Proofs.YtppjennamodfdaaGreat
open Go Go.Hl
def rndB (N:List Nd) (steps:List St) (nv:Nat) (S:List (List Nat)) (to d:Nat):Bool:=
 (S[to]?.getD []).contains d||(List.range N.length).any fun i=>match N[i]?,S[i]? with
  |some x,some Si=>decide (sucN x to)&&(aftL steps nv Si x).contains d
  |_,_=>false
def rnd (N:List Nd) (steps:List St) (nv:Nat) (S:List (List Nat)):List (List Nat):=(List.range N.length).map fun to=>(List.range (steps.length+nv)).filter fun d=>rndB N steps nv S to d
def rndK (N:List Nd) (steps:List St) (nv:Nat):Nat→List (List Nat)→List (List Nat)
 |0,S=>S
 |k+1,S=>rndK N steps nv k (rnd N steps nv S)
theorem gs_zero (N:List Nd) (steps:List St) (nv:Nat):Gs N steps nv (List.replicate N.length []) where
 len:=by simp
 nod l hl:=by rw[(List.mem_replicate.1 hl).2];exact List.nodup_nil
 lt l hl d hd:=by rw[(List.mem_replicate.1 hl).2]at hd;cases hd
 snd to l d hl hd:=by
  have:=List.mem_of_getElem? hl;rw[(List.mem_replicate.1 this).2]at hd;cases hd
theorem rnd_gs {N:List Nd} {steps:List St} {nv:Nat} {S:List (List Nat)} (g:Gs N steps nv S):Gs N steps nv (rnd N steps nv S) where
 len:=by simp[rnd]
 nod l hl:=by
  obtain⟨to,_,rfl⟩:=List.mem_map.1 hl;exact List.Pairwise.filter _ List.nodup_range
 lt l hl d hd:=by
  obtain⟨to,_,rfl⟩:=List.mem_map.1 hl;simpa using(List.mem_filter.1 hd).1
 snd to l d hl hd:=by
  simp only[rnd,List.getElem?_map,Option.map_eq_some_iff]at hl;obtain⟨to',h1,rfl⟩:=hl;have h1':=List.getElem?_eq_some_iff.1 h1;obtain⟨h2,h3⟩:=h1';rw[List.getElem_range]at h3;subst h3;have h4:=(List.mem_filter.1 hd).2;unfold rndB at h4;rw[Bool.or_eq_true]at h4;rcases h4 with h4|h4
  · have h5:d∈S[to]?.getD []:=List.contains_iff_mem.1 h4;cases e:S[to]? with
    |none=>rw[e]at h5;cases h5
    |some l=>rw[e]at h5;exact g.snd to l d e h5
  obtain⟨i,_,h5⟩:=List.any_eq_true.1 h4;split at h5
  · rename_i x Si hx hS;rw[Bool.and_eq_true]at h5;exact aft_rc g hx hS (List.contains_iff_mem.1 h5.2) (of_decide_eq_true h5.1)
  cases h5
theorem rndK_gs {N:List Nd} {steps:List St} {nv:Nat}:∀(k:Nat) {S:List (List Nat)},Gs N steps nv S→Gs N steps nv (rndK N steps nv k S)
 |0,_,g=>g
 |k+1,_,g=>rndK_gs k (rnd_gs g)
open Classical in
theorem rcL_fix {N:List Nd} {steps:List St} {nv:Nat} {S:List (List Nat)} (ha:∀x∈N,isAsg steps x=true→x.a.toNat<steps.length) (g:Gs N steps nv S) (hfix:rnd N steps nv S=S):rcL N steps nv=S:=by
 have hc:∀i,i<N.length→clo N steps nv S i:=by
  intro i hi x Si hx hS d hd to l ht hl;have hrc:=aft_rc g hx hS hd ht;have hlt:=rc_lt ha hrc;have hto:to<N.length:=by have:=(List.getElem?_eq_some_iff.1 hl).1;rw[g.len]at this;exact this
  have:S[to]? =some ((List.range (steps.length+nv)).filter fun d=>rndB N steps nv S to d):=by
   conv=>lhs;rw[←hfix]
   simp[rnd,hto]
  rw[this]at hl;cases hl;refine List.mem_filter.2 ⟨by simpa using hlt,?_⟩;unfold rndB;rw[Bool.or_eq_true];refine .inr (List.any_eq_true.2 ⟨i,by simpa using hi,?_⟩);simp only[hx,hS];rw[Bool.and_eq_true];exact⟨decide_eq_true ht,List.contains_iff_mem.2 hd⟩
 conv=>rhs;rw[←hfix]
 unfold rcL rnd;refine List.map_congr_left fun to hto=>?_;have hto:to<N.length:=by simpa using hto
 obtain⟨l,hl,_⟩:=at_lt (show to<S.length by rw[g.len];exact hto);refine List.filter_congr fun d hd=>?_;show decide (Rc N steps nv to d)=rndB N steps nv S to d;rw[Bool.eq_iff_iff,decide_eq_true_eq];constructor
 · intro h;have:=clo_rc g hc hl h;unfold rndB;rw[Bool.or_eq_true,hl];exact .inl (List.contains_iff_mem.2 this)
 intro h
 have:d∈(rnd N steps nv S)[to]?.getD []:=by
  simp only[rnd,List.getElem?_map];rw[List.getElem?_range hto];exact List.mem_filter.2 ⟨hd,h⟩
 rw[hfix,hl]at this;exact g.snd to l d hl this
theorem rcL_run {N:List Nd} {steps:List St} {nv:Nat} {S:List (List Nat)} (k:Nat) (ha:∀x∈N,isAsg steps x=true→x.a.toNat<steps.length) (h:rndK N steps nv k (List.replicate N.length [])=S) (hfix:rnd N steps nv S=S):rcL N steps nv=S:=
 rcL_fix ha (h▸rndK_gs k (gs_zero N steps nv)) hfix
end Go.Proofs.YtppjennamodfdaaGreat

namespace Go.Proofs.YtppjennamodfdaaGreat
open Go Go.Hl
def rfT (n:Int):Tm:=⟨24,n,[]⟩
def exF:Fl:=⟨[⟨⟨#[120]⟩,1,0,3,0⟩,⟨⟨#[121]⟩,0,0,3,0⟩,⟨⟨#[122]⟩,0,0,3,0⟩,⟨⟨#[119]⟩,0,0,3,0⟩],[],[.mk 0 0 1 0 (rfT 0) [] [] [],.mk 0 0 2 0 ⟨0,2,[]⟩ [] [] [],.mk 3 0 0 0 (rfT 1) [.mk 0 0 2 0 ⟨0,1,[]⟩ [] [] []] [] [],.mk 1 0 0 0 (rfT 2) [] [] [],.mk 1 0 0 0 (rfT 3) [] [] []]⟩
def exS:List (List Nat):=[[],[6,7,8,9],[0,6,8,9],[0,1,6,9],[0,1,6,9],[0,1,3,6,9],[0,1,3,6,9],[0,1,3,6,9]]
theorem exRc:rcL (grN exF.body) (flL exF.body) exF.vars.length=exS:=rcL_run 12 (by decide) (by kernel_rfl) (by kernel_rfl)
theorem exRd:rdT exF=rdF (szL exF.body) ((grN exF.body).zip exS):=by
 unfold rdT;rw[exRc]
theorem exDir:dirT exF=[[],[],[0],[2],[1,3],[]]:=by
 unfold dirT;rw[exRd];kernel_rfl
theorem exCode:codeC exF=0:=by
 simp only[exF,rfT,codeC,sizesB,sdL,tdeep,ssC];kernel_rfl
theorem exSm:Sm exF:=⟨by decide,by decide,by decide,by decide⟩
theorem exAsk (q:List Int) (h:askB 6 [q]=true):askC exF [q]=0:=by
 unfold askC;rw[if_pos exCode,show(flL exF.body).length=6 from rfl,if_pos h]
theorem exAsk2 (a b:List Int) (h:askB 6 [a,b]=true):askC exF [a,b]=0:=by
 unfold askC;rw[if_pos exCode,show(flL exF.body).length=6 from rfl,if_pos h]
theorem exBw:bwL exF [4]=[0,1,2,3,4]:=by
 unfold bwL;rw[exDir];kernel_rfl
theorem exFw:fwL exF [0]=[0,2,3,4]:=by
 unfold fwL;rw[exDir];kernel_rfl
theorem exCh:chL exF [0] [4]=[0,2,3,4]:=by
 unfold chL;rw[exFw,exDir];kernel_rfl
theorem exClo:cloF (dirT exF) (natL [5])=[5]:=by
 rw[exDir];kernel_rfl
theorem exCl:clB exF [5]=true:=by
 unfold clB;rw[exClo];rfl
theorem exNeA:neA exF [5]=[3]:=by
 unfold neA;rw[exClo,exRd];kernel_rfl
theorem exNe:neL exF [5]=[3]:=by
 unfold neL;rw[exNeA];exact List.mergeSort_singleton _
theorem exPg:pgF exF [5]=⟨exF.vars,[],[.mk 1 0 0 0 (rfT 3) [] [] []]⟩:=by
 unfold pgF;have:pgL [5] (szL exF.body) exF.body=[.mk 1 0 0 0 (rfT 3) [] [] []]:=by kernel_rfl
 rw[this];rfl
end Go.Proofs.YtppjennamodfdaaGreat

namespace Go.Proofs.YtppjennamodfdaaGreat
open Go Go.Hl
theorem exRef_con (n:Int) (d:Nat):Con Tryz.prog 75 false [li n] (.v (aT (rfT n))) none d:=by
 simp only[aT,rfT,Tm.enc,encTs,List.map_cons,List.map_nil];refine con_of_HTA Tryz.func75 ?_;simp only[Tryz.f75];refine HT_sA ?_;refine HT_seq<|(HT_runF 2 [] [] (by simp[allTyped,fillC,placeOf];rfl) trivial (le_agg 4 [.c (iC 24),.c (iC n),.c (.sl 3 [])] rfl (by(repeat'(first|exact LWk.nil|apply LWk.cons|exact CWk.refl _|exact CWk.nil _)))) (by simp;rfl) trivial ?_);exact HT_rA
set_option maxHeartbeats 8000000 in
theorem example_con (d:Nat):Con Tryz.prog 38 false [] (.v (aF exF)) none d:=by
 have c0:=exRef_con 0;have c1:=exRef_con 1;have c2:=exRef_con 2;have c3:=exRef_con 3;have hq1:room 1 144:=room_of (by decide) (by decide);have hq2:room 5 144:=room_of (by decide) (by decide);have hq3:room 4 48:=room_of (by decide) (by decide);simp only[exF,rfT,aF,aT,Fl.enc,Vr.enc,encVs,encHs,encIs,encSs,encTs,St.enc,Tm.enc,List.map_cons,List.map_nil,List.cons_append,List.nil_append]at c0 c1 c2 c3⊢;refine con_of_HTA Tryz.func38 ?_;simp only[Tryz.f38];refine HT_sA ?_;refine HT_sA ?_;refine HT_seq<|(HT_runsN ?_);refine RunsN.cutE 8 [⟨false,.v (.agg [.c (iC 24),.c (iC 0),.c (.sl 3 [])]),none⟩] (by simp[*,allTyped,fillC,placeOf];first|exact⟨rfl,Iff.rfl⟩|exact⟨rfl,trivial⟩|rfl) (by first|exact c0 _|simpa using c0 _) (le_agg 9 [.c (iC 0),.c (iC 0),.c (iC 1),.c (iC 0),.c (iC 24),.c (iC 0),.c (.sl 3 []),.c (.sl 10 []),.c (.sl 10 []),.c (.sl 1 [])] rfl (by(repeat'(first|exact LWk.nil|apply LWk.cons|exact CWk.refl _|exact CWk.nil _)))) ?_;refine RunsN.cutE 2 [] (by simp[*,allTyped,fillC,placeOf];rfl) trivial (le_agg 11 [.c (iC 0),.c (iC 0),.c (iC 2),.c (iC 0),.c (iC 0),.c (iC 2),.c (.sl 3 []),.c (.sl 10 []),.c (.sl 10 []),.c (.sl 1 [])] rfl (by(repeat'(first|exact LWk.nil|apply LWk.cons|exact CWk.refl _|exact CWk.nil _)))) ?_;refine RunsN.cutE 4 [⟨false,.v (.agg [.c (iC 24),.c (iC 1),.c (.sl 3 [])]),none⟩] (by simp[*,allTyped,fillC,placeOf];first|exact⟨rfl,Iff.rfl⟩|exact⟨rfl,trivial⟩|rfl) (by first|exact c1 _|simpa using c1 _) (le_agg 15 [.c (iC 0),.c (iC 0),.c (iC 2),.c (iC 0),.c (iC 0),.c (iC 1),.c (.sl 3 []),.c (.sl 10 []),.c (.sl 10 []),.c (.sl 1 [])] rfl (by(repeat'(first|exact LWk.nil|apply LWk.cons|exact CWk.refl _|exact CWk.nil _)))) ?_;refine RunsN.cutE 1 [] (by simp[*,allTyped,fillC,placeOf];rfl) trivial (le_frz 16 rfl) ?_;refine RunsN.cutE 1 [] (by simp[*,allTyped,fillC,placeOf];rfl) trivial (le_agg 17 [.c (iC 3),.c (iC 0),.c (iC 0),.c (iC 0),.c (iC 24),.c (iC 1),.c (.sl 3 []),.c (.sl 10 [[iC 0,iC 0,iC 2,iC 0,iC 0,iC 1,.sl 3 [],.sl 10 [],.sl 10 [],.sl 1 []]]),.c (.sl 10 []),.c (.sl 1 [])] rfl (by(repeat'(first|exact LWk.nil|apply LWk.cons|exact CWk.refl _|exact CWk.nil _)))) ?_;refine RunsN.cutE 3 [⟨false,.v (.agg [.c (iC 24),.c (iC 2),.c (.sl 3 [])]),none⟩] (by simp[*,allTyped,fillC,placeOf];first|exact⟨rfl,Iff.rfl⟩|exact⟨rfl,trivial⟩|rfl) (by first|exact c2 _|simpa using c2 _) (le_agg 20 [.c (iC 1),.c (iC 0),.c (iC 0),.c (iC 0),.c (iC 24),.c (iC 2),.c (.sl 3 []),.c (.sl 10 []),.c (.sl 10 []),.c (.sl 1 [])] rfl (by(repeat'(first|exact LWk.nil|apply LWk.cons|exact CWk.refl _|exact CWk.nil _)))) ?_;refine RunsN.cutE 3 [⟨false,.v (.agg [.c (iC 24),.c (iC 3),.c (.sl 3 [])]),none⟩] (by simp[*,allTyped,fillC,placeOf];first|exact⟨rfl,Iff.rfl⟩|exact⟨rfl,trivial⟩|rfl) (by first|exact c3 _|simpa using c3 _) (le_agg 23 [.c (iC 1),.c (iC 0),.c (iC 0),.c (iC 0),.c (iC 24),.c (iC 3),.c (.sl 3 []),.c (.sl 10 []),.c (.sl 10 []),.c (.sl 1 [])] rfl (by(repeat'(first|exact LWk.nil|apply LWk.cons|exact CWk.refl _|exact CWk.nil _)))) ?_;refine RunsN.cutE 1 [] (by simp[*,allTyped,fillC,placeOf];rfl) trivial (le_trans (le_frz 6 rfl) (le_frz 24 rfl)) ?_;refine RunsN.cutE 1 [] (by simp[*,allTyped,fillC,placeOf];rfl) trivial (le_agg 25 [.c (.sl 5 [[sC ⟨#[120]⟩,iC 1,iC 0,iC 3,iC 0],[sC ⟨#[121]⟩,iC 0,iC 0,iC 3,iC 0],[sC ⟨#[122]⟩,iC 0,iC 0,iC 3,iC 0],[sC ⟨#[119]⟩,iC 0,iC 0,iC 3,iC 0]]),.c (.sl 6 []),.c (.sl 10 [[iC 0,iC 0,iC 1,iC 0,iC 24,iC 0,.sl 3 [],.sl 10 [],.sl 10 [],.sl 1 []],[iC 0,iC 0,iC 2,iC 0,iC 0,iC 2,.sl 3 [],.sl 10 [],.sl 10 [],.sl 1 []],[iC 3,iC 0,iC 0,iC 0,iC 24,iC 1,.sl 3 [],.sl 10 [[iC 0,iC 0,iC 2,iC 0,iC 0,iC 1,.sl 3 [],.sl 10 [],.sl 10 [],.sl 1 []]],.sl 10 [],.sl 1 []],[iC 1,iC 0,iC 0,iC 0,iC 24,iC 2,.sl 3 [],.sl 10 [],.sl 10 [],.sl 1 []],[iC 1,iC 0,iC 0,iC 0,iC 24,iC 3,.sl 3 [],.sl 10 [],.sl 10 [],.sl 1 []]])] rfl (by(repeat'(first|exact LWk.nil|apply LWk.cons|exact CWk.refl _|exact CWk.nil _)))) ?_;refine RunsN.doneE [] (by simp[*,allTyped,fillC,placeOf];rfl) trivial ?_;exact HT_rA
end Go.Proofs.YtppjennamodfdaaGreat
