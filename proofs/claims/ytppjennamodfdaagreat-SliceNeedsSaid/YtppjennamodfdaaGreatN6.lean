/- Part 6: contracts of functions of the program and of the reference, and plain facts about what they compute; used by the proof of the claimed statement. Conditions: as each theorem states. -/
import Derived.Test.YtppjennamodfdaaGreatProg
import Derived.Test.YtppjennamodfdaaGreatNHmZ
import Derived.KernelRfl
import Derived.Test.YtppjennamodfdaaGreatNHmZI
import Derived.Test.YtppjennamodfdaaGreatNHmZJ
import Derived.Test.YtppjennamodfdaaGreatNHmZK
import Derived.Test.YtppjennamodfdaaGreatN1
import Derived.Test.YtppjennamodfdaaGreatN2
import Derived.Test.YtppjennamodfdaaGreatN3
import Derived.Test.YtppjennamodfdaaGreatN4
set_option linter.unusedSimpArgs false
set_option linter.unusedVariables false
set_option linter.unnecessarySimpa false
set_option maxRecDepth 100000
set_option maxHeartbeats 2000000
namespace Go.Proofs.YtppjennamodfdaaGreat
open Go Go.Hl
theorem one_all (b:Nat):∀s:St,oneC b s:=by
 have key:∀l:List St,∀s∈l,oneC b s:=by
  apply St.lists;intro l ih s hs;obtain⟨o,c,v,n,⟨to,tn,tk⟩,sa,sb,bs⟩:=s;exact one_con b o c v n to tn tk sa sb bs (X2t (ih _ hs).1) (X2t (ih _ hs).2)
 exact fun s=>key [s] s (by simp)
theorem lst_all (b:Nat) (l:List St):lstC b l:=X2t fun s _=>one_all b s
def bldF (l:List St):List (List CD):=
 let x:=Qc l [(false,0)] ([[iC 0,iC (-1),iC (-1),iC (-1)]],0)
 XH x.1.1.length x.2 x.1.1++[[iC 1,iC (-1),iC (-1),iC (-1)]]
def msG:List (Nat×List Nat):=[(511,[0,1,3,8]),(510,[1,3,8]),(509,[0,2,3,8]),(503,[0,1,4,8]),(255,[0,1,3]),(508,[2,3,8]),(502,[1,4,8]),(254,[1,3]),(505,[0,3,8]),(501,[0,2,4,8]),(253,[0,2,3]),(487,[0,1,5,8]),(247,[0,1,4]),(504,[3,8]),(500,[2,4,8]),(252,[2,3]),(486,[1,5,8]),(246,[1,4]),(497,[0,4,8]),(249,[0,3]),(485,[0,2,5,8]),(245,[0,2,4]),(455,[0,1,8]),(231,[0,1,5]),(496,[4,8]),(248,[3]),(484,[2,5,8]),(244,[2,4]),(454,[1,8]),(230,[1,5]),(481,[0,5,8]),(241,[0,4]),(453,[0,2,8]),(229,[0,2,5]),(199,[0,1]),(480,[5,8]),(240,[4]),(452,[2,8]),(228,[2,5]),(198,[1]),(449,[0,8]),(225,[0,5]),(197,[0,2]),(448,[6,8]),(224,[5]),(196,[2]),(193,[0]),(384,[7,8]),(192,[6]),(256,[8]),(128,[7])]
def nxG (b:Nat) (F:Ob) (l:List St) (nl:Nat) (x y:List (Nat×Ob)) (R:List Nat):HS:=
 {trS ⟨⟨38,some (pV b)⟩,[(1,.v (.one (.at_ 1 0))),(2,.v (.one (.at_ 2 0))),(3,.v (.one (.c (.lit (pV b)))))],[]⟩ [(0,10,.v (.one (.c (.lit (pV b))))),(1,11,.v (.one (.at_ 1 2))),(2,12,.v (lS l)),(3,13,.v (.one (.c (.lit (pV b))))),(4,14,.v (.one (.c (nxC b 0)))),(5,15,.v (.one (.own 15))),(6,16,.v (.one (.own 16))),(7,17,lit (.int .i64 nl)),(8,18,lit (.int .i64 0))] R with
  objs:=(1,F)::(2,.box [.c (.lit XY)])::if R.contains 5 then x else if R.contains 6 then(15,.row 100 1 [[nxC b 0]])::x else y}
attribute [simp] nxG
set_option maxHeartbeats 4000000 in
theorem X6N (f:Fl) (hn:1+X08 f.body≤1000000) (d:Nat):Con Tryz.prog 146 false [aF f] (.v (.agg [.c (.sl 4 (bldF f.body))])) none d:=by
 obtain⟨vars,hats,body⟩:=f;simp only at hn;obtain⟨G,hG⟩:∃x,bldF body=x:=⟨_,rfl⟩;rw[hG];unfold bldF at hG;refine X7 Tryz.func146 ?_;simp only[Tryz.f146];simp only[aF,Fl.enc,List.map_cons,List.map_nil];refine X4 ?_;refine X0<|(Xn (by simp[*,XD,Qd,XQ,cellsOf,Wc,Zf,Qe];rfl) ?_);refine HT_pin 9 (cs:=[.own 7,.c (iC 0)]) [(1,.v (.one (.at_ 1 0))),(2,.v (.one (.at_ 2 0))),(3,.v (.one (.at_ 1000000 0)))] [(1,.box [.c (.sl 5 (Xs vars)),.c (.sl 6 (Xt hats)),.c (.sl 10 (Xa body))]),(2,.box [.c (.lit XY)]),(7,.row 143 4 [[iC 0,iC (-1),iC (-1),iC (-1)]]),(1000000,.box [.own 7,.c (iC 0)])] rfl rfl ?_ ?_ rfl fun b=>?_
 · simp[Zr,RV.okNil,TV.okNil,CV.okNil,RV.ren,TV.ren,CV.ren,lkp]
 · simp[Zr,Ob.okNil,CV.okNil,Ob.ren,CV.ren,lkp]
 have k0:okB [(false,0)] [[iC 0,iC (-1),iC (-1),iC (-1)]]:=⟨by simp,by simp⟩;have cA:=lst_all b body [(false,0)] [[iC 0,iC (-1),iC (-1),iC (-1)]] 0 k0 (by simp;omega) (by omega) (by omega) (by simp);have k1:=Wq body [(false,0)] ([[iC 0,iC (-1),iC (-1),iC (-1)]],0) k0;have l1:=Zw body [(false,0)] ([[iC 0,iC (-1),iC (-1),iC (-1)]],0);obtain⟨⟨⟨rows3,d3⟩,sl3⟩,hx⟩:∃x,Qc body [(false,0)] ([[iC 0,iC (-1),iC (-1),iC (-1)]],0)=x:=⟨_,rfl⟩;simp only[hx,List.length_singleton]at hG cA k1 l1;obtain⟨a1,a2,a3,a4,a5⟩:=k1;clear hx k0;refine XC (X43 (v:=pV b) 3 rfl rfl rfl) ?_;simp only[ins,Nat.reduceLT,Nat.reduceEqDiff,if_true,if_false];refine XC (s':=nxG b (.box [.c (.sl 5 (Xs vars)),.c (.sl 6 (Xt hats)),.c (.sl 10 (Xa body))]) body sl3.length (Wr [[iC 0,iC (-1),iC (-1),iC (-1)]] 0) [] (Wi 9 511)) ?_ ?_
 · refine Xu (fun n=>if n=900001 then 7 else n) [] rfl ?_ ?_ ?_
   · simp[trS, *]
   · simp[*]
   simp
 refine X0<|X0<|(QU (nxG b (.box [.c (.sl 5 (Xs vars)),.c (.sl 6 (Xt hats)),.c (.sl 10 (Xa body))]) body sl3.length (Wr [[iC 0,iC (-1),iC (-1),iC (-1)]] 0) ((16,.row 100 1 (QJ b sl3))::(102,.row 143 4 rows3)::[(1000000,.box [.own 102,.c (iC d3)])])) 9 511 msG rfl (by kernel_rfl) (by kernel_rfl) (by kernel_rfl) (by kernel_rfl) (by simp[trS]) ?_ ?_)
 · simp only[msG,X03]
   repeat' apply And.intro
   all_goals first
    |(refine XT.evE rfl ?_;simp[trS,ins,W9];done)
    | (refine XT.ev [⟨false,.v (.one (.c (nxC b 0))),none⟩] rfl (by simp[trS,ins,W9];first|exact⟨rfl,Iff.rfl⟩|exact⟨rfl,trivial⟩|rfl) ?_ ?_
       · simpa using X1y b 0 14
       simp[trS,ins])
    | (refine XT.callA (fun n=>if n=1 then 15 else n) (fun n=>if n=1 then 16 else if n=900001 then 102 else n) cA rfl fun _ _=>?_
       simp[trS,ins,Qj,QT,del,CV.ren,Ob.ren])
 refine X5<|(Xd [] (fun(x:Nat×List (List CD))=>[(2,.v (.one (.at_ 2 0))),(3,.v (.one (.c (.lit (pV b))))),(16,.v (.one (.own 16))),(17,lit (.int .i64 sl3.length)),(18,lit (.int .i64 x.1))]) (fun(x:Nat×List (List CD))=>(2,.box [.c (.lit XY)])::(16,.row 100 1 (QJ b sl3))::Wr x.2 d3) (fun(x:Nat×List (List CD))=>x.1≤sl3.length∧XH rows3.length (sl3.drop x.1) x.2=XH rows3.length sl3 rows3∧(∀r∈x.2,r.length=4)∧x.2.length=rows3.length) (fun(x:Nat×List (List CD))=>sl3.length - x.1) (0,rows3) ⟨Nat.zero_le _,rfl,a1.four,rfl⟩ ?_ ?_)
 · exact Xu (fun n=>if n=900001 then 102 else n) [] rfl (by simp[upS,X8,trS]) (by simp[upS]) (by simp[upS])
 rintro⟨i,rows2⟩ ⟨g1,g2,g3,g4⟩;simp only[upS,X8,Xy]
 try simp only[X8,KN,Nat.reduceBEq,if_true,if_false,ins,Nat.reduceLT]
 simp only at g1 g2 g3 g4;simp only[nxG,trS];refine X4 ?_;refine X0<|(X9 rfl (fun h5=>Xb ?_) (fun h5=>?_))
 · (try simp only[BN]at h5);have hi:i<sl3.length:=by simpa using h5
   obtain⟨q,hq,hqd⟩:=Xq hi;have hqe:=X3W (b:=b) hq;rw[hqd]at g2;simp only[XH]at g2;have cq:=X63 b rows2 d3 rows2.length q g3 (by have:=a1.lt q (List.mem_of_getElem? hq);omega);have hw:=XA hi (by omega:sl3.length≤1000000000);have hin2:i+1≤sl3.length:=hi;rw[←g4]at g2;clear hi hq h5 hqd;refine X0<|X5<|X0<|X3 ?_;refine XC (X44 (v:=pV b) 3 rfl rfl rfl) ?_;simp only[ins,Nat.reduceLT,Nat.reduceEqDiff,if_true,if_false];refine(XS ?_);refine RunsN.cutE 6 [] (by simp;rfl) trivial (le_refl _) ?_;refine RunsN.callA (fun n=>n) (fun n=>if n=900001 then 101 else n) cq fun _ _=>?_;refine RunsN.doneE [] (by simp[Qj,CV.ren,Ob.ren];rfl) trivial ?_;refine XC (X43 (v:=pV b) 3 rfl rfl rfl) ?_;simp only[ins,Nat.reduceLT,Nat.reduceEqDiff,if_true,if_false];refine X3 ?_;exact⟨(i+1,X0z rows2 q rows2.length),⟨hin2,by rw[←g4];exact g2,ZW g3,(X1F ..).trans g4⟩,by simp only;omega,X6 (fun n=>if n=900001 then 101 else n) []⟩
 try simp only[BN]at h5
 have hi:i=sl3.length:=by
  have:¬i<sl3.length:=by simpa using h5
  omega
 subst hi;rw[List.drop_length]at g2;simp only[XH]at g2;rw[←g2]at hG;have hroom:Qa (rows3.length+1) 32:=Xx (by omega) (by decide);clear h5 g2;refine XC (X44 (v:=pV b) 3 rfl rfl rfl) ?_;simp only[ins,Nat.reduceLT,Nat.reduceEqDiff,if_true,if_false];refine(Xg ?_);refine X0<|(Xn (by simp[*,XD,Qd,XQ,cellsOf,Wc,Zf,Qe,Wd,QY,WG];rfl) ?_);refine XC (XR 36 rfl) ?_;exact XU ⟨⟨⟨38,some (pV b)⟩,[(2,.v (.one (.at_ 2 0)))],[(2,.box [.c (.sl 4 G)])]⟩,Xu (fun n=>n) [] rfl (by simp) (by simp[*]) (by simp),by rfl,.inr rfl,_,le_refl _,⟨_,by simp;rfl,by simp[XN]⟩,by simp,fun h=>by cases h⟩
end Go.Proofs.YtppjennamodfdaaGreat

namespace Go.Proofs.YtppjennamodfdaaGreat
open Go Go.Hl
mutual
def szS:St→Nat
 | .mk _ _ _ _ _ a b _=>1+szL a+szL b
def szL:List St→Nat
 |[]=>0
 |s::l=>szS s+szL l
end
mutual
theorem szS_le:∀s:St,szS s≤s.nodes
 | .mk _ _ _ _ t a b _=>by have:=Qw a;have:=Qw b;simp only[szS,St.nodes];omega
theorem Qw:∀l:List St,szL l≤Xl l
 |[]=>by simp[szL]
 |s::l=>by have:=szS_le s;have:=Qw l;simp only[szL,Xl];omega
end
theorem X89 (s:St):1≤szS s:=by cases s;simp only[szS];omega
theorem X5a:∀l:List St,l.length≤szL l
 |[]=>by simp
 |s::l=>by have:=X5a l;have:=X89 s;simp only[szL,List.length_cons];omega
end Go.Proofs.YtppjennamodfdaaGreat

namespace Go.Proofs.YtppjennamodfdaaGreat
open Go Go.Hl
@[simp] theorem encI_app (a b:List Int):Xj (a++b)=Xj a++Xj b:=by simp[Xj]
@[simp] theorem encI_one (x:Int):Xj [x]=[[iC x]]:=rfl
structure Inp where
 s:List Int
 p:List Int
 r:List Int
abbrev aI (i:Inp):TV:=.agg [.c (.sl 1 (Xj i.s)),.c (.sl 1 (Xj i.p)),.c (.sl 1 (Xj i.r))]
structure Pk where
 n:Int
 is_:Bool
 a:Nat
 b:Nat
 c:Nat
end Go.Proofs.YtppjennamodfdaaGreat

namespace Go.Proofs.YtppjennamodfdaaGreat
open Go Go.Hl
structure Sta where
 vals:List Int
 outs:List Int
 time:Int
def tick (s:Sta) (c:Int):Sta:=⟨s.vals,s.outs,wr (s.time+c)⟩
mutual
def wfS (vars:List Vr) (nh:Nat):St→Bool
 | .mk d _ v n t a b bs=>QS vars false t&&((decide (d≠0∧d≠5)||QV vars v)&&((decide (d≠5)||(decide (0≤n)&&decide (n<nh)))&&((decide (d≠4)||decide (n≤4096))&&(decide (bs.length≤1000000000)&&(wfL vars nh a&&wfL vars nh b)))))
def wfL (vars:List Vr) (nh:Nat):List St→Bool
 |[]=>true
 |s::l=>wfS vars nh s&&wfL vars nh l
end
mutual
def oUS:St→Nat
 | .mk d _ _ n _ a b _=>if d=4 then n.toNat*oUL a else if d=3 then max (oUL a) (oUL b)else if d=1 then 1 else 0
def oUL:List St→Nat
 |[]=>0
 |s::l=>oUS s+oUL l
end
end Go.Proofs.YtppjennamodfdaaGreat

namespace Go.Proofs.YtppjennamodfdaaGreat
open Go Go.Hl
theorem XbK {vars:List Vr} {v:Int} (h:QV vars v=true):0≤v∧∃w,vars[v.toNat]? =some w:=by
 unfold QV at h;simp only[Bool.and_eq_true,decide_eq_true_eq]at h;refine⟨h.1,?_⟩;have h2:=h.2;split at h2
 · exact⟨_,by assumption⟩
 cases h2
end Go.Proofs.YtppjennamodfdaaGreat

namespace Go.Proofs.YtppjennamodfdaaGreat
open Go Go.Hl
def st0:Sta:=⟨[],[],0⟩
structure Obs where
 outs:List Int
 time:Int
end Go.Proofs.YtppjennamodfdaaGreat

namespace Go.Proofs.YtppjennamodfdaaGreat
open Go Go.Hl
theorem X7e (t:Tm):t.nodes≤1000000→∀d:Nat,Con Tryz.prog 104 false [aT t] (.v (aT t)) none d:=by
 revert t
 refine Tm.ind ?_;intro o n ks ih hn d;simp only[Tm.nodes]at hn;have hlen:=W8 ks;refine X7 Tryz.func104 ?_;simp only[Tryz.f104];simp only[aT,Tm.enc,List.map_cons,List.map_nil];refine X4 ?_;refine X4 ?_;refine X0<|X0<|X3 ?_;refine X5<|(Xd [2,3,12,13] (fun(x:Nat)=>[(14,.v (li x))]) (fun x=>[(2,.box [.c (iC 0),.c (iC 0),.c (.lit XY)]),(3,.box [.c (iC o),.c (iC n),.own 900001]),(900001,.row 74 3 (Xo (ks.take x)))]) (fun x=>x≤ks.length) (fun x=>ks.length - x) (0:Nat) (Nat.zero_le _) ?_ ?_)
 · exact X6 (fun n=>n) [900001]
 rintro k hk;simp only[upS,X8,Xy]
 try simp only[X8,KN,Nat.reduceBEq,if_true,if_false,ins,Nat.reduceLT]
 refine X4 ?_;refine X0<|(X9 rfl (fun h5=>Xb ?_) (fun h5=>?_))
 · (try simp only[BN]at h5);have hlt:k<ks.length:=by omega
   obtain⟨t,he,hd⟩:=Xq hlt;have hw1:=XA hlt (by omega);have hk1:k+1≤ks.length:=hlt;have hmem:t∈ks:=List.mem_of_getElem? he;have hnm:=X1G hmem;have ct:=ih t hmem (by omega);have htl:(ks.take k).length=k:=by rw[List.length_take];omega
   have hroom:Qa (k+1) 40:=Xx (by omega) (by omega)
   have hsn:Xo (ks.take (k+1))=Xo (ks.take k)++[t.enc]:=by
    rw[X0N,X0N,List.take_add_one,he,Option.toList_some,List.map_append];rfl
   have he':=Wt he;obtain⟨so,stn,sks⟩:=t;simp only[Tm.enc]at he' hsn;simp only[aT,Tm.enc,List.map_cons,List.map_nil]at ct;clear hlt h5 ih hmem hnm he hd;refine X0<|X5<|X0<|X3 ?_;refine(Z8 [(18,3),(24,3)] [⟨false,.v (.agg [.c (iC so),.c (iC stn),.c (.sl 3 (Xo sks))]),none⟩] (by kernel_rfl) (by kernel_rfl) (by rfl) (by simp[X3d,X2h,Qq, *];first|exact⟨rfl,Iff.rfl⟩|exact⟨rfl,trivial⟩|rfl) ?_ ?_)
   · first|exact ct _|exact trivial|simpa[*]using ct _
   refine X3 ?_;exact⟨k+1,hk1,by omega,X6 (fun n=>if n=900001 then 23 else n) []⟩
 (try simp only[BN]at h5);have hkl:k=ks.length:=by omega
 subst hkl;simp only[List.take_length];refine(Xg ?_);refine XC (XR 900001 rfl) ?_;refine X4 ?_;exact XU ⟨.inr rfl,_,le_refl _,⟨⟨_,by simp;rfl,by simp[XN]⟩,by simp,fun h=>by cases h⟩⟩
end Go.Proofs.YtppjennamodfdaaGreat

namespace Go.Proofs.YtppjennamodfdaaGreat
open Go Go.Hl
end Go.Proofs.YtppjennamodfdaaGreat

namespace Go.Proofs.YtppjennamodfdaaGreat
open Go Go.Hl
def ofK (vars:List Vr) (kind:Int):List Vr:=vars.filter fun v=>decide (v.kind=kind)
theorem ofK_good {vars:List Vr} (h:X06 vars) (kind:Int):X06 (ofK vars kind):=fun v hv=>h v (List.mem_filter.1 hv).1
theorem ofK_len (vars:List Vr) (kind:Int):(ofK vars kind).length≤vars.length:=List.length_filter_le _ _
theorem of13_con (vars:List Vr) (kind:Int) (hl:vars.length≤1000000) (d:Nat):Con Tryz.prog 121 false [lV vars,li kind] (.v (lV (ofK vars kind))) none d:=by
 obtain⟨S,hS⟩:∃S,ofK vars kind=S:=⟨_,rfl⟩;rw[hS];unfold ofK at hS;refine X7 Tryz.func121 ?_;simp only[Tryz.f121];refine X4 ?_;refine X4 ?_;refine X0<|X0<|X3 ?_;refine X5<|(Xd [0,1] (fun(x:Nat×List Vr)=>[(5,.v (.one (.own 1005))),(6,.v (li x.1))]) (fun x=>[(1005,.row 64 5 (Xs x.2))]) (fun x=>x.1≤vars.length∧x.2=(vars.take x.1).filter fun v=>decide (v.kind=kind)) (fun x=>vars.length - x.1) (0,[]) ⟨Nat.zero_le _,by simp⟩ ?_ ?_)
 · exact X6 (fun n=>if n=1005 then 7 else n) []
 rintro⟨k,acc⟩ ⟨hk,hJ⟩;simp only[upS,X8,Xy]
 try simp only[X8,KN,Nat.reduceBEq,if_true,if_false,ins,Nat.reduceLT]
 simp only at hk hJ;replace hJ:=hJ.symm;refine X0<|X0<|X3 ?_;refine(X9 rfl (fun h5=>Xb ?_) (fun h5=>?_))
 · (try simp only[BN]at h5);have hlt:k<vars.length:=by omega
   obtain⟨v,he,hd⟩:=Xq hlt;have hw1:=XA hlt (by omega);have hk1:k+1≤vars.length:=hlt;have ht:=ZZ he;generalize hT:(vars.take k).filter (fun v=>decide (v.kind=kind))=T at hJ
   have hal:acc.length≤k:=by
    rw[←hJ,←hT];exact Nat.le_trans (List.length_filter_le _ _) (by rw[List.length_take];omega)
   have hroom:Qa (acc.length+1) 48:=Xx (by omega) (by omega);clear hlt h5 hS;refine X0<|X5<|X0<|X3 ?_;refine(Xe rfl (fun h7=>?_) fun h7=>?_)
   · (try simp only[BN]at h7);have hf:(vars.take (k+1)).filter (fun v=>decide (v.kind=kind))=acc++[v]:=by rw[ht,List.filter_append,hT,hJ,List.filter_cons_of_pos (by simpa using h7)];simp
     refine X3 ?_;refine X3 ?_;exact⟨(k+1,acc++[v]),⟨hk1,hf.symm⟩,by simp only;omega,X6 (fun n=>if n=1005 then 27 else n) []⟩
   (try simp only[BN]at h7);have hf:(vars.take (k+1)).filter (fun v=>decide (v.kind=kind))=acc:=by rw[ht,List.filter_append,hT,hJ,List.filter_cons_of_neg (by simpa using h7)];simp
   refine X3 ?_;exact⟨(k+1,acc),⟨hk1,hf.symm⟩,by simp only;omega,X6 (fun n=>n) []⟩
 (try simp only[BN]at h5);have hkl:k=vars.length:=by omega
 rw[hkl,List.take_length,hS]at hJ;subst hJ;clear hS;refine(Xg ?_);refine X4 ?_;exact XU ⟨.inr rfl,_,XR 1005 rfl,⟨⟨_,by simp;rfl,by simp[XN]⟩,by simp,fun h=>by cases h⟩⟩
theorem X9D (vars:List Vr) (kind:Int) (hkd:1≤kind∧kind≤3) (hv:X06 vars) (hl:vars.length≤1000000) (hs:spc vars kind≤4096) (d:Nat):
  Con Tryz.prog 79 true [lV vars,li kind] (.tup [li (spc vars kind),li 0]) none d:=by
 have co:=of13_con vars kind hl;have hg:=ofK_good hv kind;have hn:=ofK_len vars kind;unfold spc at*;change prV (ofK vars kind) 1≤4096 at hs;change Con _ _ _ _ (.tup [li (prV (ofK vars kind) 1),li 0]) _ _;obtain⟨res,hres⟩:∃r,prV (ofK vars kind) 1=r:=⟨_,rfl⟩;rw[hres]at hs⊢;obtain⟨S,hS⟩:∃S,ofK vars kind=S:=⟨_,rfl⟩;rw[hS]at co hg hn hres;clear hS hv;refine X7 Tryz.func79 ?_;simp only[Tryz.f79];refine X4 ?_;refine X0<|X0<|X3 ?_;refine(Xe rfl (fun h2=>?_) fun h2=>?_)
 · exfalso;simp at h2;omega
 (try simp only[BN]at h2);refine Xk [⟨false,.v (lV S),none⟩] ?_ ?_
 · first|exact co _|exact trivial|simpa[*]using co _
 refine X0<|X0<|X3 ?_;refine X5<|(Xd [6] (fun(x:Nat)=>[(7,.v (li x))]) (fun x=>[]) (fun x=>x≤S.length) (fun x=>S.length - x) (0:Nat) (Nat.zero_le _) ?_ ?_)
 · exact X6 (fun n=>n) []
 rintro k hk;simp only[upS,X8,Xy]
 try simp only[X8,KN,Nat.reduceBEq,if_true,if_false,ins,Nat.reduceLT]
 clear co;refine X0<|X0<|X3 ?_;refine(X9 rfl (fun h9=>Xb ?_) (fun h9=>?_))
 · (try simp only[BN]at h9);have hlt:k<S.length:=by omega
   obtain⟨v,he,hd⟩:=Xq hlt;have hw1:=XA hlt (by omega);have hk1:k+1≤S.length:=hlt;have hb:=hg v (List.mem_of_getElem? he);clear hlt h9 hg hres;refine X0<|X5<|X0<|(Q6 (by kernel_rfl) (by kernel_rfl) (by rfl) (by simp[*];rfl) ?_);refine(Xe rfl (fun h11=>?_) fun h11=>?_)
   · exfalso;simp at h11;omega
   (try simp only[BN]at h11);refine X3 ?_;exact⟨k+1,hk1,by omega,X6 (fun n=>n) []⟩
 (try simp only[BN]at h9);clear h9 hk;refine(Xg ?_);refine X4 ?_;refine X0<|X0<|X3 ?_;refine X5<|(Xd [6] (fun(x:Nat×Int)=>[(8,.v (li x.2)),(9,.v (li x.1))]) (fun x=>[]) (fun x=>x.1≤S.length∧prV (S.drop x.1) x.2=res∧1≤x.2∧x.2≤4096) (fun x=>S.length - x.1) (0,1) ⟨Nat.zero_le _,hres,by decide,by decide⟩ ?_ ?_)
 · exact X6 (fun n=>n) []
 rintro⟨k,n⟩ ⟨hk,hJ,hn1,hn2⟩;simp only[upS,X8,Xy]
 try simp only[X8,KN,Nat.reduceBEq,if_true,if_false,ins,Nat.reduceLT]
 simp only at hk hJ hn1 hn2;clear hres;refine X0<|X0<|X3 ?_;refine(X9 rfl (fun h20=>Xb ?_) (fun h20=>?_))
 · (try simp only[BN]at h20);have hlt:k<S.length:=by omega
   obtain⟨v,he,hd⟩:=Xq hlt;have hw1:=XA hlt (by omega);have hk1:k+1≤S.length:=hlt;have hmem:v∈S:=List.mem_of_getElem? he;have hsz:=sz_in hg hmem;have hm:=X7P ⟨hn1,hn2⟩ hsz;have hb:=hg v hmem;have hw2:IntKind.i64.wrap (v.high - v.low)=v.high - v.low:=Xc (by omega) (by omega);have hw3:IntKind.i64.wrap (v.high - v.low+1)=sz v:=by rw[Xc (by omega) (by omega)];rfl
   have hw4:IntKind.i64.wrap (n*sz v)=n*sz v:=Xc (by omega) (by omega);rw[hd]at hJ;simp only[prV]at hJ;clear hlt h20 hg;refine X0<|X5<|X0<|(Q6 (by kernel_rfl) (by kernel_rfl) (by rfl) (by simp[*];rfl) ?_);refine X4 ?_;refine(Xe rfl (fun h23=>?_) fun h23=>?_)
   · exfalso;rw[if_pos (by simpa using h23)]at hJ;omega
   (try simp only[BN]at h23);rw[if_neg (by simpa using h23)]at hJ;refine X3 ?_;exact⟨(k+1,n*sz v),⟨hk1,hJ,hm.1,by simp only;omega⟩,by simp only;omega,X6 (fun n=>n) []⟩
 (try simp only[BN]at h20);have hkl:k=S.length:=by omega
 rw[hkl,List.drop_length]at hJ;simp only[prV]at hJ;subst hJ;refine(Xg ?_);refine X4 ?_;exact Xh
end Go.Proofs.YtppjennamodfdaaGreat
