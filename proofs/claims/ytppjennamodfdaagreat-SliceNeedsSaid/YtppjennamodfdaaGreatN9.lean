/- Part 9: contracts of functions of the program and of the reference, and plain facts about what they compute; used by the proof of the claimed statement. Conditions: as each theorem states. -/
import Derived.Test.YtppjennamodfdaaGreatProg
import Derived.Test.YtppjennamodfdaaGreatNHmZ
import Derived.KernelRfl
import Derived.Test.YtppjennamodfdaaGreatN1
import Derived.Test.YtppjennamodfdaaGreatN2
import Derived.Test.YtppjennamodfdaaGreatN3
import Derived.Test.YtppjennamodfdaaGreatN4
import Derived.Test.YtppjennamodfdaaGreatNHmZI
import Derived.Test.YtppjennamodfdaaGreatNHmZJ
import Derived.Test.YtppjennamodfdaaGreatNHmZK
import Derived.Lib.SlicesCompact
import Derived.Shelf.Slices.CompactI
import Derived.Shelf.Sort.Plain
import Derived.Shelf.Slices.In.SortNone
import Derived.Test.YtppjennamodfdaaGreatNHmZL
import Derived.Test.YtppjennamodfdaaGreatN6
import Derived.Test.YtppjennamodfdaaGreatN8
import Derived.Test.YtppjennamodfdaaGreatN7
import Derived.Test.YtppjennamodfdaaGreatN5
import Derived.Test.YtppjennamodfdaaGreatNHmZM
set_option linter.unusedSimpArgs false
set_option linter.unusedVariables false
set_option linter.unnecessarySimpa false
set_option maxRecDepth 100000
set_option maxHeartbeats 2000000
namespace Go.Proofs.YtppjennamodfdaaGreat
open Go Go.Hl
def X8W (vs:List Int) (l:List Ht):List Int:=l.map fun h=>heldI (vT vs h.term) h.low h.high
end Go.Proofs.YtppjennamodfdaaGreat

namespace Go.Proofs.YtppjennamodfdaaGreat
open Go Go.Hl
set_option maxHeartbeats 8000000 in
theorem X8Z (f:Fl) (h:Sm f) (q:List Int) (hq:q.length≤100000) (d:Nat):Con Tryz.prog 13 false [aF f,.one (.c (.sl 1 (Xj q)))] (slR (WN f [q]) (fwL f q)) none d:=by
 have ca:=ZU f h [q] (by simp) (fun q' hq'=>by rw[List.mem_singleton.1 hq'];omega);have cd:=X04 f _ _ _ (Wl h);have hd0:X2B (flL f.body) (arL f.body (-1) 0) (rdT f)=Q5 f:=rfl;rw[hd0]at cd;have hrow:=X0k h;have hDl:(Q5 f).length≤1000:=by rw[Qy];exact(Wl h).hn
 obtain⟨C,hC⟩:∃x,WN f [q]=x:=⟨_,rfl⟩;have hask:=fun hz=>@X4x f [q] (hC.trans hz) q (by simp);unfold askT at ca;simp only[X41,List.map_cons,List.map_nil]at ca;unfold slR fwL;rw[hC]at ca⊢;obtain⟨R,hR⟩:∃x,X4o (Q5 f).length (Zh (X2g (Q5 f)) (QL q))=x:=⟨_,rfl⟩;rw[hR];obtain⟨T,hT⟩:∃x,X6f f=x:=⟨_,rfl⟩;have hT2:ZH f (flL f.body) (arL f.body (-1) 0) (rdT f)=T:=hT;rw[hT]at ca;rw[hT2]at cd;obtain⟨D,hD⟩:∃x,Q5 f=x:=⟨_,rfl⟩;rw[hD]at cd hrow hDl hask hR;have cv:=X3f D hDl hrow;have hok:=XaM hDl hrow;have hEl:=X1w D;obtain⟨E,hE⟩:∃x,X2g D=x:=⟨_,rfl⟩;rw[hE]at cv hok hEl hR;clear h hC hT hT2 hd0 hD hrow hE;rw[←hEl]at hask hR;by_cases hz:C=0
 · subst hz;obtain⟨h0,hlt⟩:=hask rfl;have cc:=Z6 E (QL q) (by omega) hok (by simp only[QL,List.length_map];omega) hlt;have hN:=(We hok hlt).1;have cs:=X2F E.length _ (by omega) hN;rw[hR]at cs;rw[ZY h0]at ca⊢;simp only[if_true]at ca⊢;clear hask hR h0 hlt hN hok;obtain⟨vars,hats,body⟩:=f;simp only[aF,Fl.enc,List.map_cons,List.map_nil]at ca⊢;refine X7 Tryz.func13 ?_;simp only[Tryz.f13];refine X4 ?_;refine X0<|(QQ 3 [] [⟨false,.tup [.one (.c T),li 0],none⟩] (by simp[*];rfl) trivial (XR 11 rfl) (by simp[*];first|exact⟨rfl,Iff.rfl⟩|exact⟨rfl,trivial⟩|rfl) ?_ ?_)
   · first|exact ca _|simpa using ca _
   refine X0<|X0<|X3 ?_;refine(Xe rfl (fun h3=>?_) fun h3=>?_)
   · exact absurd h3 (by simp)
   (try simp only[BN]at h3);refine Xk [⟨false,.v (.one (.c (.sl 1 (Q7 D)))),none⟩,⟨false,.v (.one (.c (.sl 1 (Q7 E)))),none⟩,⟨false,.v (.one (.c (.mp (mpI (Zh E (QL q)))))),none⟩,⟨false,.v (.one (.c (.sl 1 (XB R)))),none⟩] ?_ ?_
   · first|exact⟨cd _,cv _,cc _,cs _⟩|exact trivial|(repeat' first|exact trivial|exact cd _|exact cv _|exact cc _|exact cs _|apply And.intro)
   exact Xh
 simp only[if_neg hz]at ca⊢;clear hask hok hR cd cv;obtain⟨vars,hats,body⟩:=f;simp only[aF,Fl.enc,List.map_cons,List.map_nil]at ca⊢;refine X7 Tryz.func13 ?_;simp only[Tryz.f13];refine X4 ?_;refine X0<|(QQ 3 [] [⟨false,.tup [.one (.c (.lit (.pointer none))),li C],none⟩] (by simp[*];rfl) trivial (XR 11 rfl) (by simp[*];first|exact⟨rfl,Iff.rfl⟩|exact⟨rfl,trivial⟩|rfl) ?_ ?_)
 · first|exact ca _|simpa using ca _
 refine X0<|X0<|X3 ?_;refine(Xe rfl (fun h3=>?_) fun h3=>?_)
 · (try simp only[BN]at h3);refine X4 ?_;exact Xh
 exact absurd h3 (by simp[hz])
end Go.Proofs.YtppjennamodfdaaGreat

namespace Go.Proofs.YtppjennamodfdaaGreat
open Go Go.Hl
def msF:List (Nat×List Nat):=[(255,[0,2]),(254,[1,2]),(251,[0,3]),(252,[2]),(250,[1,3]),(243,[0,4]),(248,[3]),(242,[1,4]),(227,[0]),(240,[4]),(226,[1]),(224,[5]),(192,[6]),(128,[7])]
def nxT (regs:List (Nat×RV)) (o4 o5 o7 o8:List (Nat×Ob)) (outs:List (Nat×Nat×RV)) (R:List Nat):HS:=
 {trS ⟨⟨27,none⟩,regs,[]⟩ outs R with objs:=if R.contains 4 then o4 else if R.contains 5 then o5 else if R.contains 7 then o7 else o8}
theorem X6S:∀a b:List Tm,Xo (a++b)=Xo a++Xo b
 |[],_=>rfl
 |t::a,b=>by simp only[List.cons_append,Xo,X6S a b]
theorem X76:∀a:List Tm,(Xo a).length=a.length
 |[]=>rfl
 |t::a=>by simp only[Xo,List.length_cons,X76 a]
theorem XcY {ks:List Tm} {k:Nat} {t:Tm} (h:ks[k]? =some t):Xo (ks.take (k+1))=Xo (ks.take k)++[t.enc]:=by
 rw[List.take_add_one,h,X6S];rfl
set_option maxHeartbeats 8000000 in
theorem X2k (t:Tm):t.nodes≤1000000→∀d,Con Tryz.prog 106 false [aT t] (.v (aT t)) none d:=by
 revert t
 refine Tm.ind ?_;intro o n ks ih hn d;simp only[Tm.nodes]at hn;have hlen:=W8 ks;simp only[aT,Tm.enc,List.map_cons,List.map_nil];refine X7 Tryz.func106 ?_;simp only[Tryz.f106];refine X4 ?_;refine X4 ?_;refine X0<|X0<|X3 ?_;refine X5<|(Xd [2,3,12,13] (fun(y:Nat)=>[(14,.v (li y))]) (fun y=>[(2,.box [.c (iC 0),.c (iC 0),.c (.lit XY)]),(3,.box [.c (iC o),.c (iC n),.own 1003]),(1003,.row 74 3 (Xo (ks.take y)))]) (fun y=>y≤ks.length) (fun y=>ks.length - y) (0:Nat) (Nat.zero_le _) ?_ ?_)
 · exact X6 (fun n=>n) [1003]
 rintro y hy;simp only[upS,X8,Xy]
 try simp only[X8,KN,Nat.reduceBEq,if_true,if_false,ins,Nat.reduceLT]
 refine X4 ?_;refine X0<|(X9 rfl (fun h5=>Xb ?_) (fun h5=>?_))
 · (try simp only[BN]at h5);have hlt:y<ks.length:=by simpa using h5
   obtain⟨t,he,hd⟩:=Xq hlt;have hw1:=XA hlt (by omega);have hk1:y+1≤ks.length:=hlt;have hmem:t∈ks:=List.mem_of_getElem? he;have hnm:=X1G hmem;have ct:=ih t hmem (by omega);have he':=Wt he;have htk:=XcY he;have hroom:Qa (y+1) 40:=Xx (by omega) (by decide);have hml:min y ks.length=y:=by omega
   have hel:(Xo (ks.take y)).length=y:=by rw[X76,List.length_take];exact hml
   obtain⟨so,stn,sks⟩:=t;simp only[Tm.enc]at he' htk;simp only[aT,Tm.enc,List.map_cons,List.map_nil]at ct;clear hlt h5 ih hmem hnm he hd;refine X0<|X5<|X0<|X3 ?_;refine XC (s':=⟨⟨27,none⟩,[(2,.v (.one (.at_ 2 0))),(3,.v (.one (.at_ 3 0))),(5,.v (.one (.at_ 5 0))),(12,.v (.one (.c (.sl 3 (Xo ks))))),(13,.v (li ks.length)),(14,.v (li y))],[(2,.box [.c (iC 0),.c (iC 0),.c (.lit XY)]),(3,.box [.c (iC o),.c (iC n),.own 1003]),(5,.box [.c (iC so),.c (iC stn),.c (.sl 3 (Xo sks))]),(1003,.row 74 3 (Xo (ks.take y)))]⟩) (Xu (fun n=>n) [] rfl (by simp) (by simp) (by simp)) ?_;refine(QU (nxT [(2,.v (.one (.at_ 2 0))),(3,.v (.one (.at_ 3 0))),(5,.v (.one (.at_ 5 0))),(12,.v (.one (.c (.sl 3 (Xo ks))))),(13,.v (li ks.length)),(14,.v (li y))] [(2,.box [.c (iC 0),.c (iC 0),.c (.lit XY)]),(3,.box [.c (iC o),.c (iC n),.own 1003]),(5,.box [.c (iC so),.c (iC stn),.c (.sl 3 (Xo sks))]),(1003,.row 74 3 (Xo (ks.take y)))] [(2,.box [.c (iC 0),.c (iC 0),.c (.lit XY)]),(3,.box [.c (iC o),.c (iC n),.own 1003]),(5,.box [.c (iC so),.c (iC stn),.c (.sl 3 (Xo sks))]),(22,.row 74 3 [[iC so,iC stn,.sl 3 (Xo sks)]]),(1003,.row 74 3 (Xo (ks.take y)))] [(2,.box [.c (iC 0),.c (iC 0),.c (.lit XY)]),(3,.box [.c (iC o),.c (iC n),.own 1003]),(5,.box [.c (iC so),.c (iC stn),.c (.sl 3 (Xo sks))]),(22,.row 74 3 [[iC so,iC stn,.sl 3 (Xo sks)]]),(23,.row 74 3 (Xo (ks.take (y+1))))] [(2,.box [.c (iC 0),.c (iC 0),.c (.lit XY)]),(3,.box [.c (iC o),.c (iC n),.own 23]),(5,.box [.c (iC so),.c (iC stn),.c (.sl 3 (Xo sks))]),(22,.row 74 3 [[iC so,iC stn,.sl 3 (Xo sks)]]),(23,.row 74 3 (Xo (ks.take (y+1))))] [(0,18,.v (.one (.at_ 3 2))),(1,19,.v (.one (.own 1003))),(2,20,.v (.agg [.c (iC so),.c (iC stn),.c (.sl 3 (Xo sks))])),(3,21,.v (.agg [.c (iC so),.c (iC stn),.c (.sl 3 (Xo sks))])),(4,22,.v (.one (.own 22))),(5,23,.v (.one (.own 23))),(6,24,.v (.one (.at_ 3 2)))]) 8 255 msF rfl (by kernel_rfl) (by kernel_rfl) (by kernel_rfl) (by kernel_rfl) (by simp[nxT,trS]) ?_ ?_)
   · simp only[msF,X03]
     repeat' apply And.intro
     all_goals first
      |(refine XT.evE rfl ?_;simp[nxT,trS,ins,lkp,del,XD,Qd,XQ,cellsOf,Qe,Wc,Zf,Wd,QY,WG,hroom,htk,hel,hml];done)
      |(refine XT.ev [⟨false,.v (.agg [.c (iC so),.c (iC stn),.c (.sl 3 (Xo sks))]),none⟩] rfl (by simp[nxT,trS,ins,lkp,del];first|exact⟨rfl,Iff.rfl⟩|exact⟨rfl,trivial⟩|rfl) ?_ (by simp[nxT,trS,ins]);first|exact ct _|simpa using ct _)
      |trivial
   refine XC (s':=⟨⟨27,none⟩,[(2,.v (.one (.at_ 2 0))),(3,.v (.one (.at_ 3 0))),(12,.v (.one (.c (.sl 3 (Xo ks))))),(13,.v (li ks.length)),(14,.v (li y))],[(2,.box [.c (iC 0),.c (iC 0),.c (.lit XY)]),(3,.box [.c (iC o),.c (iC n),.own 1003]),(1003,.row 74 3 (Xo (ks.take (y+1))))]⟩) (Xu (fun n=>if n=1003 then 23 else n) [] rfl (by simp[nxT,trS]) (by simp[nxT,trS]) (by simp)) ?_;refine X3 ?_;exact⟨y+1,hk1,by omega,X6 (fun n=>n) []⟩
 try simp only[BN]at h5
 have hyl:y=ks.length:=by
  have:¬y<ks.length:=by simpa using h5
  omega
 subst hyl;rw[List.take_length];clear h5;refine(Xg ?_);refine XC (XR 1003 rfl) ?_;refine X4 ?_;exact Xh
end Go.Proofs.YtppjennamodfdaaGreat

namespace Go.Proofs.YtppjennamodfdaaGreat
open Go Go.Hl
def msGs:List (Nat×List Nat):=[(1023,[0,3]),(1022,[1,3]),(1015,[0,4]),(1020,[2,3]),(1014,[1,4]),(999,[0]),(1016,[3]),(1012,[2,4]),(998,[1]),(1008,[4]),(996,[2]),(992,[5,6]),(960,[6]),(928,[5]),(896,[7]),(768,[8]),(512,[9])]
def nxK (regs:List (Nat×RV)) (o:List (Nat×Ob)) (outs:List (Nat×Nat×RV)) (R:List Nat):HS:=
 {trS ⟨⟨34,none⟩,regs,[]⟩ outs R with objs:=o}
theorem X49:∀a:List St,(Xa a).length=a.length:=fun a=>by rw[W2,List.length_map]
theorem X6L {ks:List St} {k:Nat} {t:St} (h:ks[k]? =some t):Xa (ks.take (k+1))=Xa (ks.take k)++[t.enc]:=by
 rw[List.take_add_one,h,Qu];rfl
set_option maxHeartbeats 16000000 in
theorem X6j (l:List St):Xl l≤1000000→Wm l=true→∀d,Con Tryz.prog 105 false [lS l] (.v (lS l)) none d:=by
 revert l
 apply St.lists;intro l ih hn hb d;have hlen:=Q9 l;refine X7 Tryz.func105 ?_;simp only[Tryz.f105];refine X4 ?_;refine X4 ?_;refine X0<|X0<|X3 ?_;refine X5<|(Xd [6,7] (fun(y:Nat)=>[(3,.v (.one (.own 1003))),(8,.v (li y))]) (fun y=>[(1003,.row 76 10 (Xa (l.take y)))]) (fun y=>y≤l.length) (fun y=>l.length - y) (0:Nat) (Nat.zero_le _) ?_ ?_)
 · exact X6 (fun n=>n) [1003]
 rintro y hy;simp only[upS,X8,Xy]
 try simp only[X8,KN,Nat.reduceBEq,if_true,if_false,ins,Nat.reduceLT]
 refine X4 ?_;refine X0<|(X9 rfl (fun h5=>Xb ?_) (fun h5=>?_))
 · (try simp only[BN]at h5);have hlt:y<l.length:=by simpa using h5
   obtain⟨q,he,hd⟩:=Xq hlt;have hw1:=XA hlt (by omega);have hk1:y+1≤l.length:=hlt;have hmem:q∈l:=List.mem_of_getElem? he;have hnm:=Qm hmem;have hbm:=X1A hb hmem;obtain⟨iha,ihb⟩:=ih q hmem;have he':=XX he;have htk:=X6L he;have hroom:Qa (y+1) 144:=Xx (by omega) (by decide);have hel:(Xa (l.take y)).length=y:=by rw[X49,List.length_take];omega
   obtain⟨so,sc,sv,sn,⟨to,tn,tk⟩,sa,sb,sbs⟩:=q;simp only[St.then_,St.else_,St.term]at iha ihb hnm;simp only[X0B,Bool.and_eq_true,decide_eq_true_eq]at hbm;simp only[St.enc,Tm.enc,List.cons_append,List.nil_append]at he' htk;have ca:=iha (by omega) hbm.2.1;have cb:=ihb (by omega) hbm.2.2;have ci:=X60 sbs hbm.1;have ct:=X2k ⟨to,tn,tk⟩ (by omega);simp only[aT,Tm.enc,List.map_cons,List.map_nil]at ct;have hml:min y l.length=y:=by omega
   clear hlt h5 ih hmem hnm he hd iha ihb hbm;refine X0<|X5<|X0<|X3 ?_;refine XC (s':=⟨⟨34,none⟩,[(3,.v (.one (.own 1003))),(5,.v (.one (.at_ 5 0))),(6,.v (lS l)),(7,.v (li l.length)),(8,.v (li y))],[(5,.box [.c (iC so),.c (iC sc),.c (iC sv),.c (iC sn),.c (iC to),.c (iC tn),.c (.sl 3 (Xo tk)),.c (.sl 10 (Xa sa)),.c (.sl 10 (Xa sb)),.c (.sl 1 (Xj sbs))]),(1003,.row 76 10 (Xa (l.take y)))]⟩) (Xu (fun n=>n) [] rfl (by simp) (by simp) (by simp)) ?_;refine X0<|(QU (nxK [(3,.v (.one (.own 1003))),(5,.v (.one (.at_ 5 0))),(6,.v (lS l)),(7,.v (li l.length)),(8,.v (li y))] [(5,.box [.c (iC so),.c (iC sc),.c (iC sv),.c (iC sn),.c (iC to),.c (iC tn),.c (.sl 3 (Xo tk)),.c (.sl 10 (Xa sa)),.c (.sl 10 (Xa sb)),.c (.sl 1 (Xj sbs))]),(1003,.row 76 10 (Xa (l.take y)))] [(0,12,.v (.one (.at_ 5 4))),(1,13,.v (.agg [.c (iC to),.c (iC tn),.c (.sl 3 (Xo tk))])),(2,14,.v (.agg [.c (iC to),.c (iC tn),.c (.sl 3 (Xo tk))])),(3,15,.v (.one (.at_ 5 9))),(4,16,.v (.one (.c (.sl 1 (Xj sbs))))),(5,17,.v (.one (.c (.sl 1 (Xj sbs))))),(6,18,.v (.one (.at_ 5 4))),(8,19,.v (.one (.at_ 5 9)))]) 10 1023 msGs rfl (by kernel_rfl) (by kernel_rfl) (by kernel_rfl) (by kernel_rfl) (by simp[nxK,trS]) ?_ ?_)
   · simp only[msGs,X03]
     repeat' apply And.intro
     all_goals first
      |(refine XT.evE rfl ?_;simp[nxK,trS,ins,lkp,del,XD,Qd,XQ,cellsOf,Qe,Wc,Zf,Wd,QY];done)
      |(refine XT.ev [⟨false,.v (.agg [.c (iC to),.c (iC tn),.c (.sl 3 (Xo tk))]),none⟩] rfl (by simp[nxK,trS,ins,lkp,del];first|exact⟨rfl,Iff.rfl⟩|exact⟨rfl,trivial⟩|rfl) ?_ (by simp[nxK,trS,ins]);first|exact ct _|simpa using ct _)
      |(refine XT.ev [⟨false,.v (.one (.c (.sl 1 (Xj sbs)))),none⟩] rfl (by simp[nxK,trS,ins,lkp,del];first|exact⟨rfl,Iff.rfl⟩|exact⟨rfl,trivial⟩|rfl) ?_ (by simp[nxK,trS,ins]);first|exact ci _|simpa using ci _)
      |trivial
   refine XC (s':=⟨⟨34,none⟩,[(3,.v (.one (.own 1003))),(5,.v (.one (.at_ 5 0))),(6,.v (lS l)),(7,.v (li l.length)),(8,.v (li y))],[(5,.box [.c (iC so),.c (iC sc),.c (iC sv),.c (iC sn),.c (iC to),.c (iC tn),.c (.sl 3 (Xo tk)),.c (.sl 10 (Xa sa)),.c (.sl 10 (Xa sb)),.c (.sl 1 (Xj sbs))]),(1003,.row 76 10 (Xa (l.take y)))]⟩) (Xu (fun n=>n) [] rfl (by simp[nxK,trS]) (by simp[nxK,trS]) (by simp)) ?_;refine XC (s':=⟨⟨34,none⟩,[(3,.v (.one (.own 1003))),(5,.v (.one (.at_ 5 0))),(6,.v (lS l)),(7,.v (li l.length)),(8,.v (li y))],[(5,.box [.c (iC so),.c (iC sc),.c (iC sv),.c (iC sn),.c (iC to),.c (iC tn),.c (.sl 3 (Xo tk)),.c (.sl 10 (Xa sa)),.c (.sl 10 (Xa sb)),.c (.sl 1 (Xj sbs))]),(1003,.row 76 10 (Xa (l.take y)))]⟩) (Xu (fun n=>n) [] rfl (by simp) (by simp) (by simp)) ?_;refine X0<|(QU (nxK [(3,.v (.one (.own 1003))),(5,.v (.one (.at_ 5 0))),(6,.v (lS l)),(7,.v (li l.length)),(8,.v (li y))] [(5,.box [.c (iC so),.c (iC sc),.c (iC sv),.c (iC sn),.c (iC to),.c (iC tn),.c (.sl 3 (Xo tk)),.c (.sl 10 (Xa sa)),.c (.sl 10 (Xa sb)),.c (.sl 1 (Xj sbs))]),(1003,.row 76 10 (Xa (l.take y)))] [(0,20,.v (.one (.at_ 5 7))),(1,21,.v (lS sa)),(2,22,.v (lS sa)),(3,23,.v (.one (.at_ 5 8))),(4,24,.v (lS sb)),(5,25,.v (lS sb)),(6,26,.v (.one (.at_ 5 7))),(8,27,.v (.one (.at_ 5 8)))]) 10 1023 msGs rfl (by kernel_rfl) (by kernel_rfl) (by kernel_rfl) (by kernel_rfl) (by simp[nxK,trS]) ?_ ?_)
   · simp only[msGs,X03]
     repeat' apply And.intro
     all_goals first
      |(refine XT.evE rfl ?_;simp[nxK,trS,ins,lkp,del,XD,Qd,XQ,cellsOf,Qe,Wc,Zf,Wd,QY];done)
      |(refine XT.ev [⟨false,.v (lS sa),none⟩] rfl (by simp[nxK,trS,ins,lkp,del];first|exact⟨rfl,Iff.rfl⟩|exact⟨rfl,trivial⟩|rfl) ?_ (by simp[nxK,trS,ins]);first|exact ca _|simpa using ca _)
      |(refine XT.ev [⟨false,.v (lS sb),none⟩] rfl (by simp[nxK,trS,ins,lkp,del];first|exact⟨rfl,Iff.rfl⟩|exact⟨rfl,trivial⟩|rfl) ?_ (by simp[nxK,trS,ins]);first|exact cb _|simpa using cb _)
      |trivial
   refine XC (s':=⟨⟨34,none⟩,[(3,.v (.one (.own 1003))),(5,.v (.one (.at_ 5 0))),(6,.v (lS l)),(7,.v (li l.length)),(8,.v (li y))],[(5,.box [.c (iC so),.c (iC sc),.c (iC sv),.c (iC sn),.c (iC to),.c (iC tn),.c (.sl 3 (Xo tk)),.c (.sl 10 (Xa sa)),.c (.sl 10 (Xa sb)),.c (.sl 1 (Xj sbs))]),(1003,.row 76 10 (Xa (l.take y)))]⟩) (Xu (fun n=>n) [] rfl (by simp[nxK,trS]) (by simp[nxK,trS]) (by simp)) ?_;refine X3 ?_;refine X3 ?_;exact⟨y+1,hk1,by omega,X6 (fun n=>if n=1003 then 31 else n) []⟩
 try simp only[BN]at h5
 have hyl:y=l.length:=by
  have:¬y<l.length:=by simpa using h5
  omega
 subst hyl;rw[List.take_length];clear h5;refine(Xg ?_);refine XC (XR 1003 rfl) ?_;refine X4 ?_;exact Xh
end Go.Proofs.YtppjennamodfdaaGreat

namespace Go.Proofs.YtppjennamodfdaaGreat
open Go Go.Hl
theorem X50:∀(l:List St) (i:Int),i<0→X1r l i=none
 |[],i,h=>X2V i
 | .mk d c v n t a b bs::l,i,h=>by
   rw[X0S];rw[if_neg (by omega),X50 a _ (by omega)];simp only;rw[X50 b _ (by omega)];simp only;exact X50 l _ (by omega)
theorem X0W:∀(l:List St) (i:Int),(szL l:Int)≤i→X1r l i=none
 |[],i,h=>X2V i
 | .mk d c v n t a b bs::l,i,h=>by
   simp only[szL,szS]at h;rw[X0S];rw[if_neg (by omega),X0W a _ (by omega)];simp only;rw[X0W b _ (by omega)];simp only;exact X0W l _ (by omega)
theorem X0L:∀(l:List St) (i:Int),0≤i→i<(szL l:Int)→∃s,X1r l i=some s∧s.nodes≤Xl l∧(Wm l=true→X0B s=true)∧i+szS s≤szL l∧szL (woL l i)+szS s=szL l
 |[],i,h0,h=>by simp only[szL]at h;omega
 | .mk d c v n t a b bs::l,i,h0,h=>by
   simp only[szL,szS]at h;rw[X0S];split
   · rename_i e;subst e;refine⟨_,rfl,?_,?_,?_,?_⟩
     · simp only[Xl];omega
     · intro hb;simp only[Wm,Bool.and_eq_true]at hb;exact hb.1
     · simp only[szL,szS];omega
     simp only[woL,if_pos,List.nil_append,szL];rw[ZN l _ (by have:=X89 (.mk d c v n t a b bs);omega)];omega
   rename_i e;by_cases ha:i - 1<(szL a:Int)
   · obtain⟨s,h1,h2,h3,h4,h5⟩:=X0L a (i - 1) (by omega) ha;rw[h1];refine⟨s,rfl,?_,?_,?_,?_⟩
     · simp only[Xl,St.nodes];omega
     · intro hb;simp only[Wm,X0B,Bool.and_eq_true]at hb;exact h3 hb.1.2.1
     · simp only[szL,szS];omega
     simp only[woL,if_neg e,woS,List.cons_append,List.nil_append,szL,szS];rw[ZN b _ (by omega),ZN l _ (by omega)];omega
   rw[X0W a _ (by omega)];simp only;by_cases hb:i - 1 - (szL a:Int)<(szL b:Int)
   · obtain⟨s,h1,h2,h3,h4,h5⟩:=X0L b (i - 1 - szL a) (by omega) hb;rw[h1];refine⟨s,rfl,?_,?_,?_,?_⟩
     · simp only[Xl,St.nodes];omega
     · intro hb;simp only[Wm,X0B,Bool.and_eq_true]at hb;exact h3 hb.1.2.2
     · simp only[szL,szS];omega
     simp only[woL,if_neg e,woS,List.cons_append,List.nil_append,szL,szS];rw[ZN a _ (by omega),ZN l _ (by omega)];omega
   rw[X0W b _ (by omega)];simp only;obtain⟨s,h1,h2,h3,h4,h5⟩:=X0L l (i - 1 - szL a - szL b) (by omega) (by omega);rw[h1];refine⟨s,rfl,?_,?_,?_,?_⟩
   · simp only[Xl];omega
   · intro hb;simp only[Wm,Bool.and_eq_true]at hb;exact h3 hb.2
   · simp only[szL,szS];omega
   simp only[woL,if_neg e,woS,List.cons_append,List.nil_append,szL,szS];rw[ZN a _ (by omega),ZN b _ (by omega),show i - ((1+szL a+szL b:Nat):Int)=i - 1 - szL a - szL b by omega];omega
theorem X6u (l:List St):Xl l≤1000000→∀(i:Int) (s:St),0≤i→i≤5000000→X1r l i=some s→∀d:Nat,Con Tryz.prog 85 false [lS l,li i] (.tup [aS s,lb true]) none d:=by
 revert l
 apply St.lists;intro l ih hn i s hi0 hi1 hf d;have hlen:=Q9 l;have hneg:¬i<0:=by omega
 obtain⟨rd,rc,rv,rn,⟨ro,rtn,rks⟩,ra,rb,rbs⟩:=s;refine X7 Tryz.func85 ?_;simp only[Tryz.f85];simp only[aS,St.enc,Tm.enc,List.map_cons,List.map_nil,List.cons_append,List.nil_append];refine X4 ?_;refine X0<|X0<|X3 ?_;refine(Xe rfl (fun h2=>?_) fun h2=>?_)
 · exact absurd h2 (by simp[hneg])
 (try simp only[BN]at h2);refine X0<|X0<|X3 ?_;refine X5<|(Xd [0,4] (fun(x:Nat×Int)=>[(1,.v (li x.2)),(6,.v (li x.1))]) (fun x=>[(4,.box [.c (iC 0),.c (iC 0),.c (iC 0),.c (iC 0),.c (iC 0),.c (iC 0),.c (.lit XY),.c (.lit XY),.c (.lit XY),.c (.lit XY)])]) (fun x=>x.1≤l.length∧X1r (l.drop x.1) x.2=some (.mk rd rc rv rn (.mk ro rtn rks) ra rb rbs)∧0≤x.2∧x.2≤5000000) (fun x=>l.length - x.1) (0,i) ⟨Nat.zero_le _,hf,hi0,hi1⟩ ?_ ?_)
 · exact X6 (fun n=>n) []
 rintro⟨k,c⟩ ⟨hk,hJ,hc0,hc1⟩;simp only[upS,X8,Xy]
 try simp only[X8,KN,Nat.reduceBEq,if_true,if_false,ins,Nat.reduceLT]
 simp only at hk hJ hc0 hc1;clear hf hi0 hi1 hneg h2;refine X0<|X0<|X3 ?_;refine(X9 rfl (fun h8=>Xb ?_) (fun h8=>?_))
 · (try simp only[BN]at h8);have hlt:k<l.length:=by omega
   obtain⟨s,he,hd⟩:=Xq hlt;have hw1:=XA hlt (by omega);have hk1:k+1≤l.length:=hlt;have hmem:s∈l:=List.mem_of_getElem? he;have hnm:=Qm hmem;rw[hd]at hJ;have he':=XX he;have iha:=(ih s hmem).1 (by omega);have ihb:=(ih s hmem).2 (by omega);obtain⟨sd,sc,sv,sn,⟨so,stn,sks⟩,sa,sb,sbs⟩:=s;simp only[St.then_,St.else_,St.term]at iha ihb hnm;have ca:=W1 sa (by omega);have cb:=W1 sb (by omega);have hga:=X0W sa (c - 1);have hna:=X50 sa (c - 1);have hla:=Qw sa;have hlb:=Qw sb;have hsa:=X0L sa (c - 1);have hsb:=X0L sb (c - 1 - (szL sa:Int));have hgb:=X0W sb (c - 1 - (szL sa:Int));rw[X0S]at hJ;simp only[St.enc,Tm.enc,List.cons_append,List.nil_append]at he';simp only[aS,St.enc,Tm.enc,List.map_cons,List.map_nil,List.cons_append,List.nil_append]at iha ihb;generalize szL sa=na at*;generalize szL sb=nb at*;clear hlt h8 ih hmem hd he;refine X0<|X5<|X0<|X0<|X3 ?_;refine(Xe rfl (fun h10=>?_) fun h10=>?_)
   · (try simp only[BN]at h10);rw[if_pos (by simpa using h10)]at hJ;cases hJ;clear h10;refine X4 ?_;exact XU ⟨.inr rfl,_,le_refl _,⟨⟨_,by simp;rfl,by simp[XN]⟩,by simp,fun h=>by cases h⟩⟩
   (try simp only[BN]at h10);have hne:¬c=0:=by simpa using h10
   rw[if_neg hne]at hJ;have hwa:IntKind.i64.wrap (c - 1)=c - 1:=Xc (by omega) (by omega);have hwb:IntKind.i64.wrap (c - 1 - (na:Int))=c - 1 - (na:Int):=Xc (by omega) (by omega);have hwc:IntKind.i64.wrap (c - 1 - (na:Int) - (nb:Int))=c - 1 - (na:Int) - (nb:Int):=Xc (by omega) (by omega);clear h10;refine X4 ?_;refine Xk [⟨true,.v (li (na:Int)),none⟩] ?_ ?_
   · first|exact ca _|exact trivial|simpa[*]using ca _
   refine X0<|X0<|X3 ?_;refine(Xe rfl (fun h16=>?_) fun h16=>?_)
   · try simp only[BN]at h16
     have h16':c - 1<(na:Int):=by
      first|omega|(simp at h16;omega)
     obtain⟨y,hy,_⟩:=hsa (by omega) h16';rw[hy]at hJ;simp only[Option.some.injEq]at hJ;subst hJ;have ci:=iha _ _ (by omega) (by omega) hy;clear h16 hna hga hgb hsb hsa hy iha ihb;refine Xk [⟨false,.tup [.agg [.c (iC rd),.c (iC rc),.c (iC rv),.c (iC rn),.c (iC ro),.c (iC rtn),.c (.sl 3 (Xo rks)),.c (.sl 10 (Xa ra)),.c (.sl 10 (Xa rb)),.c (.sl 1 (Xj rbs))],lb true],none⟩] ?_ ?_
     · first|exact ci _|exact trivial|simpa[*]using ci _
     exact XU ⟨.inr rfl,_,le_refl _,⟨⟨_,by simp;rfl,by simp[XN]⟩,by simp,fun h=>by cases h⟩⟩
   try simp only[BN]at h16
   have h16':(na:Int)≤c - 1:=by
    first|omega|(simp at h16;omega)
   rw[hga h16']at hJ;simp only at hJ;clear h16;refine X4 ?_;refine Xk [⟨true,.v (li (nb:Int)),none⟩] ?_ ?_
   · first|exact cb _|exact trivial|simpa[*]using cb _
   refine X0<|X0<|X3 ?_;refine(Xe rfl (fun h22=>?_) fun h22=>?_)
   · try simp only[BN]at h22
     have h22':c - 1 - (na:Int)<(nb:Int):=by
      first|omega|(simp at h22;omega)
     obtain⟨y,hy,_⟩:=hsb (by omega) h22';rw[hy]at hJ;simp only[Option.some.injEq]at hJ;subst hJ;have ci:=ihb _ _ (by omega) (by omega) hy;clear h22 hna hga hgb hsb hsa hy iha ihb;refine Xk [⟨false,.tup [.agg [.c (iC rd),.c (iC rc),.c (iC rv),.c (iC rn),.c (iC ro),.c (iC rtn),.c (.sl 3 (Xo rks)),.c (.sl 10 (Xa ra)),.c (.sl 10 (Xa rb)),.c (.sl 1 (Xj rbs))],lb true],none⟩] ?_ ?_
     · first|exact ci _|exact trivial|simpa[*]using ci _
     exact XU ⟨.inr rfl,_,le_refl _,⟨⟨_,by simp;rfl,by simp[XN]⟩,by simp,fun h=>by cases h⟩⟩
   try simp only[BN]at h22
   have h22':(nb:Int)≤c - 1 - (na:Int):=by
    first|omega|(simp at h22;omega)
   rw[hgb h22']at hJ;simp only at hJ;clear h22 hna hga hgb hsb hsa iha ihb;refine X3 ?_;refine X3 ?_;exact⟨(k+1,c - 1 - (na:Int) - (nb:Int)),⟨hk1,hJ,by simp only;omega,by simp only;omega⟩,by simp only;omega,X6 (fun n=>n) []⟩
 exfalso;simp only[BN]at h8;have hkl:k=l.length:=by omega
 rw[hkl,List.drop_length,X2V]at hJ;cases hJ
end Go.Proofs.YtppjennamodfdaaGreat

namespace Go.Proofs.YtppjennamodfdaaGreat
open Go Go.Hl
def rndB (N:List Nd) (steps:List St) (nv:Nat) (S:List (List Nat)) (to d:Nat):Bool:=
 (S[to]?.getD []).contains d||(List.range N.length).any fun i=>match N[i]?,S[i]? with
  |some x,some Si=>decide (ZM x to)&&(X4W steps nv Si x).contains d
  |_,_=>false
def rnd (N:List Nd) (steps:List St) (nv:Nat) (S:List (List Nat)):List (List Nat):=(List.range N.length).map fun to=>(List.range (steps.length+nv)).filter fun d=>rndB N steps nv S to d
def rndK (N:List Nd) (steps:List St) (nv:Nat):Nat→List (List Nat)→List (List Nat)
 |0,S=>S
 |k+1,S=>rndK N steps nv k (rnd N steps nv S)
theorem gs_zero (N:List Nd) (steps:List St) (nv:Nat):Gs N steps nv (List.replicate N.length []) where
 len:=by simp
 nod l hl:=by rw[(List.mem_replicate.1 hl).2];exact List.nodup_nil
 lt l hl d hd:=by rw[(List.mem_replicate.1 hl).2]at hd;cases hd
 snd to l d hl hd:=by
  have:=List.mem_of_getElem? hl;rw[(List.mem_replicate.1 this).2]at hd;cases hd
theorem rnd_gs {N:List Nd} {steps:List St} {nv:Nat} {S:List (List Nat)} (g:Gs N steps nv S):Gs N steps nv (rnd N steps nv S) where
 len:=by simp[rnd]
 nod l hl:=by
  obtain⟨to,_,rfl⟩:=List.mem_map.1 hl;exact List.Pairwise.filter _ List.nodup_range
 lt l hl d hd:=by
  obtain⟨to,_,rfl⟩:=List.mem_map.1 hl;simpa using(List.mem_filter.1 hd).1
 snd to l d hl hd:=by
  simp only[rnd,List.getElem?_map,Option.map_eq_some_iff]at hl;obtain⟨to',h1,rfl⟩:=hl;have h1':=List.getElem?_eq_some_iff.1 h1;obtain⟨h2,h3⟩:=h1';rw[List.getElem_range]at h3;subst h3;have h4:=(List.mem_filter.1 hd).2;unfold rndB at h4;rw[Bool.or_eq_true]at h4;rcases h4 with h4|h4
  · have h5:d∈S[to]?.getD []:=List.contains_iff_mem.1 h4;cases e:S[to]? with
    |none=>rw[e]at h5;cases h5
    |some l=>rw[e]at h5;exact g.snd to l d e h5
  obtain⟨i,_,h5⟩:=List.any_eq_true.1 h4;split at h5
  · rename_i x Si hx hS;rw[Bool.and_eq_true]at h5;exact Xaz g hx hS (List.contains_iff_mem.1 h5.2) (of_decide_eq_true h5.1)
  cases h5
theorem XbH {N:List Nd} {steps:List St} {nv:Nat}:∀(k:Nat) {S:List (List Nat)},Gs N steps nv S→Gs N steps nv (rndK N steps nv k S)
 |0,_,g=>g
 |k+1,_,g=>XbH k (rnd_gs g)
open Classical in
theorem rcL_fix {N:List Nd} {steps:List St} {nv:Nat} {S:List (List Nat)} (ha:∀x∈N,Qp steps x=true→x.a.toNat<steps.length) (g:Gs N steps nv S) (hfix:rnd N steps nv S=S):rcL N steps nv=S:=by
 have hc:∀i,i<N.length→clo N steps nv S i:=by
  intro i hi x Si hx hS d hd to l ht hl;have hrc:=Xaz g hx hS hd ht;have hlt:=rc_lt ha hrc;have hto:to<N.length:=by have:=(List.getElem?_eq_some_iff.1 hl).1;rw[g.len]at this;exact this
  have:S[to]? =some ((List.range (steps.length+nv)).filter fun d=>rndB N steps nv S to d):=by
   conv=>lhs;rw[←hfix]
   simp[rnd,hto]
  rw[this]at hl;cases hl;refine List.mem_filter.2 ⟨by simpa using hlt,?_⟩;unfold rndB;rw[Bool.or_eq_true];refine .inr (List.any_eq_true.2 ⟨i,by simpa using hi,?_⟩);simp only[hx,hS];rw[Bool.and_eq_true];exact⟨decide_eq_true ht,List.contains_iff_mem.2 hd⟩
 conv=>rhs;rw[←hfix]
 unfold rcL rnd;refine List.map_congr_left fun to hto=>?_;have hto:to<N.length:=by simpa using hto
 obtain⟨l,hl,_⟩:=Xq (show to<S.length by rw[g.len];exact hto);refine List.filter_congr fun d hd=>?_;show decide (Rc N steps nv to d)=rndB N steps nv S to d;rw[Bool.eq_iff_iff,decide_eq_true_eq];constructor
 · intro h;have:=XaX g hc hl h;unfold rndB;rw[Bool.or_eq_true,hl];exact .inl (List.contains_iff_mem.2 this)
 intro h
 have:d∈(rnd N steps nv S)[to]?.getD []:=by
  simp only[rnd,List.getElem?_map];rw[List.getElem?_range hto];exact List.mem_filter.2 ⟨hd,h⟩
 rw[hfix,hl]at this;exact g.snd to l d hl this
theorem rcL_run {N:List Nd} {steps:List St} {nv:Nat} {S:List (List Nat)} (k:Nat) (ha:∀x∈N,Qp steps x=true→x.a.toNat<steps.length) (h:rndK N steps nv k (List.replicate N.length [])=S) (hfix:rnd N steps nv S=S):rcL N steps nv=S:=
 rcL_fix ha (h▸XbH k (gs_zero N steps nv)) hfix
end Go.Proofs.YtppjennamodfdaaGreat

namespace Go.Proofs.YtppjennamodfdaaGreat
open Go Go.Hl
theorem Cl.pre {R:List (List Nat)} {d x k:Nat} (hx:x∈R[d]?.getD []) (h:Cl R [x] k):Cl R [d] k:=by
 induction h with
 |base h=>rw[List.mem_singleton.1 h];exact .step (.base (by simp)) hx
 |step _ h ih=>exact .step ih h
theorem Cl.rev {D R:List (List Nat)} (hr:∀x y:Nat,y∈R[x]?.getD []↔x∈D[y]?.getD []) {k d:Nat} (h:Cl D [k] d):Cl R [d] k:=by
 induction h with
 |base h=>rw[List.mem_singleton.1 h];exact .base (by simp)
 |step _ h ih=>exact Cl.pre ((hr _ _).2 h) ih
theorem X3B (n:Nat) (t:List Nat) (d:Nat):d∈X4o n t↔d<n∧d∈t:=by simp[X4o]
theorem XaR {f:Fl} (h:Sm f) {q:List Int} (hq:∀d∈QL q,d<(Q5 f).length) (d:Nat):d∈bwL f q↔Cl (Q5 f) (QL q) d:=by
 obtain⟨h1,h2⟩:=We (X10 h) hq;rw[bwL,X3B,←h2];exact⟨fun h=>h.2,fun h=>⟨h1.lt d h,h⟩⟩
theorem fw_mem {f:Fl} (h:Sm f) {q:List Int} (hq:∀d∈QL q,d<(Q5 f).length) (d:Nat):d∈fwL f q↔Cl (X2g (Q5 f)) (QL q) d:=by
 have hl:(Q5 f).length≤1000:=by rw[Qy];exact(Wl h).hn
 obtain⟨h1,h2⟩:=We (XaM hl (X0k h)) (l0:=QL q) (by rw[X1w];exact hq);rw[fwL,X3B,←h2];exact⟨fun h=>h.2,fun h=>⟨by have:=h1.lt d h;rwa [X1w]at this,h⟩⟩
theorem dual {f:Fl} (h:Sm f) {i k:Nat} (hi:i<szL f.body) (hk:k<szL f.body):(i∈bwL f [(k:Int)]↔k∈fwL f [(i:Int)])∧k∈bwL f [(k:Int)]∧i∈fwL f [(i:Int)]:=by
 have hn:(Q5 f).length=szL f.body:=by rw[Qy,XK]
 have e:∀j:Nat,QL [(j:Int)]=[j]:=fun j=>by simp[QL]
 have hb:∀j:Nat,j<szL f.body→∀d∈QL [(j:Int)],d<(Q5 f).length:=fun j hj d hd=>by
  rw[e,List.mem_singleton]at hd;omega
 have hr:∀x y:Nat,y∈(X2g (Q5 f))[x]?.getD []↔x∈(Q5 f)[y]?.getD []:=fun x y=>X8B (fun l hl=>(X0k h l hl).2) x y;rw[XaR h (hb k hk),XaR h (hb k hk),fw_mem h (hb i hi),fw_mem h (hb i hi),e,e];exact⟨⟨Cl.rev hr,Cl.rev fun x y=>(hr y x).symm⟩,.base (by simp),.base (by simp)⟩
end Go.Proofs.YtppjennamodfdaaGreat

namespace Go.Proofs.YtppjennamodfdaaGreat
open Go Go.Hl
theorem X7k {f:Fl} (h:Sm f) (h0:Qb f=0):Lies (grN f.body) (flL f.body) f.vars f.hats.length f.body 0 1 (1+wdL f.body) where
 g:=X9a f.body true (Wn h0).2.2.2.1
 wf:=(X86 h.bnd h0).1
 nd:=by
  have:Sub (grN f.body) 0 (grN f.body):=Sub.of_self _;exact(Sub.cons this).2.app.1
 st:=Sub.of_self _
theorem dir_mem {f:Fl} {o d:Nat} {q:St} {a:Int} {r:List Nat} (h1:(flL f.body)[o]? =some q) (h2:(arL f.body (-1) 0)[o]? =some a) (h3:(rdT f)[o]? =some r):
  d∈(Q5 f)[o]?.getD []↔(0≤a∧d=a.toNat)∨(d<(flL f.body).length∧d∈r∧Qx (flL f.body) d∈tmV q.term):=by
 have ho:=(List.getElem?_eq_some_iff.1 h1).1
 have:(Q5 f)[o]?.getD []=(if 0≤a then [a.toNat] else [])++(X1s (flL f.body) q r).filter fun d=>decide (d<(flL f.body).length):=by
  unfold Q5 X2B;rw[List.getElem?_map,List.getElem?_range ho];simp only[Option.map_some,Option.getD_some,X7j,h1,h2,h3]
 rw[this,List.mem_append,List.mem_filter,X1s,List.mem_filter,X5J];simp only[decide_eq_true_eq,Zx,List.not_mem_nil,false_or];constructor
 · rintro(h|⟨⟨h4,h5⟩,h6⟩)
   · split at h
     · rename_i h0;exact .inl ⟨h0,List.mem_singleton.1 h⟩
     cases h
   exact .inr ⟨h6,h4,h5⟩
 rintro(⟨h0,h4⟩|⟨h6,h4,h5⟩)
 · rw[if_pos h0];exact .inl (List.mem_singleton.2 h4)
 exact .inr ⟨⟨h4,h5⟩,h6⟩
end Go.Proofs.YtppjennamodfdaaGreat

namespace Go.Proofs.YtppjennamodfdaaGreat
open Go Go.Hl
theorem Xbz:∀l:List St,∀i:Int,0≤i→X1r l i=(flL l)[i.toNat]? :=by
 apply St.lind
 · intro i _;rw[X2V];simp[flL]
 intro d c v n t a b bs l ia ib il i hi;rw[X0S];simp only[flL,flS,List.cons_append,List.append_assoc];split
 · rename_i h0;subst h0;simp
 rename_i h0;have e1:i.toNat=(i - 1).toNat+1:=by omega
 rw[e1,List.getElem?_cons_succ];by_cases h1:i - 1<szL a
 · rw[ia (i - 1) (by omega),List.getElem?_append_left (by rw[XK];omega)];have hl:(i - 1).toNat<(flL a).length:=by rw[XK];omega
   rw[List.getElem?_eq_getElem hl]
 rw[X0W a _ (by omega)];simp only;rw[List.getElem?_append_right (by rw[XK];omega),XK];have e2:(i - 1).toNat - szL a=(i - 1 - szL a).toNat:=by omega
 rw[e2];by_cases h2:i - 1 - szL a<szL b
 · rw[ib (i - 1 - szL a) (by omega),List.getElem?_append_left (by rw[XK];omega)];have hl:(i - 1 - szL a).toNat<(flL b).length:=by rw[XK];omega
   rw[List.getElem?_eq_getElem hl]
 rw[X0W b _ (by omega)];simp only;rw[List.getElem?_append_right (by rw[XK];omega),XK];have e3:(i - 1 - szL a).toNat - szL b=(i - 1 - szL a - szL b).toNat:=by omega
 rw[e3,il _ (by omega)]
set_option maxHeartbeats 8000000 in
theorem X4A (f:Fl) (hb:Xl f.body≤1000000) (d:Nat):Con Tryz.prog 57 false [aF f] (.v (lS (flL f.body))) none d:=by
 have cs:=W1 f.body (by omega);have cf:=X6u f.body hb;have hnl:=Qw f.body;have hfl:=XK f.body;have hfn:∀(k:Nat) q,(flL f.body)[k]? =some q→X1r f.body k=some q:=fun k q h=>by rw[Xbz _ _ (by omega),Int.toNat_natCast,h]
 obtain⟨vars,hats,body⟩:=f;simp only at cs cf hnl hfl hfn hb⊢;obtain⟨n,hn⟩:∃x,szL body=x:=⟨_,rfl⟩;rw[hn]at cs hnl hfl;obtain⟨L,hL⟩:∃x,flL body=x:=⟨_,rfl⟩;rw[hL]at hfl hfn⊢;clear hn hL;simp only[aF,Fl.enc,List.map_cons,List.map_nil];refine X7 Tryz.func57 ?_;simp only[Tryz.f57];refine X4 ?_;refine X4 ?_;refine X0<|X0<|(Xp [⟨true,.v (li n),none⟩] ?_ ?_)
 · first|exact cs _|exact trivial|simpa[*]using cs _
 refine X5<|(Xd [1,9] (fun(k:Nat)=>[(3,.v (.one (.own 1003))),(10,.v (li k))]) (fun k=>[(1,.box [.c (.sl 5 (Xs vars)),.c (.sl 6 (Xt hats)),.c (.sl 10 (Xa body))]),(1003,.row 76 10 (Xa (L.take k)))]) (fun k=>k≤n) (fun k=>n - k) (0:Nat) (Nat.zero_le _) ?_ ?_)
 · exact X6 (fun n=>n) [1003]
 rintro k hk;simp only[upS,X8,Xy]
 try simp only[X8,KN,Nat.reduceBEq,if_true,if_false,ins,Nat.reduceLT]
 refine X4 ?_;refine X0<|(X9 rfl (fun h5=>Xb ?_) (fun h5=>?_))
 · (try simp only[BN]at h5);have hlt:k<n:=by first|omega|simpa using h5
   obtain⟨q,he,hd⟩:=Xq (show k<L.length by omega);have hw1:IntKind.i64.wrap ((k:Int)+1)=(k:Int)+1:=Xc (by omega) (by omega);have hk1:k+1≤n:=hlt;have cfk:=cf k q (by omega) (by omega) (hfn k q he);have htk:=X6L he;have hroom:Qa (k+1) 144:=Xx (by omega) (by decide);have hel:(Xa (L.take k)).length=k:=by rw[X49,List.length_take];omega
   have hml:min k L.length=k:=by omega
   obtain⟨so,sc,sv,sn,⟨to,tn,tk⟩,sa,sb,sbs⟩:=q;simp only[aS,St.enc,Tm.enc,List.cons_append,List.nil_append,List.map_cons,List.map_nil]at cfk htk;clear hlt h5 hd cf hfn he;refine X0<|X5<|X0<|X3 ?_;refine Xk [⟨false,.tup [.agg [.c (iC so),.c (iC sc),.c (iC sv),.c (iC sn),.c (iC to),.c (iC tn),.c (.sl 3 (Xo tk)),.c (.sl 10 (Xa sa)),.c (.sl 10 (Xa sb)),.c (.sl 1 (Xj sbs))],lb true],none⟩] ?_ ?_
   · first|exact cfk _|exact trivial|simpa[*]using cfk _
   refine X3 ?_;refine X3 ?_;exact⟨k+1,hk1,by omega,X6 (fun n=>if n=1003 then 23 else n) []⟩
 (try simp only[BN]at h5);have hkl:k=n:=by first|omega|(have:¬k<n:=by simpa using h5;omega)
 have hte:L.take k=L:=List.take_of_length_le (by omega);rw[hte];clear h5;refine(Xg ?_);refine X4 ?_;exact XU ⟨.inr rfl,_,XR 1003 rfl,⟨⟨_,by simp;rfl,by simp[XN]⟩,by simp,fun h=>by cases h⟩⟩
end Go.Proofs.YtppjennamodfdaaGreat

namespace Go.Proofs.YtppjennamodfdaaGreat
open Go Go.Hl
def dfN (steps:List St) (x:Nd):Int:=if x.k=2 then(match steps[x.a.toNat]? with
 |some s=>if s.do_=0∨s.do_=5 then s.var else -1
 |none=>-1)else -1
set_option maxHeartbeats 8000000 in
theorem X4y (f:Fl) (hn:Xl f.body≤1000000) (N:List Nd) (k:Nat) (x:Nd) (hx:N[k]? =some x) (ha:x.k=2→∃(a:Nat) (s:St),x.a=a∧a≤1000000∧(flL f.body)[a]? =some s) (d:Nat):
  Con Tryz.prog 152 true [aF f,.agg [.c (.sl 4 (XG N))],li k] (.v (li (dfN (flL f.body) x))) none d:=by
 have he':=ZK hx;obtain⟨res,hres⟩:∃r,dfN (flL f.body) x=r:=⟨_,rfl⟩;rw[hres];unfold dfN at hres;by_cases h2:x.k=2
 · obtain⟨a,s,e1,e2,e3⟩:=ha h2;have cf:=X6u f.body hn a s (by omega) (by omega) (by rw[Xbz _ _ (by omega),Int.toNat_natCast,e3]);rw[if_pos h2,e1,Int.toNat_natCast,e3]at hres;simp only at hres;obtain⟨vars,hats,body⟩:=f;obtain⟨so,sc,sv,sn,⟨to,tn,tk⟩,sa,sb,sbs⟩:=s;obtain⟨xk,xa,xn,xo⟩:=x;simp only at h2 e1 he';subst h2 e1;simp only[Nd.enc]at he';simp only[St.do_,St.var]at hres;simp only[aS,St.enc,Tm.enc,List.cons_append,List.nil_append,List.map_cons,List.map_nil]at cf;simp only[aF,Fl.enc,List.map_cons,List.map_nil];clear ha hx e3;refine X7 Tryz.func152 ?_;simp only[Tryz.f152];refine X4 ?_;refine X0<|X0<|X3 ?_;refine(Xe rfl (fun h2=>?_) fun h2=>?_)
   · exact absurd h2 (by simp)
   (try simp only[BN]at h2);refine X0<|(Z8 [(17,3),(19,4),(7,7)] [⟨false,.tup [.agg [.c (iC so),.c (iC sc),.c (iC sv),.c (iC sn),.c (iC to),.c (iC tn),.c (.sl 3 (Xo tk)),.c (.sl 10 (Xa sa)),.c (.sl 10 (Xa sb)),.c (.sl 1 (Xj sbs))],lb true],none⟩] (by kernel_rfl) (by kernel_rfl) (by rfl) (by simp[X3d,X2h,Qq, *];first|exact⟨rfl,Iff.rfl⟩|exact⟨rfl,trivial⟩|rfl) ?_ ?_)
   · first|exact cf _|exact trivial|simpa[*]using cf _
   refine X0<|X0<|X3 ?_;refine(Xe rfl (fun h7=>?_) fun h7=>?_)
   · (try simp only[BN]at h7);have h05:so=0∨so=5:=by simpa using h7
     have hres:sv=res:=by simpa[h05]using hres
     subst hres;clear h7;refine X4 ?_;exact Xh
   (try simp only[BN]at h7);have h05:¬(so=0∨so=5):=by simpa using h7
   have hres:-1=res:=by simpa[h05]using hres
   subst hres;clear h7;refine X4 ?_;exact Xh
 rw[if_neg h2]at hres;subst hres;obtain⟨vars,hats,body⟩:=f;obtain⟨xk,xa,xn,xo⟩:=x;simp only at h2 he';simp only[Nd.enc]at he';simp only[aF,Fl.enc,List.map_cons,List.map_nil];clear ha hx;refine X7 Tryz.func152 ?_;simp only[Tryz.f152];refine X4 ?_;refine X0<|X0<|X3 ?_;refine(Xe rfl (fun h2=>?_) fun h2=>?_)
 · (try simp only[BN]at h2);refine X4 ?_;exact Xh
 exact absurd h2 (by simpa using h2)
end Go.Proofs.YtppjennamodfdaaGreat

namespace Go.Proofs.YtppjennamodfdaaGreat
open Go Go.Hl
inductive Fw (N:List Nd) (df:Nd→Int) (v:Int) (i0:Nat):Nat→Prop
 |one {to:Nat} {x:Nd}:N[i0]? =some x→ZM x to→Fw N df v i0 to
 |nxt {i to:Nat} {x:Nd}:Fw N df v i0 i→N[i]? =some x→df x≠v→ZM x to→Fw N df v i0 to
structure Gw (N:List Nd) (steps:List St):Prop where
 ent:∃x,N[0]? =some x∧x.k=0
 k0:∀(i:Nat) x,N[i]? =some x→x.k=0→i=0
 n0:∀x∈N,x.n≠0∧x.o≠0
 inj:∀(i j:Nat) x y,N[i]? =some x→N[j]? =some y→Qp steps x=true→Qp steps y=true→x.a=y.a→i=j
 asg:∀x∈N,Qp steps x=true→(∃a:Nat,x.a=a∧a<steps.length)∧0≤X0I steps x
theorem X1g {steps:List St} {x:Nd} (h:Qp steps x=true):dfN steps x=X0I steps x:=by
 unfold Qp at h;unfold dfN X0I;simp only[Bool.and_eq_true,decide_eq_true_eq]at h;rw[if_pos h.1]
 revert h
 cases steps[x.a.toNat]? with
 |none=>simp
 | some s=>
   intro h;have h2:s.do_=0∨s.do_=5:=by simpa using h.2
   simp only;rw[if_pos h2]
theorem X7x {steps:List St} {x:Nd} (h:¬Qp steps x=true):dfN steps x=-1:=by
 unfold Qp at h;unfold dfN;simp only[Bool.and_eq_true,decide_eq_true_eq,not_and]at h;split
 · rename_i h2;have:=h h2
   revert this
   cases steps[x.a.toNat]? with
   |none=>simp
   | some s=>
     intro h3;have h4:¬(s.do_=0∨s.do_=5):=by simpa using h3
     simp only;rw[if_neg h4]
 rfl
theorem X8J {steps:List St} {x:Nd} {a:Nat} (hx:x.a=a) (ha:a<steps.length):Qx steps a=X0I steps x:=by
 unfold Qx X0I;rw[hx,Int.toNat_natCast,List.getElem?_eq_getElem ha]
theorem X6p (steps:List St) (v:Nat):Qx steps (steps.length+v)=v:=by
 unfold Qx;rw[List.getElem?_eq_none (by omega)];simp only[Int.natCast_add];omega
theorem Fw.suc {N:List Nd} {df:Nd→Int} {v:Int} {i0 i:Nat} (h:Fw N df v i0 i):∃x∈N,ZM x i:=by
 cases h with
 |one hx hs=>exact⟨_,List.mem_of_getElem? hx,hs⟩
 |nxt _ hx _ hs=>exact⟨_,List.mem_of_getElem? hx,hs⟩
theorem Gw.kne {N:List Nd} {steps:List St} (g:Gw N steps) {df:Nd→Int} {v:Int} {i0 i:Nat} {x:Nd} (h:Fw N df v i0 i) (hx:N[i]? =some x):x.k≠0:=by
 intro hk;have hi:=g.k0 i x hx hk;subst hi;obtain⟨y,hy,hs⟩:=h.suc;have:=g.n0 y hy;unfold ZM at hs;omega
theorem rc_fw {N:List Nd} {steps:List St} (g:Gw N steps) {nv to d:Nat}:
  Rc N steps nv to d↔(∃(i:Nat) (x:Nd),N[i]? =some x∧Qp steps x=true∧x.a=d∧Fw N (dfN steps) (dfN steps x) i to)∨∃v:Nat,v<nv∧d=steps.length+v∧Fw N (dfN steps) v 0 to:=by
 constructor
 · intro h
   induction h with
   | entry hx h0 hs hv=>
     have hi:=g.k0 _ _ hx h0;subst hi;exact .inr ⟨_,hv,rfl,.one hx hs⟩
   | pass hx h0 hs hr hk ih=>
     rename_i i to d x;rcases ih with⟨i0,x0,e1,e2,e3,e4⟩|⟨v,e1,e2,e4⟩
     · refine .inl ⟨i0,x0,e1,e2,e3,.nxt e4 hx ?_ hs⟩;obtain⟨⟨a,ha,hal⟩,h4⟩:=g.asg x0 (List.mem_of_getElem? e1) e2;have had:a=d:=by omega
       subst had;rw[X1g e2];by_cases h:Qp steps x=true
       · rw[X1g h];rw[h,X8J ha hal]at hk;intro e;simp[e]at hk
       rw[X7x h];omega
     refine .inr ⟨v,e1,e2,.nxt e4 hx ?_ hs⟩;by_cases h:Qp steps x=true
     · rw[X1g h];rw[h,e2,X6p]at hk;intro e;simp[e]at hk
     rw[X7x h];omega
   | gen hx h0 hs ha=>
     obtain⟨⟨a,ha2,hal⟩,h4⟩:=g.asg _ (List.mem_of_getElem? hx) ha;exact .inl ⟨_,_,hx,ha,by rw[ha2];simp,.one hx hs⟩
 rintro(⟨i,x,hx,ha,hd,h⟩|⟨v,hv,rfl,h⟩)
 · obtain⟨⟨a,ha2,hal⟩,h4⟩:=g.asg x (List.mem_of_getElem? hx) ha;have had:a=d:=by omega
   subst had;rw[X1g ha]at h
   induction h with
   | one hx2 hs=>
     rw[hx]at hx2;cases hx2;have:=Rc.gen (nv:=nv) hx (fun hk=>by simp[Qp,hk]at ha) hs ha
     rwa [ha2,Int.toNat_natCast]at this
   | nxt hf hy hne hs ih=>
     rename_i j to y;refine .pass hy (g.kne hf hy) hs ih ?_;by_cases h:Qp steps y=true
     · rw[X1g h]at hne;rw[h,X8J ha2 hal];simpa using fun e=>hne e.symm
     simp[h]
 obtain⟨x0,hx0,hk0⟩:=g.ent
 induction h with
 | one hx hs=>
   rw[hx0]at hx;cases hx;exact .entry hx0 hk0 hs hv
 | nxt hf hy hne hs ih=>
   refine .pass hy (g.kne hf hy) hs ih ?_;rename_i j to y;by_cases h:Qp steps y=true
   · rw[X1g h]at hne;rw[h,X6p];simpa using fun e=>hne e.symm
   simp[h]
structure Bf (N:List Nd) (df:Nd→Int) (v:Int) (i0:Nat) (T Q:List Nat) (C:Nat→Nat→Prop):Prop where
 nd:T.Nodup
 fw:∀t∈T,Fw N df v i0 t∧t<N.length
 q:∀q∈Q,q<N.length∧(q=i0∨Fw N df v i0 q∧∃x,N[q]? =some x∧df x≠v)
 pr:∀(i:Nat) x to,N[i]? =some x→(i=i0∨i∈T∧df x≠v)→ZM x to→i∈Q∨to∈T∨C i to
def pend (i:Nat) (x:Nd) (j:Nat):Nat→Nat→Prop:=fun k to=>k=i∧∃j',j≤j'∧j'<2∧toA x.n x.o j'=to
def noC:Nat→Nat→Prop:=fun _ _=>False
section
variable {N:List Nd} {df:Nd→Int} {v:Int} {i0:Nat}
theorem Bf.start (h:i0<N.length):Bf N df v i0 [] [i0] noC where
 nd:=List.nodup_nil
 fw:=by simp
 q:=by simp[h]
 pr:=by
  intro i x to _ h _;rcases h with h|h
  · exact .inl (by simp[h])
  simp at h
theorem Bf.pop {T Q:List Nat} {i:Nat} (h:Bf N df v i0 T (i::Q) noC):∃x,N[i]? =some x∧(i=i0∨Fw N df v i0 i∧df x≠v)∧Bf N df v i0 T Q (pend i x 0):=by
 obtain⟨hi,hc⟩:=h.q i (by simp);obtain⟨x,hx,_⟩:=Xq hi;refine⟨x,hx,hc.imp id fun⟨h1,y,h2,h3⟩=>⟨h1,by rw[hx]at h2;cases h2;exact h3⟩,h.nd,h.fw,fun q hq=>h.q q (by simp[hq]),fun k y to hy hk hs=>?_⟩;rcases h.pr k y to hy hk hs with h1|h1|h1
 · rcases List.mem_cons.1 h1 with h1|h1
   · subst h1;rw[hx]at hy;cases hy;rcases hs with hs|hs
     · exact .inr (.inr ⟨rfl,0,Nat.le_refl _,by omega,by simp[toA,hs]⟩)
     exact .inr (.inr ⟨rfl,1,by omega,by omega,by simp[toA,hs]⟩)
   exact .inl h1
 · exact .inr (.inl h1)
 exact h1.elim
theorem Bf.pass {T Q:List Nat} {i j:Nat} {x:Nd} (h:Bf N df v i0 T Q (pend i x j)) (hs:toA x.n x.o j<0∨∃to:Nat,toA x.n x.o j=to∧to∈T):Bf N df v i0 T Q (pend i x (j+1)):=by
 refine⟨h.nd,h.fw,h.q,fun k y to hy hk h1=>?_⟩;rcases h.pr k y to hy hk h1 with h2|h2|⟨h2,j',h3,h4,h5⟩
 · exact .inl h2
 · exact .inr (.inl h2)
 by_cases e:j'=j
 · subst e;rcases hs with hs|⟨t,hs,ht⟩
   · omega
   have:t=to:=by omega
   subst this;exact .inr (.inl ht)
 exact .inr (.inr ⟨h2,j',by omega,h4,h5⟩)
theorem Bf.add {T Q:List Nat} {i j to:Nat} {x y:Nd} (h:Bf N df v i0 T Q (pend i x j)) (hx:N[i]? =some x) (hc:i=i0∨Fw N df v i0 i∧df x≠v) (hj:j<2) (ht:toA x.n x.o j=to) (hn:to∉T) (hy:N[to]? =some y):
  Bf N df v i0 (T++[to]) (if df y=v then Q else Q++[to]) (pend i x (j+1)):=by
 have hs:ZM x to:=by
  unfold toA at ht;split at ht
  · exact .inl ht
  exact .inr ht
 have hf:Fw N df v i0 to:=by
  rcases hc with rfl|⟨h1,h2⟩
  · exact .one hx hs
  exact .nxt h1 hx h2 hs
 have htl:to<N.length:=(List.getElem?_eq_some_iff.1 hy).1;refine⟨?_,?_,?_,?_⟩
 · rw[List.nodup_append];exact⟨h.nd,by simp,fun a ha b hb=>by rw[List.mem_singleton.1 hb];rintro rfl;exact hn ha⟩
 · intro t h1;rcases List.mem_append.1 h1 with h1|h1
   · exact h.fw t h1
   rw[List.mem_singleton.1 h1];exact⟨hf,htl⟩
 · intro q hq;split at hq
   · exact h.q q hq
   rename_i hd;rcases List.mem_append.1 hq with hq|hq
   · exact h.q q hq
   rw[List.mem_singleton.1 hq];exact⟨htl,.inr ⟨hf,y,hy,hd⟩⟩
 intro k z t hz hk h1
 have old:(k=i0∨k∈T∧df z≠v)→k∈(if df y=v then Q else Q++[to])∨t∈T++[to]∨pend i x (j+1) k t:=by
  intro hk;rcases h.pr k z t hz hk h1 with h2|h2|⟨h2,j',h3,h4,h5⟩
  · refine .inl ?_;split
    · exact h2
    exact List.mem_append_left _ h2
  · exact .inr (.inl (List.mem_append_left _ h2))
  by_cases e:j'=j
  · subst e;have:t=to:=by omega
    exact .inr (.inl (by simp[this]))
  exact .inr (.inr ⟨h2,j',by omega,h4,h5⟩)
 rcases hk with hk|⟨hk,hd⟩
 · exact old (.inl hk)
 rcases List.mem_append.1 hk with hk|hk
 · exact old (.inr ⟨hk,hd⟩)
 have:=List.mem_singleton.1 hk;subst this;rw[hy]at hz;cases hz;rw[if_neg hd];exact .inl (by simp)
theorem Bf.next {T Q:List Nat} {i:Nat} {x:Nd} (h:Bf N df v i0 T Q (pend i x 2)):Bf N df v i0 T Q noC:=
 ⟨h.nd,h.fw,h.q,fun k y to hy hk hs=>(h.pr k y to hy hk hs).imp id fun h=>h.imp id fun⟨_,j,h1,h2,_⟩=>by omega⟩
theorem Bf.done {T:List Nat} (h:Bf N df v i0 T [] noC) (to:Nat):to∈T↔Fw N df v i0 to:=by
 refine⟨fun ht=>(h.fw to ht).1,fun hf=>?_⟩
 induction hf with
 | one hx hs=>
   rcases h.pr _ _ _ hx (.inl rfl) hs with h1|h1|h1
   · simp at h1
   · exact h1
   exact h1.elim
 | nxt hf hx hne hs ih=>
   rcases h.pr _ _ _ hx (.inr ⟨ih,hne⟩) hs with h1|h1|h1
   · simp at h1
   · exact h1
   exact h1.elim
theorem Bf.len {T Q:List Nat} {C:Nat→Nat→Prop} (h:Bf N df v i0 T Q C):T.length≤N.length:=QD h.nd fun t ht=>(h.fw t ht).2
end
def Wx (T:List Nat) (d:Nat) (S:List (List Nat)):List (List Nat):=S.mapIdx fun to l=>if to∈T then l++[d] else l
@[simp] theorem X3o (T:List Nat) (d:Nat) (S:List (List Nat)):(Wx T d S).length=S.length:=by simp[Wx]
theorem X0F {T:List Nat} {d to:Nat} {S:List (List Nat)} {l:List Nat} (h:S[to]? =some l):(Wx T d S)[to]? =some (if to∈T then l++[d] else l):=by
 simp[Wx,List.getElem?_mapIdx,h]
theorem addT_nil (d:Nat) (S:List (List Nat)):Wx [] d S=S:=by
 apply List.ext_getElem?;intro k;simp[Wx,List.getElem?_mapIdx]
theorem XcK {T:List Nat} {d to:Nat} {S:List (List Nat)} {l:List Nat} (h:S[to]? =some l) (hn:to∉T):(Wx T d S).set to (l++[d])=Wx (T++[to]) d S:=by
 apply List.ext_getElem?;intro k;have hlt:=(List.getElem?_eq_some_iff.1 h).1;rw[List.getElem?_set];by_cases e:to=k
 · subst e;rw[if_pos rfl,if_pos (by simpa using hlt),X0F h,if_pos (by simp)]
 rw[if_neg e];cases hk:S[k]? with
 | none=>
   have:=List.getElem?_eq_none_iff.1 hk;rw[List.getElem?_eq_none (by simpa using this),List.getElem?_eq_none (by simpa using this)]
 | some m=>
   rw[X0F hk,X0F hk];simp[Ne.symm e]
theorem Xau {T T':List Nat} {d:Nat} {S:List (List Nat)} (h:∀to,to∈T↔to∈T'):Wx T d S=Wx T' d S:=by
 unfold Wx;congr 1
 funext to l
 simp[h to]
end Go.Proofs.YtppjennamodfdaaGreat

namespace Go.Proofs.YtppjennamodfdaaGreat
open Go Go.Hl
mutual
theorem layS_n0:∀(s:St) (p:Int) (k after:Nat),1≤after→∀x∈X1o s p k after,x.k≠0∧x.n≠0∧x.o≠0
 | .mk o c v q t a b bs,p,k,after,haf,x,hx=>by
   unfold X1o at hx;split at hx
   · rcases List.mem_cons.1 hx with rfl|hx
     · refine⟨by simp,?_,?_⟩<;>(simp only;split<;>omega)
     rcases List.mem_append.1 hx with hx|hx
     · exact X1Y a _ _ _ haf x hx
     exact X1Y b _ _ _ haf x hx
   split at hx
   · rcases List.mem_cons.1 hx with rfl|hx
     · refine⟨by simp,?_,by simp⟩;simp only;omega
     rcases List.mem_cons.1 hx with rfl|hx
     · refine⟨by simp,?_,?_⟩
       · simp only;split<;>omega
       simp only;omega
     exact X1Y a _ _ _ (by omega) x hx
   rw[List.mem_singleton.1 hx];refine⟨by simp,?_,by simp⟩;simp only;omega
theorem X1Y:∀(l:List St) (p:Int) (k after:Nat),1≤after→∀x∈Wv l p k after,x.k≠0∧x.n≠0∧x.o≠0
 |[],_,_,_,_,x,hx=>by simp[Wv]at hx
 | s ::l,p,k,after,haf,x,hx=>by
   unfold Wv at hx;rcases List.mem_append.1 hx with hx|hx
   · refine layS_n0 s p k _ ?_ x hx;split
     · exact haf
     have:=X7Z s;omega
   exact X1Y l _ _ _ haf x hx
end
theorem pw_at {α:Type} {r:α→α→Prop} {l:List α} (h:l.Pairwise r) {i j:Nat} {x y:α} (hi:l[i]? =some x) (hj:l[j]? =some y) (hij:i<j):r x y:=by
 obtain⟨h1,e1⟩:=List.getElem?_eq_some_iff.1 hi;obtain⟨h2,e2⟩:=List.getElem?_eq_some_iff.1 hj;rw[←e1,←e2];exact List.pairwise_iff_getElem.1 h i j h1 h2 hij
theorem nums_at {N:List Nd} (h:((N.filter rdB).map (·.a)).Pairwise (· < ·)):∀(i j:Nat) (x y:Nd),N[i]? =some x→N[j]? =some y→rdB x=true→rdB y=true→i<j→x.a<y.a:=by
 have h2:N.Pairwise fun x y=>rdB x=true→rdB y=true→x.a<y.a:=by
  rw[List.pairwise_map,List.pairwise_filter]at h;exact h.imp fun h a b=>h a b
 intro i j x y hi hj hx hy hij;exact pw_at h2 hi hj hij hx hy
theorem asg_rd {steps:List St} {x:Nd} (h:Qp steps x=true) (ha:0≤x.a):rdB x=true:=by
 unfold Qp at h;simp only[Bool.and_eq_true,decide_eq_true_eq]at h;simp[rdB,ha,h.1]
theorem grN_w {f:Fl} (hg:gL f.body=true) (hs:∀q∈flL f.body,q.do_=0∨q.do_=5→0≤q.var):Gw (grN f.body) (flL f.body):=by
 have hok:=X5S hg;have hnum:=nums_at (grN_nums hg);rw[←XK]at hok
 have hasg:∀x∈grN f.body,Qp (flL f.body) x=true→(∃a:Nat,x.a=a∧a<(flL f.body).length)∧0≤X0I (flL f.body) x:=by
  intro x hx ha
  have hk:x.k=2:=by
   unfold Qp at ha;simp only[Bool.and_eq_true,decide_eq_true_eq]at ha;exact ha.1
  obtain⟨a,h1,h2⟩:=(hok x hx).ha.resolve_left fun h=>h.1 hk;refine⟨⟨a,h1,h2⟩,?_⟩;unfold Qp at ha;unfold X0I;rw[h1,Int.toNat_natCast,List.getElem?_eq_getElem h2]at ha⊢;simp only[Bool.and_eq_true,Bool.or_eq_true,decide_eq_true_eq]at ha;exact hs _ (List.getElem_mem h2) (by simpa using ha.2)
 refine⟨⟨_,rfl,rfl⟩,?_,?_,?_,hasg⟩
 · intro i x hi h0;cases i with
   |zero=>rfl
   | succ i=>
     have hm:x∈Wv f.body 0 1 (1+wdL f.body)++[⟨1,-1,-1,-1⟩]:=List.mem_of_getElem? (by simpa[grN]using hi);rcases List.mem_append.1 hm with h|h
     · exact absurd h0 (X1Y _ _ _ _ (by omega) x h).1
     rw[List.mem_singleton.1 h]at h0;simp at h0
 · intro x hx;unfold grN at hx;rcases List.mem_cons.1 hx with rfl|hx
   · refine⟨?_,by simp⟩;simp only;split<;>omega
   rcases List.mem_append.1 hx with h|h
   · exact(X1Y _ _ _ _ (by omega) x h).2
   rw[List.mem_singleton.1 h];simp
 intro i j x y hi hj hx hy he;have rx:=asg_rd hx (by obtain⟨⟨a,h,_⟩,_⟩:=hasg x (List.mem_of_getElem? hi) hx;omega);have ry:=asg_rd hy (by obtain⟨⟨a,h,_⟩,_⟩:=hasg y (List.mem_of_getElem? hj) hy;omega);rcases Nat.lt_trichotomy i j with h|h|h
 · have:=hnum i j x y hi hj rx ry h;omega
 · exact h
 have:=hnum j i y x hj hi ry rx h;omega
structure Gq (N:List Nd) (steps:List St) (n m:Nat) (S:List (List Nat)):Prop where
 len:S.length=N.length
 nod:∀l∈S,l.Nodup
 mem:∀(to:Nat) l,S[to]? =some l→∀d,d∈l↔(∃(i:Nat) (x:Nd),i<n∧N[i]? =some x∧Qp steps x=true∧x.a=d∧Fw N (dfN steps) (dfN steps x) i to)∨∃v:Nat,v<m∧d=steps.length+v∧Fw N (dfN steps) v 0 to
open Classical in
noncomputable def fwT (N:List Nd) (df:Nd→Int) (v:Int) (i0:Nat):List Nat:=(List.range N.length).filter fun to=>decide (Fw N df v i0 to)
theorem fwT_mem {N:List Nd} {df:Nd→Int} {v:Int} {i0:Nat} {T:List Nat} (h:Bf N df v i0 T [] noC) (to:Nat):to∈T↔to∈fwT N df v i0:=by
 classical
 unfold fwT;simp only[List.mem_filter,List.mem_range,decide_eq_true_eq];exact⟨fun ht=>⟨(h.fw to ht).2,(h.done to).1 ht⟩,fun ht=>(h.done to).2 ht.2⟩
theorem Xbf {N:List Nd} {df:Nd→Int} {v:Int} {i0 to:Nat} (hl:to<N.length):to∈fwT N df v i0↔Fw N df v i0 to:=by
 classical
 unfold fwT;simp only[List.mem_filter,List.mem_range,decide_eq_true_eq];exact⟨fun h=>h.2,fun h=>⟨hl,h⟩⟩
theorem X9g {T:List Nat} {d:Nat} {S:List (List Nat)} (h:∀l∈S,l.Nodup) (hd:∀l∈S,d∉l):∀l∈Wx T d S,l.Nodup:=by
 intro l hl;obtain⟨k,hk⟩:=List.mem_iff_getElem?.1 hl;unfold Wx at hk;rw[List.getElem?_mapIdx]at hk;simp only[Option.map_eq_some_iff]at hk;obtain⟨m,hm,rfl⟩:=hk;have hmS:=List.mem_of_getElem? hm;split
 · rw[List.nodup_append];exact⟨h m hmS,by simp,fun a ha b hb=>by rw[List.mem_singleton.1 hb];rintro rfl;exact hd m hmS ha⟩
 exact h m hmS
section
variable {N:List Nd} {steps:List St} {n m:Nat} {S:List (List Nat)}
theorem Gq.zero:Gq N steps 0 0 (List.replicate N.length []):=by
 refine⟨by simp,fun l hl=>by rw[(List.mem_replicate.1 hl).2];simp,fun to l hl d=>?_⟩;have:=List.mem_of_getElem? hl;rw[(List.mem_replicate.1 this).2];simp
theorem Gq.lt (g:Gw N steps) (h:Gq N steps n m S) {l:List Nat} (hl:l∈S) {d:Nat} (hd:d∈l):d<steps.length+m:=by
 obtain⟨to,hto⟩:=List.mem_iff_getElem?.1 hl;rcases(h.mem to l hto d).1 hd with⟨i,x,_,hx,ha,he,_⟩|⟨v,hv,rfl,_⟩
 · obtain⟨⟨a,h1,h2⟩,_⟩:=g.asg x (List.mem_of_getElem? hx) ha;omega
 omega
theorem Gq.llen (g:Gw N steps) (h:Gq N steps n m S) {l:List Nat} (hl:l∈S):l.length≤steps.length+m:=QD (h.nod l hl) fun d hd=>h.lt g hl hd
theorem Gq.skip (h:Gq N steps n m S) {x:Nd} (hx:N[n]? =some x) (ha:¬Qp steps x=true):Gq N steps (n+1) m S:=by
 refine⟨h.len,h.nod,fun to l hl d=>?_⟩;rw[h.mem to l hl d];refine or_congr ⟨fun⟨i,y,h1,h2⟩=>⟨i,y,by omega,h2⟩,fun⟨i,y,h1,h2,h3⟩=>⟨i,y,?_,h2,h3⟩⟩ Iff.rfl;rcases Nat.lt_or_eq_of_le (Nat.le_of_lt_succ h1)with h4|h4
 · exact h4
 subst h4;rw[hx]at h2;cases h2;exact absurd h3.1 ha
theorem Gq.node (g:Gw N steps) (h:Gq N steps n 0 S) {x:Nd} (hx:N[n]? =some x) (ha:Qp steps x=true) {a:Nat} (hxa:x.a=a):Gq N steps (n+1) 0 (Wx (fwT N (dfN steps) (dfN steps x) n) a S):=by
 have hnew:∀l∈S,a∉l:=by
  intro l hl hal;obtain⟨to,hto⟩:=List.mem_iff_getElem?.1 hl;rcases(h.mem to l hto a).1 hal with⟨i,y,h1,h2,h3,h4,_⟩|⟨v,hv,_⟩
  · have:=g.inj i n y x h2 hx h3 ha (by omega);omega
  omega
 refine⟨by rw[X3o];exact h.len,X9g h.nod hnew,fun to l hl d=>?_⟩;have hlt:to<S.length:=by have:=(List.getElem?_eq_some_iff.1 hl).1;rwa [X3o]at this
 obtain⟨l0,hl0,_⟩:=Xq hlt;rw[X0F hl0]at hl;have hT:to∈fwT N (dfN steps) (dfN steps x) n↔_:=Xbf (by rw[←h.len];exact hlt)
 have key:d∈l↔d∈l0∨(to∈fwT N (dfN steps) (dfN steps x) n∧d=a):=by
  cases hl;split
  · rename_i h1;simp[h1]
  rename_i h1;simp[h1]
 rw[key,h.mem to l0 hl0 d,hT];constructor
 · rintro((⟨i,y,h1,h2⟩|⟨v,hv,_⟩)|⟨h1,rfl⟩)
   · exact .inl ⟨i,y,by omega,h2⟩
   · omega
   exact .inl ⟨n,x,by omega,hx,ha,hxa,h1⟩
 rintro(⟨i,y,h1,h2,h3,h4,h5⟩|⟨v,hv,_⟩)
 · rcases Nat.lt_or_eq_of_le (Nat.le_of_lt_succ h1)with h6|h6
   · exact .inl (.inl ⟨i,y,h6,h2,h3,h4,h5⟩)
   subst h6;rw[hx]at h2;cases h2;exact .inr ⟨h5,by omega⟩
 omega
theorem Gq.var (g:Gw N steps) (h:Gq N steps n m S):Gq N steps n (m+1) (Wx (fwT N (dfN steps) m 0) (steps.length+m) S):=by
 have hnew:∀l∈S,steps.length+m∉l:=fun l hl hd=>by have:=h.lt g hl hd;omega
 refine⟨by rw[X3o];exact h.len,X9g h.nod hnew,fun to l hl d=>?_⟩;have hlt:to<S.length:=by have:=(List.getElem?_eq_some_iff.1 hl).1;rwa [X3o]at this
 obtain⟨l0,hl0,_⟩:=Xq hlt;rw[X0F hl0]at hl;have hT:to∈fwT N (dfN steps) m 0↔_:=Xbf (by rw[←h.len];exact hlt)
 have key:d∈l↔d∈l0∨(to∈fwT N (dfN steps) m 0∧d=steps.length+m):=by
  cases hl;split
  · rename_i h1;simp[h1]
  rename_i h1;simp[h1]
 rw[key,h.mem to l0 hl0 d,hT];constructor
 · rintro((h1|⟨v,hv,h1⟩)|⟨h1,h2⟩)
   · exact .inl h1
   · exact .inr ⟨v,by omega,h1⟩
   exact .inr ⟨m,by omega,h2,h1⟩
 rintro(h1|⟨v,hv,h1,h2⟩)
 · exact .inl (.inl h1)
 rcases Nat.lt_or_eq_of_le (Nat.le_of_lt_succ hv)with h6|h6
 · exact .inl (.inr ⟨v,h6,h1,h2⟩)
 subst h6;exact .inr ⟨h2,h1⟩
theorem Gq.done (g:Gw N steps) (h:Gq N steps N.length m S) {to:Nat} {l:List Nat} (hl:S[to]? =some l):∃r,(rcL N steps m)[to]? =some r∧Xj (srtN l)=XB r:=by
 classical
 have hlt:to<N.length:=by rw[←h.len];exact(List.getElem?_eq_some_iff.1 hl).1
 refine⟨(List.range (steps.length+m)).filter fun d=>decide (Rc N steps m to d),by simp[rcL,hlt],Xa4 (h.nod l (List.mem_of_getElem? hl)) fun d=>?_⟩;rw[decide_eq_true_eq]
 have hm:d∈l↔Rc N steps m to d:=by
  rw[h.mem to l hl d,rc_fw g];refine or_congr ⟨fun⟨i,x,_,h2⟩=>⟨i,x,h2⟩,fun⟨i,x,h1,h2⟩=>⟨i,x,(List.getElem?_eq_some_iff.1 h1).1,h1,h2⟩⟩ Iff.rfl
 rw[hm];exact⟨fun hr=>⟨h.lt g (List.mem_of_getElem? hl) (hm.2 hr),hr⟩,fun hr=>hr.2⟩
end
end Go.Proofs.YtppjennamodfdaaGreat

namespace Go.Proofs.YtppjennamodfdaaGreat
open Go Go.Hl
attribute [simp] Ob.flat
structure Un (f:Fl) (g:FuncId) (A B X Y Z:List Int):Prop where
 cX:∀d,Con Tryz.prog g false [aF f,lI A] (.tup [lI X,li 0]) none d
 cY:∀d,Con Tryz.prog g false [aF f,lI B] (.tup [lI Y,li 0]) none d
 cZ:∀d,Con Tryz.prog g false [aF f,.one (.c (.sl 1 (Xj A++Xj B)))] (.tup [lI Z,li 0]) none d
 cW:∀d,Con Tryz.prog g false [aF f,lI X] (.tup [lI X,li 0]) none d
 un:Lib.compact ((X++Y).mergeSort fun x y=>decide (x≤y))=Z
 has:A.any (fun s=> !decide (s∈X))=false
 lX:X.length≤1000
 lY:Y.length≤1000
 lZ:Z.length≤1000
end Go.Proofs.YtppjennamodfdaaGreat
