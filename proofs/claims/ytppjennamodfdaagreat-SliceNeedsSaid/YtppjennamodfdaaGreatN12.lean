/- Part 12: contracts of functions of the program and of the reference, and plain facts about what they compute; used by the proof of the claimed statement. Conditions: as each theorem states. -/
import Derived.Test.YtppjennamodfdaaGreatProg
import Derived.Test.YtppjennamodfdaaGreatNHmZ
import Derived.KernelRfl
import Derived.Test.YtppjennamodfdaaGreatNHmZI
import Derived.Test.YtppjennamodfdaaGreatNHmZJ
import Derived.Test.YtppjennamodfdaaGreatNHmZK
import Derived.Lib.SlicesCompact
import Derived.Shelf.Slices.CompactI
import Derived.Shelf.Sort.Plain
import Derived.Shelf.Slices.In.SortNone
import Derived.Test.YtppjennamodfdaaGreatNHmZL
import Derived.Test.YtppjennamodfdaaGreatN1
import Derived.Test.YtppjennamodfdaaGreatN2
import Derived.Test.YtppjennamodfdaaGreatN4
import Derived.Test.YtppjennamodfdaaGreatN6
import Derived.Test.YtppjennamodfdaaGreatN7
import Derived.Test.YtppjennamodfdaaGreatN5
import Derived.Test.YtppjennamodfdaaGreatN8
import Derived.Test.YtppjennamodfdaaGreatN9
import Derived.Test.YtppjennamodfdaaGreatN11
import Derived.Test.YtppjennamodfdaaGreatN3
import Derived.Test.YtppjennamodfdaaGreatNHmZP
set_option linter.unusedSimpArgs false
set_option linter.unusedVariables false
set_option linter.unnecessarySimpa false
set_option maxRecDepth 100000
set_option maxHeartbeats 2000000
namespace Go.Proofs.YtppjennamodfdaaGreat
open Go Go.Hl
def msV:List (Nat×List Nat):=[(511,[0,3,7]),(510,[1,3,7]),(503,[0,4,7]),(383,[0,3]),(508,[2,3,7]),(502,[1,4,7]),(382,[1,3]),(487,[0,7]),(375,[0,4]),(504,[3,7]),(500,[2,4,7]),(380,[2,3]),(486,[1,7]),(374,[1,4]),(359,[0]),(496,[4,7]),(376,[3]),(484,[2,7]),(372,[2,4]),(358,[1]),(480,[5,7]),(368,[4]),(356,[2]),(448,[6,7]),(352,[5]),(384,[7]),(320,[6]),(256,[8])]
def nxV (regs:List (Nat×RV)) (o7 o8 o9:List (Nat×Ob)) (outs:List (Nat×Nat×RV)) (R:List Nat):HS:=
 {trS ⟨⟨32,none⟩,regs,[]⟩ outs R with objs:=if R.contains 7 then o7 else if R.contains 8 then o8 else o9}
theorem X6J (l:List Ht):Xt l=l.map Ht.enc:=rfl
theorem Xc4 (a:List Ht):(Xt a).length=a.length:=by rw[X6J,List.length_map]
theorem Xa7 {ks:List Ht} {k:Nat} {t:Ht} (h:ks[k]? =some t):Xt (ks.take (k+1))=Xt (ks.take k)++[t.enc]:=by
 rw[List.take_add_one,h];simp[X6J]
set_option maxHeartbeats 16000000 in
theorem XbP (f:Fl) (h:Sm f) (d:Nat):Con Tryz.prog 68 false [aF f] (.v (aF f)) none d:=by
 have hv:=h.vars;have hh:=h.hats;have hno:=h.nodes;have cv:=X5G f.vars (by omega);have cb:=X6j f.body (by omega) h.bnd;obtain⟨vars,hats,body⟩:=f;simp only at hv hh hno cv cb;simp only[aF,Fl.enc,List.map_cons,List.map_nil];clear h;refine X7 Tryz.func68 ?_;simp only[Tryz.f68];refine X4 ?_;refine XC (s':=⟨⟨32,none⟩,[(1,.v (.one (.at_ 1 0))),(2,.v (.one (.at_ 2 0)))],[(1,.box [.c (.sl 5 (Xs vars)),.c (.sl 6 (Xt hats)),.c (.sl 10 (Xa body))]),(2,.box [.c (.lit XY),.c (.lit XY),.c (.lit XY)])]⟩) (Xu (fun n=>n) [] rfl (by simp) (by simp) (by simp)) ?_;refine X0<|(QU (nxV [(1,.v (.one (.at_ 1 0))),(2,.v (.one (.at_ 2 0)))] [(1,.box [.c (.sl 5 (Xs vars)),.c (.sl 6 (Xt hats)),.c (.sl 10 (Xa body))]),(2,.box [.c (.lit XY),.c (.lit XY),.c (.lit XY)])] [(1,.box [.c (.sl 5 (Xs vars)),.c (.sl 6 (Xt hats)),.c (.sl 10 (Xa body))]),(2,.box [.c (.lit XY),.c (.lit XY),.c (.lit XY)]),(3,.box [.c (.lit XY),.c (.lit XY),.c (.lit XY)])] [(1,.box [.c (.sl 5 (Xs vars)),.c (.sl 6 (Xt hats)),.c (.sl 10 (Xa body))]),(2,.box [.c (.lit XY),.c (.lit XY),.c (.lit XY)]),(3,.box [.c (.sl 5 (Xs vars)),.c (.lit XY),.c (.sl 10 (Xa body))])] [(0,6,.v (.one (.at_ 1 0))),(1,7,.v (lV vars)),(2,8,.v (lV vars)),(3,9,.v (.one (.at_ 1 2))),(4,10,.v (lS body)),(5,11,.v (lS body)),(6,12,.v (.agg [.c (.sl 5 (Xs vars)),.c (.lit XY),.c (.sl 10 (Xa body))])),(7,3,.v (.one (.at_ 3 0)))]) 9 511 msV rfl (by kernel_rfl) (by kernel_rfl) (by kernel_rfl) (by kernel_rfl) (by simp[nxV,trS]) ?_ ?_)
 · simp only[msV,X03]
   repeat' apply And.intro
   all_goals first
    |(refine XT.evE rfl ?_;simp[nxV,trS,ins,W9,lkp,del,XD,Qd,XQ,cellsOf,Qe,Wc,Zf,Wd,QY];done)
    |(refine XT.ev [⟨false,.v (lV vars),none⟩] rfl (by simp[nxV,trS,ins,lkp,del];first|exact⟨rfl,Iff.rfl⟩|exact⟨rfl,trivial⟩|rfl) ?_ (by simp[nxV,trS,ins]);first|exact cv _|simpa using cv _)
    |(refine XT.ev [⟨false,.v (lS body),none⟩] rfl (by simp[nxV,trS,ins,lkp,del];first|exact⟨rfl,Iff.rfl⟩|exact⟨rfl,trivial⟩|rfl) ?_ (by simp[nxV,trS,ins]);first|exact cb _|simpa using cb _)
    |trivial
 refine XC (s':=⟨⟨32,none⟩,[(1,.v (.one (.at_ 1 0))),(2,.v (.one (.at_ 2 0))),(3,.v (.one (.at_ 3 0)))],[(1,.box [.c (.sl 5 (Xs vars)),.c (.sl 6 (Xt hats)),.c (.sl 10 (Xa body))]),(2,.box [.c (.lit XY),.c (.lit XY),.c (.lit XY)]),(3,.box [.c (.sl 5 (Xs vars)),.c (.lit XY),.c (.sl 10 (Xa body))])]⟩) (Xu (fun n=>n) [] rfl (by simp[nxV,trS]) (by simp[nxV,trS]) (by simp)) ?_;refine X0<|X0<|X3 ?_;refine X5<|(Xd [2,3,14,15] (fun(y:Nat)=>[(16,.v (li y))]) (fun y=>[(2,.box [.c (.lit XY),.c (.lit XY),.c (.lit XY)]),(3,.box [.c (.sl 5 (Xs vars)),.own 1003,.c (.sl 10 (Xa body))]),(1003,.row 99 6 (Xt (hats.take y)))]) (fun y=>y≤hats.length) (fun y=>hats.length - y) (0:Nat) (Nat.zero_le _) ?_ ?_)
 · exact X6 (fun n=>n) [1003]
 rintro y hy;simp only[upS,X8,Xy]
 try simp only[X8,KN,Nat.reduceBEq,if_true,if_false,ins,Nat.reduceLT]
 clear cv cb;refine X4 ?_;refine X0<|(X9 rfl (fun h5=>Xb ?_) (fun h5=>?_))
 · (try simp only[BN]at h5);have hlt:y<hats.length:=by simpa using h5
   obtain⟨q,he,hd⟩:=Xq hlt;have hw1:=XA hlt (by omega);have hk1:y+1≤hats.length:=hlt;have hnm:=Z5 (List.mem_of_getElem? he);have he':(Xt hats)[y]? =some q.enc:=by simp[he]
   have htk:=Xa7 he;have hroom:Qa (y+1) 72:=Xx (by omega) (by decide);have hel:(Xt (hats.take y)).length=y:=by rw[Xc4,List.length_take];omega
   have hml:min y hats.length=y:=by omega
   obtain⟨nm,lo,hg,⟨to,tn,tk⟩⟩:=q;have ct:=X2k ⟨to,tn,tk⟩ (by simp only at hnm;omega);simp only[Ht.enc,Tm.enc,List.cons_append,List.nil_append]at he' htk;simp only[aT,Tm.enc,List.map_cons,List.map_nil]at ct;clear hlt h5 hnm he hd;refine X0<|X5<|X0<|X3 ?_;refine X0<|(QR [⟨false,.v (.agg [.c (iC to),.c (iC tn),.c (.sl 3 (Xo tk))]),none⟩] (by simp[*,XD,Qd,XQ,cellsOf,Qe];first|exact⟨rfl,Iff.rfl⟩|exact⟨rfl,trivial⟩|rfl) ?_ ?_)
   · first|exact ct _|exact trivial|simpa[*,XD,Qd,XQ,cellsOf,Qe]using ct _
   refine X3 ?_;refine X3 ?_;exact⟨y+1,hk1,by omega,X6 (fun n=>if n=1003 then 28 else n) []⟩
 try simp only[BN]at h5
 have hyl:y=hats.length:=by
  have:¬y<hats.length:=by simpa using h5
  omega
 subst hyl;rw[List.take_length];clear h5;refine(Xg ?_);refine XC (XR 1003 rfl) ?_;refine X4 ?_;exact Xh
end Go.Proofs.YtppjennamodfdaaGreat

namespace Go.Proofs.YtppjennamodfdaaGreat
open Go Go.Hl
def pgL (q:List Int):Nat→List St→List St
 |0,b=>b
 |i+1,b=>pgL q i (if(i:Int)∈q then b else woL b i)
def pgF (f:Fl) (q:List Int):Fl:=⟨f.vars,f.hats,pgL q (szL f.body) f.body⟩
theorem woL_sz {l:List St} {i:Nat} (h:i<szL l):i≤szL (woL l i):=by
 obtain⟨s,_,_,_,h1,h2⟩:=X0L l i (by omega) (by omega);omega
set_option maxHeartbeats 16000000 in
theorem X8r (f:Fl) (h:Sm f) (q:List Int) (hq:q.length≤100000) (d:Nat):Con Tryz.prog 27 false [aF f,.one (.c (.sl 1 (Xj q)))] (.tup [if WN f [q]=0 then aF (pgF f q)else .agg [.c (.lit XY),.c (.lit XY),.c (.lit XY)],li (WN f [q])]) none d:=by
 have ca:=ZU f h [q] (by simp) (fun q' hq'=>by rw[List.mem_singleton.1 hq'];omega);have hv:=h.vars;have hh:=h.hats;have hno:=h.nodes;have hbd:=h.bnd;have hsz:=h.sz;have hfl:=XK f.body;obtain⟨C,hC⟩:∃x,WN f [q]=x:=⟨_,rfl⟩;unfold askT at ca;simp only[X41,List.map_cons,List.map_nil]at ca;rw[hC]at ca⊢;clear h hC;by_cases hz:C=0
 · subst hz;have hTab:X6f f=ZH f (flL f.body) (arL f.body (-1) 0) (rdT f):=rfl;rw[hTab]at ca;simp only[if_true]at ca⊢;obtain⟨S,hS⟩:∃x,flL f.body=x:=⟨_,rfl⟩;obtain⟨A,hA⟩:∃x,arL f.body (-1) 0=x:=⟨_,rfl⟩;obtain⟨Rd,hRd⟩:∃x,rdT f=x:=⟨_,rfl⟩;rw[hS,hA,hRd]at ca;rw[hS]at hfl;unfold pgF;obtain⟨vars,hats,body⟩:=f;simp only at hv hh hno hbd hsz hfl⊢;have hht:∀h∈hats,h.term.nodes≤1000000:=fun h hm=>by have:=Z5 hm;omega
   have hcn:=fun i=>X59 q i (by omega);have crm:=fun(b:List St) (h1:Xl b≤Xl body) h2 (i:Nat) (h3:i+1≤szL b)=>X9M ⟨vars,hats,b⟩ (by simp only;omega) (by simp only;omega) hht (by simp only;omega) h2 i (by omega) (by simp only;omega);have cfr:=fun(b:List St) (h1:Xl b≤Xl body) h2=>XbP ⟨vars,hats,b⟩ ⟨hv,hh,by simp only;omega,h2⟩;simp only[aF,Fl.enc,List.map_cons,List.map_nil]at ca crm cfr⊢;obtain⟨res,hres⟩:∃x,pgL q (szL body) body=x:=⟨_,rfl⟩;rw[hres];rw[←hfl]at hres hsz;have hfl2:S.length≤szL body:=by omega
   clear hht hTab hS hA hRd hfl;refine X7 Tryz.func27 ?_;simp only[Tryz.f27];refine X4 ?_;refine X0<|(QQ 3 [] [⟨false,.tup [.one (.c (ZH ⟨vars,hats,body⟩ S A Rd)),li 0],none⟩] (by simp[*];rfl) trivial (XR 13 rfl) (by simp[*];first|exact⟨rfl,Iff.rfl⟩|exact⟨rfl,trivial⟩|rfl) ?_ ?_)
   · first|exact ca _|simpa using ca _
   refine X0<|X0<|X3 ?_;refine(Xe rfl (fun h3=>?_) fun h3=>?_)
   · exact absurd h3 (by simp)
   (try simp only[BN]at h3);refine X4 ?_;have hw0:IntKind.i64.wrap ((S.length:Int) - 1)=(S.length:Int) - 1:=Xc (by omega) (by omega);refine X0<|X0<|X3 ?_;refine X5<|(Xd [1,4,8] (fun(u:Nat×List St)=>[(9,.v (li ((u.1:Int) - 1)))]) (fun u=>[(4,.box [.c (.lit XY),.c (.lit XY),.c (.lit XY)]),(8,.box [.c (.sl 5 (Xs vars)),.c (.sl 6 (Xt hats)),.c (.sl 10 (Xa u.2))])]) (fun u=>pgL q u.1 u.2=res∧Xl u.2≤Xl body∧Wm u.2=true∧u.1≤szL u.2∧u.1≤1000) (fun u=>u.1) (S.length,body) ⟨hres,Nat.le_refl _,hbd,by simp only;omega,by simp only;omega⟩ ?_ ?_)
   · exact X6 (fun n=>n) []
   rintro⟨k,b⟩ ⟨hJ,j1,j2,j3,j4⟩;simp only[upS,X8,Xy]
   try simp only[X8,KN,Nat.reduceBEq,if_true,if_false,ins,Nat.reduceLT]
   simp only at hJ j1 j2 j3 j4;clear hres ca hw0;obtain⟨x,hx⟩:∃x:Int,(k:Int) - 1=x:=⟨_,rfl⟩;rw[hx];refine X0<|X0<|X3 ?_;refine(X9 rfl (fun h10=>Xb ?_) (fun h10=>?_))
   · (try simp only[BN]at h10);have hx0:0≤x:=by simpa using h10
     obtain⟨i,rfl⟩:∃i:Nat,x=i:=⟨x.toNat,by omega⟩;obtain rfl:k=i+1:=by omega
     have cn:=hcn (i:Int);have hw1:IntKind.i64.wrap ((i:Int) - 1)=(i:Int) - 1:=Xc (by omega) (by omega);have cr:=crm b j1 j2 i j3;have g1:=Nat.le_trans (X25 b i) j1;have g2:=X3l b i j2;have g3:=woL_sz (l:=b) (i:=i) (by omega);simp only[pgL]at hJ;obtain⟨z,hz⟩:∃z,decide ((i:Int)∈q)=z:=⟨_,rfl⟩;rw[hz]at cn;obtain⟨b2,hb2⟩:∃x,woL b i=x:=⟨_,rfl⟩;rw[hb2]at cr g1 g2 g3 hJ;clear hx hx0 h10 hcn crm cfr hb2;refine X0<|X5<|X0<|X0<|(Xp [⟨true,.v (lb z),none⟩] ?_ ?_)
     · first|exact cn _|exact trivial|simpa[*]using cn _
     refine(Xe rfl (fun h12=>?_) fun h12=>?_)
     · (try simp only[BN]at h12);have hzt:z=true:=by simpa using h12
       rw[if_pos (of_decide_eq_true (hz.trans hzt))]at hJ;clear h12 hz cr cn;refine(Xg ?_);refine X3 ?_;exact⟨(i,b),⟨hJ,j1,j2,by simp only;omega,by simp only;omega⟩,by simp only;omega,X6 (fun n=>n) []⟩
     (try simp only[BN]at h12);have hzt:z=false:=by simpa using h12
     rw[if_neg (of_decide_eq_false (hz.trans hzt))]at hJ;clear h12 hz cn;refine X0<|(QR [⟨false,.tup [.agg [.c (.sl 5 (Xs vars)),.c (.sl 6 (Xt hats)),.c (.sl 10 (Xa b2))],li 0],none⟩] (by simp[*,XD,Qd,XQ,cellsOf,Qe];first|exact⟨rfl,Iff.rfl⟩|exact⟨rfl,trivial⟩|rfl) ?_ ?_)
     · first|exact cr _|exact trivial|simpa[*,XD,Qd,XQ,cellsOf,Qe]using cr _
     refine X4 ?_;refine(Xe rfl (fun h17=>?_) fun h17=>?_)
     · exact absurd h17 (by simp)
     (try simp only[BN]at h17);refine X3 ?_;exact⟨(i,b2),⟨hJ,g1,g2,g3,by simp only;omega⟩,by simp only;omega,X6 (fun n=>n) []⟩
   (try simp only[BN]at h10);have hx0:¬0≤x:=by simpa using h10
   obtain rfl:k=0:=by omega
   simp only[pgL]at hJ;subst hJ;have cf:=cfr b j1 j2;clear hx hx0 h10 hcn crm cfr;refine(Xg ?_);refine Xk [⟨false,.v (.agg [.c (.sl 5 (Xs vars)),.c (.sl 6 (Xt hats)),.c (.sl 10 (Xa b))]),none⟩] ?_ ?_
   · first|exact cf _|exact trivial|simpa[*]using cf _
   exact Xh
 simp only[if_neg hz]at ca⊢;clear hv hh hno hbd hsz hfl;obtain⟨vars,hats,body⟩:=f;simp only[aF,Fl.enc,List.map_cons,List.map_nil]at ca⊢;refine X7 Tryz.func27 ?_;simp only[Tryz.f27];refine X4 ?_;refine X0<|(QQ 3 [] [⟨false,.tup [.one (.c (.lit (.pointer none))),li C],none⟩] (by simp[*];rfl) trivial (XR 13 rfl) (by simp[*];first|exact⟨rfl,Iff.rfl⟩|exact⟨rfl,trivial⟩|rfl) ?_ ?_)
 · first|exact ca _|simpa using ca _
 refine X0<|X0<|X3 ?_;refine(Xe rfl (fun h3=>?_) fun h3=>?_)
 · (try simp only[BN]at h3);refine X4 ?_;exact Xh
 exact absurd h3 (by simp[hz])
end Go.Proofs.YtppjennamodfdaaGreat

namespace Go.Proofs.YtppjennamodfdaaGreat
open Go Go.Hl
def rfT (n:Int):Tm:=⟨24,n,[]⟩
def exF:Fl:=⟨[⟨⟨#[120]⟩,1,0,3,0⟩,⟨⟨#[121]⟩,0,0,3,0⟩,⟨⟨#[122]⟩,0,0,3,0⟩,⟨⟨#[119]⟩,0,0,3,0⟩],[],[.mk 0 0 1 0 (rfT 0) [] [] [],.mk 0 0 2 0 ⟨0,2,[]⟩ [] [] [],.mk 3 0 0 0 (rfT 1) [.mk 0 0 2 0 ⟨0,1,[]⟩ [] [] []] [] [],.mk 1 0 0 0 (rfT 2) [] [] [],.mk 1 0 0 0 (rfT 3) [] [] []]⟩
def exS:List (List Nat):=[[],[6,7,8,9],[0,6,8,9],[0,1,6,9],[0,1,6,9],[0,1,3,6,9],[0,1,3,6,9],[0,1,3,6,9]]
theorem exRc:rcL (grN exF.body) (flL exF.body) exF.vars.length=exS:=rcL_run 12 (by decide) (by kernel_rfl) (by kernel_rfl)
theorem exRd:rdT exF=rdF (szL exF.body) ((grN exF.body).zip exS):=by
 unfold rdT;rw[exRc]
theorem exDir:Q5 exF=[[],[],[0],[2],[1,3],[]]:=by
 unfold Q5;rw[exRd];kernel_rfl
theorem exCode:Qb exF=0:=by
 simp only[exF,rfT,Qb,X0Z,sdL,WB,ssC];kernel_rfl
theorem exSm:Sm exF:=⟨by decide,by decide,by decide,by decide⟩
theorem X8Y (q:List Int) (h:askB 6 [q]=true):WN exF [q]=0:=by
 unfold WN;rw[if_pos exCode,show(flL exF.body).length=6 from rfl,if_pos h]
theorem exAsk2 (a b:List Int) (h:askB 6 [a,b]=true):WN exF [a,b]=0:=by
 unfold WN;rw[if_pos exCode,show(flL exF.body).length=6 from rfl,if_pos h]
theorem exBw:bwL exF [4]=[0,1,2,3,4]:=by
 unfold bwL;rw[exDir];kernel_rfl
theorem exFw:fwL exF [0]=[0,2,3,4]:=by
 unfold fwL;rw[exDir];kernel_rfl
theorem exCh:chL exF [0] [4]=[0,2,3,4]:=by
 unfold chL;rw[exFw,exDir];kernel_rfl
theorem exClo:Zh (Q5 exF) (QL [5])=[5]:=by
 rw[exDir];kernel_rfl
theorem exCl:clB exF [5]=true:=by
 unfold clB;rw[exClo];rfl
theorem exNeA:neA exF [5]=[3]:=by
 unfold neA;rw[exClo,exRd];kernel_rfl
theorem exNe:neL exF [5]=[3]:=by
 unfold neL;rw[exNeA];exact List.mergeSort_singleton _
theorem exPg:pgF exF [5]=⟨exF.vars,[],[.mk 1 0 0 0 (rfT 3) [] [] []]⟩:=by
 unfold pgF;have:pgL [5] (szL exF.body) exF.body=[.mk 1 0 0 0 (rfT 3) [] [] []]:=by kernel_rfl
 rw[this];rfl
end Go.Proofs.YtppjennamodfdaaGreat

namespace Go.Proofs.YtppjennamodfdaaGreat
open Go Go.Hl
theorem X27 (n:Int) (d:Nat):Con Tryz.prog 75 false [li n] (.v (aT (rfT n))) none d:=by
 simp only[aT,rfT,Tm.enc,Xo,List.map_cons,List.map_nil];refine X7 Tryz.func75 ?_;simp only[Tryz.f75];refine X4 ?_;refine X0<|(QQ 2 [] [] (by simp[XD,Qd,XQ];rfl) trivial (X1H 4 [.c (iC 24),.c (iC n),.c (.sl 3 [])] rfl (by(repeat'(first|exact LWk.nil|apply LWk.cons|exact CWk.refl _|exact CWk.nil _)))) (by simp;rfl) trivial ?_);exact Xh
set_option maxHeartbeats 8000000 in
theorem X8O (d:Nat):Con Tryz.prog 38 false [] (.v (aF exF)) none d:=by
 have c0:=X27 0;have c1:=X27 1;have c2:=X27 2;have c3:=X27 3;have hq1:Qa 1 144:=Xx (by decide) (by decide);have hq2:Qa 5 144:=Xx (by decide) (by decide);have hq3:Qa 4 48:=Xx (by decide) (by decide);simp only[exF,rfT,aF,aT,Fl.enc,Vr.enc,Xs,Xt,Xj,Xa,Xo,St.enc,Tm.enc,List.map_cons,List.map_nil,List.cons_append,List.nil_append]at c0 c1 c2 c3⊢;refine X7 Tryz.func38 ?_;simp only[Tryz.f38];refine X4 ?_;refine X4 ?_;refine X0<|(XS ?_);refine RunsN.cutE 8 [⟨false,.v (.agg [.c (iC 24),.c (iC 0),.c (.sl 3 [])]),none⟩] (by simp[*,XD,Qd,XQ];first|exact⟨rfl,Iff.rfl⟩|exact⟨rfl,trivial⟩|rfl) (by first|exact c0 _|simpa using c0 _) (X1H 9 [.c (iC 0),.c (iC 0),.c (iC 1),.c (iC 0),.c (iC 24),.c (iC 0),.c (.sl 3 []),.c (.sl 10 []),.c (.sl 10 []),.c (.sl 1 [])] rfl (by(repeat'(first|exact LWk.nil|apply LWk.cons|exact CWk.refl _|exact CWk.nil _)))) ?_;refine RunsN.cutE 2 [] (by simp[*,XD,Qd,XQ];rfl) trivial (X1H 11 [.c (iC 0),.c (iC 0),.c (iC 2),.c (iC 0),.c (iC 0),.c (iC 2),.c (.sl 3 []),.c (.sl 10 []),.c (.sl 10 []),.c (.sl 1 [])] rfl (by(repeat'(first|exact LWk.nil|apply LWk.cons|exact CWk.refl _|exact CWk.nil _)))) ?_;refine RunsN.cutE 4 [⟨false,.v (.agg [.c (iC 24),.c (iC 1),.c (.sl 3 [])]),none⟩] (by simp[*,XD,Qd,XQ];first|exact⟨rfl,Iff.rfl⟩|exact⟨rfl,trivial⟩|rfl) (by first|exact c1 _|simpa using c1 _) (X1H 15 [.c (iC 0),.c (iC 0),.c (iC 2),.c (iC 0),.c (iC 0),.c (iC 1),.c (.sl 3 []),.c (.sl 10 []),.c (.sl 10 []),.c (.sl 1 [])] rfl (by(repeat'(first|exact LWk.nil|apply LWk.cons|exact CWk.refl _|exact CWk.nil _)))) ?_;refine RunsN.cutE 1 [] (by simp[*,XD,Qd,XQ];rfl) trivial (XR 16 rfl) ?_;refine RunsN.cutE 1 [] (by simp[*,XD,Qd,XQ];rfl) trivial (X1H 17 [.c (iC 3),.c (iC 0),.c (iC 0),.c (iC 0),.c (iC 24),.c (iC 1),.c (.sl 3 []),.c (.sl 10 [[iC 0,iC 0,iC 2,iC 0,iC 0,iC 1,.sl 3 [],.sl 10 [],.sl 10 [],.sl 1 []]]),.c (.sl 10 []),.c (.sl 1 [])] rfl (by(repeat'(first|exact LWk.nil|apply LWk.cons|exact CWk.refl _|exact CWk.nil _)))) ?_;refine RunsN.cutE 3 [⟨false,.v (.agg [.c (iC 24),.c (iC 2),.c (.sl 3 [])]),none⟩] (by simp[*,XD,Qd,XQ];first|exact⟨rfl,Iff.rfl⟩|exact⟨rfl,trivial⟩|rfl) (by first|exact c2 _|simpa using c2 _) (X1H 20 [.c (iC 1),.c (iC 0),.c (iC 0),.c (iC 0),.c (iC 24),.c (iC 2),.c (.sl 3 []),.c (.sl 10 []),.c (.sl 10 []),.c (.sl 1 [])] rfl (by(repeat'(first|exact LWk.nil|apply LWk.cons|exact CWk.refl _|exact CWk.nil _)))) ?_;refine RunsN.cutE 3 [⟨false,.v (.agg [.c (iC 24),.c (iC 3),.c (.sl 3 [])]),none⟩] (by simp[*,XD,Qd,XQ];first|exact⟨rfl,Iff.rfl⟩|exact⟨rfl,trivial⟩|rfl) (by first|exact c3 _|simpa using c3 _) (X1H 23 [.c (iC 1),.c (iC 0),.c (iC 0),.c (iC 0),.c (iC 24),.c (iC 3),.c (.sl 3 []),.c (.sl 10 []),.c (.sl 10 []),.c (.sl 1 [])] rfl (by(repeat'(first|exact LWk.nil|apply LWk.cons|exact CWk.refl _|exact CWk.nil _)))) ?_;refine RunsN.cutE 1 [] (by simp[*,XD,Qd,XQ];rfl) trivial (le_trans (XR 6 rfl) (XR 24 rfl)) ?_;refine RunsN.cutE 1 [] (by simp[*,XD,Qd,XQ];rfl) trivial (X1H 25 [.c (.sl 5 [[sC ⟨#[120]⟩,iC 1,iC 0,iC 3,iC 0],[sC ⟨#[121]⟩,iC 0,iC 0,iC 3,iC 0],[sC ⟨#[122]⟩,iC 0,iC 0,iC 3,iC 0],[sC ⟨#[119]⟩,iC 0,iC 0,iC 3,iC 0]]),.c (.sl 6 []),.c (.sl 10 [[iC 0,iC 0,iC 1,iC 0,iC 24,iC 0,.sl 3 [],.sl 10 [],.sl 10 [],.sl 1 []],[iC 0,iC 0,iC 2,iC 0,iC 0,iC 2,.sl 3 [],.sl 10 [],.sl 10 [],.sl 1 []],[iC 3,iC 0,iC 0,iC 0,iC 24,iC 1,.sl 3 [],.sl 10 [[iC 0,iC 0,iC 2,iC 0,iC 0,iC 1,.sl 3 [],.sl 10 [],.sl 10 [],.sl 1 []]],.sl 10 [],.sl 1 []],[iC 1,iC 0,iC 0,iC 0,iC 24,iC 2,.sl 3 [],.sl 10 [],.sl 10 [],.sl 1 []],[iC 1,iC 0,iC 0,iC 0,iC 24,iC 3,.sl 3 [],.sl 10 [],.sl 10 [],.sl 1 []]])] rfl (by(repeat'(first|exact LWk.nil|apply LWk.cons|exact CWk.refl _|exact CWk.nil _)))) ?_;refine RunsN.doneE [] (by simp[*,XD,Qd,XQ];rfl) trivial ?_;exact Xh
end Go.Proofs.YtppjennamodfdaaGreat

namespace Go.Proofs.YtppjennamodfdaaGreat
open Go Go.Hl
set_option maxHeartbeats 8000000 in
theorem fit_con (f:Fl) (qs:List (List Int)) (hq:qs.length≤1000000) (d:Nat):Con Tryz.prog 11 true [aF f,lQ qs] (.v (lb (fitQ f qs))) none d:=by
 have cl:=conQ_con qs 40 (fun l=>decide ((40:Int)<l.length)) (by omega) (fun l _ d=>long_con l d);have cf:=Xb8 f 70 300 (by decide) (by decide);have hin:=fun h:X1p f 70 300=true=>X7F (nodes:=300) (by decide) h;have hcc:=fun h:X1p f 70 300=true=>X2C f (by have:=(hin h).1;omega) (by have:=(hin h).2.1;omega) (by have:=(hin h).2.2.1;omega) (hin h).2.2.2;have cft:=XcC f 4096 4096 256;have hsz:=fun h:X1p f 70 300=true=>W1 f.body (by have:=(hin h).2.2.1;omega);obtain⟨res,hres⟩:∃r,fitQ f qs=r:=⟨_,rfl⟩;rw[hres];unfold fitQ at hres;obtain⟨A,hA⟩:∃x,(qs.any fun l=>decide ((40:Int)<l.length))=x:=⟨_,rfl⟩;obtain⟨FW,hFW⟩:∃x,X1p f 70 300=x:=⟨_,rfl⟩;obtain⟨K,hK⟩:∃x,Qb f=x:=⟨_,rfl⟩;obtain⟨FT,hFT⟩:∃x,fitB f 4096 4096 256=x:=⟨_,rfl⟩;obtain⟨Z,hZ⟩:∃x,(szL f.body:Int)=x:=⟨_,rfl⟩;rw[hA]at cl hres;rw[hFW]at cf hcc hsz hres;rw[hK]at hcc hres;rw[hFT]at cft hres;rw[hZ]at hsz hres;clear hin hA hFW hK hFT hZ;obtain⟨vars,hats,body⟩:=f;simp only[aF,Fl.enc,List.map_cons,List.map_nil]at cf hcc cft hsz⊢;refine X7 Tryz.func11 ?_;simp only[Tryz.f11];refine X4 ?_;refine X0<|X0<|(Xp [⟨true,.v (lb A),none⟩] ?_ ?_)
 · first|exact cl _|exact trivial|simpa[*]using cl _
 refine(Xe rfl (fun h2=>?_) fun h2=>?_)
 · (try simp only[BN]at h2);have hAt:A=true:=by simpa using h2
   subst hAt;simp only[Bool.not_true,Bool.false_and]at hres;subst hres;clear h2;refine X4 ?_;exact Xh
 (try simp only[BN]at h2);have hAt:A=false:=by simpa using h2
 subst hAt;simp only[Bool.not_false,Bool.true_and]at hres;clear h2 cl;rcases FW with _|_
 · clear hcc hsz cft;subst hres;refine X0<|(XS ?_);refine RunsN.cutE 3 [⟨true,.v (lb false),none⟩] (by simp[*];first|exact⟨rfl,Iff.rfl⟩|exact⟨rfl,trivial⟩|rfl) (by first|exact cf _|simpa using cf _) (le_refl _) ?_;refine RunsN.skip (.bool false) (by simp[QM]) (by rfl) ?_;refine RunsN.skip (.bool false) (by simp[QM]) (by rfl) ?_;refine RunsN.skip (.bool false) (by simp[QM]) (by rfl) ?_;refine RunsN.skip (.bool false) (by simp[QM]) (by rfl) ?_;refine RunsN.skip (.bool false) (by simp[QM]) (by rfl) ?_;refine RunsN.skip (.bool false) (by simp[QM]) (by rfl) ?_;refine RunsN.skip (.bool false) (by simp[QM]) (by rfl) ?_;refine RunsN.skip (.bool false) (by simp[QM]) (by rfl) ?_;refine RunsN.skip (.bool false) (by simp[QM]) (by rfl) ?_;refine RunsN.skip (.bool false) (by simp[QM]) (by rfl) ?_;refine RunsN.skip (.bool false) (by simp[QM]) (by rfl) ?_;refine RunsN.skip (.bool false) (by simp[QM]) (by rfl) ?_;refine RunsN.skip (.bool false) (by simp[QM]) (by rfl) ?_;refine RunsN.doneE [] (by simp[*];rfl) trivial ?_;exact Xh
 have hcc:=hcc rfl;have hsz:=hsz rfl;simp only[Bool.true_and]at hres;rcases Classical.em (K=0)with hz|hz
 · subst hz;simp only[ne_eq,not_true_eq_false,decide_false,Bool.false_or]at hres;rcases FT with _|_
   · simp only[Bool.false_and]at hres;subst hres;refine X0<|(Zl [some ⟨true,.v (lb true),none⟩,some ⟨true,.v (li 0),none⟩,some ⟨true,.v (lb false),none⟩,none] (by simp[*];first|exact⟨rfl,Iff.rfl⟩|exact⟨rfl,trivial⟩|rfl) ?_ ?_)
     · first|exact trivial|exact⟨cf _,hcc _,cft _⟩|simpa using⟨cf _,hcc _,cft _⟩
     exact Xh
   simp only[Bool.true_and]at hres;refine X0<|(Zl [some ⟨true,.v (lb true),none⟩,some ⟨true,.v (li 0),none⟩,some ⟨true,.v (lb true),none⟩,some ⟨true,.v (li Z),none⟩] (by simp[*];first|exact⟨rfl,Iff.rfl⟩|exact⟨rfl,trivial⟩|rfl) ?_ ?_)
   · first|exact trivial|exact⟨cf _,hcc _,cft _,hsz _⟩|simpa using⟨cf _,hcc _,cft _,hsz _⟩
   exact Xh
 simp only[ne_eq,hz,not_false_eq_true,decide_true,Bool.true_or]at hres;subst hres;refine X0<|(XS ?_);refine RunsN.cutE 7 [⟨true,.v (lb true),none⟩,⟨true,.v (li K),none⟩] (by simp[*];first|exact⟨rfl,Iff.rfl⟩|exact⟨rfl,trivial⟩|rfl) (by first|exact⟨cf _,hcc _⟩|simpa using⟨cf _,hcc _⟩) (le_refl _) ?_;refine RunsN.skip (.bool false) (by simp[QM]) (by rfl) ?_;refine RunsN.skip (.bool false) (by simp[QM]) (by rfl) ?_;refine RunsN.skip (.bool false) (by simp[QM]) (by rfl) ?_;refine RunsN.skip (.bool false) (by simp[QM]) (by rfl) ?_;refine RunsN.skip (.bool false) (by simp[QM]) (by rfl) ?_;refine RunsN.skip (.bool false) (by simp[QM]) (by rfl) ?_;refine RunsN.skip (.bool false) (by simp[QM]) (by rfl) ?_;refine RunsN.skip (.bool false) (by simp[QM]) (by rfl) ?_;refine RunsN.doneE [] (by simp[*];rfl) trivial ?_;exact Xh
end Go.Proofs.YtppjennamodfdaaGreat

namespace Go.Proofs.YtppjennamodfdaaGreat
open Go Go.Hl
def ms79a:List (Nat×List Nat):=[(511,[0,2,7]),(510,[1,2,7]),(507,[0,3,7]),(383,[0,2]),(508,[2,7]),(506,[1,3,7]),(382,[1,2]),(499,[0,4,7]),(379,[0,3]),(504,[3,7]),(380,[2]),(498,[1,4,7]),(378,[1,3]),(483,[0,7]),(371,[0,4]),(496,[4,7]),(376,[3]),(482,[1,7]),(370,[1,4]),(355,[0]),(480,[5,7]),(368,[4]),(354,[1]),(448,[6,7]),(352,[5]),(384,[7]),(320,[6]),(256,[8])]
def ms79b:List (Nat×List Nat):=[(2047,[0,1,2,3,6]),(2046,[1,2,3,6]),(2045,[0,2,3,6]),(2043,[0,1,3,6]),(2039,[0,1,2,6]),(1983,[0,1,2,3,7]),(2044,[2,3,6]),(2042,[1,3,6]),(2038,[1,2,6]),(1982,[1,2,3,7]),(2041,[0,3,6]),(2037,[0,2,6]),(1981,[0,2,3,7]),(2035,[0,1,4,6]),(1979,[0,1,3,7]),(1975,[0,1,2,7]),(1855,[0,1,2,3]),(2040,[3,6]),(2036,[2,6]),(1980,[2,3,7]),(2034,[1,4,6]),(1978,[1,3,7]),(1974,[1,2,7]),(1854,[1,2,3]),(2033,[0,4,6]),(1977,[0,3,7]),(1973,[0,2,7]),(1853,[0,2,3]),(2019,[0,1,5,6]),(1971,[0,1,4,7]),(1851,[0,1,3]),(1847,[0,1,2]),(2032,[4,6]),(1976,[3,7]),(1972,[2,7]),(1852,[2,3]),(2018,[1,5,6]),(1970,[1,4,7]),(1850,[1,3]),(1846,[1,2]),(2017,[0,5,6]),(1969,[0,4,7]),(1849,[0,3]),(1845,[0,2]),(1987,[0,1,6]),(1955,[0,1,5,7]),(1843,[0,1,4]),(2016,[5,6]),(1968,[4,7]),(1848,[3]),(1844,[2]),(1986,[1,6]),(1954,[1,5,7]),(1842,[1,4]),(1985,[0,6]),(1953,[0,5,7]),(1841,[0,4]),(1923,[0,1,7]),(1827,[0,1,5]),(1984,[6]),(1952,[5,7]),(1840,[4]),(1922,[1,7]),(1826,[1,5]),(1921,[0,7]),(1825,[0,5]),(1795,[0,1,8]),(1920,[7]),(1824,[5]),(1794,[1,8]),(1793,[0,8]),(1539,[0,1]),(1792,[8]),(1538,[1]),(1537,[0]),(1536,[9]),(1024,[10])]
def X4p (regs:List (Nat×RV)) (o7 o8 o9:List (Nat×Ob)) (outs:List (Nat×Nat×RV)) (R:List Nat):HS:=
 {trS ⟨⟨74,none⟩,regs,[]⟩ outs R with objs:=if R.contains 7 then o7 else if R.contains 8 then o8 else o9}
def X4Z (regs:List (Nat×RV)) (o:List (Nat×Ob)) (outs:List (Nat×Nat×RV)) (R:List Nat):HS:=
 {trS ⟨⟨74,none⟩,regs,[]⟩ outs R with objs:=o}
def WE (S:List (List Nat)):List (Option (List (List CD))):=S.map fun l=>some (XB l)
@[simp] theorem rowE_len (S:List (List Nat)):(WE S).length=S.length:=by simp[WE]
theorem rowE_get {S:List (List Nat)} {i:Nat} {l:List Nat} (h:S[i]? =some l):(WE S)[i]? =some (some (XB l)):=by simp[WE,h]
theorem rowE_set (S:List (List Nat)) (i:Nat) (l:List Nat) (d:Nat):(WE S).set i (some (XB l++[[iC d]]))=WE (S.set i (l++[d])):=by
 simp only[WE,List.map_set,XcI]
def Wg (T:List Nat) (n:Nat):List (List CD):=(List.range n).map fun k=>[bC (decide (k∈T))]
@[simp] theorem seenR_len (T:List Nat) (n:Nat):(Wg T n).length=n:=by simp[Wg]
theorem XcZ (n:Nat):Wg [] n=List.replicate n [bC false]:=by
 apply List.ext_getElem?;intro k;simp only[Wg,List.getElem?_map,List.getElem?_replicate];split
 · rename_i h;simp[h]
 rename_i h;rw[List.getElem?_eq_none (by simpa using h)];rfl
theorem X4l {T:List Nat} {n k:Nat} (h:k<n):(Wg T n)[k]? =some [bC (decide (k∈T))]:=by simp[Wg,h]
theorem Xas {T:List Nat} {n k:Nat} (h:k<n):setRow (Wg T n) k 0 [bC true]=Wg (T++[k]) n:=by
 unfold setRow;rw[X4l h];apply List.ext_getElem?;intro j;simp only[Wg,List.getElem?_set,List.getElem?_map,List.length_map,List.length_range];by_cases e:k=j
 · subst e;simp[h]
 simp only[e,if_false];by_cases hj:j<n
 · simp[hj,Ne.symm e]
 rw[List.getElem?_eq_none (by simpa using hj)];rfl
theorem Xcq {T:List Nat} {n k:Nat} (h:k<n):(Wg T n).set k [CD.lit (Value.bool true)]=Wg (T++[k]) n:=by
 have:=Xas (T:=T) h;unfold setRow at this;rw[X4l h]at this;exact this
def spO (vars:List Vr) (hats:List Ht) (body:List St) (N:List Nd) (S:List (List Nat)):List (Nat×Ob):=[(900001,.mat 27 3 1 (WE S)),(1000001,.box [.c (.sl 4 (XG N))]),(1000002,.box [.own 900001]),(1000003,.box [.c (.sl 5 (Xs vars)),.c (.sl 6 (Xt hats)),.c (.sl 10 (Xa body))])]
theorem spO_pin {vars:List Vr} {hats:List Ht} {body:List St} {N:List Nd} {S:List (List Nat)}:∀n cs,lkp (spO vars hats body N S) n=some (.box cs)→1000000≤n:=by
 intro n cs h;simp only[spO,lkp]at h
 repeat' split at h
 all_goals first|omega|cases h
set_option maxHeartbeats 32000000 in
theorem Xap (vars:List Vr) (hats:List Ht) (body:List St) (N:List Nd) (S:List (List Nat)) (i0 name:Nat) (v:Int) (hn:Xl body≤1000000) (hN:N.length≤100000) (hS:S.length=N.length) (hSl:∀l∈S,l.length≤1000000)
  (hok:∀x∈N,X1B N.length x.n∧X1B N.length x.o∧(x.k=2→∃(a:Nat) (s:St),x.a=a∧a≤1000000∧(flL body)[a]? =some s)) (h0:i0<N.length):
  X1q Tryz.prog 151 none (spO vars hats body N S) [li i0,li v,li name,.one (.at_ 1000001 0),.one (.at_ 1000002 0),.one (.at_ 1000003 0)] (fun _:Unit=>True) (fun _=>.tup []) (fun _=>spO vars hats body N (Wx (fwT N (dfN (flL body)) v i0) name S)):=by
 refine Qs Tryz.func151 rfl (by kernel_rfl) (Nat.le_of_ble_eq_true rfl) spO_pin (fun v h=>by cases h) ?_;simp only[Tryz.f151,spO];have hdef:=fun(k:Nat) (x:Nd) (hx:N[k]? =some x)=>X4y ⟨vars,hats,body⟩ hn N k x hx (hok x (List.mem_of_getElem? hx)).2.2;simp only[aF,Fl.enc,List.map_cons,List.map_nil]at hdef;have hstart:=Bf.start (df:=dfN (flL body)) (v:=v) h0;have hdone:=fun T=>fwT_mem (N:=N) (df:=dfN (flL body)) (v:=v) (i0:=i0) (T:=T);obtain⟨df,hdf⟩:∃x,dfN (flL body)=x:=⟨_,rfl⟩;obtain⟨FT,hFT⟩:∃x,fwT N (dfN (flL body)) v i0=x:=⟨_,rfl⟩;rw[hFT]at hdone⊢;rw[hdf]at hstart hdone;simp only[hdf]at hdef;have hz:=XcZ N.length;have hadd0:=addT_nil name S;have hmx:N.length≤maxLen:=by unfold maxLen;omega
 have hbig:(1:Int)*N.length≤281474976710656:=by omega
 have hbig2:(N.length:Int)≤281474976710656:=by omega
 clear hFT hdf;refine X4 ?_;refine X4 ?_;refine X5<|(Xd [1,2,3,4,5,9] (fun(u:List Nat×List Nat)=>[(10,.v (.one (.own 1019)))]) (fun u=>[(17,.row 4 1 (Wg u.1 N.length)),(1019,.row 3 1 (XB u.2)),(900001,.mat 27 3 1 (WE (Wx u.1 name S))),(1000001,.box [.c (.sl 4 (XG N))]),(1000002,.box [.own 900001]),(1000003,.box [.c (.sl 5 (Xs vars)),.c (.sl 6 (Xt hats)),.c (.sl 10 (Xa body))])]) (fun u=>Bf N df v i0 u.1 u.2 noC∧2*(N.length - u.1.length)+u.2.length≤2*N.length+1) (fun u=>2*(N.length - u.1.length)+u.2.length) ([],[i0]) ⟨hstart,by simp⟩ ?_ ?_)
 · exact X6 (fun n=>if n=1019 then 19 else n) []
 rintro⟨T,Q⟩ ⟨hB,hM⟩;simp only[upS,X8,Xy]
 try simp only[X8,KN,Nat.reduceBEq,if_true,if_false,ins,Nat.reduceLT]
 simp only at hB hM;clear hstart hz hadd0;rcases Q with _|⟨i,Q⟩
 · refine X0<|X0<|X3 ?_;refine(X9 rfl (fun h4=>Xb ?_) (fun h4=>?_))
   · simp at h4
   (try simp only[BN]at h4);have hT:=Xau (d:=name) (S:=S) (hdone T hB);refine(Xg ?_);exact⟨.inl rfl,(),trivial,⟨⟨74,none⟩,[],[(900001,.mat 27 3 1 (WE (Wx FT name S))),(1000001,.box [.c (.sl 4 (XG N))]),(1000002,.box [.own 900001]),(1000003,.box [.c (.sl 5 (Xs vars)),.c (.sl 6 (Xt hats)),.c (.sl 10 (Xa body))])]⟩,Xu (fun n=>n) [] rfl (by simp) (by simp[hT]) (by simp),⟨[],rfl,rfl⟩,fun n o h=>h⟩
 refine X0<|X0<|X3 ?_;refine(X9 rfl (fun h4=>Xb ?_) (fun h4=>?_))
 · (try simp only[BN]at h4);obtain⟨x,hx,hc,hB2⟩:=hB.pop;have hxe:=ZK hx;have hxo:=hok x (List.mem_of_getElem? hx);have hlenT:=hB.len;have hq:=fun q=>hB2.q q;obtain⟨xk,xa,xn,xo⟩:=x;simp only[Nd.enc]at hxe;simp only at hxo;have hil:i+1≤N.length:=(List.getElem?_eq_some_iff.1 hx).1;have hec:XB (i::Q)=[iC i]::XB Q:=rfl;have htq:List.take Q.length (XB Q)=XB Q:=List.take_of_length_le (by simp);obtain⟨M0,hM0⟩:∃m,2*(N.length - T.length)+(i::Q).length=m:=⟨_,rfl⟩;clear hB h4;refine XC (s':=⟨⟨74,none⟩,[(1,.v (li v)),(2,.v (li name)),(3,.v (.one (.at_ 1000001 0))),(4,.v (.one (.at_ 1000002 0))),(5,.v (.one (.at_ 1000003 0))),(9,.v (.one (.own 17))),(10,.v (.one (.own 1019)))],[(17,.row 4 1 (Wg T N.length)),(1019,.row 3 1 ([iC i]::XB Q)),(900001,.mat 27 3 1 (WE (Wx T name S))),(1000001,.box [.c (.sl 4 (XG N))]),(1000002,.box [.own 900001]),(1000003,.box [.c (.sl 5 (Xs vars)),.c (.sl 6 (Xt hats)),.c (.sl 10 (Xa body))])]⟩) (Xu (fun n=>n) [] rfl (by simp) (by simp[hec]) (by simp)) ?_;refine X5<|X0<|(QU (X4p [(1,.v (li v)),(2,.v (li name)),(3,.v (.one (.at_ 1000001 0))),(4,.v (.one (.at_ 1000002 0))),(5,.v (.one (.at_ 1000003 0))),(9,.v (.one (.own 17))),(10,.v (.one (.own 1019)))] [(17,.row 4 1 (Wg T N.length)),(1019,.row 3 1 ([iC i]::XB Q)),(900001,.mat 27 3 1 (WE (Wx T name S))),(1000001,.box [.c (.sl 4 (XG N))]),(1000002,.box [.own 900001]),(1000003,.box [.c (.sl 5 (Xs vars)),.c (.sl 6 (Xt hats)),.c (.sl 10 (Xa body))])] [(11,.box [.c (iC 0),.c (iC 0),.c (iC 0),.c (iC 0)]),(17,.row 4 1 (Wg T N.length)),(1019,.row 3 1 ([iC i]::XB Q)),(900001,.mat 27 3 1 (WE (Wx T name S))),(1000001,.box [.c (.sl 4 (XG N))]),(1000002,.box [.own 900001]),(1000003,.box [.c (.sl 5 (Xs vars)),.c (.sl 6 (Xt hats)),.c (.sl 10 (Xa body))])] [(11,.box [.c (iC xk),.c (iC xa),.c (iC xn),.c (iC xo)]),(17,.row 4 1 (Wg T N.length)),(1019,.row 3 1 ([iC i]::XB Q)),(900001,.mat 27 3 1 (WE (Wx T name S))),(1000001,.box [.c (.sl 4 (XG N))]),(1000002,.box [.own 900001]),(1000003,.box [.c (.sl 5 (Xs vars)),.c (.sl 6 (Xt hats)),.c (.sl 10 (Xa body))])] [(0,23,.v (.one (.at_ 1000001 0))),(1,24,.v (.one (.c (.sl 4 (XG N))))),(2,25,.v (.one (.own 1019))),(3,26,.v (.one (.el 1019 1 0 0))),(4,27,.v (li i)),(5,28,.v (.one (.c (.ptr [iC xk,iC xa,iC xn,iC xo])))),(6,29,.v (.agg [.c (iC xk),.c (iC xa),.c (iC xn),.c (iC xo)])),(7,11,.v (.one (.at_ 11 0)))]) 9 511 ms79a rfl (by kernel_rfl) (by kernel_rfl) (by kernel_rfl) (by kernel_rfl) (by simp[X4p,trS]) ?_ ?_)
   · simp only[ms79a,X03]
     repeat' apply And.intro
     all_goals first
      |(refine XT.evE rfl ?_;simp[X4p,trS,ins,lkp,del,XD,Qd,XQ,cellsOf,Qe,Wc,Zf,Wd,QY,hxe,hil];done)
      |trivial
   refine XC (s':=⟨⟨74,none⟩,[(1,.v (li v)),(2,.v (li name)),(3,.v (.one (.at_ 1000001 0))),(4,.v (.one (.at_ 1000002 0))),(5,.v (.one (.at_ 1000003 0))),(9,.v (.one (.own 17))),(10,.v (.one (.own 1019))),(11,.v (.one (.at_ 11 0)))],[(11,.box [.c (iC xk),.c (iC xa),.c (iC xn),.c (iC xo)]),(17,.row 4 1 (Wg T N.length)),(1019,.row 3 1 ([iC i]::XB Q)),(900001,.mat 27 3 1 (WE (Wx T name S))),(1000001,.box [.c (.sl 4 (XG N))]),(1000002,.box [.own 900001]),(1000003,.box [.c (.sl 5 (Xs vars)),.c (.sl 6 (Xt hats)),.c (.sl 10 (Xa body))])]⟩) (Xu (fun n=>n) [] rfl (by simp[X4p,trS]) (by simp[X4p,trS]) (by simp)) ?_;refine X0<|(XS ?_);refine RunsN.cutE 1 [] (by simp;rfl) trivial (le_refl _) ?_;refine RunsN.cutR (l:=1) (hi:=([iC i]::XB Q).length) rfl rfl rfl rfl rfl rfl rfl rfl rfl rfl rfl rfl (by simp) (Nat.le_refl _) ?_;refine RunsN.doneE [] (by simp;rfl) trivial ?_;refine X4 ?_;refine X5<|(Xd [1,2,3,4,5,9,36,37] (fun(u:Nat×List Nat×List Nat)=>[(10,.v (.one (.own 1019))),(38,.v (li u.1))]) (fun u=>[(17,.row 4 1 (Wg u.2.1 N.length)),(36,.row 3 1 (toR xn xo)),(1019,.row 3 1 (XB u.2.2)),(900001,.mat 27 3 1 (WE (Wx u.2.1 name S))),(1000001,.box [.c (.sl 4 (XG N))]),(1000002,.box [.own 900001]),(1000003,.box [.c (.sl 5 (Xs vars)),.c (.sl 6 (Xt hats)),.c (.sl 10 (Xa body))])]) (fun u=>u.1≤2∧Bf N df v i0 u.2.1 u.2.2 (pend i ⟨xk,xa,xn,xo⟩ u.1)∧2*(N.length - u.2.1.length)+u.2.2.length+1≤M0) (fun u=>2 - u.1) (0,T,Q) ⟨Nat.zero_le _,hB2,by show 2*(N.length - T.length)+Q.length+1≤M0;simp only[List.length_cons]at hM0;omega⟩ ?_ ?_)
   · exact Xu (fun n=>if n=1019 then 31 else n) [] rfl (by simp[*,upS,X8]) (by simp[*,upS,toR]) (by simp[upS])
   rintro⟨k,T1,Q1⟩ ⟨hk,hB1,hM1⟩;simp only[upS,X8,Xy]
   try simp only[X8,KN,Nat.reduceBEq,if_true,if_false,ins,Nat.reduceLT]
   simp only at hk hB1 hM1;clear hB2 hxe hec htq;refine X4 ?_;refine X0<|(X9 rfl (fun h10=>Xb ?_) (fun h10=>?_))
   · try simp only[BN]at h10
     have hk2:k<2:=by
      have:(k:Int)<2:=by simpa using h10
      omega
     have hwk:=XA hk2 (by omega);have hkk:k+1≤2:=hk2;have hto:=Xbv (xn:=xn) (xo:=xo) hk2
     have htok:X1B N.length (toA xn xo k):=by
      unfold toA;split
      · exact hxo.1
      exact hxo.2.1
     obtain⟨to,hto1⟩:∃x,toA xn xo k=x:=⟨_,rfl⟩;rw[hto1]at hto htok;clear h10;refine X0<|X5<|X0<|X3 ?_;rcases htok with rfl|⟨t,rfl,htl⟩
     · refine X0<|X0<|X3 ?_;refine(Xe rfl (fun h13=>?_) fun h13=>?_)
       · (try simp only[BN]at h13);refine(Xg ?_);refine X3 ?_;exact⟨(k+1,T1,Q1),⟨hkk,hB1.pass (.inl (by show toA xn xo k<0;omega)),hM1⟩,by simp only;omega,X6 (fun n=>n) []⟩
       simp at h13
     have hsg:=X4l (T:=T1) htl;have htl2:t+1≤N.length:=htl;clear htl;refine X0<|X0<|X3 ?_;refine(Xe rfl (fun h13=>?_) fun h13=>?_)
     · try simp only[BN]at h13
       have hin:t∈T1:=by
        rcases(by simpa using h13:(t:Int)<0∨t∈T1)with h|h
        · omega
        exact h
       refine(Xg ?_);refine X3 ?_;exact⟨(k+1,T1,Q1),⟨hkk,hB1.pass (.inr ⟨t,hto1,hin⟩),hM1⟩,by simp only;omega,X6 (fun n=>n) []⟩
     (try simp only[BN]at h13);have hnin:t∉T1:=by simpa using h13
     have htl:t<N.length:=htl2;obtain⟨y,hy,_⟩:=Xq htl;have hB3:=hB1.add hx hc hk2 hto1 hnin hy;have hset:=Xcq (T:=T1) htl;obtain⟨l,hl,_⟩:=Xq (show t<S.length by omega);have hSt:=X0F (T:=T1) (d:=name) hl;rw[if_neg hnin]at hSt;have hrg:=rowE_get hSt;have hrs:=rowE_set (Wx T1 name S) t l name;rw[XcK hl hnin]at hrs;have ht1:t+1≤(WE (Wx T1 name S)).length:=by simp;omega
     have cd:=hdef t y hy;obtain⟨dy,hdy⟩:∃z,df y=z:=⟨_,rfl⟩;rw[hdy]at cd hB3;have hroom:Qa (l.length+1) 8:=Xx (by have:=hSl l (List.mem_of_getElem? hl);omega) (by decide);have hroomQ:Qa (Q1.length+1) 8:=Xx (by omega) (by decide);have hlen3:=hB3.len;simp only[List.length_append,List.length_singleton]at hlen3;clear h13 hSt hl hy hdef htl;refine X4 ?_;refine XC (s':=⟨⟨74,none⟩,[(1,.v (li v)),(2,.v (li name)),(3,.v (.one (.at_ 1000001 0))),(4,.v (.one (.at_ 1000002 0))),(5,.v (.one (.at_ 1000003 0))),(9,.v (.one (.own 17))),(10,.v (.one (.own 1019))),(13,.v (li t)),(36,.v (.one (.own 36))),(37,.v (li 2)),(38,.v (li k))],[(17,.row 4 1 (Wg (T1++[t]) N.length)),(36,.row 3 1 (toR xn xo)),(1019,.row 3 1 (XB Q1)),(900001,.mat 27 3 1 (WE (Wx T1 name S))),(1000001,.box [.c (.sl 4 (XG N))]),(1000002,.box [.own 900001]),(1000003,.box [.c (.sl 5 (Xs vars)),.c (.sl 6 (Xt hats)),.c (.sl 10 (Xa body))])]⟩) (Xu (fun n=>n) [] rfl (by simp) (by simp) (by simp)) ?_
     refine X0<|(HT_matD (X4p [(1,.v (li v)),(2,.v (li name)),(3,.v (.one (.at_ 1000001 0))),(4,.v (.one (.at_ 1000002 0))),(5,.v (.one (.at_ 1000003 0))),(9,.v (.one (.own 17))),(10,.v (.one (.own 1019))),(13,.v (li t)),(36,.v (.one (.own 36))),(37,.v (li 2)),(38,.v (li k))] [(17,.row 4 1 (Wg (T1++[t]) N.length)),(36,.row 3 1 (toR xn xo)),(1019,.row 3 1 (XB Q1)),(900001,.mat 27 3 1 (WE (Wx T1 name S))),(1000001,.box [.c (.sl 4 (XG N))]),(1000002,.box [.own 900001]),(1000003,.box [.c (.sl 5 (Xs vars)),.c (.sl 6 (Xt hats)),.c (.sl 10 (Xa body))])] [(17,.row 4 1 (Wg (T1++[t]) N.length)),(36,.row 3 1 (toR xn xo)),(60,.row 3 1 [[iC name]]),(1019,.row 3 1 (XB Q1)),(900001,.mat 27 3 1 (WE (Wx T1 name S))),(1000001,.box [.c (.sl 4 (XG N))]),(1000002,.box [.own 900001]),(1000003,.box [.c (.sl 5 (Xs vars)),.c (.sl 6 (Xt hats)),.c (.sl 10 (Xa body))])] [(17,.row 4 1 (Wg (T1++[t]) N.length)),(36,.row 3 1 (toR xn xo)),(60,.row 3 1 [[iC name]]),(1019,.row 3 1 (XB Q1)),(900001,.mat 27 3 1 (WE (Wx T1 name S))),(1000001,.box [.c (.sl 4 (XG N))]),(1000002,.box [.own 900001]),(1000003,.box [.c (.sl 5 (Xs vars)),.c (.sl 6 (Xt hats)),.c (.sl 10 (Xa body))])] [(0,53,.v (.one (.own 900001))),(1,54,.v (li t)),(2,55,.v (.one (.own 900001))),(3,56,.v (li t)),(4,57,.v (.one (.el 900001 1 t 0))),(5,58,.v (.one (.sub 900001 t))),(6,59,.v (li name)),(7,60,.v (.one (.own 60))),(8,61,.v (.one .any)),(9,62,.v (.one .any))]) (X4Z [(1,.v (li v)),(2,.v (li name)),(3,.v (.one (.at_ 1000001 0))),(4,.v (.one (.at_ 1000002 0))),(5,.v (.one (.at_ 1000003 0))),(9,.v (.one (.own 17))),(10,.v (.one (.own 1019))),(13,.v (li t)),(36,.v (.one (.own 36))),(37,.v (li 2)),(38,.v (li k))] [(17,.row 4 1 (Wg (T1++[t]) N.length)),(36,.row 3 1 (toR xn xo)),(60,.row 3 1 [[iC name]]),(1019,.row 3 1 (XB Q1)),(1000001,.box [.c (.sl 4 (XG N))]),(1000002,.box [.own 900001]),(1000003,.box [.c (.sl 5 (Xs vars)),.c (.sl 6 (Xt hats)),.c (.sl 10 (Xa body))])] [(0,53,.v (.one (.own 900001))),(1,54,.v (li t)),(2,55,.v (.one (.own 900001))),(3,56,.v (li t)),(4,57,.v (.one (.el 900001 1 t 0))),(5,58,.v (.one (.sub 900001 t))),(6,59,.v (li name)),(7,60,.v (.one (.own 60))),(8,61,.v (.one .any)),(9,62,.v (.one .any))]) 11 2047 ms79b 8 (n:=900001) (i:=t) (e:=27) (sz:=1) (e':=3) (eM:=27) (rows:=WE (Wx T1 name S)) (rs:=XB l) (more:=[[iC name]]) (O:=[(17,.row 4 1 (Wg (T1++[t]) N.length)),(36,.row 3 1 (toR xn xo)),(60,.row 3 1 [[iC name]]),(1019,.row 3 1 (XB Q1)),(900001,.mat 27 3 1 (WE (Wx T1 name S))),(1000001,.box [.c (.sl 4 (XG N))]),(1000002,.box [.own 900001]),(1000003,.box [.c (.sl 5 (Xs vars)),.c (.sl 6 (Xt hats)),.c (.sl 10 (Xa body))])])
      (sF:=⟨⟨74,none⟩,Wz (RV.mv 900001 61) (X4Z [(1,.v (li v)),(2,.v (li name)),(3,.v (.one (.at_ 1000001 0))),(4,.v (.one (.at_ 1000002 0))),(5,.v (.one (.at_ 1000003 0))),(9,.v (.one (.own 17))),(10,.v (.one (.own 1019))),(13,.v (li t)),(36,.v (.one (.own 36))),(37,.v (li 2)),(38,.v (li k))] [(17,.row 4 1 (Wg (T1++[t]) N.length)),(36,.row 3 1 (toR xn xo)),(60,.row 3 1 [[iC name]]),(1019,.row 3 1 (XB Q1)),(1000001,.box [.c (.sl 4 (XG N))]),(1000002,.box [.own 900001]),(1000003,.box [.c (.sl 5 (Xs vars)),.c (.sl 6 (Xt hats)),.c (.sl 10 (Xa body))])] [(0,53,.v (.one (.own 900001))),(1,54,.v (li t)),(2,55,.v (.one (.own 900001))),(3,56,.v (li t)),(4,57,.v (.one (.el 900001 1 t 0))),(5,58,.v (.one (.sub 900001 t))),(6,59,.v (li name)),(7,60,.v (.one (.own 60))),(8,61,.v (.one .any)),(9,62,.v (.one .any))] [10]).regs,Wz (Ob.mv 900001 61) (ins 61 (.mat 27 3 1 ((WE (Wx T1 name S)).set t (some (XB l++[[iC name]])))) (del 900001 [(17,.row 4 1 (Wg (T1++[t]) N.length)),(36,.row 3 1 (toR xn xo)),(60,.row 3 1 [[iC name]]),(1019,.row 3 1 (XB Q1)),(900001,.mat 27 3 1 (WE (Wx T1 name S))),(1000001,.box [.c (.sl 4 (XG N))]),(1000002,.box [.own 900001]),(1000003,.box [.c (.sl 5 (Xs vars)),.c (.sl 6 (Xt hats)),.c (.sl 10 (Xa body))])]))⟩)
      rfl (by kernel_rfl) (by kernel_rfl) (by kernel_rfl) (by kernel_rfl) rfl rfl rfl rfl rfl rfl rfl rfl rfl rfl rfl rfl rfl (by decide) (by decide) (by simp) (by simp) ty3 ty27 ty27 rfl rfl rfl rfl (by simp[lkp]) hrg (by simpa using hroom) (by simp[X4p,trS]) ?_ ?_)
     · simp only[ms79b,X03]
       repeat' apply And.intro
       all_goals first
        |(refine stD_w (by rfl) (by decide) ?_;refine XT.evE rfl ?_;simp[X4p,trS,ins,lkp,del,XD,Qd,XQ,cellsOf,Qe,Wc,Zf,Wd,QY,hrg,ht1];done)
        |(refine stD_p (by rfl) (by rfl) (by rfl) (by simp[X4p]) (by simp[X4p,trS,ins]) (by simp[X4p,trS,ins,QY,lkp]) (by simp[X4p,trS,ins]) (by rfl) (by simp[X4p,X4Z,trS,ins,del]);done)
        |(refine stD_q (by decide) (by rfl) (by rfl) (by rfl) (by simp[X4Z,trS,ins]) (by simp[X4Z,trS,ins]) (by rfl) (by simp[X4Z,trS,ins]);done)
        |(refine stD_r (dst:=53) (r:=.v (.one (.own 900001))) (by decide) (by rfl) (by decide) rfl rfl rfl (by decide) (by rfl) (.inr (by simp[X4Z,trS,ins,lkp])) (by simp[X4Z,trS,ins]);done)
        |(refine stD_r (dst:=54) (r:=.v (li t)) (by decide) (by rfl) (by decide) rfl rfl rfl (by decide) (by rfl) (.inl (by simp[X4Z,trS,ins,lkp])) (by simp[X4Z,trS,ins]);done)
        |(refine stD_z (by decide) (by decide) (by rfl) (by simp[X4Z,trS,ins]) (by rfl) (by rfl);done)
        |trivial
     refine XC (s':=⟨⟨74,none⟩,[(1,.v (li v)),(2,.v (li name)),(3,.v (.one (.at_ 1000001 0))),(4,.v (.one (.at_ 1000002 0))),(5,.v (.one (.at_ 1000003 0))),(9,.v (.one (.own 17))),(10,.v (.one (.own 1019))),(13,.v (li t)),(36,.v (.one (.own 36))),(37,.v (li 2)),(38,.v (li k))],[(17,.row 4 1 (Wg (T1++[t]) N.length)),(36,.row 3 1 (toR xn xo)),(1019,.row 3 1 (XB Q1)),(900001,.mat 27 3 1 (WE (Wx (T1++[t]) name S))),(1000001,.box [.c (.sl 4 (XG N))]),(1000002,.box [.own 900001]),(1000003,.box [.c (.sl 5 (Xs vars)),.c (.sl 6 (Xt hats)),.c (.sl 10 (Xa body))])]⟩) (Xu (fun n=>if n=900001 then 61 else n) [] rfl (by simp[X4Z,trS,Wz,RV.mv,TV.mv,CV.mv,ins]) (by simp[Wz,Ob.mv,CV.mv,hrs,del,ins]) (by simp)) ?_;refine Xk [⟨true,.v (li dy),none⟩] ?_ ?_
     · first|exact cd _|exact trivial|simpa[*]using cd _
     refine(Xe rfl (fun h19=>?_) fun h19=>?_)
     · (try simp only[BN]at h19);have hdv:¬dy=v:=by simpa using h19
       rw[if_neg hdv]at hB3;clear h19;refine X3 ?_;refine X3 ?_;exact⟨(k+1,T1++[t],Q1++[t]),⟨hkk,hB3,by simp only[List.length_append,List.length_singleton];omega⟩,by simp only;omega,X6 (fun n=>if n=1019 then 72 else n) []⟩
     (try simp only[BN]at h19);have hdv:dy=v:=by simpa using h19
     rw[if_pos hdv]at hB3;clear h19;refine X3 ?_;exact⟨(k+1,T1++[t],Q1),⟨hkk,hB3,by simp only[List.length_append,List.length_singleton];omega⟩,by simp only;omega,X6 (fun n=>n) []⟩
   try simp only[BN]at h10
   have hk2:k=2:=by
    have:¬(k:Int)<2:=by simpa using h10
    omega
   subst hk2;clear h10;refine(Xg ?_);exact⟨(T1,Q1),⟨hB1.next,by show 2*(N.length - T1.length)+Q1.length≤2*N.length+1;simp only[List.length_cons]at hM0 hM;omega⟩,by show 2*(N.length - T1.length)+Q1.length<2*(N.length - T.length)+(i::Q).length;omega,X6 (fun n=>n) []⟩
 simp at h4
end Go.Proofs.YtppjennamodfdaaGreat

namespace Go.Proofs.YtppjennamodfdaaGreat
open Go Go.Hl
structure Ou (f:Fl) (i:Inp) (A:List Int) (X:List Int) (P M:Fl) (O:List Int) (t1 t2:Int):Prop where
 cb:∀d,Con Tryz.prog 12 false [aF f,lI A] (.tup [lI X,li 0]) none d
 cp:∀d,Con Tryz.prog 27 false [aF f,lI X] (.tup [aF P,li 0]) none d
 cc:∀d,Con Tryz.prog 25 true [aF P] (.v (li 0)) none d
 cr:∀d,Con Tryz.prog 32 false [aF P,aI i] (.tup [.agg [.c (.sl 1 (Xj O)),.c (iC t1)],li 0]) none d
 cm:∀d,Con Tryz.prog 33 false [aF f,lI X] (.v (aF M)) none d
 cr2:∀d,Con Tryz.prog 32 false [aF M,aI i] (.tup [.agg [.c (.sl 1 (Xj O)),.c (iC t2)],li 0]) none d
 lO:O.length≤1000000000
end Go.Proofs.YtppjennamodfdaaGreat

namespace Go.Proofs.YtppjennamodfdaaGreat
open Go Go.Hl
structure Uo (f:Fl) (i:Inp) (A:List Int) (a b m ND:List Int) (M:Fl) (O:List Int) (t1 t2:Int):Prop where
 cn:∀d,Con Tryz.prog 20 false [aF f,lI A] (.tup [lI ND,li 0]) none d
 cm:∀d,Con Tryz.prog 33 false [aF f,lI A] (.v (aF M)) none d
 cr:∀d,Con Tryz.prog 32 false [aF M,aI i] (.tup [.agg [.c (.sl 1 (Xj O)),.c (iC t1)],li 0]) none d
 cr2:∀d,Con Tryz.prog 32 false [aF M,.agg [.c (.sl 1 (Xj (selK 1 f.vars m))),.c (.sl 1 (Xj (selK 2 f.vars m))),.c (.sl 1 (Xj (selK 3 f.vars m)))]] (.tup [.agg [.c (.sl 1 (Xj O)),.c (iC t2)],li 0]) none d
 lO:O.length≤1000000000
 lN:ND.length≤1000000000
 lm:m.length=f.vars.length
 get:∀v:Nat,v<f.vars.length→∃x y,a[v]? =some x∧b[v]? =some y∧m[v]? =some (if decide ((v:Int)∈ND)=true then x else y)
theorem neL_len {f:Fl} (h:Sm f) {q:List Int} (hq:okQ (szL f.body) q):(neL f q).length≤1000000000:=by
 have hn:(Q5 f).length=szL f.body:=by rw[Qy,XK]
 have hs:=(Wl h).hn;rw[XK]at hs;have hc:=(We (X10 h) (l0:=QL q) (by rw[hn];exact hq.nat)).1.len;unfold neL neA;rw[List.length_mergeSort];refine Nat.le_trans (X45 _ _) ?_;simp only[List.length_nil,Nat.zero_add]
 have key:∀o,(ndA f (flL f.body) (rdT f) o).length≤10000:=by
  intro o;unfold ndA;split
  · rename_i s r hs2 hr;have h1:=((Wl h).rdl r (List.mem_of_getElem? hr)).1;rw[List.length_append];have h2:=X9f (flL f.body).length (X1s (flL f.body) s r);have h3:=X9O (flL f.body) s r
    have h4:(if s.do_=5 then hatV f.hats s.n.toNat else []).length≤1000:=by
     split
     · unfold hatV;split
       · rename_i g hg;have:=X7B g.term;have h5:=Z5 (List.mem_of_getElem? hg);have h6:=h.nodes;omega
       simp
     simp
    omega
  simp
 have:∀l:List Nat,(l.flatMap (ndA f (flL f.body) (rdT f))).length≤10000*l.length:=by
  intro l
  induction l with
  |nil=>simp
  | cons o l ih=>
    have:=key o;simp only[List.flatMap_cons,List.length_append,List.length_cons];omega
 have h7:=this (Zh (Q5 f) (QL q));omega
end Go.Proofs.YtppjennamodfdaaGreat
