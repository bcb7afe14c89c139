/- Part 8: contracts of functions of the program and of the reference, and plain facts about what they compute; used by the proof of the claimed statement. Conditions: as each theorem states. -/
import Derived.Test.YtfjidddhehckoaaGreatK7
import Derived.Test.YtfjidddhehckoaaGreatK1
set_option linter.unusedSimpArgs false
set_option linter.unusedVariables false
set_option linter.unnecessarySimpa false
set_option maxRecDepth 100000
set_option maxHeartbeats 2000000
namespace Go.Proofs.YtfjidddhehckoaaGreat
open Go Go.Hl
theorem checkP_con (f:Fl) (hv:f.vars.length≤1000000) (hh:f.hats.length≤1000000) (hn:nodesS f.body+nodesH f.hats≤900000000) (hb:bndL f.body=true) (d:Nat):
  Con Tryz.prog 98 true [aF f] (.v (li (codeC f))) none d:=by
 obtain⟨res,hres⟩:∃r,codeC f=r:=⟨_,rfl⟩;rw[hres];have hso:=sizes_over f;have cvars:=varsP_con f.vars hv;have chat:=fun hg=>hatsP_con f hg hv hh (fun h hm=>by have:=nodesH_mem hm;omega);have cst:=fun hg=>stepsP_con f hg hv f.body (by omega) hb;have cup:=fun ho=>upper_con f.body (by omega) ho;have cms:=msteps_con f.body 1 0 false (by decide) (by decide) (by omega);have hms:=mSs_le f.body 1 (0,false);have hgood:varsC f.vars=0→goodV f.vars:=varsC_good;have hok:ssC f.vars f.hats.length f.body true=0→okL f.body=true:=ssC_ok _ _;have hcmp:=fun h=>@bd_cmp f.body h;unfold codeC overL at hres;unfold mF at hso;obtain⟨vars,hats,body⟩:=f;simp only at hv hh hn hb hres hso cvars chat cst cup cms hms hgood hok hcmp;obtain⟨m0,hm0⟩:∃m,mSs body 1 (0,false)=m:=⟨_,rfl⟩;rw[hm0]at cms hms hso;obtain⟨c0,b0⟩:=m0;simp only at cms hms;obtain⟨mE,hmE⟩:∃m,mH hats (c0,b0)=m:=⟨_,rfl⟩;rw[hmE]at hso;obtain⟨VC,hVC⟩:∃x,varsC vars=x:=⟨_,rfl⟩;obtain⟨HC,hHC⟩:∃x,hcs vars [] hats=x:=⟨_,rfl⟩;obtain⟨SC,hSC⟩:∃x,ssC vars hats.length body true=x:=⟨_,rfl⟩;rw[hVC]at cvars hres hgood;rw[hHC]at chat hres;rw[hSC]at hres hok;have cst:=fun hg=>cst hg true;rw[hSC]at cst;clear hVC hHC hSC hm0;refine con_of_HTA Tryz.func98 ?_;simp only[Tryz.f98];simp only[aF,Fl.enc,List.map_cons,List.map_nil]at chat cst⊢;refine HT_sA ?_;refine HT_sA ?_;refine HT_seq<|(HT_runIO 2 (.tup []) ([iC c0,bC b0]) rfl (by simp[*];rfl) (by simp[ioOf, *];first|exact⟨rfl,rfl,rfl,rfl,rfl⟩|exact⟨rfl,rfl,rfl,rfl⟩|exact⟨rfl,rfl,rfl⟩|exact⟨rfl,rfl⟩|rfl) (cms) (by simp) (by simp[*];rfl) ?_);refine HT_seq<|HT_seq<|HT_runA ?_;refine HT_block<|(HT_loopU [1,3,14,15] (fun(x:Nat×Int×Bool)=>[(16,.v (li x.1))]) (fun x=>[(1,.box [.c (.sl 5 (encVs vars)),.c (.sl 6 (encHs hats)),.c (.sl 10 (encSs body))]),(3,.box [.c (iC x.2.1),.c (bC x.2.2)])]) (fun x=>x.1≤hats.length∧mH (hats.drop x.1) x.2=mE∧0≤x.2.1∧x.2.1+nodesH (hats.drop x.1)≤1000000000) (fun x=>hats.length - x.1) (0,c0,b0) ⟨Nat.zero_le _,by simpa using hmE,by simp only;omega,by simp only[List.drop_zero];omega⟩ ?_ ?_)
 · exact le_mkA (fun n=>n) []
 rintro⟨k,m,q⟩ ⟨hk,hJ,hm,hbb⟩;simp only[upS,keepS,insS]
 try simp only[keepS,KN,Nat.reduceBEq,if_true,if_false,ins,Nat.reduceLT]
 simp only at hk hJ hm hbb;clear hmE hms cms;refine HT_sA ?_;refine HT_seq<|(HT_cond rfl (fun h6=>HT_skip ?_) (fun h6=>?_))
 · (try simp only[BN]at h6);have hlt:k<hats.length:=by omega
   obtain⟨h,he,hd⟩:=at_lt hlt;have hw1:=wrap1 hlt (by omega);have hk1:k+1≤hats.length:=hlt;rw[hd]at hJ hbb;simp only[mH,nodesH]at hJ hbb;have hle:=mTm_le h.term 1 (m,q);have cmt:=mterm_con h.term 1 m q (by decide) hm (by omega);obtain⟨nm,lo,hi,⟨o,tn,ks⟩⟩:=h;simp only at hle cmt hJ hbb;obtain⟨m1,hm1⟩:∃x,mTm (.mk o tn ks) 1 (m,q)=x:=⟨_,rfl⟩;rw[hm1]at cmt hle hJ;obtain⟨c1,b1⟩:=m1;simp only[aT,Tm.enc,List.map_cons,List.map_nil]at cmt hle;clear hlt h6 hd hm1 hso hres chat cst cup hok hcmp;refine HT_seq<|HT_block<|HT_seq<|HT_runA ?_;refine HT_scA [⟨true,.v (lb (q||decide (1024<m))),none⟩] ?_ ?_
   · first|exact overP_con _ _ _|exact trivial|simpa[*]using overP_con _ _ _
   refine(HT_cs rfl (fun h9=>?_) fun h9=>?_)
   · try simp only[BN]at h9
     have hov:over (m,q)=false:=by
      simp only[over,Bool.or_eq_false_iff,decide_eq_false_iff_not]
      first|exact h9|simpa using h9
     rw[if_neg (by rw[hov];decide)]at hJ;clear hov;refine(HT_runIO 2 (.tup []) ([iC c1,bC b1]) rfl (by simp[*];rfl) (by simp[ioOf, *];first|exact⟨rfl,rfl,rfl,rfl,rfl⟩|exact⟨rfl,rfl,rfl,rfl⟩|exact⟨rfl,rfl,rfl⟩|exact⟨rfl,rfl⟩|rfl) (cmt) (by simp) (by simp[*];rfl) ?_);refine HT_runA ?_;exact⟨(k+1,c1,b1),⟨hk1,hJ,by simp only;omega,by simp only;omega⟩,by simp only;omega,le_mkA (fun n=>n) []⟩
   try simp only[BN]at h9
   have hov:over (m,q)=true:=by
    simp only[over,Bool.or_eq_true,decide_eq_true_eq]
    first|exact h9|simpa using h9
   rw[if_pos hov]at hJ;clear hov;refine HT_runA ?_;exact⟨(k+1,m,q),⟨hk1,hJ,hm,by simp only;omega⟩,by simp only;omega,le_mkA (fun n=>n) []⟩
 (try simp only[BN]at h6);have hkl:k=hats.length:=by omega
 subst hkl;rw[List.drop_length]at hJ;simp only[mH]at hJ;subst hJ;simp only[over,Bool.or_eq_true,decide_eq_true_eq]at hso;refine(HT_exit ?_);refine HT_seq<|HT_seq<|(HT_runcA [⟨true,.v (lb (q||decide (1024<m))),none⟩] ?_ ?_)
 · first|exact overP_con _ _ _|exact trivial|simpa[*]using overP_con _ _ _
 refine(HT_cs rfl (fun h16=>?_) fun h16=>?_)
 · try simp only[BN]at h16
   rw [if_pos (hso.2 (by
       simp only[or_assoc]at h16;rcases h16 with h|h|h|h
       · exact .inl (by omega)
       · exact .inr (.inl (by omega))
       · exact .inr (.inr (.inl h))
       exact .inr (.inr (.inr h))))]at hres
   subst hres;refine HT_sA ?_;exact HT_rA
 try simp only[BN]at h16
 rw [if_neg (by
     rw[hso];rintro(h|h|h|h)
     · omega
     · omega
     · exact absurd h (by simp[h16])
     omega)]at hres
 refine HT_seq<|HT_seq<|(HT_runcA [⟨true,.v (li VC),none⟩] ?_ ?_)
 · first|exact cvars _|exact trivial|simpa[*]using cvars _
 refine HT_sA ?_;refine(HT_cs rfl (fun h21=>?_) fun h21=>?_)
 · (try simp only[BN]at h21);rw[if_neg h21]at hres;subst hres;refine HT_sA ?_;exact HT_rA
 (try simp only[BN]at h21);have hv0:VC=0:=by simpa using h21
 have hg:=hgood hv0;have chat:=chat hg;have cst:=cst hg;rw[if_pos hv0]at hres;clear cvars hgood h21;refine HT_seq<|HT_seq<|(HT_runcA [⟨true,.v (li HC),none⟩] ?_ ?_)
 · first|exact chat _|exact trivial|simpa[*]using chat _
 refine HT_sA ?_;refine(HT_cs rfl (fun h26=>?_) fun h26=>?_)
 · (try simp only[BN]at h26);rw[if_neg h26]at hres;subst hres;refine HT_sA ?_;exact HT_rA
 (try simp only[BN]at h26);have hh0:HC=0:=by simpa using h26
 rw[if_pos hh0]at hres;clear chat h26;refine HT_seq<|HT_seq<|(HT_runcA [⟨true,.v (li SC),none⟩] ?_ ?_)
 · first|exact cst _|exact trivial|simpa[*]using cst _
 refine HT_sA ?_;refine(HT_cs rfl (fun h31=>?_) fun h31=>?_)
 · (try simp only[BN]at h31);rw[if_neg h31]at hres;subst hres;refine HT_sA ?_;exact HT_rA
 (try simp only[BN]at h31);have hs0:SC=0:=by simpa using h31
 rw[if_pos hs0]at hres;have hok:=hok hs0;have cup:=cup hok;have hcmp:=hcmp hok;obtain⟨X,hX⟩:∃x,bdL CP body ⟨0,0,0⟩=x:=⟨_,rfl⟩;obtain⟨Y,hY⟩:∃x,bdL CR body ⟨0,0,0⟩=x:=⟨_,rfl⟩;rw[hX]at cup hcmp;rw[hY]at hcmp hres;obtain⟨x1,x2,x3⟩:=X;obtain⟨y1,y2,y3⟩:=Y;simp only[Bool.or_eq_true,decide_eq_true_eq]at hcmp hres;clear hX hY cst h31 hok;refine HT_seq<|HT_seq<|(HT_runcA [⟨true,.v (aB ⟨x1,x2,x3⟩),none⟩] ?_ ?_)
 · first|exact cup _|exact trivial|simpa[*]using cup _
 refine HT_sA ?_;refine(HT_cs rfl (fun h36=>?_) fun h36=>?_)
 · (try simp only[BN]at h36);rw[if_pos (by omega)]at hres;subst hres;refine HT_sA ?_;exact HT_rA
 (try simp only[BN]at h36);rw[if_neg (by omega)]at hres;subst hres;refine HT_sA ?_;exact HT_rA
end Go.Proofs.YtfjidddhehckoaaGreat

namespace Go.Proofs.YtfjidddhehckoaaGreat
open Go Go.Hl
end Go.Proofs.YtfjidddhehckoaaGreat

namespace Go.Proofs.YtfjidddhehckoaaGreat
open Go Go.Hl
def BT:List St→Int
 |[]=>0
 | .mk d c _ n _ a b _::l=>(if d=4 then n*(c+BT a)else if d=3 then c+mx (BT a) (BT b)else c)+BT l
def SX:List St→Int
 |[]=>0
 | .mk d c _ n (.mk o tn _) a b _::l=>(if d=3 then c+mn (SX a) (SX b)else if d=4 then(if o≠0 then onceI n c else if tn≠0 then n*(c+SX a)else onceI n c)else c)+SX l
def noS:List St→Bool
 |[]=>true
 | .mk d _ _ _ _ a b _::l=>decide (d≠6)&&(noS a&&(noS b&&noS l))
end Go.Proofs.YtfjidddhehckoaaGreat

namespace Go.Proofs.YtfjidddhehckoaaGreat
open Go Go.Hl
structure Inn (vars:List Vr) (hv:List Int) (a a':List St):Prop where
 ok:okL a'=true
 run:BT a'≤67108864→∀s:Sta,0≤s.time→s.time+SX a'≤1000000000000→
  (stepsF vars hv a' s).time=s.time+SX a'∧s.time≤(stepsF vars hv a s).time∧(stepsF vars hv a s).time≤s.time+SX a'
end Go.Proofs.YtfjidddhehckoaaGreat

namespace Go.Proofs.YtfjidddhehckoaaGreat
open Go Go.Hl
end Go.Proofs.YtfjidddhehckoaaGreat

namespace Go.Proofs.YtfjidddhehckoaaGreat
open Go Go.Hl
mutual
def szS:St→Nat
 | .mk _ _ _ _ _ a b _=>1+szL a+szL b
def szL:List St→Nat
 |[]=>0
 |s::l=>szS s+szL l
end
mutual
theorem szS_le:∀s:St,szS s≤s.nodes
 | .mk _ _ _ _ t a b _=>by have:=szL_le a;have:=szL_le b;simp only[szS,St.nodes];omega
theorem szL_le:∀l:List St,szL l≤nodesS l
 |[]=>by simp[szL]
 |s::l=>by have:=szS_le s;have:=szL_le l;simp only[szL,nodesS];omega
end
end Go.Proofs.YtfjidddhehckoaaGreat

namespace Go.Proofs.YtfjidddhehckoaaGreat.Lt
open Go Go.Hl
def i64 (n:Int):CD:=.lit (.int .i64 n)
def bC (b:Bool):CD:=.lit (.bool b)
def sC (s:ByteArray):CD:=.lit (.string s)
def li (n:Int):TV:=.one (.c (i64 n))
def lb (b:Bool):TV:=.one (.c (bC b))
def nsC (names:List ByteArray):CD:=.sl 1 (names.map fun s=>[sC s])
def rowB (n:Nat) (M:Nat→Nat→Bool) (a:Nat):List (List CD):=(List.range n).map fun b=>[bC (M a b)]
def matB (n:Nat) (M:Nat→Nat→Bool):CD:=.sl 1 ((List.range n).map fun a=>[.sl 1 (rowB n M a)])
def rowI (n:Nat) (J:Nat→Nat→Int) (a:Nat):List (List CD):=(List.range n).map fun b=>[i64 (J a b)]
def matI (n:Nat) (J:Nat→Nat→Int):CD:=.sl 1 ((List.range n).map fun a=>[.sl 1 (rowI n J a)])
def idxL (names:List ByteArray):List (Value×CD):=names.zipIdx.map fun p=>(.string p.1,i64 p.2)
def latD (names:List ByteArray) (ix bl jn mt:CD):CD:=.ptr [nsC names,ix,bl,jn,mt]
theorem wrap_in {n:Int} (h1:-9223372036854775808≤n) (h2:n≤9223372036854775807):IntKind.i64.wrap n=n:=IntWalk.i64_in n ⟨h1,h2⟩
def inB (n:Nat) (a:Int):Bool:=decide (0≤a)&&decide (a<n)
theorem has_con (names:List ByteArray) (ix bl jn mt:CD) (a:Int) (d:Nat):Con Tryz.prog 71 true [.one (.c (latD names ix bl jn mt)),li a] (.v (lb (inB names.length a))) none d:=by
 refine con_of_HTA Tryz.func71 ?_;simp only[Tryz.f71];refine HT_seq (HT_run (by simp[regsOf,latD,nsC,li,i64];rfl) ?_);refine HT_seq (HT_run (by simp;rfl) ?_);exact HT_ret ⟨.inr rfl,_,le_refl _,⟨_,rfl,by simp[resR,lb,bC,inB]⟩,by simp,fun _=>⟨rfl,by simp⟩⟩
theorem rowB_get {n:Nat} {M:Nat→Nat→Bool} {a b:Nat} (h:b<n):(rowB n M a)[b]? =some [bC (M a b)]:=by simp[rowB,h]
theorem rowB_len (n:Nat) (M:Nat→Nat→Bool) (a:Nat):(rowB n M a).length=n:=by simp[rowB]
theorem upper_con (names:List ByteArray) (n:Nat) (M:Nat→Nat→Bool) (ix jn mt:CD) (a b:Nat) (ha:a<n) (hb:b<n) (d:Nat):
  Con Tryz.prog 154 true [li a,li b,.one (.c (.ptr [latD names ix (matB n M) jn mt]))] (.v (lb (M a b))) none d:=by
 refine con_of_HTA Tryz.func154 ?_;simp only[Tryz.f154];refine HT_seq (HT_run (by simp[regsOf,latD,nsC,li,i64];rfl) ?_);refine HT_seq (HT_run (by simp[matB,ha,rowB_get hb,bC];rfl) ?_);exact HT_ret ⟨.inr rfl,_,le_refl _,⟨_,rfl,by simp[resR,lb,bC]⟩,by simp,fun _=>⟨rfl,by simp⟩⟩
theorem lower_con (names:List ByteArray) (n:Nat) (M:Nat→Nat→Bool) (ix jn mt:CD) (a b:Nat) (ha:a<n) (hb:b<n) (d:Nat):
  Con Tryz.prog 155 true [li a,li b,.one (.c (.ptr [latD names ix (matB n M) jn mt]))] (.v (lb (M b a))) none d:=by
 refine con_of_HTA Tryz.func155 ?_;simp only[Tryz.f155];refine HT_seq (HT_run (by simp[regsOf,latD,nsC,li,i64];rfl) ?_);refine HT_seq (HT_run (by simp[matB,hb,rowB_get ha,bC];rfl) ?_);exact HT_ret ⟨.inr rfl,_,le_refl _,⟨_,rfl,by simp[resR,lb,bC]⟩,by simp,fun _=>⟨rfl,by simp⟩⟩
end Go.Proofs.YtfjidddhehckoaaGreat.Lt

namespace Go.Proofs.YtfjidddhehckoaaGreat.Lt
open Go Go.Hl
def goodB (n:Nat) (R:Nat→Nat→Bool) (a b c:Nat):Bool:=R a c&&R b c&&(List.range n).all fun d=> !(R a d&&R b d&& !R c d)
def bndO (n:Nat) (R:Nat→Nat→Bool) (a b:Nat):Option Nat:=(List.range n).find? (goodB n R a b)
def bndI (n:Nat) (R:Nat→Nat→Bool) (a b:Nat):Int:=((bndO n R a b).getD 0:Nat)
theorem bnd_some {n:Nat} {R:Nat→Nat→Bool} {a b k:Nat} (hk:k<n) (h:∀c,c<k→goodB n R a b c=false) (hg:goodB n R a b k=true):bndO n R a b=some k:=by
 unfold bndO;rw[show n=k+(n - k) by omega,List.range_add,List.find?_append]
 have:(List.range k).find? (goodB n R a b)=none:=by
  rw[List.find?_eq_none];intro x hx;simp[h x (by simpa using hx)]
 rw[show k+(n - k)=n by omega,this];rw[show n - k=(n - k - 1)+1 by omega,List.range_succ_eq_map];simp[hg]
theorem bnd_none {n:Nat} {R:Nat→Nat→Bool} {a b:Nat} (h:∀c,c<n→goodB n R a b c=false):bndO n R a b=none:=by
 unfold bndO;rw[List.find?_eq_none];intro x hx;simp[h x (by simpa using hx)]
def S1 (lat:CD) (g:FuncId) (cap:CD) (n a b k:Nat):HS:=
 ⟨58,[(1,.v (li a)),(2,.v (li b)),(3,.v (.one (.c (.fn g [cap])))),(10,.v (li n)),(18,.v (li n)),(19,.v (li k))],[]⟩
def S2 (lat:CD) (g:FuncId) (cap:CD) (n a b k j:Nat):HS:=
 ⟨58,[(1,.v (li a)),(2,.v (li b)),(3,.v (.one (.c (.fn g [cap])))),(10,.v (li n)),(11,.v (li k)),(18,.v (li n)),(19,.v (li k)),(34,.v (li n)),(35,.v (li j))],[]⟩
theorem bound_con (names:List ByteArray) (n:Nat) (hn:names.length=n) (h12:n≤12) (R:Nat→Nat→Bool) (g:FuncId) (cap ix bl jn mt:CD)
  (hR:∀a b:Nat,a<n→b<n→∀d,Con Tryz.prog g true [li a,li b,.one (.c cap)] (.v (lb (R a b))) none d) (a b:Nat) (ha:a<n) (hb:b<n) (d:Nat):
  Con Tryz.prog 156 true [.one (.c (latD names ix bl jn mt)),li a,li b,.one (.c (.fn g [cap]))] (.tup [li (bndI n R a b),lb (bndO n R a b).isSome]) none d:=by
 have hbi:bndI n R a b=bndI n R a b:=rfl
 conv at hbi=>rhs;unfold bndI
 have hs:=@bnd_some n R a b;have hnn:=@bnd_none n R a b;generalize bndI n R a b=bi at*;generalize bndO n R a b=bo at*;refine con_of_HTA Tryz.func156 ?_;simp only[Tryz.f156];refine HT_seq (HT_run (by simp[regsOf,latD,nsC,li,i64];rfl) ?_);refine HT_scope ?_ (by rintro l s' ⟨h|h,_⟩<;>cases h);refine HT_seq (HT_run (by simp[hn];rfl) ?_);refine HT_seq (HT_label ?_);refine HT_seq (HT_seq (HT_run (by simp;rfl) ?_));refine HT_block (HT_loop (S1 (latD names ix bl jn mt) g cap n a b) (fun k=>k≤n∧∀c,c<k→goodB n R a b c=false) (fun k=>n - k) 0 ⟨Nat.zero_le _,by simp⟩ ?_ ?_)
 · exact le_mk (fun n=>n) [] rfl (by simp[S1,li,i64]) (by simp[S1]) (by simp[S1])
 rintro k ⟨hk,hno⟩;simp only[S1];refine HT_seq (HT_run (by simp[li,i64];rfl) ?_);refine HT_seq (HT_cond rfl (fun h=>HT_skip ?_) (fun h=>HT_exit ?_))
 · have hlt:k<n:=by simpa using h
   have hw:IntKind.i64.wrap ((k:Int)+1)=(k:Int)+1:=wrap_in (by omega) (by omega)
   have hnext:∀s',goodB n R a b k=false→le s' (S1 (latD names ix bl jn mt) g cap n a b (k+1))→(∃x',(x'≤n∧∀c,c<x'→goodB n R a b c=false)∧n - x'<n - k∧le s' (S1 (latD names ix bl jn mt) g cap n a b x')):=by
    intro s' hg hl;refine⟨k+1,⟨hlt,fun c hc=>?_⟩,by omega,hl⟩;by_cases e:c=k
    · subst e;exact hg
    exact hno c (by omega)
   have c1:=fun x (hx:x<n)=>hR a x ha hx;have c2:=fun x (hx:x<n)=>hR b x hb hx;have c3:=fun x (hx:x<n)=>hR k x hlt hx;refine HT_seq (HT_block (HT_seq (HT_run (by simp;rfl) ?_)));refine HT_seq (HT_seq (HT_runc [⟨true,.v (lb (R a k)),none⟩,⟨true,.v (lb (R b k)),none⟩] (by simp[lb,bC];first|exact⟨rfl,Iff.rfl⟩|rfl) ?_ ?_))
   · exact⟨c1 k hlt _,c2 k hlt _⟩
   refine HT_cond rfl (fun h2=>HT_exit ?_) (fun h2=>HT_skip ?_)
   · refine HT_run (by simp[hw];rfl) ?_;refine hnext _ ?_ ?_
     · unfold goodB;cases h3:R a k<;>cases h4:R b k<;>simp_all
     exact le_mk (fun n=>n) [] rfl (by simp[S1,li,i64,hw]) (by simp[S1]) (by simp[S1])
   have hab:R a k=true∧R b k=true:=by
    cases h3:R a k<;>cases h4:R b k<;>simp_all
   refine HT_seq (HT_seq (HT_run (by simp;rfl) ?_));refine HT_block (HT_loop (S2 (latD names ix bl jn mt) g cap n a b k) (fun j=>j≤n∧∀c,c<j→(R a c&&R b c&& !R k c)=false) (fun j=>n - j) 0 ⟨Nat.zero_le _,by simp⟩ ?_ ?_)
   · exact le_mk (fun n=>n) [] rfl (by simp[S2,li,i64]) (by simp[S2]) (by simp[S2])
   rintro j ⟨hj,hall⟩;simp only[S2];refine HT_seq (HT_run (by simp[li,i64];rfl) ?_);refine HT_seq (HT_cond rfl (fun h=>HT_skip ?_) (fun h=>HT_exit ?_))
   · have hlj:j<n:=by simpa using h
     have hwj:IntKind.i64.wrap ((j:Int)+1)=(j:Int)+1:=wrap_in (by omega) (by omega);refine HT_seq (HT_block (HT_seq (HT_run (by simp;rfl) ?_)));refine HT_seq (HT_runc [⟨true,.v (lb (R a j)),none⟩,⟨true,.v (lb (R b j)),none⟩,⟨true,.v (lb (R k j)),none⟩] (by simp[lb,bC];first|exact⟨rfl,Iff.rfl⟩|rfl) ?_ ?_)
     · exact⟨c1 j hlj _,c2 j hlj _,c3 j hlj _⟩
     refine HT_cond rfl (fun h2=>HT_exit ?_) (fun h2=>HT_skip ?_)
     · refine HT_run (by simp[hw];rfl) ?_;refine hnext _ ?_ ?_
       · unfold goodB;simp only[Bool.and_eq_false_iff,List.all_eq_false,List.mem_range];refine .inr ⟨j,hlj,?_⟩;cases h3:R a j<;>cases h4:R b j<;>cases h5:R k j<;>simp_all
       exact le_mk (fun n=>n) [] rfl (by simp[S1,li,i64,hw]) (by simp[S1]) (by simp[S1])
     refine HT_run (by simp[hwj];rfl) ?_;refine⟨j+1,⟨hlj,fun c hc=>?_⟩,by omega,?_⟩
     · by_cases e:c=j
       · subst e;cases h3:R a c<;>cases h4:R b c<;>cases h5:R k c<;>simp_all
       exact hall c (by omega)
     exact le_mk (fun n=>n) [] rfl (by simp[S2,li,i64,hwj]) (by simp[S2]) (by simp[S2])
   have hjn:j=n:=by simp at h;omega
   subst hjn;refine HT_seq (HT_run (by simp;rfl) ?_)
   have hgood:goodB j R a b k=true:=by
    unfold goodB;simp only[Bool.and_eq_true,List.all_eq_true,List.mem_range,hab,true_and];intro c hc;rw[hall c hc];rfl
   have:=hs hlt hno hgood;subst this;rw[hbi];exact HT_ret ⟨.inr rfl,_,le_refl _,⟨_,rfl,by simp[resR,li,i64,lb,bC]⟩,by simp,fun _=>⟨rfl,by simp⟩⟩
 have hkn:k=n:=by simp at h;omega
 subst hkn;refine HT_seq (HT_run (by simp;rfl) ?_);have:=hnn hno;subst this;rw[hbi];exact HT_ret ⟨.inr rfl,_,le_refl _,⟨_,rfl,by simp[resR,li,i64,lb,bC]⟩,by simp,fun _=>⟨rfl,by simp⟩⟩
end Go.Proofs.YtfjidddhehckoaaGreat.Lt

namespace Go.Proofs.YtfjidddhehckoaaGreat.Lt
open Go Go.Hl
def up (M:Nat→Nat→Bool) (x y:Nat) (v:Bool):Nat→Nat→Bool:=fun a b=>if a=x∧b=y then v else M a b
def eqM:Nat→Nat→Bool:=fun a b=>decide (a=b)
def pairsM (order:List (Int×Int)):Nat→Nat→Bool:=order.foldl (fun M p=>up M p.1.toNat p.2.toNat true) eqM
def stM (M:Nat→Nat→Bool) (m a b:Nat):Nat→Nat→Bool:=up M a b (M a b||(M a m&&M m b))
def fwB (M:Nat→Nat→Bool) (m a k:Nat):Nat→Nat→Bool:=(List.range k).foldl (fun M b=>stM M m a b) M
def fwA (n:Nat) (M:Nat→Nat→Bool) (m k:Nat):Nat→Nat→Bool:=(List.range k).foldl (fun M a=>fwB M m a n) M
def fwM (n:Nat) (M:Nat→Nat→Bool) (k:Nat):Nat→Nat→Bool:=(List.range k).foldl (fun M m=>fwA n M m n) M
def closeM (n:Nat) (order:List (Int×Int)):Nat→Nat→Bool:=fwM n (pairsM order) n
theorem fwB_succ (M:Nat→Nat→Bool) (m a k:Nat):fwB M m a (k+1)=stM (fwB M m a k) m a k:=by simp[fwB,List.range_succ]
theorem fwA_succ (n:Nat) (M:Nat→Nat→Bool) (m k:Nat):fwA n M m (k+1)=fwB (fwA n M m k) m k n:=by simp[fwA,List.range_succ]
theorem fwM_succ (n:Nat) (M:Nat→Nat→Bool) (k:Nat):fwM n M (k+1)=fwA n (fwM n M k) k n:=by simp[fwM,List.range_succ]
theorem pairs_succ {order:List (Int×Int)} {k:Nat} {p:Int×Int} (h:order[k]? =some p):pairsM (order.take (k+1))=up (pairsM (order.take k)) p.1.toNat p.2.toNat true:=by
 simp[pairsM,List.take_add_one,h]
def rowsP (n k:Nat):List (Option (List (List CD))):=(List.range n).map fun a=>if a<k then some (rowB n eqM a)else none
def rowsM (n:Nat) (M:Nat→Nat→Bool):List (Option (List (List CD))):=(List.range n).map fun a=>some (rowB n M a)
theorem rowsP_len (n k:Nat):(rowsP n k).length=n:=by simp[rowsP]
theorem rowsM_len (n:Nat) (M:Nat→Nat→Bool):(rowsM n M).length=n:=by simp[rowsM]
theorem rowsM_get {n a:Nat} {M:Nat→Nat→Bool} (h:a<n):(rowsM n M)[a]? =some (some (rowB n M a)):=by simp[rowsM,h]
@[simp] theorem rowsM_getE {n a:Nat} {M:Nat→Nat→Bool} (h:a<(rowsM n M).length):(rowsM n M)[a]'h=some (rowB n M a):=by simp[rowsM]
@[simp] theorem rowB_getE {n a b:Nat} {M:Nat→Nat→Bool} (h:b<(rowB n M a).length):(rowB n M a)[b]'h=[bC (M a b)]:=by simp[rowB]
theorem rowsP_zero (n:Nat):rowsP n 0=List.replicate n none:=by
 apply List.ext_getElem?;intro i;by_cases h:i<n<;>simp[rowsP,List.getElem?_replicate,h]
theorem rowsP_full (n:Nat):rowsP n n=rowsM n eqM:=by
 apply List.ext_getElem?;intro i;by_cases h:i<n<;>simp[rowsP,rowsM,h]
theorem rowsP_free {n k:Nat} (h:k<n):freeAt (rowsP n k) k=true:=by simp[freeAt,rowsP,h]
theorem row_eq {n k:Nat} (h:k<n):(List.replicate n [bC false]).set k [bC true]=rowB n eqM k:=by
 apply List.ext_getElem?;intro i;rw[List.getElem?_set];by_cases e:k=i
 · subst e;simp[rowB,eqM,h]
 by_cases hi:i<n<;>simp[rowB,eqM,hi,e,List.getElem?_replicate]
theorem rowsP_succ {n k:Nat} (h:k<n):(rowsP n k).set k (some (rowB n eqM k))=rowsP n (k+1):=by
 apply List.ext_getElem?;intro i;rw[List.getElem?_set,rowsP_len];by_cases e:k=i
 · subst e;simp[rowsP,h]
 rw[if_neg e];by_cases hi:i<n
 · have e2:(i<k)↔(i<k+1):=by omega
   simp[rowsP,hi,e2]
 simp[rowsP,hi]
theorem rowB_set {n x y:Nat} {M:Nat→Nat→Bool} {v:Bool}:(rowB n M x).set y [bC v]=rowB n (up M x y v) x:=by
 apply List.ext_getElem?;intro i;rw[List.getElem?_set,rowB_len];by_cases e:y=i
 · subst e;by_cases hi:y<n<;>simp[rowB,up,hi]
 rw[if_neg e];by_cases hi:i<n<;>simp[rowB,up,hi,Ne.symm e]
theorem rowB_up {n x y a:Nat} {M:Nat→Nat→Bool} {v:Bool} (h:a≠x):rowB n (up M x y v) a=rowB n M a:=by simp[rowB,up,h]
theorem rowsM_set {n x y:Nat} {M:Nat→Nat→Bool} {v:Bool}:(rowsM n M).set x (some (rowB n (up M x y v) x))=rowsM n (up M x y v):=by
 apply List.ext_getElem?;intro i;rw[List.getElem?_set,rowsM_len];by_cases e:x=i
 · subst e;by_cases hi:x<n<;>simp[rowsM,hi]
 rw[if_neg e];by_cases hi:i<n
 · simp[rowsM,hi,rowB_up (Ne.symm e)]
 simp[rowsM,hi]
theorem matC_rows (n:Nat) (M:Nat→Nat→Bool):CD.sl 1 ((rowsM n M).map fun r=>[matC 1 r])=matB n M:=by simp[rowsM,matB,matC]
def orC (order:List (Int×Int)):CD:=.sl 2 (order.map fun p=>[i64 p.1,i64 p.2])
def box5 (names:List ByteArray) (ix jn mt:CD) (n:Nat):Ob:=.box [.c (nsC names),.c ix,.own n,.c jn,.c mt]
def C1 (names:List ByteArray) (ix jn mt:CD) (order:List (Int×Int)) (n k:Nat):HS:=
 ⟨119,[(0,.v (.one (.at_ 1000000 0))),(1,.v (.one (.c (orC order)))),(4,.v (li n)),(21,.v (li n)),(22,.v (li k))],[(1018,.mat 55 4 1 (rowsP n k)),(1000000,box5 names ix jn mt 1018)]⟩
def C2 (names:List ByteArray) (ix jn mt:CD) (order:List (Int×Int)) (n k:Nat):HS:=
 ⟨119,[(0,.v (.one (.at_ 1000000 0))),(1,.v (.one (.c (orC order)))),(4,.v (li n)),(43,.v (.one (.c (orC order)))),(44,.v (li order.length)),(45,.v (li k))],[(1018,.mat 55 4 1 (rowsM n (pairsM (order.take k)))),(1000000,box5 names ix jn mt 1018)]⟩
def C3 (names:List ByteArray) (ix jn mt:CD) (n:Nat) (M:Nat→Nat→Bool) (m:Nat):HS:=
 ⟨119,[(0,.v (.one (.at_ 1000000 0))),(4,.v (li n)),(61,.v (li n)),(62,.v (li m))],[(1018,.mat 55 4 1 (rowsM n (fwM n M m))),(1000000,box5 names ix jn mt 1018)]⟩
def C4 (names:List ByteArray) (ix jn mt:CD) (n:Nat) (M:Nat→Nat→Bool) (m a:Nat):HS:=
 ⟨119,[(0,.v (.one (.at_ 1000000 0))),(4,.v (li n)),(8,.v (li m)),(61,.v (li n)),(62,.v (li m)),(65,.v (li n)),(66,.v (li a))],[(1018,.mat 55 4 1 (rowsM n (fwA n M m a))),(1000000,box5 names ix jn mt 1018)]⟩
def C5 (names:List ByteArray) (ix jn mt:CD) (n:Nat) (M:Nat→Nat→Bool) (m a b:Nat):HS:=
 ⟨119,[(0,.v (.one (.at_ 1000000 0))),(4,.v (li n)),(8,.v (li m)),(9,.v (li a)),(61,.v (li n)),(62,.v (li m)),(65,.v (li n)),(66,.v (li a)),(69,.v (li n)),(70,.v (li b))],[(1018,.mat 55 4 1 (rowsM n (fwB M m a b))),(1000000,box5 names ix jn mt 1018)]⟩
theorem close_con (names:List ByteArray) (n:Nat) (hn:names.length=n) (h12:n≤12) (order:List (Int×Int)) (hlen:order.length≤200) (hord:∀p∈order,(0≤p.1∧p.1<n)∧0≤p.2∧p.2<n) (ix bl jn mt:CD):
  ConIO Tryz.prog 109 [nsC names,ix,bl,jn,mt] [.one (.c (orC order))] (.tup []) [nsC names,ix,matB n (closeM n order),jn,mt]:=by
 refine con_io_of_HT Tryz.func109 rfl (by kernel_rfl) (Nat.le_of_ble_eq_true rfl) ?_;simp only[Tryz.f109];refine HT_seq (HT_run (by simp[regsOf,nsC,orC,li,i64,hn];rfl) ?_);refine HT_seq (HT_run (by simp[show(n:Int)≤maxLen by unfold maxLen;omega,show 24*(n:Int)≤281474976710656 by omega];rfl) ?_);refine HT_seq (HT_seq (HT_run (by simp;rfl) ?_));refine HT_le (le_mat (k:=n) 18 4 1 (by decide) (by decide) rfl (by simp[RV.menA,TV.menA,CV.menA]) (by simp[Ob.menA,CV.menA])) ?_;refine HT_block (HT_loop (C1 names ix jn mt order n) (fun k=>k≤n) (fun k=>n - k) 0 (Nat.zero_le _) ?_ ?_)
 · refine le_mk (fun n=>18) [] rfl (by simp[C1,li,i64,orC]) ?_ (by simp[C1]);simp[C1,box5,nsC,rowsP_zero]
 intro k hk;simp only[C1];refine HT_seq (HT_run (by simp[li,i64];rfl) ?_);refine HT_seq (HT_cond rfl (fun h=>HT_skip ?_) (fun h=>HT_exit ?_))
 · have hlt:k<n:=by simpa using h
   have hw:IntKind.i64.wrap ((k:Int)+1)=(k:Int)+1:=wrap_in (by omega) (by omega);refine HT_seq (HT_block (HT_seq (HT_run (by simp;rfl) ?_)));refine HT_seq (HT_drun (by kernel_rfl) (by kernel_rfl) (by rfl) (by simp[box5,rowsP_len,hlt,rowsP_free hlt,show(n:Int)≤maxLen by unfold maxLen;omega,show(n:Int)≤281474976710656 by omega];rfl) ?_);refine HT_run (by simp[rowsP_len,hlt,List.getElem?_set_self];rfl) ?_;refine HT_run (by simp[hw];rfl) ?_;refine⟨k+1,hlt,by omega,?_⟩;refine le_mk (fun n=>n) [] rfl (by simp[C1,li,i64,orC,hw]) ?_ (by simp[C1]);have:=row_eq hlt;simp only[bC]at this;simp[C1,box5,nsC,this,rowsP_succ hlt]
 have hkn:k=n:=by simp at h;omega
 subst hkn;rw[rowsP_full];refine HT_seq (HT_seq (HT_run (by simp[orC];rfl) ?_));refine HT_block (HT_loop (C2 names ix jn mt order k) (fun j=>j≤order.length) (fun j=>order.length - j) 0 (Nat.zero_le _) ?_ ?_)
 · exact le_mk (fun n=>n) [] rfl (by simp[C2,li,i64,orC]) (by simp[C2,box5,pairsM]) (by simp[C2])
 intro j hj;simp only[C2];refine HT_seq (HT_run (by simp[li,i64];rfl) ?_);refine HT_seq (HT_cond rfl (fun h=>HT_skip ?_) (fun h=>HT_exit ?_))
 · have hlj:j<order.length:=by simpa using h
   have hw:IntKind.i64.wrap ((j:Int)+1)=(j:Int)+1:=wrap_in (by omega) (by omega)
   obtain⟨x,y,hv,hx,hy⟩:∃x y:Nat,order[j]? =some ((x:Int),(y:Int))∧x<k∧y<k:=by
    have hm:=hord order[j] (List.getElem_mem hlj);refine⟨order[j].1.toNat,order[j].2.toNat,?_,by omega,by omega⟩;rw[List.getElem?_eq_getElem hlj];congr 1;refine Prod.ext ?_ ?_
    · show order[j].1=(order[j].1.toNat:Int);omega
    show order[j].2=(order[j].2.toNat:Int);omega
   have hps:=pairs_succ hv;simp only[Int.toNat_natCast]at hps;generalize pairsM (order.take j)=M at*;refine HT_seq (HT_block (HT_seq (HT_run (by simp[orC,hv,i64];rfl) ?_)));refine HT_drun (by kernel_rfl) (by kernel_rfl) (by rfl) (by simp[box5,rowsM_len,hx,hy,rowsM_get hx,rowB_len,rowB_get hy,bC];rfl) ?_;refine HT_run (by simp[hw];rfl) ?_;refine⟨j+1,hlj,by omega,?_⟩;refine le_mk (fun n=>n) [] rfl (by simp[C2,li,i64,orC,hw]) ?_ (by simp[C2]);have h1:=@rowB_set k x y M true;simp only[bC]at h1;simp[C2,box5,hps,h1,rowsM_set]
 have hjl:j=order.length:=by simp at h;omega
 subst hjl;rw[List.take_length];refine HT_seq (HT_run (by simp;rfl) ?_);refine HT_block (HT_loop (C3 names ix jn mt k (pairsM order)) (fun m=>m≤k) (fun m=>k - m) 0 (Nat.zero_le _) ?_ ?_)
 · exact le_mk (fun n=>n) [] rfl (by simp[C3,li,i64]) (by simp[C3,box5,fwM]) (by simp[C3])
 intro m hm;simp only[C3];refine HT_seq (HT_run (by simp[li,i64];rfl) ?_);refine HT_seq (HT_cond rfl (fun h=>HT_skip ?_) (fun h=>HT_exit ?_))
 · have hlm:m<k:=by simpa using h
   have hwm:IntKind.i64.wrap ((m:Int)+1)=(m:Int)+1:=wrap_in (by omega) (by omega);have hsm:=fwM_succ k (pairsM order) m;generalize fwM k (pairsM order) m=M at*;refine HT_seq (HT_block (HT_seq (HT_run (by simp;rfl) ?_)));refine HT_seq (HT_run (by simp;rfl) ?_);refine HT_block (HT_loop (C4 names ix jn mt k M m) (fun a=>a≤k) (fun a=>k - a) 0 (Nat.zero_le _) ?_ ?_)
   · exact le_mk (fun n=>n) [] rfl (by simp[C4,li,i64]) (by simp[C4,box5,fwA]) (by simp[C4])
   intro a ha;simp only[C4];refine HT_seq (HT_run (by simp[li,i64];rfl) ?_);refine HT_seq (HT_cond rfl (fun h=>HT_skip ?_) (fun h=>HT_exit ?_))
   · have hla:a<k:=by simpa using h
     have hwa:IntKind.i64.wrap ((a:Int)+1)=(a:Int)+1:=wrap_in (by omega) (by omega);have hsa:=fwA_succ k M m a;generalize fwA k M m a=M2 at*;refine HT_seq (HT_block (HT_seq (HT_run (by simp;rfl) ?_)));refine HT_seq (HT_run (by simp;rfl) ?_);refine HT_block (HT_loop (C5 names ix jn mt k M2 m a) (fun b=>b≤k) (fun b=>k - b) 0 (Nat.zero_le _) ?_ ?_)
     · exact le_mk (fun n=>n) [] rfl (by simp[C5,li,i64]) (by simp[C5,box5,fwB]) (by simp[C5])
     intro b hb;simp only[C5];refine HT_seq (HT_run (by simp[li,i64];rfl) ?_);refine HT_seq (HT_cond rfl (fun h=>HT_skip ?_) (fun h=>HT_exit ?_))
     · have hlb:b<k:=by simpa using h
       have hwb:IntKind.i64.wrap ((b:Int)+1)=(b:Int)+1:=wrap_in (by omega) (by omega);have hsb:=fwB_succ M2 m a b;generalize fwB M2 m a b=M3 at*;refine HT_seq (HT_block (HT_seq (HT_run (by simp;rfl) ?_)));refine HT_drun (by kernel_rfl) (by kernel_rfl) (by rfl) (by simp[box5,rowsM_len,hla,hlb,hlm,rowsM_get hla,rowsM_get hlm,rowB_len,rowB_get hlb,rowB_get hlm,bC];rfl) ?_;refine HT_run (by simp[hwb];rfl) ?_;refine⟨b+1,hlb,by omega,?_⟩;refine le_mk (fun n=>n) [] rfl (by simp[C5,li,i64,hwb]) ?_ (by simp[C5]);have h1:=@rowB_set k a b M3 (M3 a b||(M3 a m&&M3 m b));simp only[bC]at h1;simp[C5,box5,hsb,stM,h1,rowsM_set]
     have hbk:b=k:=by simp at h;omega
     subst hbk;refine HT_run (by simp[hwa];rfl) ?_;refine⟨a+1,hla,by omega,?_⟩;exact le_mk (fun n=>n) [] rfl (by simp[C4,li,i64,hwa]) (by simp[C4,box5,hsa]) (by simp[C4])
   have hak:a=k:=by simp at h;omega
   subst hak;refine HT_run (by simp[hwm];rfl) ?_;refine⟨m+1,hlm,by omega,?_⟩;exact le_mk (fun n=>n) [] rfl (by simp[C3,li,i64,hwm]) (by simp[C3,box5,hsm]) (by simp[C3])
 have hmk:m=k:=by simp at h;omega
 subst hmk;refine⟨.inl rfl,_,le_frzM 1018 rfl,⟨_,rfl,rfl⟩,?_⟩;simp[HS.frz,mapL,Ob.frz,CV.frz,del,lkp,box5,matC_rows,closeM,-matC]
end Go.Proofs.YtfjidddhehckoaaGreat.Lt

namespace Go.Proofs.YtfjidddhehckoaaGreat.Lt
open Go Go.Hl
def flp (M:Nat→Nat→Bool):Nat→Nat→Bool:=fun a b=>M b a
def okRow (n:Nat) (M:Nat→Nat→Bool) (a:Nat):Bool:=(List.range n).all fun b=>(bndO n M a b).isSome&&(bndO n (flp M) a b).isSome
def badRow (n:Nat) (M:Nat→Nat→Bool):Nat:=((List.range n).find? fun a=> !okRow n M a).getD n
def rowsJ (n:Nat) (J:Nat→Nat→Int) (k:Nat):List (List CD):=(List.range k).map fun a=>[.sl 1 (rowI n J a)]
def rowZ (n:Nat) (J:Nat→Nat→Int) (a j:Nat):List (List CD):=(List.range n).map fun b=>if b<j then [i64 (J a b)] else [i64 0]
theorem badRow_at {n k:Nat} {M:Nat→Nat→Bool} (hk:k<n) (h:∀a,a<k→okRow n M a=true) (hb:okRow n M k=false):badRow n M=k:=by
 unfold badRow;rw[show n=k+(n - k) by omega,List.range_add,List.find?_append];rw[show k+(n - k)=n by omega]
 have:(List.range k).find? (fun a=> !okRow n M a)=none:=by
  rw[List.find?_eq_none];intro x hx;simp[h x (by simpa using hx)]
 rw[this];rw[show n - k=(n - k - 1)+1 by omega,List.range_succ_eq_map];simp[hb]
theorem badRow_none {n:Nat} {M:Nat→Nat→Bool} (h:∀a,a<n→okRow n M a=true):badRow n M=n:=by
 unfold badRow
 have:(List.range n).find? (fun a=> !okRow n M a)=none:=by
  rw[List.find?_eq_none];intro x hx;simp[h x (by simpa using hx)]
 rw[this];rfl
theorem rowZ_len (n:Nat) (J:Nat→Nat→Int) (a j:Nat):(rowZ n J a j).length=n:=by simp[rowZ]
@[simp] theorem rowZ_getE {n a j b:Nat} {J:Nat→Nat→Int} (h:b<(rowZ n J a j).length):(rowZ n J a j)[b]'h=if b<j then [i64 (J a b)] else [i64 0]:=by simp[rowZ]
theorem rowZ_zero (n:Nat) (J:Nat→Nat→Int) (a:Nat):rowZ n J a 0=List.replicate n [i64 0]:=by
 apply List.ext_getElem?;intro i;by_cases h:i<n<;>simp[rowZ,List.getElem?_replicate,h]
theorem rowZ_full (n:Nat) (J:Nat→Nat→Int) (a:Nat):rowZ n J a n=rowI n J a:=by
 apply List.ext_getElem?;intro i;by_cases h:i<n<;>simp[rowZ,rowI,h]
theorem rowZ_succ {n j:Nat} {J:Nat→Nat→Int} {a:Nat} (h:j<n):(rowZ n J a j).set j [i64 (J a j)]=rowZ n J a (j+1):=by
 apply List.ext_getElem?;intro i;rw[List.getElem?_set,rowZ_len];by_cases e:j=i
 · subst e;simp[rowZ,h]
 rw[if_neg e];by_cases hi:i<n
 · have e2:(i<j)↔(i<j+1):=by omega
   simp[rowZ,hi,e2]
 simp[rowZ,hi]
theorem rowsJ_len (n:Nat) (J:Nat→Nat→Int) (k:Nat):(rowsJ n J k).length=k:=by simp[rowsJ]
theorem rowsJ_succ (n:Nat) (J:Nat→Nat→Int) (k:Nat):rowsJ n J (k+1)=rowsJ n J k++[[.sl 1 (rowI n J k)]]:=by simp[rowsJ,List.range_succ]
def box5b (names:List ByteArray) (ix bl:CD) (j m:Nat):Ob:=.box [.c (nsC names),.c ix,.c bl,.own j,.own m]
def D1 (names:List ByteArray) (ix bl:CD) (n:Nat) (J K:Nat→Nat→Int) (k:Nat):HS:=
 ⟨85,[(1,.v (.one (.at_ 1001 0))),(3,.v (li n)),(4,.v (.one (.fn 154 [(1001,0)]))),(5,.v (.one (.fn 155 [(1001,0)]))),(21,.v (li n)),(22,.v (li k))],
  [(1001,.box [.at_ 1000000 0]),(1003,.row 32 1 (rowsJ n J k)),(1004,.row 32 1 (rowsJ n K k)),(1000000,box5b names ix bl 1003 1004)]⟩
def D2 (names:List ByteArray) (ix bl:CD) (n:Nat) (J K:Nat→Nat→Int) (k j:Nat):HS:=
 ⟨85,[(1,.v (.one (.at_ 1001 0))),(3,.v (li n)),(4,.v (.one (.fn 154 [(1001,0)]))),(5,.v (.one (.fn 155 [(1001,0)]))),(6,.v (li k)),(7,.v (.one (.own 1026))),(8,.v (.one (.own 1028))),(21,.v (li n)),(22,.v (li k)),(29,.v (li n)),(30,.v (li j))],
  [(1001,.box [.at_ 1000000 0]),(1003,.row 32 1 (rowsJ n J k)),(1004,.row 32 1 (rowsJ n K k)),(1026,.row 3 1 (rowZ n J k j)),(1028,.row 3 1 (rowZ n K k j)),(1000000,box5b names ix bl 1003 1004)]⟩
def D3 (names:List ByteArray) (ix bl:CD) (n:Nat) (J K:Nat→Nat→Int) (k:Nat):HS:=
 ⟨85,[(1,.v (.one (.at_ 1001 0))),(3,.v (li n)),(4,.v (.one (.fn 154 [(1001,0)]))),(5,.v (.one (.fn 155 [(1001,0)]))),(7,.v (.one (.c (.sl 1 (rowI n J k))))),(8,.v (.one (.c (.sl 1 (rowI n K k))))),(21,.v (li n)),(22,.v (li k))],
  [(1001,.box [.at_ 1000000 0]),(1003,.row 32 1 (rowsJ n J k)),(1004,.row 32 1 (rowsJ n K k)),(1000000,box5b names ix bl 1003 1004)]⟩
theorem bounds_con (names:List ByteArray) (n:Nat) (hn:names.length=n) (h12:n≤12) (M:Nat→Nat→Bool) (il:List (Value×CD)):
  ConIO Tryz.prog 110 [nsC names,.mp il,matB n M,.lit nilS,.lit nilS] [] (.v (lb (decide (badRow n M=n)))) [nsC names,.mp il,matB n M,.sl 1 (rowsJ n (bndI n M) (badRow n M)),.sl 1 (rowsJ n (bndI n (flp M)) (badRow n M))]:=by
 have hbad:=@badRow_at n;have hnone:=@badRow_none n M;generalize hbr:badRow n M=br;refine con_io_of_HT Tryz.func110 rfl (by kernel_rfl) (Nat.le_of_ble_eq_true rfl) ?_;simp only[Tryz.f110]
 have hup:∀(jn mt:CD) (a b:Nat),a<n→b<n→∀d,Con Tryz.prog 156 true [.one (.c (latD names (.mp il) (matB n M) jn mt)),li a,li b,.one (.c (.fn 154 [.ptr [latD names (.mp il) (matB n M) jn mt]]))] (.tup [li (bndI n M a b),lb (bndO n M a b).isSome]) none d:=
  fun jn mt a b ha hb d=>bound_con names n hn h12 M 154 _ (.mp il) _ jn mt (fun a b ha hb d=>upper_con names n M (.mp il) jn mt a b ha hb d) a b ha hb d
 have hlo:∀(jn mt:CD) (a b:Nat),a<n→b<n→∀d,Con Tryz.prog 156 true [.one (.c (latD names (.mp il) (matB n M) jn mt)),li a,li b,.one (.c (.fn 155 [.ptr [latD names (.mp il) (matB n M) jn mt]]))] (.tup [li (bndI n (flp M) a b),lb (bndO n (flp M) a b).isSome]) none d:=
  fun jn mt a b ha hb d=>bound_con names n hn h12 (flp M) 155 _ (.mp il) _ jn mt (fun a b ha hb d=>lower_con names n M (.mp il) jn mt a b ha hb d) a b ha hb d
 refine HT_seq (HT_run (by simp[regsOf,nsC];rfl) ?_);refine HT_seq (HT_run (by simp[hn];rfl) ?_);refine HT_seq (HT_run (by simp;rfl) ?_);refine HT_seq (HT_run (by simp;rfl) ?_);refine HT_seq (HT_seq (HT_run (by simp;rfl) ?_));refine HT_block (HT_loop (D1 names (.mp il) (matB n M) n (bndI n M) (bndI n (flp M))) (fun k=>k≤n∧∀a,a<k→okRow n M a=true) (fun k=>n - k) 0 ⟨Nat.zero_le _,by simp⟩ ?_ ?_)
 · refine le_mk (fun n=>1) [1003,1004] rfl (by simp[D1,li,i64]) ?_ (by simp[D1]);simp[D1,box5b,nsC,rowsJ]
 rintro k ⟨hk,hall⟩;simp only[D1,box5b];refine HT_seq (HT_run (by simp[li,i64];rfl) ?_);refine HT_seq (HT_cond rfl (fun h=>HT_skip ?_) (fun h=>HT_exit ?_))
 · have hlt:k<n:=by simpa using h
   have hw:IntKind.i64.wrap ((k:Int)+1)=(k:Int)+1:=wrap_in (by omega) (by omega);refine HT_seq (HT_block (HT_seq (HT_run (by simp;rfl) ?_)));refine HT_seq (HT_drun (by kernel_rfl) (by kernel_rfl) (by rfl) (by simp[show(n:Int)≤maxLen by unfold maxLen;omega,show 8*(n:Int)≤281474976710656 by omega];rfl) ?_);refine HT_seq (HT_seq (HT_run (by simp;rfl) ?_));refine HT_block (HT_loop (D2 names (.mp il) (matB n M) n (bndI n M) (bndI n (flp M)) k) (fun j=>j≤n∧∀b,b<j→((bndO n M k b).isSome&&(bndO n (flp M) k b).isSome)=true) (fun j=>n - j) 0 ⟨Nat.zero_le _,by simp⟩ ?_ ?_)
   · exact le_mk (fun n=>if n=1026 then 26 else if n=1028 then 28 else n) [] rfl (by simp[D2,li,i64]) (by simp[D2,box5b,rowZ_zero,i64]) (by simp[D2])
   rintro j ⟨hj,hok⟩;simp only[D2,box5b];refine HT_seq (HT_run (by simp[li,i64];rfl) ?_);refine HT_seq (HT_cond rfl (fun h=>HT_skip ?_) (fun h=>HT_exit ?_))
   · have hlj:j<n:=by simpa using h
     have hwj:IntKind.i64.wrap ((j:Int)+1)=(j:Int)+1:=wrap_in (by omega) (by omega);have c1:=fun d=>hup (.sl 1 (rowsJ n (bndI n M) k)) (.sl 1 (rowsJ n (bndI n (flp M)) k)) k j hlt hlj d;have c2:=fun d=>hlo (.sl 1 (rowsJ n (bndI n M) k)) (.sl 1 (rowsJ n (bndI n (flp M)) k)) k j hlt hlj d;refine HT_seq (HT_block (HT_seq (HT_run (by simp;rfl) ?_)));refine HT_seq (HT_runc [⟨true,.tup [li (bndI n M k j),lb (bndO n M k j).isSome],none⟩] (by simp[box5b,nsC,matB,li,i64,lb,bC];first|exact⟨rfl,Iff.rfl⟩|rfl) (by simpa only[latD,nsC,matB,li,i64,lb,bC]using c1 _) ?_);refine HT_seq (HT_runc [⟨true,.tup [li (bndI n (flp M) k j),lb (bndO n (flp M) k j).isSome],none⟩] (by simp[box5b,nsC,matB,li,i64,lb,bC];first|exact⟨rfl,Iff.rfl⟩|rfl) (by simpa only[latD,nsC,matB,li,i64,lb,bC]using c2 _) ?_);refine HT_seq (HT_seq (HT_run (by simp;rfl) ?_));refine HT_cond rfl (fun h2=>?_) (fun h2=>HT_skip ?_)
     · have hb:okRow n M k=false:=by
        unfold okRow;rw[List.all_eq_false];refine⟨j,by simpa using hlj,?_⟩;simp only[Bool.or_eq_true,Bool.not_eq_true',Option.isSome_eq_false_iff,Option.isNone_iff_eq_none]at h2;rcases h2 with h|h<;>simp[h]
       have hbr2:=hbad hlt hall hb;have e:br=k:=hbr.symm.trans hbr2;subst e;refine HT_seq (HT_run (by simp;rfl) ?_);refine HT_ret ⟨.inr rfl,_,le_trans (le_frz 1003 rfl) (le_frz 1004 rfl),⟨_,rfl,?_⟩,?_⟩
       · simp[resR,lb,bC];omega
       simp[box5b,matB,nsC]
     refine HT_run (by simp[rowZ_len,hlj];rfl) ?_;refine HT_run (by simp[hwj];rfl) ?_
     have hok2:((bndO n M k j).isSome&&(bndO n (flp M) k j).isSome)=true:=by
      have h2':((bndO n M k j).isNone||(bndO n (flp M) k j).isNone)=false:=h2;cases h3:bndO n M k j<;>cases h4:bndO n (flp M) k j<;>rw[h3,h4]at h2'<;>first|rfl|cases h2'
     refine⟨j+1,⟨hlj,fun b hb=>?_⟩,by omega,?_⟩
     · by_cases e:b=j
       · subst e;exact hok2
       exact hok b (by omega)
     refine le_mk (fun n=>n) [] rfl (by simp[D2,li,i64,hwj]) ?_ (by simp[D2]);have h1:=@rowZ_succ n j (bndI n M) k hlj;have h3:=@rowZ_succ n j (bndI n (flp M)) k hlj;simp only[i64]at h1 h3;simp[D2,box5b,nsC,matB,h1,h3]
   have hjn:j=n:=by simp at h;omega
   subst hjn
   have hokr:okRow j M k=true:=by
    unfold okRow;rw[List.all_eq_true];intro x hx;exact hok x (by simpa using hx)
   refine HT_le (le_trans (le_frz 1026 rfl) (le_trans (le_frz 1028 rfl) (le_mk (s':=D3 names (.mp il) (matB j M) j (bndI j M) (bndI j (flp M)) k) (fun n=>n) [] rfl ?_ ?_ ?_))) ?_
   · simp[D3,li,i64,rowZ_full]
   · simp[D3,box5b]
   · simp[D3]
   simp only[D3,box5b,li,i64];refine HT_drunH [(1,1001),(68,1000000),(75,1000000),(81,1000000),(83,1000000)] (by kernel_rfl) (by kernel_rfl) (by rfl) (by simp[evsH,hokB,hintOf,rowsJ_len,show room (k+1) 24 from room_of (by omega) (by omega)];rfl) ?_;refine HT_run (by simp[hw];rfl) ?_;refine⟨k+1,⟨hlt,fun a ha=>?_⟩,by omega,?_⟩
   · by_cases e:a=k
     · subst e;exact hokr
     exact hall a (by omega)
   exact le_mk (fun n=>if n=1003 then 72 else if n=1004 then 79 else n) [] rfl (by simp[D1,li,i64,hw]) (by simp[D1,box5b,rowsJ_succ]) (by simp[D1])
 have hkn:k=n:=by simp at h;omega
 subst hkn;have e:br=k:=hbr.symm.trans (hnone hall);subst e;refine HT_seq (HT_run (by simp;rfl) ?_);refine HT_ret ⟨.inr rfl,_,le_trans (le_frz 1003 rfl) (le_frz 1004 rfl),⟨_,rfl,?_⟩,?_⟩
 · simp[resR,lb,bC]
 simp[box5b,matB,nsC]
end Go.Proofs.YtfjidddhehckoaaGreat.Lt
