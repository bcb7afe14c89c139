/- Part 23: contracts of functions of the program and of the reference, and plain facts about what they compute; used by the proof of the claimed statement. Conditions: as each theorem states. -/
import Derived.Test.YtfjidddhehckoaaGreatK22
import Derived.Test.YtfjidddhehckoaaGreatK18
set_option linter.unusedSimpArgs false
set_option linter.unusedVariables false
set_option linter.unnecessarySimpa false
set_option maxRecDepth 100000
set_option maxHeartbeats 2000000
namespace Go.Proofs.YtfjidddhehckoaaGreat
open Go Go.Hl
section
variable {p:Po} {hv:List Int} {vars:List Vr} {fu:Nat} {A B:List (List CD)}
theorem rtyS_con (S:Sd p hv vars fu A B) (f1 f2 f3:List (List CD)) (sd sc sv sn so stn:Int) (sks:List Tm) (sa sb:List St) (sbs:List Int) (hwf:wfS vars hv.length (.mk sd sc sv sn (.mk so stn sks) sa sb sbs)=true) (hrel:relS hv (.mk sd sc sv sn (.mk so stn sks) sa sb sbs)=true)
  (hfr:frS (.mk sd sc sv sn (.mk so stn sks) sa sb sbs)) (hnd:St.nodes (.mk sd sc sv sn (.mk so stn sks) sa sb sbs)≤1000000) (ca:CnL p hv vars fu A B f1 f2 f3 sa) (cb:CnL p hv vars fu A B f1 f2 f3 sb):CnS p hv vars fu A B f1 f2 f3 (.mk sd sc sv sn (.mk so stn sks) sa sb sbs):=by
 intro k pc st t hpc hos hls hrk hfl hto;obtain⟨hM,hn0,hn12⟩:=pol_new S.hp;simp only[wfS,Bool.and_eq_true,Bool.or_eq_true,decide_eq_true_eq]at hwf;obtain⟨wt,wl,wn,w4,wb,wa,wbb⟩:=hwf;simp only[St.nodes]at hnd;simp only[frS]at hfr;obtain⟨_,_,hfa,hfb⟩:=hfr;simp only[szS]at hrk;obtain⟨X,T1,Nn,hXo,hXl,hTk,hTt,hNo,hN,e14,e4,e0,e5,e1,e3,e4',eo,⟨z,hz⟩⟩:=rty_pre S sd sc sv sn so stn sks sa sb sbs hfa hfb hpc hos hls hrk hto;have hJ:∀a b,okI p.n (p.J a b):=J_ok (e:=enP p hv) hn0 hM;have hou:=ouL_ok (e:=enP p hv) hJ fu
 have hmu:∀(s:List Int) (q:Int),okI p.n q→okV p.n s→mgF p.J s (ouL (enP p hv) fu sa q s)≠s→muV p.n p.M (mgF p.J s (ouL (enP p hv) fu sa q s))<muV p.n p.M s:=fun s q h1 h2=>by
  have h3:=hou sa q s h1 h2;exact(mu_mg (e:=enP p hv) hM h3.1 h2 h3.2).2
 have hmu0:muV p.n p.M st<fu:=by have:=muV_le p.n p.M st;have:=S.hfu;rw[hls]at*;omega
 have htl:∀s,okI p.n (tlT p.J s (.mk so stn sks) pc):=fun s=>tlT_ok hJ s _ pc hpc;have hBg:=fun(a:Int) (ha:okI p.n a)=>B_get S.hL ha S.ho;have clev:=fun pc st h1 h2 h3=>levN_con S f1 f2 f3 (.mk so stn sks) wt (by omega) pc st h1 h2 h3;have cjn:=fun be cn fa tm a b h1 h2=>rjoinT_con p S.hp S.hL (.sl 5 f1) (.sl 6 f2) (.sl 10 f3) (iC p.bot) (.sl 1 (encIs hv)) (iC p.observer) be cn fa tm a b h1 h2;have cjd:=joinedS_con S f1 f2 f3;have csz:=sizeR_con sa (by omega);have csa:=spanR_con sa (by omega);have csb:=spanR_con sb (by omega);have cev:=evenR_con sa (by omega);have hvl:=S.hvl;have hhr:=S.hr;have hfinA:=fun(nl:List Int→Int) (X s:List Int) (j:Nat) (T:Rt)=>fin_stop (e:=enP p hv) (fu:=fu) (k:=k) (a:=sa) (nl:=nl) (j:=j) (s:=s) (T:=T);have hfinB:=fun(nl:List Int→Int) (X s:List Int) (j:Nat) (T:Rt)=>fin_step (e:=enP p hv) (fu:=fu) (k:=k) (a:=sa) (nl:=nl) (X:=X) (j:=j) (s:=s) (T:=T) hfa;have hrokA:=fun(n k:Nat) (pc:Int) (st:List Int) (t:Rt)=>rxL_ok (e:=enP p hv) (fu:=fu) (k:=k) (n:=n) (pc:=pc) (st:=st) (t:=t) hfa;have hrokA':=fun(k:Nat) (pc:Int) (st:List Int) (t:Rt) (h:rokB t k (szL sa))=>hrokA 0 k pc st t h;have htmA:∀k pc st t,okI p.n t.time→okI p.n (rxL (enP p hv) fu sa k pc st t).time:=fun k pc st t h=>foldJ_ok hJ _ _ h;have htmB:∀k pc st t,okI p.n t.time→okI p.n (rxL (enP p hv) fu sb k pc st t).time:=fun k pc st t h=>foldJ_ok hJ _ _ h;have hsza:=szL_le sa;have hszb:=szL_le sb;unfold CnL at ca cb;simp only[rP,rO,rB]at ca cb cjd⊢;obtain⟨V,hV⟩:∃x,ouS (enP p hv) fu (.mk sd sc sv sn (.mk so stn sks) sa sb sbs) pc st=x:=⟨_,rfl⟩;obtain⟨⟨Fb,Fc,Ff,Ft⟩,hF⟩:∃x,rxS (enP p hv) fu (.mk sd sc sv sn (.mk so stn sks) sa sb sbs) k pc st t=x:=⟨_,rfl⟩;rw[hV]at e0 e5 e1 e3 e4' eo;rw[hF]at e0 e5 e1 e3 e4' eo
 have hFl:Ff.length≤17592186044416:=by
  have:=congrArg Rt.faults hF;simp only[rxS]at this;rw[←this];exact hfl
 rw[hV,hF];clear hV hF S hM;obtain⟨e,he⟩:∃e:En,enP p hv=e:=⟨_,rfl⟩;have heJ:e.J=p.J:=by rw[←he];rfl
 simp only[he]at ca cb hou hmu e4 e3 hfinA hfinB hrokA hrokA' htmA htmB hfl hz;simp only[heJ]at hfinA hfinB;clear he heJ;obtain⟨J,hJd⟩:∃x,p.J=x:=⟨_,rfl⟩;obtain⟨N,hNd⟩:∃x,p.n=x:=⟨_,rfl⟩;obtain⟨bo,hBd⟩:∃x,p.bot=x:=⟨_,rfl⟩;obtain⟨W,hWd⟩:∃x,p.observer=x:=⟨_,rfl⟩;obtain⟨BB,hBBd⟩:∃x,p.B=x:=⟨_,rfl⟩;obtain⟨MM,hMMd⟩:∃x,p.M=x:=⟨_,rfl⟩;simp only[hJd,hNd,hBd,hWd,hBBd,hMMd]at*;clear hJd hNd hBd hWd hBBd hMMd;refine con_s_of_HT Tryz.func93 rfl (by kernel_rfl) (Nat.le_of_ble_eq_true rfl) (pin_mk rfl) ?_;simp only[Tryz.f93];simp only[aS,St.enc,Tm.enc,List.map_cons,List.map_nil,List.cons_append,List.nil_append]at clev⊢;refine HT_sA ?_;refine(HT_cutU [0,2,3,6] (fun(z:List Int×Rt)=>[(4,.v (lI z.1))]) (fun(z:List Int×Rt)=>[(6,.box [.c (iC sd),.c (iC sc),.c (iC sv),.c (iC sn),.c (iC so),.c (iC stn),.c (.sl 3 (encTs sks)),.c (.sl 10 (encSs sa)),.c (.sl 10 (encSs sb)),.c (.sl 1 (encIs sbs))]),(900001,.row 3 1 (encIs z.2.faults)),(900002,.row 32 1 (encLL z.2.before)),(900003,.row 3 1 (encIs z.2.counts)),(1000000,.box [.c (.sl 5 f1),.c (.sl 6 f2),.c (.sl 10 f3),.c (.sl 1 A),.c (.sl 1 B),.c (iC bo),.c (.sl 1 (encIs hv)),.c (iC W),.own 900002,.own 900003,.own 900001,.c (iC z.2.time)])]) (fun(z:List Int×Rt)=>z=(X,T1)) ?_ ?_)
 ·
  refine HT_sA ?_;refine(HT_cs rfl (fun h3=>?_) fun h3=>?_)
  · (try simp only[BN]at h3);have hd4:sd=4:=by simpa using h3
    obtain⟨g1,g2⟩:=e4 hd4;clear e14 e4 e0 e5 e1 e3 e4' eo csz csa csb cev cb hrokA htmB hBg;refine HT_block<|(HT_loopU [0,2,3,6] (fun(x:Nat×List Int×Rt)=>[(4,.v (lI x.2.1))]) (fun x=>[(6,.box [.c (iC sd),.c (iC sc),.c (iC sv),.c (iC sn),.c (iC so),.c (iC stn),.c (.sl 3 (encTs sks)),.c (.sl 10 (encSs sa)),.c (.sl 10 (encSs sb)),.c (.sl 1 (encIs sbs))]),(900001,.row 3 1 (encIs x.2.2.faults)),(900002,.row 32 1 (encLL x.2.2.before)),(900003,.row 3 1 (encIs x.2.2.counts)),(1000000,.box [.c (.sl 5 f1),.c (.sl 6 f2),.c (.sl 10 f3),.c (.sl 1 A),.c (.sl 1 B),.c (iC bo),.c (.sl 1 (encIs hv)),.c (iC W),.own 900002,.own 900003,.own 900001,.c (iC x.2.2.time)])]) (fun x=>okV N x.2.1∧x.2.1.length=vars.length∧rokB x.2.2 (k+1) (szL sa)∧okI N x.2.2.time∧fxF J (fun s=>tlT J s (.mk so stn sks) pc) (ouL e fu sa) x.1 x.2.1=X∧finR e fu sa k (fun s=>tlT J s (.mk so stn sks) pc) X x.1 x.2.1 x.2.2=T1∧muV N MM x.2.1<x.1) (fun x=>x.1) (fu,st,t) ⟨hos,hls,⟨by have:=hrk.1;simp only;omega,hrk.2⟩,hto,g1,g2,hmu0⟩ ?_ ?_)
    · exact le_mkA (fun n=>n) []
    rintro⟨j,s,T⟩ ⟨io,il,ik,it,ix,iT,im⟩;simp only[upS,keepS,insS]
    try simp only[keepS,KN,Nat.reduceBEq,if_true,if_false,ins,Nat.reduceLT]
    simp only at io il ik it ix iT im;clear hos hls hrk hto g1 g2 hmu0;obtain⟨j,rfl⟩:∃i,j=i+1:=⟨j - 1,by omega⟩;obtain⟨R,hR⟩:=clev pc s hpc il io;have hq:=htl s;have hfS:=hfinA (fun s=>tlT J s (.mk so stn sks) pc) X s j T;have hfB:=hfinB (fun s=>tlT J s (.mk so stn sks) pc) X s j T ik
    try simp only at hfS
    try simp only at hfB
    have hflT:(T.faults++rfL e fu sa (k+1) (tlT J s (.mk so stn sks) pc) s).length≤17592186044416:=by
     rw[←hz,←iT]at hfl;simp only[finR,fxT,List.length_append]at hfl⊢;omega
    simp only[fxF]at ix;obtain⟨q,hqq⟩:∃x,tlT J s (.mk so stn sks) pc=x:=⟨_,rfl⟩;rw[hqq]at hq hfS hfB hflT ix;simp only[hqq]at hR;have cst:=ca (k+1) q s T hq io il ik hflT it;have hY:=hou sa q s hq io;have hmq:=hmu s q hq io;have hrT:=hrokA' (k+1) q s T ik;have htT:=htmA (k+1) q s T it;obtain⟨Y,hYd⟩:∃x,ouL e fu sa q s=x:=⟨_,rfl⟩;rw[hYd]at cst hY hmq hfS hfB ix;obtain⟨T',hT'⟩:∃x,rxL e fu sa (k+1) q s T=x:=⟨_,rfl⟩;rw[hT']at cst hrT htT hfS hfB;have cjs:=cjd T' s Y hY.1 (by omega) io hY.2;have hmo:=mgF_ok hJ s Y;have hml:=mgF_len J hY.1;obtain⟨G,hG⟩:∃x,mgF J s Y=x:=⟨_,rfl⟩;rw[hG]at cjs hmo hml hmq hfS hfB ix;have ceq:=eqSl_con G s (by omega) (by omega);have hw1:IntKind.i64.wrap ((k:Int)+1)=((k+1:Nat):Int):=by have:=ik.1;have:=ik.2.2;rw[wrap_in (by omega) (by omega)];rfl
    have hrT':rokB T' (k+1) (szL sa):=⟨by have:=hrT.1;omega,hrT.2⟩;obtain⟨t1,t2,t3,t4⟩:=T;obtain⟨y1,y2,y3,y4⟩:=T';obtain⟨R1,R2⟩:(∀be cn fa tm d,_)∧(∀be cn fa tm d,_):=⟨fun be cn fa tm d=>(hR be cn fa tm).1 d,fun be cn fa tm d=>(hR be cn fa tm).2 d⟩;simp only at cst cjs it htT hflT;clear clev hR ca hou hmu hfinA hfinB hrokA' htmA cjd cjn htl hfl hz;refine HT_block<|HT_seq<|(HT_mdp2T (d:=39) (d2:=40) (v:=?_) (u:=?_) [(26,6),(33,6)] 16 [(0,23,0),(1,24,4)] [2,3,4,5,6,7,8,9,10,11,12,13,14,15] [17,18] [18] [⟨true,.v (li R),none⟩,⟨true,.v (li q),none⟩] (fun n=>n) (fun n=>if n<1000000 then n+10 else n) 17 (fun n=>if n<1000000 then n+10 else n) (fun n=>if n<1000000 then n+20 else n) (by rfl) (by rfl) (by rfl) (by kernel_rfl) (by kernel_rfl) (by rfl) (by rfl) (by decide) (by rfl) (by rfl) (by rfl) (by simp[*,evcH,hokB,hintOf,opers];first|exact⟨rfl,Iff.rfl⟩|exact⟨rfl,trivial⟩|rfl) ?_ (by rfl) (by rfl) cst (by rfl) ?_ ?_ (by rfl) cjs (by rfl) ?_ ?_ ?_ ?_)
    rotate_left 2
    · repeat' first|exact trivial|exact R1 _ _ _ _ _|exact R2 _ _ _ _ _|apply And.intro
    · intro R hR i hi oi hoi;simp only[mdpL,List.map_cons,List.map_nil,List.append_nil,List.nil_append,List.cons_append,List.mem_cons,List.not_mem_nil,or_false]at hR;rcases hR with rfl|rfl|rfl|rfl
      · cases hi
      · obtain rfl:i=1:=by simpa using hi
        cases(show some _=some oi from hoi);exact⟨by rfl,[],True,by simp[mvT,evcH,hokB,hintOf],trivial⟩
      · obtain rfl:i=0:=by simpa using hi
        cases(show some _=some oi from hoi);exact⟨by rfl,[],True,by simp[mvT,evcH,hokB,hintOf],trivial⟩
      rcases(show i=0∨i=1 by simpa using hi)with rfl|rfl
      · cases(show some _=some oi from hoi);exact⟨by rfl,[],True,by simp[mvT,evcH,hokB,hintOf],trivial⟩
      cases(show some _=some oi from hoi);exact⟨by rfl,[],True,by simp[mvT,evcH,hokB,hintOf],trivial⟩
    · intro R hR;simp only[mdpL,List.map_cons,List.map_nil,List.append_nil,List.nil_append,List.cons_append,List.mem_cons,List.not_mem_nil,or_false]at hR;rcases hR with rfl|rfl|rfl|rfl
      · exact⟨by simp[mvT]<;>rfl,handS_mk (by simp[mvT]) (by simp[mvT]) (by simp[mvT]) (by simp[mvT]) (by simp[mvT]),by simp,by rfl,[],True,by simp[mvT,evcH,hokB,hintOf,opers]<;>rfl,trivial⟩
      · exact⟨by simp[mvT]<;>rfl,handS_mk (by simp[mvT]) (by simp[mvT]) (by simp[mvT]) (by simp[mvT]) (by simp[mvT]),by simp,by rfl,[],True,by simp[mvT,evcH,hokB,hintOf,opers]<;>rfl,trivial⟩
      · exact⟨by simp[mvT]<;>rfl,handS_mk (by simp[mvT]) (by simp[mvT]) (by simp[mvT]) (by simp[mvT]) (by simp[mvT]),by simp,by rfl,[],True,by simp[mvT,evcH,hokB,hintOf,opers]<;>rfl,trivial⟩
      exact⟨by simp[mvT]<;>rfl,handS_mk (by simp[mvT]) (by simp[mvT]) (by simp[mvT]) (by simp[mvT]) (by simp[mvT]),by simp,by rfl,[],True,by simp[mvT,evcH,hokB,hintOf,opers]<;>rfl,trivial⟩
    · simp;rfl
    · exact handS_mk (by simp) (by simp) (by simp) (by simp) (by simp)
    · exact⟨by rfl,[],True,by simp[evcH,hokB,hintOf,opers];rfl,trivial⟩
    clear cst cjs R1 R2;refine HT_seq<|HT_seq<|(HT_runcA [⟨true,.v (lb (decide (G=s))),none⟩] ?_ ?_)
    · first|exact ceq _|exact trivial|simpa[*]using ceq _
    refine(HT_cs rfl (fun h7=>?_) fun h7=>?_)
    · (try simp only[BN]at h7);have hGs:G=s:=by simpa using h7
      rw[if_pos hGs]at ix;have hT1:(⟨y1,y2,y3,y4⟩:Rt)=T1:=by rw[←iT,←ix];exact(hfS hGs).symm
      refine(HT_exit ?_);exact⟨(s,⟨y1,y2,y3,y4⟩),by rw[hT1,ix],le_mkA (fun n=>if 900001≤n∧n≤900003 then n+20 else n) []⟩
    (try simp only[BN]at h7);have hGs:¬G=s:=by simpa using h7
    rw[if_neg hGs]at ix;have hT1:=(hfB hGs).trans iT;have hmq:=hmq hGs;refine HT_runA ?_;exact⟨(j,G,⟨y1,y2,y3,y4⟩),⟨hmo,hml.trans il,hrT',htT,ix,hT1,by simp only;omega⟩,by simp only;omega,le_mkA (fun n=>if 900001≤n∧n≤900003 then n+20 else n) []⟩
  (try simp only[BN]at h3);have hd4:¬sd=4:=by simpa using h3
  obtain⟨g1,g2⟩:=e14 hd4;exact⟨(st,t),by rw[g1,g2],le_mkA (fun n=>n) []⟩
 rintro z rfl;simp only[upS,keepS,insS]
 try simp only[keepS,KN,Nat.reduceBEq,if_true,if_false,ins,Nat.reduceLT]
 clear e14 e4 hfinA hfinB hmu hmu0 htl hls hos hrk hto;have hkb:k<T1.before.length:=by have:=hTk.1;omega
 have hkc:k<T1.counts.length:=by have:=hTk.1;have:=hTk.2.1;omega
 have hkm:k≤1000000:=by have:=hTk.1;have:=hTk.2.2;omega
 have hsB:=set_encLL T1.before k X;have hsC:=set_encIs T1.counts k pc;have hT2k:=recR_ok (x:=X) (pc:=pc) hTk;have cc:=cloneI_con X (by omega);have cl:=cloneO_con X (by omega);obtain⟨R,hR⟩:=clev pc X hpc hXl hXo;rw[hN]at hR;have R1:=fun be cn fa tm d=>(hR be cn fa tm).1 d;have R2:=fun be cn fa tm d=>(hR be cn fa tm).2 d;obtain⟨b1,c1,x1,m1⟩:=T1;simp only[recR]at e0 e5 e1 e3 e4' eo hkb hkc hsB hsC hT2k hTt;obtain⟨b2,hb2⟩:∃y,b1.set k X=y:=⟨_,rfl⟩;obtain⟨c2,hc2⟩:∃y,c1.set k pc=y:=⟨_,rfl⟩;rw[hb2]at e0 e5 e1 e3 e4' eo hsB hT2k;rw[hc2]at e0 e5 e1 e3 e4' eo hsC hT2k;clear hb2 hc2 hN hR clev hTk;refine HT_seq<|(HT_druncH [(47,1000000),(52,1000000)] [⟨false,.v (lI X),none⟩] (by kernel_rfl) (by kernel_rfl) (by rfl) (by simp[evcH,hokB,hintOf, *];first|exact⟨rfl,Iff.rfl⟩|exact⟨rfl,trivial⟩|rfl) ?_ ?_)
 · first|exact cc _|exact trivial|simpa[*]using cc _
 refine HT_scA [⟨true,.v (li R),none⟩,⟨true,.v (li Nn),none⟩] ?_ ?_
 · first|exact⟨R1 _ _ _ _ _,R2 _ _ _ _ _⟩|exact trivial|(repeat' first|exact trivial|exact R1 _ _ _ _ _|exact R2 _ _ _ _ _|apply And.intro)
 refine HT_scA [⟨false,.v (.one (.own 69)),some (.row 3 1 (encIs X))⟩] ?_ ?_
 · first|exact cl 69 (by decide)|exact trivial|simpa[*]using cl 69 (by decide)
 refine HT_seq<|HT_seq<|HT_runA ?_;refine HT_block<|HT_seq<|HT_runA ?_;refine(HT_cond rfl (fun h17=>?_) (fun h17=>?_))
 · (try simp only[BN]at h17);have hd0:sd=0:=by simpa using h17
   obtain⟨hV,hF⟩:=e0 hd0;obtain⟨hv0,w,hw⟩:=local_get (wl.resolve_left fun h=>h.1 hd0);have hvlt:sv.toNat<X.length:=by rw[hXl];exact(List.getElem?_eq_some_iff.1 hw).1
   have hvI:sv<(vars.length:Int):=by omega
   have hsX:=set_encIs X sv.toNat Nn;rw[←hV]at hsX;cases hF;clear e0 e5 e1 e3 e4' eo ca cb hou cjn cjd csz csa csb cev hrel hBg R1 R2 cc cl;refine HT_runA ?_;refine HT_sA ?_;exact HT_ret ⟨.inr rfl,HT_endL (le_frz 69 rfl) (by simp;rfl) (by simp[resR,hV]) (by simp[*])⟩
 (try simp only[BN]at h17);refine HT_sA ?_;refine(HT_cond rfl (fun h22=>?_) (fun h22=>?_))
 · (try simp only[BN]at h22);have hd5:sd=5:=by simpa using h22
   obtain⟨hV,hF⟩:=e5 hd5;obtain⟨hv0,w,hw⟩:=local_get (wl.resolve_left fun h=>h.2 hd5);have hvlt:sv.toNat<X.length:=by rw[hXl];exact(List.getElem?_eq_some_iff.1 hw).1
   obtain⟨hn0,hn1⟩:=wn.resolve_left fun h=>h hd5;obtain⟨y,hy⟩:∃y,hv[sn.toNat]? =some y:=⟨hv[sn.toNat]'(by omega),List.getElem?_eq_getElem (by omega)⟩
   have hy0:0≤y:=by
    simp only[relS,Bool.and_eq_true,Bool.not_eq_true',Bool.and_eq_false_iff,decide_eq_false_iff_not,hy,Option.getD_some]at hrel;rcases hrel.1 with h|h
    · exact absurd hd5 h
    omega
   have cj:=fun be cn fa tm=>cjn be cn fa tm pc y hpc (hhr y (List.mem_of_getElem? hy) hy0);rw[hy,Option.getD_some]at hV;have hvI:sv<(vars.length:Int):=by omega
   have hsX:=set_encIs X sv.toNat (J pc y);rw[←hV]at hsX;obtain⟨Q,hQ⟩:∃z,J pc y=z:=⟨_,rfl⟩;rw[hQ]at hsX;simp only[hQ]at cj;obtain⟨hnlt,ey⟩:=List.getElem?_eq_some_iff.1 hy;cases hF;clear e0 e5 e1 e3 e4' eo ca cb hou cjn cjd csz csa csb cev hrel hBg R1 R2 cc cl hQ hV;refine(HT_druncH [(82,6),(88,1000000),(90,6)] [⟨true,.v (li Q),none⟩] (by kernel_rfl) (by kernel_rfl) (by rfl) (by simp[evcH,hokB,hintOf, *];first|exact⟨rfl,Iff.rfl⟩|exact⟨rfl,trivial⟩|rfl) ?_ ?_)
   · first|exact cj _ _ _ _ _|exact trivial|simpa[*]using cj _ _ _ _ _
   refine HT_sA ?_;exact HT_ret ⟨.inr rfl,HT_endL (le_frz 69 rfl) (by simp;rfl) (by simp[resR,hsX]) (by simp[*])⟩
 (try simp only[BN]at h22);refine HT_sA ?_;refine(HT_cond rfl (fun h27=>?_) (fun h27=>?_))
 · (try simp only[BN]at h27);have hd1:sd=1:=by simpa using h27
   obtain⟨hV,hF⟩:=e1 hd1;obtain⟨x,y,SS,hx,hy,hBx,hSy⟩:=hBg Nn hNo;subst hx hy hV;obtain⟨bw,hbw⟩:∃z,BB (x:Int) (y:Int)=z:=⟨_,rfl⟩;rw[hbw]at hF hSy;clear e0 e5 e1 e3 e4' eo ca cb hou cjn cjd csz csa csb cev hrel hBg R1 R2 cc cl hbw;refine HT_seq<|(HT_drunH [(101,1000000),(108,1000000)] (by kernel_rfl) (by kernel_rfl) (by rfl) (by simp[evsH,hokB,hintOf, *];rfl) ?_);refine(HT_cs rfl (fun h29=>?_) fun h29=>?_)
   · (try simp only[BN]at h29);have hbw:bw=false:=by simpa using h29
     subst hbw;cases hF
     have hroom:room (x1.length+1) 8:=by
      simp only[List.length_append,List.length_cons,List.length_nil]at hFl;exact⟨by unfold maxLen;omega,by omega⟩
     refine HT_runA ?_;refine HT_sA ?_;exact HT_ret ⟨.inr rfl,HT_endL (s2:=⟨207,[(10,.v (lI V))],[(900001,.row 3 1 (encIs (x1++[(k:Int)]))),(900002,.row 32 1 (encLL Fb)),(900003,.row 3 1 (encIs Fc)),(1000000,.box [.c (.sl 5 f1),.c (.sl 6 f2),.c (.sl 10 f3),.c (.sl 1 A),.c (.sl 1 B),.c (iC bo),.c (.sl 1 (encIs hv)),.c (iC y),.own 900002,.own 900003,.own 900001,.c (iC Ft)])]⟩) (le_trans (le_frz 69 rfl) (le_mk (fun n=>if n=900001 then 120 else n) [] rfl (by simp) (by simp[*]) (by simp))) (by simp;rfl) (by simp[resR]) (by simp)⟩
   (try simp only[BN]at h29);have hbw:bw=true:=by simpa using h29
   subst hbw;cases hF;refine HT_sA ?_;exact HT_ret ⟨.inr rfl,HT_endL (le_frz 69 rfl) (by simp;rfl) (by simp[resR]) (by simp[*])⟩
 (try simp only[BN]at h27);refine HT_sA ?_;refine(HT_cond rfl (fun h36=>?_) (fun h36=>?_))
 · (try simp only[BN]at h36);have hd3:sd=3:=by simpa using h36
   obtain⟨hV,hF⟩:=e3 hd3;have hka:k+1+szL sa+szL sb≤b2.length:=by have:=hT2k.1;simp only at this;omega
   have hkl:b2.length≤1000000:=hT2k.2.2;have ik:rokB ⟨b2,c2,x1,m1⟩ (k+1) (szL sa+szL sb):=⟨by simp only;omega,hT2k.2⟩;have ib:=hrokA (szL sb) (k+1) Nn X _ ik;have hta:=htmA (k+1) Nn X ⟨b2,c2,x1,m1⟩ hTt
   have hFf:Ff=x1++rfL e fu sa (k+1) Nn X++rfL e fu sb (k+1+szL sa) Nn X:=by
    have:=congrArg Rt.faults hF;split at this<;>simpa only[rxL]using this
   rw[hFf]at hFl;have hla:((⟨b2,c2,x1,m1⟩:Rt).faults++rfL e fu sa (k+1) Nn X).length≤17592186044416:=by simp only[List.length_append]at hFl⊢;omega
   have hlb:((rxL e fu sa (k+1) Nn X ⟨b2,c2,x1,m1⟩).faults++rfL e fu sb (k+1+szL sa) Nn X).length≤17592186044416:=hFl;have ca:=ca (k+1) Nn X ⟨b2,c2,x1,m1⟩ hNo hXo hXl ⟨by simp only;omega,hT2k.2⟩ hla hTt;have cb:=cb (k+1+szL sa) Nn X _ hNo hXo hXl ib hlb hta;have htb:=htmB (k+1+szL sa) Nn X _ hta;have hYa:=hou sa Nn X hNo hXo;have hYb:=hou sb Nn X hNo hXo;obtain⟨YA,hYA⟩:∃y,ouL e fu sa Nn X=y:=⟨_,rfl⟩;obtain⟨YB,hYB⟩:∃y,ouL e fu sb Nn X=y:=⟨_,rfl⟩;obtain⟨TA,hTA⟩:∃y,rxL e fu sa (k+1) Nn X ⟨b2,c2,x1,m1⟩=y:=⟨_,rfl⟩;rw[hTA]at ca cb hF htb;obtain⟨TB,hTB⟩:∃y,rxL e fu sb (k+1+szL sa) Nn X TA=y:=⟨_,rfl⟩;rw[hTB]at cb hF htb;rw[hYA]at ca hV hYa;rw[hYB]at cb hV hYb;have cjs:=fun t=>cjd t YA YB (by rw[hYa.1,hYb.1]) (by rw[hYa.1];omega) hYa.2 hYb.2;rw[←hV]at cjs;have cjt:=fun be cn fa tm=>cjn be cn fa tm TB.time Nn htb hNo;obtain⟨AL,hAL⟩:∃q,alikeB sa sb=q:=⟨_,rfl⟩;rw[hAL]at hF;unfold alikeB at hAL;obtain⟨⟨a1,a2⟩,hsa⟩:∃y,spL sa (0,0)=y:=⟨_,rfl⟩;obtain⟨⟨d1,d2⟩,hsb⟩:∃y,spL sb (0,0)=y:=⟨_,rfl⟩;rw[hsa]at csa hAL;rw[hsb]at csb hAL;simp only at csa csb hAL;obtain⟨ta1,ta2,ta3,ta4⟩:=TA;obtain⟨tb1,tb2,tb3,tb4⟩:=TB;simp only at ca cb hF cjt htb;obtain⟨Q,hQ⟩:∃z,J tb4 Nn=z:=⟨_,rfl⟩;simp only[hQ]at cjt hF;obtain⟨SA,hSA⟩:∃z,szL sa=z:=⟨_,rfl⟩;rw[hSA]at csz cb hka hsza;have hw1:IntKind.i64.wrap ((k:Int)+1)=((k+1:Nat):Int):=by rw[wrap_in (by omega) (by omega)];rfl
   have hw2:IntKind.i64.wrap (((k+1:Nat):Int)+(SA:Int))=((k+1+SA:Nat):Int):=by rw[wrap_in (by omega) (by omega)];rfl
   have hw2':IntKind.i64.wrap ((k:Int)+1+(SA:Int))=((k+1+SA:Nat):Int):=by rw[wrap_in (by omega) (by omega)];rfl
   clear e0 e5 e1 e3 e4' eo hou cjn cjd cev hrel hBg R1 R2 cc cl hTA hTB hYA hYB hV hSA hQ hsa hsb htmA htmB hrokA hrokA' ik ib hla hlb hFf hFl;refine HT_seq<|(HT_runsS ?_);refine RunsS.cutE 7 [] (by simp[*];rfl) trivial (le_refl _) ?_;refine RunsS.call (fun n=>n) (fun n=>if n<1000000 then n+10 else n) (by simp;rfl) (handS_mk (by simp) (by simp) (by simp) (by simp) (by simp)) ca (by rfl) ?_;refine RunsS.doneE [] (by simp;rfl) trivial ?_;clear ca;refine HT_seq<|(HT_drawT [(134,6),(138,6)] 11 [⟨true,.v (li SA),none⟩] [] (fun n=>if n<1000000 then n+10 else n) (fun n=>if n<1000000 then n+20 else n) (by kernel_rfl) (by kernel_rfl) (by kernel_rfl) (by rfl) (by simp[*,evcH,hokB,hintOf];first|exact⟨rfl,Iff.rfl⟩|exact⟨rfl,trivial⟩|rfl) ?_ (by rfl) (by simp;rfl) (handS_mk (by simp) (by simp) (by simp) (by simp) (by simp)) cb (by rfl) (by rfl) (by simp[evcH,hokB,hintOf];rfl) trivial ?_)
   · first|exact csz _|exact trivial|simpa using csz _
   clear cb;refine HT_scA [⟨true,.tup [li a1,li a2],none⟩] ?_ ?_
   · first|exact csa _|exact trivial|simpa[*]using csa _
   refine HT_scA [⟨true,.tup [li d1,li d2],none⟩] ?_ ?_
   · first|exact csb _|exact trivial|simpa[*]using csb _
   refine(HT_cutU [0,14,15] (fun(z:Int)=>[]) (fun(z:Int)=>[(900001,.row 3 1 (encIs tb3)),(900002,.row 32 1 (encLL tb1)),(900003,.row 3 1 (encIs tb2)),(1000000,.box [.c (.sl 5 f1),.c (.sl 6 f2),.c (.sl 10 f3),.c (.sl 1 A),.c (.sl 1 B),.c (iC bo),.c (.sl 1 (encIs hv)),.c (iC W),.own 900002,.own 900003,.own 900001,.c (iC z)])]) (fun(z:Int)=>(⟨Fb,Fc,Ff,Ft⟩:Rt)=⟨tb1,tb2,tb3,z⟩) ?_ ?_)
   ·
    refine HT_sA ?_;refine(HT_cs rfl (fun h43=>?_) fun h43=>?_)
    · try simp only[BN]at h43
      have hal:AL=false:=by
       rw[←hAL,decide_eq_false_iff_not];rintro⟨u1,u2,u3⟩;rcases h43 with(h|h)|h
       · exact h u1
       · exact h u2
       exact h u3.symm
      rw[hal,if_neg (by decide)]at hF;refine(HT_runcA [⟨true,.v (li Q),none⟩] ?_ ?_)
      · first|exact cjt _ _ _ _ _|exact trivial|simpa[*]using cjt _ _ _ _ _
      exact⟨Q,hF,le_mkA (fun n=>if 900001≤n∧n≤900003 then n+20 else n) []⟩
    try simp only[BN]at h43
    have hal:AL=true:=by
     rw[←hAL,decide_eq_true_eq];exact⟨h43.1.1,h43.1.2,h43.2.symm⟩
    rw[hal,if_pos rfl]at hF;exact⟨tb4,hF,le_mkA (fun n=>if 900001≤n∧n≤900003 then n+20 else n) []⟩
   rintro z hz2;simp only[upS,keepS,insS]
   try simp only[keepS,KN,Nat.reduceBEq,if_true,if_false,ins,Nat.reduceLT]
   cases hz2;clear hF;refine HT_seq<|(HT_runsS ?_);refine RunsS.cutE 3 [] (by simp[*];rfl) trivial (le_refl _) ?_;refine RunsS.call (fun n=>n) (fun n=>if n<1000000 then n+10 else n) (by simp;rfl) (handS_mk (by simp) (by simp) (by simp) (by simp) (by simp)) (cjs ⟨Fb,Fc,Ff,Ft⟩) (by rfl) ?_;refine RunsS.doneE [] (by simp;rfl) trivial ?_;clear cjs;exact HT_ret ⟨.inr rfl,HT_endL (s2:=⟨207,[(10,.v (lI V))],[(900001,.row 3 1 (encIs Ff)),(900002,.row 32 1 (encLL Fb)),(900003,.row 3 1 (encIs Fc)),(1000000,.box [.c (.sl 5 f1),.c (.sl 6 f2),.c (.sl 10 f3),.c (.sl 1 A),.c (.sl 1 B),.c (iC bo),.c (.sl 1 (encIs hv)),.c (iC W),.own 900002,.own 900003,.own 900001,.c (iC Ft)])]⟩) (le_mk (fun n=>if n<1000000 then n+10 else n) [] rfl (by simp) (by simp) (by simp)) (by simp;rfl) (by simp[resR]) (by simp)⟩
 (try simp only[BN]at h36);refine HT_sA ?_;refine(HT_cs rfl (fun h50=>?_) fun h50=>?_)
 · (try simp only[BN]at h50);have hd4:sd=4:=by simpa using h50
   obtain⟨hV,hF⟩:=e4' hd4;have cj:=fun be cn fa tm=>cjn be cn fa tm m1 Nn hTt hNo;obtain⟨EV,hEV⟩:∃q,evenB sa=q:=⟨_,rfl⟩;rw[hEV]at cev hF;obtain⟨Q,hQ⟩:∃z,J m1 Nn=z:=⟨_,rfl⟩;simp only[hQ]at cj hF;subst hV;clear e0 e5 e1 e3 e4' eo ca cb hou cjn cjd csz csa csb hrel hBg R1 R2 cc cl hQ hEV htmA htmB hrokA hrokA';refine HT_scA [⟨true,.v (lb EV),none⟩] ?_ ?_
   · first|exact cev _|exact trivial|simpa[*]using cev _
   refine(HT_cs rfl (fun h52=>?_) fun h52=>?_)
   · (try simp only[BN]at h52);have hc:so≠0∨EV=false:=h52.symm;rw[if_pos hc]at hF;cases hF;refine(HT_runcA [⟨true,.v (li Ft),none⟩] ?_ ?_)
     · first|exact cj _ _ _ _ _|exact trivial|simpa[*]using cj _ _ _ _ _
     refine HT_sA ?_;exact HT_ret ⟨.inr rfl,HT_endL (le_frz 69 rfl) (by simp;rfl) (by simp[resR]) (by simp[*])⟩
   try simp only[BN]at h52
   have hc:¬(so≠0∨EV=false):=by
    rintro(h|h)
    · exact h h52.2
    rw[h52.1]at h;cases h
   rw[if_neg hc]at hF;cases hF;refine HT_sA ?_;exact HT_ret ⟨.inr rfl,HT_endL (le_frz 69 rfl) (by simp;rfl) (by simp[resR]) (by simp[*])⟩
 (try simp only[BN]at h50);have hd:sd≠0∧sd≠5∧sd≠1∧sd≠3∧sd≠4:=⟨by simpa using h17,by simpa using h22,by simpa using h27,by simpa using h36,by simpa using h50⟩;obtain⟨hV,hF⟩:=eo hd.1 hd.2.1 hd.2.2.1 hd.2.2.2.1 hd.2.2.2.2;subst hV;cases hF;refine HT_sA ?_;exact HT_ret ⟨.inr rfl,HT_endL (le_frz 69 rfl) (by simp;rfl) (by simp[resR]) (by simp[*])⟩
theorem wfS_rel {hv:List Int} {l:List St} (h:relL hv l=true) {s:St} (hs:s∈l):relS hv s=true:=by
 induction l with
 |nil=>cases hs
 | cons x l ih=>
   simp only[relL,Bool.and_eq_true]at h;rcases List.mem_cons.1 hs with rfl|hs
   · exact h.1
   exact ih h.2 hs
theorem rtyAll_con (S:Sd p hv vars fu A B) (f1 f2 f3:List (List CD)) (l:List St):nodesS l≤1000000→wfL vars hv.length l=true→relL hv l=true→frL l→CnL p hv vars fu A B f1 f2 f3 l:=by
 revert l
 apply St.lists;intro l ih hn hwf hrl hfr;refine rtyL_con S f1 f2 f3 l hn hfr (fun s hs=>?_) fun s k pc st t hs hpc hos hls hto=>?_
 · have hi:=ih s hs;have hnm:=nodesS_mem hs;have hwm:=wfL_mem hwf hs;have hrm:=wfS_rel hrl hs;have hfm:=frL_mem hfr hs;obtain⟨sd,sc,sv,sn,⟨so,stn,sks⟩,sa,sb,sbs⟩:=s;simp only[St.then_,St.else_,St.term]at hi hnm;have hwm0:=hwm;have hrm0:=hrm;have hfm0:=hfm;simp only[wfS,Bool.and_eq_true]at hwm;simp only[relS,Bool.and_eq_true]at hrm;simp only[frS]at hfm;exact rtyS_con S f1 f2 f3 sd sc sv sn so stn sks sa sb sbs hwm0 hrm0 hfm0 (by simp only[St.nodes];omega) (hi.1 (by omega) hwm.2.2.2.2.2.1 hrm.2.1 hfm.2.2.1) (hi.2 (by omega) hwm.2.2.2.2.2.2 hrm.2.2 hfm.2.2.2)
 obtain⟨hM,hn0,hn12⟩:=pol_new S.hp;exact foldJ_ok (J_ok (e:=enP p hv) hn0 hM) _ _ hto
end
end Go.Proofs.YtfjidddhehckoaaGreat

namespace Go.Proofs.YtfjidddhehckoaaGreat
open Go Go.Hl Go.Shelf Go.Sort
theorem sort0_con (d:Nat):Con Tryz.prog 56 true [lI []] (.tup []) none d:=by
 refine⟨by kernel_rfl,fun F w vs hF hsz hargs=>?_⟩;obtain⟨l⟩:=vs
 match l,hsz with
 | [v0],_=>
   have a0:CRel F w (.sl 1 []) v0:=hargs 0 _ v0 rfl rfl
   have key:∃p cap,v0=.slice p 0 cap:=by
    cases a0 with
    |nil=>exact⟨_,_,rfl⟩
    |emp a cap=>exact⟨_,_,rfl⟩
    |sl rows b o cap cells=>exact⟨_,_,rfl⟩
   obtain⟨p,cap,rfl⟩:=key;refine(Any.slices_Sort_int_none sortL p cap w).mono ?_;rintro e w' ⟨rfl,rfl⟩;exact⟨_,fun _=>False,noγ,rfl,⟨rfl,rfl,rfl,Nat.le_refl _,fun _ _=>rfl⟩,fun b hb=>hb.elim,⟨#[],rfl,rfl,fun j t u h1 h2=>by simp at h1⟩,fun o ho=>by cases ho⟩
theorem compact0_con (d:Nat):Con Tryz.prog 57 false [lI []] (.v (lI [])) none d:=by
 refine con_of_HTA Tryz.func57 ?_;simp only[Tryz.f57];refine HT_sA ?_;refine HT_seq<|HT_seq<|HT_runA ?_;refine(HT_cs rfl (fun h2=>?_) fun h2=>?_)
 · (try simp only[BN]at h2);refine HT_sA ?_;exact HT_rA
 exact absurd h2 (by simp)
theorem otL_le:∀l:List St,2*otL l≤nodesS l
 |[]=>by simp[otL]
 | .mk d _ _ _ t a b _::l=>by
   have h1:=otL_le a;have h2:=otL_le b;have h3:=otL_le l;have h4:=nodes_pos t;simp only[otL,otS,nodesS,St.nodes];split<;>omega
section
variable {f:Fl} {p:Po}
theorem compact_nil:Lib.compact ([]:List Int)=[]:=rfl
theorem rty_facts (h:Gd0 f p):Lib.compact ((rfL (envF f p) (fuF f p) f.body 0 p.bot (s0F f p)).mergeSort fun x y=>decide (x≤y))=(tyE f p).2.faults∧(rtL (envF f p) (fuF f p) f.body p.bot (s0F f p)).foldl (envF f p).J p.bot=(tyR f p).2.time:=by
 obtain⟨r1,r2,r3,r4,r5⟩:=tyR_lg h
 have hfu:fuel (envF f p) (s0F f p).length (fuF f p):=by
  have:(s0F f p).length=f.vars.length:=(s0_ok h).2;unfold fuel fuF;rw[this];exact Nat.lt_succ_self _
 constructor
 · rw[compact_eq (e:=envF f p) (E:=lgE f p) (k:=0) fun x=>rf_mem (e:=envF f p) h.hn h.hM h.ho (fuF f p) f.body 0 p.bot (s0F f p) (ssC_fr _ _ (code_split h.hc).2.2.2.1) (bot_ok h.hp) (s0_ok h).1 hfu x,tyE_out.2.1,r3]
 rw[fold_eq (e:=envF f p) h.hn h.hM (bot_ok h.hp) (tmE_ok h) fun x=>rt_mem (e:=envF f p) h.hn h.hM (fuF f p) f.body p.bot (s0F f p) (bot_ok h.hp) (s0_ok h).1 hfu x,r2]
theorem rty_len (h:Gd0 f p) (hv:f.vars.length≤10) (hn:nodesS f.body≤80) (hd:sdL f.body≤12):(rfL (envF f p) (fuF f p) f.body 0 p.bot (s0F f p)).length≤17592186044416:=by
 have h1:=rfL_len (e:=envF f p) h.hn h.hM (fuF f p) f.vars.length f.body 0 p.bot (s0F f p) 11 hd (bot_ok h.hp) (s0_ok h).1 (s0_ok h).2;have h2:=otL_le f.body;have h3:(f.vars.length+1) ^ 11≤11 ^ 11:=Nat.pow_le_pow_left (by omega) 11;have h4:=Nat.mul_le_mul h3 (show otL f.body≤40 by omega);have h5:(11:Nat) ^ 11*40≤17592186044416:=by decide
 omega
end
end Go.Proofs.YtfjidddhehckoaaGreat

namespace Go.Hl
open Go
end Go.Hl
namespace Go.Proofs.YtfjidddhehckoaaGreat
open Go Go.Hl
@[simp] theorem encBs_nil:encBs []=[]:=rfl
theorem ask_two {f:Fl} {p:Po} (h:askC f p=0):(pinF f p).2=0∧(phtF f p).2=0:=by
 have h1:(pinF f p).2=0:=by
  unfold askC at h;split at h
  · rename_i h1;exact absurd h h1
  rename_i h1;simpa using h1
 refine⟨h1,?_⟩;unfold askC at h;rw[if_neg (by rw[h1];simp)]at h;split at h
 · rename_i h2;exact absurd h h2
 rename_i h2;simpa using h2
end Go.Proofs.YtfjidddhehckoaaGreat

namespace Go.Hl
open Go
def rwO (n:Nat) (o:Ob):List (Nat×Ob)→List (Nat×Ob)
 |[]=>[]
 |(m,x)::l=>(if m=n then(m,o)else(m,x))::rwO n o l
theorem lkp_rwO {n m:Nat} {o y:Ob}:∀{l:List (Nat×Ob)},lkp (rwO n o l) m=some y→(m=n∧y=o)∨lkp l m=some y
 |[],h=>by cases h
 | (k,x)::l,h=>by
   simp only[rwO]at h;by_cases hk:k=n
   · rw[if_pos hk]at h;simp only[lkp]at h⊢;by_cases hm:k=m
     · rw[if_pos hm]at h;cases h;exact .inl ⟨by omega,rfl⟩
     rw[if_neg hm]at h⊢;exact lkp_rwO h
   rw[if_neg hk]at h;simp only[lkp]at h⊢;by_cases hm:k=m
   · rw[if_pos hm]at h⊢;exact .inr h
   rw[if_neg hm]at h⊢;exact lkp_rwO h
theorem le_nilRow {x:HS} (n:Nat) {e:TypeId} {k:Nat} (h:lkp x.objs n=some (.row e 1 (List.replicate k [.lit nilS]))):le x {x with objs:=rwO n (.row e 1 (List.replicate k [.sl 1 []])) x.objs}:=by
 intro w0 B π F γ a w hr
 have hk:∀m o,lkp (rwO n (.row e 1 (List.replicate k [.sl 1 []])) x.objs) m=some o→∃o0,lkp x.objs m=some o0∧(ObRel F γ w B (γ m) o0→ObRel F γ w B (γ m) o):=by
  intro m o hm;rcases lkp_rwO hm with⟨rfl,rfl⟩|h1
  · refine⟨_,h,fun h0=>?_⟩;obtain⟨h1,h2,xs,h3,h4,h5⟩:=h0;refine⟨h1,fun r hr=>by rw[(List.mem_replicate.1 hr).2];rfl,xs,by simpa using h3,h4,fun i j d hd=>?_⟩
    have hik:i<k∧j=0∧d=.sl 1 []:=by
     unfold getRC at hd;rw[List.getElem?_replicate]at hd;split at hd
     · rename_i hi;cases j with
       |zero=>cases hd;exact⟨hi,rfl,rfl⟩
       |succ j=>cases hd
     cases hd
    obtain⟨hi,rfl,rfl⟩:=hik;obtain⟨u,hu,hc⟩:=h5 i 0 (.lit nilS) (by unfold getRC;rw[List.getElem?_replicate,if_pos hi];rfl);cases hc;exact⟨_,hu,CRel.nil 1⟩
  exact⟨o,h1,id⟩
 refine⟨F,γ,fun _ h=>h,fun _ h=>.inl h,⟨?_,hr.defers,hr.nt,hr.regs⟩⟩
 exact {
  below:=hr.heap.below
  hB:=hr.heap.hB
  fsz:=hr.heap.fsz
  ob:=fun m o hm=>by obtain⟨o0,h1,h2⟩:=hk m o hm;exact h2 (hr.heap.ob m o0 h1)
  apart:=fun m o hm=>by obtain⟨o0,h1,_⟩:=hk m o hm;exact hr.heap.apart m o0 h1
  sep:=fun m1 m2 o1 o2 hm1 hm2=>by obtain⟨a1,h1,_⟩:=hk m1 o1 hm1;obtain⟨a2,h2,_⟩:=hk m2 o2 hm2;exact hr.heap.sep m1 m2 a1 a2 h1 h2
  pin:=hr.heap.pin}
end Go.Hl
namespace Go.Proofs.YtfjidddhehckoaaGreat
open Go Go.Hl
section
variable {f:Fl} {p:Po} {A B:List (List CD)}
theorem put_all {α:Type} {l m:List α} (h:m.length=l.length):putL l 0 m=m:=by
 unfold putL;simp[h]
theorem typedR_con (hA:askC f p=0) (hsm:Sm f p) (hL:laT p=.agg [.c (.sl 1 A),.c (.sl 1 B)]) (d:Nat):Con Tryz.prog 29 false [aF f,aPo p]
  (.tup [ptR (.sl 5 (encVs f.vars)) (.sl 6 (encHs f.hats)) (.sl 10 (encSs f.body)) (.sl 1 A) (.sl 1 B) (iC p.bot) (.sl 1 (encIs (phtF f p).1)) (iC p.observer) (.sl 1 (encLL (tyE f p).2.states)) (.sl 1 (encIs (tyE f p).2.counts)) (.sl 1 (encIs (tyE f p).2.faults)) (iC (tyE f p).2.time),lI (tyE f p).1]) none d:=by
 have hg:=ask_gd hA;obtain⟨hp2,hh2⟩:=ask_two hA;obtain⟨hf1,hf2⟩:=rty_facts hg;obtain⟨r1,r2,r3,r4,r5⟩:=tyR_lg hg;have hcs:=code_split hg.hc;have hfr:=ssC_fr _ _ hcs.2.2.2.1
 have hsd:sdL f.body≤12:=by
  have:=hcs.1;simp only[sizesB,Bool.and_eq_true,decide_eq_true_eq]at this;omega
 have hfl:=rty_len hg hsm.nv (by have:=hsm.nn;omega) hsd;have hrel:=ask_rel hA;have S:Sd p (phtF f p).1 f.vars (fuF f p) A B:=⟨hg.hp,hL,hg.ho,fun x hx h0=>(hv_okH hg x hx).resolve_left (by omega),by unfold fuF;omega,by have:=hsm.nv;omega⟩;have hwf:=(code_wf hsm.sf.hb hg.hc).1;rw[←hg.hhl]at hwf;have hso:=s0_ok hg;have hlg:(lgE f p).length=szL f.body:=lgE_len hg;have hn:=hsm.nn;have hszn:=szL_le f.body
 have cst:=rtyAll_con S (encVs f.vars) (encHs f.hats) (encSs f.body) f.body (by omega) hwf hrel hfr 0 p.bot (s0F f p) ⟨List.replicate (szL f.body) [],List.replicate (szL f.body) 0,[],p.bot⟩ (bot_ok hg.hp) hso.1 hso.2
  ⟨by simp,by simp,by simp;omega⟩ (by rw[List.nil_append];exact hfl) (bot_ok hg.hp)
 have hrx:rxL (enP p (phtF f p).1) (fuF f p) f.body 0 p.bot (s0F f p) ⟨List.replicate (szL f.body) [],List.replicate (szL f.body) 0,[],p.bot⟩=⟨(tyR f p).2.states,(tyR f p).2.counts,rfL (envF f p) (fuF f p) f.body 0 p.bot (s0F f p),(tyR f p).2.time⟩:=by
  unfold rxL;simp only[List.nil_append];have e1:(lgL (enP p (phtF f p).1) (fuF f p) f.body p.bot (s0F f p))=lgE f p:=rfl;rw[e1,put_all (by rw[List.length_map,hlg,List.length_replicate]),put_all (by rw[List.length_map,hlg,List.length_replicate]),←r4,←r5,←hf2];rfl
 rw[hrx]at cst;have e2:ouL (enP p (phtF f p).1) (fuF f p) f.body p.bot (s0F f p)=(tyR f p).1:=r1.symm;rw[e2]at cst;have cL:∀d,Con Tryz.prog 16 false [aPo p] (.v (laT p)) none d:=latR_con p hg.hp hsm.sp;have cbo:=rbot_con p hg.hp;have cha:=haR_con f p hsm.sp hsm.sf;have cin:=inR_con f p hsm.sp hsm.sf;have csz:=sizeR_con f.body (by omega);have cbd:=boundsR_con f.body (by omega) (ssC_ok _ _ hcs.2.2.2.1);have hbe:=bd_eqT (ssC_ok _ _ hcs.2.2.2.1) (over_split hcs.2.2.2.2).2.2;rw[hL]at cL cbo;rw[hh2]at cha;rw[hp2,hg.hin]at cin;have hs0:s0F f p=f.vars.map (levV p):=rfl;rw[←hs0]at cin;obtain⟨o1,o2,o3,o4,o5⟩:=tyE_out (f:=f) (p:=p);rw[o1,o3,o4,←hf1,o5];have hlast:=ssC_last _ _ hcs.2.2.2.1;have hnb:=len_nodesS f.body;obtain⟨F0,hF0⟩:∃x,rfL (envF f p) (fuF f p) f.body 0 p.bot (s0F f p)=x:=⟨_,rfl⟩;rw[hF0]at cst hfl⊢;obtain⟨EV,hEV⟩:∃x,(tyR f p).1=x:=⟨_,rfl⟩;obtain⟨ST,hST⟩:∃x,(tyR f p).2.states=x:=⟨_,rfl⟩;obtain⟨CN,hCN⟩:∃x,(tyR f p).2.counts=x:=⟨_,rfl⟩;obtain⟨TM,hTM⟩:∃x,(tyR f p).2.time=x:=⟨_,rfl⟩;obtain⟨S0,hS0⟩:∃x,s0F f p=x:=⟨_,rfl⟩;obtain⟨BOT,hBOT⟩:∃x,p.bot=x:=⟨_,rfl⟩;obtain⟨OB,hOB⟩:∃x,p.observer=x:=⟨_,rfl⟩;obtain⟨HL,hHL⟩:∃x,(phtF f p).1=x:=⟨_,rfl⟩;obtain⟨SZ,hSZ⟩:∃x,szL f.body=x:=⟨_,rfl⟩;obtain⟨⟨B1,B2,B3⟩,hBD⟩:∃x,bdL CR f.body ⟨0,0,0⟩=x:=⟨_,rfl⟩;rw[hBD]at cbd hbe;simp only[hEV,hST,hCN,hTM,hBOT,hOB,hHL,hSZ,hS0,rP,rO,rB]at cst cin cbo cha csz⊢;simp only at cbd hbe;obtain⟨TE,hTE⟩:∃x,(if setlB f=true then BOT else TM)=x:=⟨_,rfl⟩;rw[hTE];unfold setlB at hTE;rw[hbe]at hTE;have hszn:SZ≤80:=by omega
 clear hA hsm hg hp2 hh2 hf1 hf2 r1 r2 r3 r4 r5 hcs hfr hsd hrel S hwf hso hlg hrx e2 hbe hs0 o1 o2 o3 o4 o5 hF0 hEV hST hCN hTM hS0 hBOT hHL hSZ hBD hL;obtain⟨vars,hats,body⟩:=f;obtain⟨ls,os,is,hts,ob,tm⟩:=p;simp only at cst cin cbo cha csz cbd hTE hlast hnb hn hOB⊢;subst hOB;have hr1:room SZ 24:=room_of (by omega) (by omega);have hr2:room SZ 8:=room_of (by omega) (by omega);have hk1:SZ≤maxLen:=by unfold maxLen;omega
 have hk2:24*(SZ:Int)≤281474976710656:=by omega
 have hk3:8*(SZ:Int)≤281474976710656:=by omega
 have hz1:encIs (List.replicate SZ 0)=List.replicate SZ [iC 0]:=by simp[encIs]
 have hz2:encLL (List.replicate SZ [])=List.replicate SZ [.sl 1 []]:=by simp[encLL,encIs]
 rw[hz1,hz2]at cst;clear hz1 hz2;have cs1:=fun hz hl rest h9=>sortF_con F0 hz hl rest h9;have cs2:=compact_con (F0.mergeSort fun x y=>decide (x≤y));rw[List.length_mergeSort]at cs2;refine con_of_HTA Tryz.func29 ?_;simp only[Tryz.f29];simp only[aF,Fl.enc,aPo,Po.enc,List.map_cons,List.map_nil]at cL cin cha⊢;refine HT_sA ?_;refine HT_seq<|(HT_druncH [(2,2),(3,3),(18,3)] [⟨false,.v (.agg [.c (.sl 1 A),.c (.sl 1 B)]),none⟩] (by kernel_rfl) (by kernel_rfl) (by rfl) (by simp[evcH,hokB,hintOf, *,allTyped,fillC,placeOf];first|exact⟨rfl,Iff.rfl⟩|exact⟨rfl,trivial⟩|rfl) ?_ ?_)
 · first|exact cL _|exact trivial|simpa[*,allTyped,fillC,placeOf]using cL _
 refine HT_scA [⟨true,.v (li BOT),none⟩] ?_ ?_
 · first|exact cbo _|exact trivial|simpa[*]using cbo _
 refine HT_sA ?_;refine HT_scA [⟨false,.tup [lI HL,li 0],none⟩] ?_ ?_
 · first|exact cha _|exact trivial|simpa[*]using cha _
 refine HT_scA [⟨true,.v (li SZ),none⟩] ?_ ?_
 · first|exact csz _|exact trivial|simpa[*]using csz _
 refine HT_seq<|(HT_drunH [(56,21),(58,21)] (by kernel_rfl) (by kernel_rfl) (by rfl) (by simp[evsH,hokB,hintOf, *];rfl) ?_);refine HT_scA [⟨false,.tup [lI S0,li 0],none⟩] ?_ ?_
 · first|exact cin _|exact trivial|simpa[*]using cin _
 refine HT_le (show le _ ⟨129,[(2,.v (.one (.at_ 2 0))),(6,.v (.one (.at_ 21 0))),(8,.v (lI S0))],[(2,.box [.c (.sl 5 (encVs vars)),.c (.sl 6 (encHs hats)),.c (.sl 10 (encSs body))]),(21,.box [.c (.sl 5 (encVs vars)),.c (.sl 6 (encHs hats)),.c (.sl 10 (encSs body)),.c (.sl 1 A),.c (.sl 1 B),.c (iC BOT),.c (.sl 1 (encIs HL)),.c (iC ob),.own 900002,.own 900003,.own 900001,.c (iC BOT)]),(900001,.row 3 1 []),(900002,.row 32 1 (List.replicate SZ [.lit nilS])),(900003,.row 3 1 (List.replicate SZ [iC 0]))]⟩ from le_mk (fun n=>if n=900002 then 52 else if n=900003 then 54 else n) [900001] rfl (by simp) (by simp) (by simp)) ?_;refine HT_le (le_nilRow 900002 rfl) ?_;simp only[rwO,Nat.reduceEqDiff,if_false,if_true];refine HT_seq<|(HT_drawT [(66,2),(70,21)] 8 [] [] (fun n=>if n=1000000 then 21 else n) (fun n=>if n=1000000 then 21 else n+10) (by kernel_rfl) (by kernel_rfl) (by kernel_rfl) (by rfl) (by simp[*,evcH,hokB,hintOf];first|exact⟨rfl,Iff.rfl⟩|exact⟨rfl,trivial⟩|rfl) trivial (by rfl) (by simp;rfl) (handS_mk (by simp) (by simp) (by simp) (by simp) (by simp)) cst (by rfl) (by rfl) (by simp[evcH,hokB,hintOf];rfl) trivial ?_);clear cst;refine(HT_cutU [6,10] (fun(z:Int)=>[]) (fun(z:Int)=>[(21,.box [.c (.sl 5 (encVs vars)),.c (.sl 6 (encHs hats)),.c (.sl 10 (encSs body)),.c (.sl 1 A),.c (.sl 1 B),.c (iC BOT),.c (.sl 1 (encIs HL)),.c (iC ob),.own 900002,.own 900003,.own 900001,.c (iC z)]),(900001,.row 3 1 (encIs F0)),(900002,.row 32 1 (encLL ST)),(900003,.row 3 1 (encIs CN))]) (fun(z:Int)=>z=TE) ?_ ?_)
 ·
  rcases Nat.eq_zero_or_pos body.length with hz|hz
  · have hnn:body[body.length - 1]? =none:=by rw[List.getElem?_eq_none_iff];omega
    rw[hnn]at hTE;simp only[Bool.false_eq_true,if_false]at hTE;subst hTE;refine HT_sA ?_;refine HT_sA ?_;refine(HT_cs rfl (fun h12=>?_) fun h12=>?_)
    · exact absurd h12 (by simp)
    (try simp only[BN]at h12);exact⟨TM,rfl,le_mkA (fun n=>if 900001≤n∧n≤900003 then n+10 else n) []⟩
  obtain⟨q,hq⟩:∃q,body[body.length - 1]? =some q:=⟨body[body.length - 1]'(by omega),List.getElem?_eq_getElem (by omega)⟩;rw[hq]at hTE;have hlq:=hlast q (List.mem_of_getElem? hq);have hw:IntKind.i64.wrap ((body.length:Int) - 1)=((body.length - 1:Nat):Int):=by rw[wrap_in (by omega) (by omega)];omega
  have he':=get_encS hq;obtain⟨qd,qc,qv,qn,⟨qo,qtn,qks⟩,qa,qb,qbs⟩:=q;simp only[St.enc,Tm.enc,List.cons_append,List.nil_append]at he';have hlq:qd=6→qbs≠[]:=hlq;have hTE:(if(decide (qd=6)&&decide (B3≤(qbs[0]?).getD 0))=true then BOT else TM)=TE:=hTE;obtain⟨LE,hLE⟩:∃x,body.length - 1=x:=⟨_,rfl⟩;rw[hLE]at hw he';have hzi:(0:Int)<body.length:=by omega
  clear hq hLE hz;refine HT_sA ?_;refine HT_sA ?_;refine(HT_cs rfl (fun h12=>?_) fun h12=>?_)
  · (try simp only[BN]at h12);have hq6:qd=6:=(by simpa using h12:0<body.length∧qd=6).2;subst hq6
    obtain⟨y,hy⟩:∃y,qbs[0]? =some y:=by
     cases qbs with
     |nil=>exact absurd rfl (hlq rfl)
     |cons y l=>exact⟨y,rfl⟩
    rw[hy]at hTE;have hTE:(if B3≤y then BOT else TM)=TE:=by simpa using hTE
    refine HT_scA [⟨true,.tup [li B1,li B2,li B3],none⟩] ?_ ?_
    · first|exact cbd _|exact trivial|simpa[*]using cbd _
    refine HT_sA ?_;refine(HT_cs rfl (fun h15=>?_) fun h15=>?_)
    · (try simp only[BN]at h15);have hle:B3≤y:=by simpa using h15
      rw[if_pos hle]at hTE;subst hTE;refine HT_runA ?_;exact⟨BOT,rfl,le_mkA (fun n=>if 900001≤n∧n≤900003 then n+10 else n) []⟩
    (try simp only[BN]at h15);have hle:¬B3≤y:=by simpa using h15
    rw[if_neg hle]at hTE;subst hTE;exact⟨TM,rfl,le_mkA (fun n=>if 900001≤n∧n≤900003 then n+10 else n) []⟩
  (try simp only[BN]at h12);have hq6:¬qd=6:=(by simpa using h12:body=[]∨¬qd=6).resolve_left (fun h=>by rw[h]at hzi;simp at hzi);simp only[decide_eq_false hq6,Bool.false_and,Bool.false_eq_true,if_false]at hTE;subst hTE;exact⟨TM,rfl,le_mkA (fun n=>if 900001≤n∧n≤900003 then n+10 else n) []⟩
 rintro z hz0;simp only[upS,keepS,insS]
 try simp only[keepS,KN,Nat.reduceBEq,if_true,if_false,ins,Nat.reduceLT]
 subst hz0;clear hTE;rcases Nat.eq_zero_or_pos F0.length with hz|hz
 · obtain rfl:F0=[]:=List.eq_nil_of_length_eq_zero hz;refine HT_le (le_frz 900001 rfl) ?_;refine HT_scA [⟨true,.tup [],none⟩] ?_ ?_
   · first|exact sort0_con _|exact trivial|simpa[*]using sort0_con _
   refine HT_scA [⟨false,.v (lI []),none⟩] ?_ ?_
   · first|exact compact0_con _|exact trivial|simpa[*]using compact0_con _
   refine HT_sA ?_;exact HT_ret ⟨.inr rfl,_,le_trans (le_frz 900002 rfl) (le_trans (le_frz 900003 rfl) (le_frzB 21 rfl rfl rfl)),⟨⟨_,by simp;rfl,by simp[resR,compact_nil]⟩,by simp,fun h=>by cases h⟩⟩
 have cs1:=cs1 hz (by omega) [(900002,.row 32 1 (encLL ST)),(900003,.row 3 1 (encIs CN)),(1000000,.box [.c (.sl 5 (encVs vars)),.c (.sl 6 (encHs hats)),.c (.sl 10 (encSs body)),.c (.sl 1 A),.c (.sl 1 B),.c (iC BOT),.c (.sl 1 (encIs HL)),.c (iC ob),.own 900002,.own 900003,.own 900001,.c (iC z)])] (fun m o h=>by rintro rfl;simp[lkp]at h);have cs2:=cs2 hz (by omega);obtain⟨F1,hF1⟩:∃x,(F0.mergeSort fun x y=>decide (x≤y))=x:=⟨_,rfl⟩;rw[hF1]at cs1 cs2⊢;obtain⟨F2,hF2⟩:∃x,Lib.compact F1=x:=⟨_,rfl⟩;rw[hF2]at cs2⊢;clear hF1 hF2;refine HT_seq<|(HT_runsS ?_);refine RunsS.cutE 4 [] (by simp[*];rfl) trivial (le_refl _) ?_;refine RunsS.call (fun n=>if n=1000000 then 21 else n) (fun n=>if n=1000000 then 21 else n+10) (by simp;rfl) (handS_mk (by simp) (by simp) (by simp) (by simp) (by simp)) cs1 (by rfl) ?_;refine RunsS.doneE [] (by simp;rfl) trivial ?_;clear cs1;refine HT_seq<|(HT_runsS ?_);refine RunsS.cutE 5 [] (by simp[*];rfl) trivial (le_refl _) ?_;refine RunsS.call (fun n=>n+10) (fun n=>n+20) (by simp;rfl) (handS_mk (by simp) (by simp) (by simp) (by simp) (by simp)) cs2 (by rfl) ?_;refine RunsS.doneE [] (by simp;rfl) trivial ?_;clear cs2;refine HT_sA ?_;exact HT_ret ⟨.inr rfl,_,le_trans (le_frz 900021 rfl) (le_trans (le_frz 900012 rfl) (le_trans (le_frz 900013 rfl) (le_frzB 21 rfl rfl rfl))),⟨⟨_,by simp;rfl,by simp[resR]⟩,by simp,fun h=>by cases h⟩⟩
end
end Go.Proofs.YtfjidddhehckoaaGreat
