/- Part 14: contracts of functions of the program and of the reference, and plain facts about what they compute; used by the proof of the claimed statement. Conditions: as each theorem states. -/
import Derived.Test.YtppjennamodfdaaGreatProg
import Derived.Test.YtppjennamodfdaaGreatNHmZ
import Derived.KernelRfl
import Derived.Test.YtppjennamodfdaaGreatNHmZI
import Derived.Test.YtppjennamodfdaaGreatNHmZJ
import Derived.Test.YtppjennamodfdaaGreatNHmZK
import Derived.Lib.SlicesCompact
import Derived.Shelf.Slices.CompactI
import Derived.Shelf.Sort.Plain
import Derived.Shelf.Slices.In.SortNone
import Derived.Test.YtppjennamodfdaaGreatNHmZL
import Derived.Test.YtppjennamodfdaaGreatN1
import Derived.Test.YtppjennamodfdaaGreatN2
import Derived.Test.YtppjennamodfdaaGreatN4
import Derived.Test.YtppjennamodfdaaGreatN6
import Derived.Test.YtppjennamodfdaaGreatN8
import Derived.Test.YtppjennamodfdaaGreatN10
import Derived.Test.YtppjennamodfdaaGreatN9
import Derived.Test.YtppjennamodfdaaGreatN11
import Derived.Test.YtppjennamodfdaaGreatN12
import Derived.Test.YtppjennamodfdaaGreatNHmZP
import Derived.Test.YtppjennamodfdaaGreatNHmZM
import Derived.Test.YtppjennamodfdaaGreatN3
import Derived.Test.YtppjennamodfdaaGreatN5
import Derived.Test.YtppjennamodfdaaGreatN7
import Derived.Test.YtppjennamodfdaaGreatN13
set_option linter.unusedSimpArgs false
set_option linter.unusedVariables false
set_option linter.unnecessarySimpa false
set_option maxRecDepth 100000
set_option maxHeartbeats 2000000
namespace Go.Proofs.YtppjennamodfdaaGreat
open Go Go.Hl
set_option maxHeartbeats 16000000 in
theorem Xd0 (d:Nat):Con Tryz.prog 10 false [] (.v (lb true)) none d:=by
 have ce:=X8O;have cB:=X87 exF exSm [4] (by decide);have cF:=X8Z exF exSm [0] (by decide);have cC:=chop_con exF exSm [0] [4] (by decide) (by decide);have cN:=X6Z exF exSm [5] (by decide);have cP:=X8r exF exSm [5] (by decide);have cL:=X5r exF exSm [5] (by decide);rw[X8Y [4] (by decide),exBw]at cB;rw[X8Y [0] (by decide),exFw]at cF;rw[exAsk2 [0] [4] (by decide),exCh]at cC;rw[X8Y [5] (by decide),exNe]at cN;rw[X8Y [5] (by decide),exPg]at cP;rw[X8Y [5] (by decide),exCl]at cL;have e1:=X3G [0,1,2,3,4] [0,1,2,3,4] (by decide) (by decide);have e2:=X3G [0,2,3,4] [0,2,3,4] (by decide) (by decide);have e3:=X3G [3] [3] (by decide) (by decide);have hw0:IntKind.i64.wrap 0=0:=by decide
 have hq1:Qa 1 8:=Xx (by decide) (by decide);have hq2:Qa 4 8:=Xx (by decide) (by decide);have hq3:Qa 5 8:=Xx (by decide) (by decide);rw[show slR 0 [0,1,2,3,4]=.tup [.one (.c (.sl 1 (Xj [0,1,2,3,4]))),li 0] from rfl]at cB;rw[show slR 0 [0,2,3,4]=.tup [.one (.c (.sl 1 (Xj [0,2,3,4]))),li 0] from rfl]at cF cC;simp only[exF,rfT,aF,aT,Fl.enc,Vr.enc,Xs,Xt,Xj,Xa,Xo,St.enc,Tm.enc,List.map_cons,List.map_nil,List.cons_append,List.nil_append,if_true,decide_true,Bool.and_true,lI]at ce cB cF cC cN cP cL e1 e2 e3;refine X7 Tryz.func10 ?_;simp only[Tryz.f10];refine X4 ?_;refine Xk [⟨false,.v (.agg [.c (.sl 5 [[sC ⟨#[120]⟩,iC 1,iC 0,iC 3,iC 0],[sC ⟨#[121]⟩,iC 0,iC 0,iC 3,iC 0],[sC ⟨#[122]⟩,iC 0,iC 0,iC 3,iC 0],[sC ⟨#[119]⟩,iC 0,iC 0,iC 3,iC 0]]),.c (.sl 6 []),.c (.sl 10 [[iC 0,iC 0,iC 1,iC 0,iC 24,iC 0,.sl 3 [],.sl 10 [],.sl 10 [],.sl 1 []],[iC 0,iC 0,iC 2,iC 0,iC 0,iC 2,.sl 3 [],.sl 10 [],.sl 10 [],.sl 1 []],[iC 3,iC 0,iC 0,iC 0,iC 24,iC 1,.sl 3 [],.sl 10 [[iC 0,iC 0,iC 2,iC 0,iC 0,iC 1,.sl 3 [],.sl 10 [],.sl 10 [],.sl 1 []]],.sl 10 [],.sl 1 []],[iC 1,iC 0,iC 0,iC 0,iC 24,iC 2,.sl 3 [],.sl 10 [],.sl 10 [],.sl 1 []],[iC 1,iC 0,iC 0,iC 0,iC 24,iC 3,.sl 3 [],.sl 10 [],.sl 10 [],.sl 1 []]])]),none⟩] ?_ ?_
 · first|exact ce _|exact trivial|simpa[*]using ce _
 refine X0<|(QQ 2 [] [⟨false,.tup [.one (.c (.sl 1 [[iC 0],[iC 1],[iC 2],[iC 3],[iC 4]])),li 0],none⟩] (by simp[*];rfl) trivial (XR 17 rfl) (by simp[*];first|exact⟨rfl,Iff.rfl⟩|exact⟨rfl,trivial⟩|rfl) ?_ ?_)
 · first|exact cB _|simpa using cB _
 refine X0<|(QQ 2 [] [⟨false,.tup [.one (.c (.sl 1 [[iC 0],[iC 2],[iC 3],[iC 4]])),li 0],none⟩] (by simp[*];rfl) trivial (XR 23 rfl) (by simp[*];first|exact⟨rfl,Iff.rfl⟩|exact⟨rfl,trivial⟩|rfl) ?_ ?_)
 · first|exact cF _|simpa using cF _
 refine X0<|(QQ 3 [] [⟨false,.tup [.one (.c (.sl 1 [[iC 0],[iC 2],[iC 3],[iC 4]])),li 0],none⟩] (by simp[*];rfl) trivial (le_trans (XR 29 rfl) (XR 30 rfl)) (by simp[*];first|exact⟨rfl,Iff.rfl⟩|exact⟨rfl,trivial⟩|rfl) ?_ ?_)
 · first|exact cC _|simpa using cC _
 refine X0<|(QQ 2 [] [⟨false,.tup [.one (.c (.sl 1 [[iC 3]])),li 0],none⟩] (by simp[*];rfl) trivial (XR 36 rfl) (by simp[*];first|exact⟨rfl,Iff.rfl⟩|exact⟨rfl,trivial⟩|rfl) ?_ ?_)
 · first|exact cN _|simpa using cN _
 refine X0<|(QQ 2 [] [⟨false,.tup [.agg [.c (.sl 5 [[sC ⟨#[120]⟩,iC 1,iC 0,iC 3,iC 0],[sC ⟨#[121]⟩,iC 0,iC 0,iC 3,iC 0],[sC ⟨#[122]⟩,iC 0,iC 0,iC 3,iC 0],[sC ⟨#[119]⟩,iC 0,iC 0,iC 3,iC 0]]),.c (.sl 6 []),.c (.sl 10 [[iC 1,iC 0,iC 0,iC 0,iC 24,iC 3,.sl 3 [],.sl 10 [],.sl 10 [],.sl 1 []]])],li 0],none⟩] (by simp[*];rfl) trivial (XR 42 rfl) (by simp[*,XD,Qd,XQ,cellsOf,Qe];first|exact⟨rfl,Iff.rfl⟩|exact⟨rfl,trivial⟩|rfl) ?_ ?_)
 · first|exact cP _|simpa using cP _
 refine X0<|(QQ 2 [] [⟨false,.tup [lb true,li 0],none⟩] (by simp[*];rfl) trivial (XR 48 rfl) (by simp[*];first|exact⟨rfl,Iff.rfl⟩|exact⟨rfl,trivial⟩|rfl) ?_ ?_)
 · first|exact cL _|simpa using cL _
 refine Xk [⟨true,.v (lb true),none⟩,⟨true,.v (lb true),none⟩,⟨true,.v (lb true),none⟩,⟨true,.v (lb true),none⟩] ?_ ?_
 · first|exact⟨e1 _,e2 _,e2 _,e3 _⟩|exact trivial|(repeat' first|exact trivial|exact e1 _|exact e2 _|exact e2 _|exact e3 _|apply And.intro)
 exact Xh
end Go.Proofs.YtppjennamodfdaaGreat

namespace Go.Proofs.YtppjennamodfdaaGreat
open Go Go.Hl
end Go.Proofs.YtppjennamodfdaaGreat

namespace Go.Proofs.YtppjennamodfdaaGreat
open Go Go.Hl
def X2G (S:List (List Nat)) (y:Nat):List (Option (List (List CD))):=((S.take y).map fun l=>some (Xj (srtN l)))++((S.drop y).map fun l=>some (XB l))
theorem X5s (S:List (List Nat)) (y:Nat):(X2G S y).length=S.length:=by simp[X2G];omega
theorem XcR (S:List (List Nat)):X2G S 0=WE S:=by simp[X2G,WE]
theorem X8f {S:List (List Nat)} {y:Nat} {l:List Nat} (h:S[y]? =some l):(X2G S y)[y]? =some (some (XB l)):=by
 have hlt:=(List.getElem?_eq_some_iff.1 h).1;unfold X2G;rw[List.getElem?_append_right (by simp;omega)];simp[Nat.min_eq_left (Nat.le_of_lt hlt),h]
theorem X8U {S:List (List Nat)} {y:Nat} {l:List Nat} (h:S[y]? =some l):(X2G S y).set y (some (Xj (srtN l)))=X2G S (y+1):=by
 have hlt:=(List.getElem?_eq_some_iff.1 h).1;unfold X2G;have hl:((S.take y).map fun l=>some (Xj (srtN l))).length=y:=by simp;omega
 rw[List.set_append,if_neg (by omega),hl,Nat.sub_self,List.take_add_one,h];obtain⟨l',h1,h2⟩:=Xq hlt;rw[h]at h1;cases h1;rw[h2];simp
theorem rowM_nil {S:List (List Nat)} {y:Nat} (h:S[y]? =some []):X2G S y=X2G S (y+1):=by
 rw[←X8U h];apply List.ext_getElem?;intro k;rw[List.getElem?_set];split
 · rename_i e;subst e;rw[if_pos (by rw[X5s];exact(List.getElem?_eq_some_iff.1 h).1),X8f h];simp[srtN,Xj]
 rfl
theorem rowM_end {S R:List (List Nat)} (hl:R.length=S.length) (h:∀(to:Nat) l,S[to]? =some l→∃r,R[to]? =some r∧Xj (srtN l)=XB r):(X2G S S.length).map (fun r=>[CD.sl 1 (r.getD [])])=Q7 R:=by
 unfold X2G Q7;rw[List.take_length,List.drop_length];simp only[List.map_nil,List.append_nil,List.map_map];apply List.ext_getElem?;intro k;rw[List.getElem?_map,List.getElem?_map];cases hk:S[k]? with
 | none=>
   have:=List.getElem?_eq_none_iff.1 hk;rw[List.getElem?_eq_none (by omega)];rfl
 | some l=>
   obtain⟨r,h1,h2⟩:=h k l hk;rw[h1];simp[h2]
theorem XcT:ConE Tryz.prog 35:=⟨by kernel_rfl,fun w p cap=>by
 refine(Any.slices_Sort_int_none sortL p cap w).mono ?_;rintro e w' ⟨rfl,rfl⟩
 exact⟨rfl,rfl⟩⟩
set_option maxHeartbeats 32000000 in
theorem X5z (f:Fl) (h:Sm f) (h0:Qb f=0) (d:Nat):Con Tryz.prog 125 false [aF f,.agg [.c (grC f.body)]] (.v (.one (.c (.sl 1 (Q7 (rcL (grN f.body) (flL f.body) f.vars.length)))))) none d:=by
 have hg:=X1R h0;have csz:=W1 f.body (by have:=h.nodes;omega);have hok:=X5S hg;have hlen:=X3j hg;have hsl:=XK f.body;have hsz:=h.sz;have hwd:=X2v f.body;have hv:=h.vars;have hss:ssC f.vars f.hats.length f.body true=0:=(Wn h0).2.2.2.1
 have hvar:∀q∈flL f.body,q.do_=0∨q.do_=5→0≤q.var:=by
  intro q hq hd;obtain⟨last,hsh⟩:=X4a f.body true hss q hq;unfold shB at hsh;rcases hd with hd|hd
  · rw[if_pos hd]at hsh;simp only[Bool.and_eq_true]at hsh;have:=hsh.1.1.2;unfold QV at this;simp only[Bool.and_eq_true,decide_eq_true_eq]at this;omega
  rw[hd]at hsh;simp only[Bool.and_eq_true,reduceCtorEq,if_false,if_true,Int.reduceEq]at hsh;have:=hsh.1.1.1.1.2;unfold QV at this;simp only[Bool.and_eq_true,decide_eq_true_eq]at this;omega
 have g:=grN_w hg hvar;have hnodes:=h.nodes;obtain⟨vars,hats,body⟩:=f;simp only at csz hok hlen hsl hsz hwd hv g hnodes;have hdef:=fun(k:Nat) (x:Nd) (hx:(grN body)[k]? =some x) (ha)=>X4y ⟨vars,hats,body⟩ (by simp only;omega) (grN body) k x hx ha;have hsp:=fun(S:List (List Nat)) (i0 name:Nat) (v:Int)=>Xap vars hats body (grN body) S i0 name v (by omega);simp only at hdef;obtain⟨N,hN⟩:∃x,grN body=x:=⟨_,rfl⟩;obtain⟨steps,hst⟩:∃x,flL body=x:=⟨_,rfl⟩;rw[hN]at hok hlen g;simp only[hN,hst]at hdef hsp;rw[hst]at hsl g;rw[←hsl]at hok csz;simp only[grC,hN,hst];have hN2:N.length≤2002:=by omega
 have hs2:steps.length≤1000:=by omega
 have hat:∀x∈N,x.k=2→∃(a:Nat) (s:St),x.a=a∧a≤1000000∧steps[a]? =some s:=by
  intro x hx hk;obtain⟨a,h1,h2⟩:=(hok x hx).ha.resolve_left fun h=>h.1 hk;exact⟨a,steps[a],h1,by omega,List.getElem?_eq_getElem h2⟩
 have hok3:∀x∈N,X1B N.length x.n∧X1B N.length x.o∧(x.k=2→∃(a:Nat) (s:St),x.a=a∧a≤1000000∧steps[a]? =some s):=fun x hx=>⟨(hok x hx).hn,(hok x hx).ho,hat x hx⟩;have hN0:0<N.length:=by obtain⟨x,hx,_⟩:=g.ent;exact(List.getElem?_eq_some_iff.1 hx).1
 have hsp2:∀(n m:Nat) (S:List (List Nat)),Gq N steps n m S→m≤1000→∀(i0 name:Nat) (v:Int),i0<N.length→_:=fun n m S hS hm i0 name v hi=>hsp S i0 name v (by omega) hS.len (fun l hl=>by have:=hS.llen g hl;omega) hok3 hi;simp only[spO]at hsp2;have hend:=fun(S:List (List Nat)) (hS:Gq N steps N.length vars.length S)=>rowM_end (S:=S) (R:=rcL N steps vars.length) (by rw[X7H,hS.len]) fun to l hl=>hS.done g hl;obtain⟨L,hL⟩:∃x,rcL N steps vars.length=x:=⟨_,rfl⟩;simp only[hL]at hend⊢;clear hL hN hst hlen hwd hsl hsz hsp hss hvar hnodes hg;simp only[aF,Fl.enc,List.map_cons,List.map_nil]at hdef⊢;have hmx:N.length≤maxLen:=by unfold maxLen;omega
 have hbig:(24:Int)*N.length≤281474976710656:=by omega
 have hz0:(List.replicate N.length (none:Option (List (List CD)))).map (fun r=>some (r.getD []))=WE (List.replicate N.length []):=by simp[WE]
 refine X7 Tryz.func125 ?_;simp only[Tryz.f125];refine X4 ?_;refine Xk [⟨true,.v (li steps.length),none⟩] ?_ ?_
 · first|exact csz _|exact trivial|simpa[*]using csz _
 refine X4 ?_;refine XC (X5T 18 3 1 (by decide) (by decide) rfl rfl rfl) ?_;refine XC (le_matE 18 900001 rfl rfl) ?_;refine XC (s':=⟨⟨68,none⟩,[(2,.v (.one (.at_ 2 0))),(3,.v (.one (.at_ 3 0))),(5,.v (li steps.length)),(6,.v (.one (.at_ 6 0)))],[(2,.box [.c (.sl 5 (Xs vars)),.c (.sl 6 (Xt hats)),.c (.sl 10 (Xa body))]),(3,.box [.c (.sl 4 (XG N))]),(6,.box [.own 900001]),(900001,.mat 27 3 1 (WE (List.replicate N.length [])))]⟩) (Xu (fun n=>n) [] rfl (by simp[Wz,RV.mv,TV.mv,CV.mv]) (by simp[Wz,Ob.mv,CV.mv,ins,del,hz0]) (by simp)) ?_;refine X4 ?_;refine X0<|X0<|X3 ?_;refine X5<|(Xd [2,3,5,6,7,22] (fun(u:Nat×List (List Nat))=>[(23,.v (li u.1))]) (fun(u:Nat×List (List Nat))=>[(2,.box [.c (.sl 5 (Xs vars)),.c (.sl 6 (Xt hats)),.c (.sl 10 (Xa body))]),(3,.box [.c (.sl 4 (XG N))]),(6,.box [.own 900001]),(900001,.mat 27 3 1 (WE u.2))]) (fun(u:Nat×List (List Nat))=>u.1≤N.length∧Gq N steps u.1 0 u.2) (fun(u:Nat×List (List Nat))=>N.length - u.1) (0,List.replicate N.length []) ⟨Nat.zero_le _,Gq.zero⟩ ?_ ?_)
 · exact X6 (fun n=>n) []
 rintro⟨n,S⟩ ⟨hn,hS⟩;simp only[upS,X8,Xy]
 try simp only[X8,KN,Nat.reduceBEq,if_true,if_false,ins,Nat.reduceLT]
 simp only at hn hS;clear hz0;refine X4 ?_;refine X0<|(X9 rfl (fun h7=>Xb ?_) (fun h7=>?_))
 · (try simp only[BN]at h7);have hlt:n<N.length:=by first|omega|simpa using h7
   have hwn:=XA hlt (by omega);have hn1:n+1≤N.length:=hlt;obtain⟨x,hx,_⟩:=Xq hlt;have hxe:=ZK hx;have hxm:=List.mem_of_getElem? hx;have cd:=hdef n x hx (hat x hxm)
   have hx0:0≤dfN steps x↔Qp steps x=true:=by
    constructor
    · intro h;refine Classical.byContradiction fun hc=>?_;rw[X7x hc]at h;omega
    intro h;rw[X1g h];exact(g.asg x hxm h).2
   have hsk:=fun ha=>hS.skip hx ha;have hnd:=fun(ha:Qp steps x=true)=>(fun a (hxa:x.a=(a:Nat))=>hS.node g hx ha hxa);have hxa:=fun(ha:Qp steps x=true)=>(g.asg x hxm ha).1;have hspn:=hsp2 n 0 S hS (by omega) n;obtain⟨v,hvv⟩:∃v,dfN steps x=v:=⟨_,rfl⟩;rw[hvv]at cd hx0 hnd;obtain⟨xk,xa,xn,xo⟩:=x;simp only[Nd.enc]at hxe;simp only at hxa hnd;clear h7 hlt hx hdef hvv hsp2;refine X0<|X5<|X0<|X3 ?_;refine Xk [⟨true,.v (li v),none⟩] ?_ ?_
   · first|exact cd _|exact trivial|simpa[*]using cd _
   refine X4 ?_;refine(Xe rfl (fun h11=>?_) fun h11=>?_)
   · (try simp only[BN]at h11);have ha:Qp steps ⟨xk,xa,xn,xo⟩=true:=by first|exact hx0.1 (by simpa using h11)|simpa using h11
     obtain⟨a,rfl,ha2⟩:=hxa ha;have hS2:=hnd ha a rfl;have cs:=hspn a v (by omega);obtain⟨S2,hS2e⟩:∃y,Wx (fwT N (dfN steps) v n) a S=y:=⟨_,rfl⟩;rw[hS2e]at hS2 cs;clear h11 hS2e hx0 hsk hnd hxa hspn;refine(XS ?_);refine RunsN.cutE 9 [] (by simp[*];rfl) trivial (le_refl _) ?_;refine RunsN.callA (fun n=>if n=1000001 then 3 else if n=1000002 then 6 else if n=1000003 then 2 else n) (fun n=>if n=1000001 then 3 else if n=1000002 then 6 else if n=1000003 then 2 else if n=900001 then 66 else n) cs fun _ _=>?_;refine RunsN.doneE [] rfl trivial ?_;refine XC (s':=⟨⟨68,none⟩,[(2,.v (.one (.at_ 2 0))),(3,.v (.one (.at_ 3 0))),(5,.v (li steps.length)),(6,.v (.one (.at_ 6 0))),(7,.v (.one (.fn 151 [(3,0),(6,0),(2,0)]))),(22,.v (li N.length)),(23,.v (li n))],[(2,.box [.c (.sl 5 (Xs vars)),.c (.sl 6 (Xt hats)),.c (.sl 10 (Xa body))]),(3,.box [.c (.sl 4 (XG N))]),(6,.box [.own 900001]),(900001,.mat 27 3 1 (WE S2))]⟩) (Xu (fun n=>if n=900001 then 66 else n) [] rfl (by simp[Qj,QT,del,ins,CV.ren,Ob.ren]) (by simp[Qj,QT,del,ins,CV.ren,Ob.ren]) (by simp)) ?_;refine X3 ?_;exact⟨(n+1,S2),⟨hn1,hS2⟩,by simp only;omega,X6 (fun n=>n) []⟩
   (try simp only[BN]at h11);have ha:¬Qp steps ⟨xk,xa,xn,xo⟩=true:=by first|exact fun h=>absurd (hx0.2 h) (by simpa using h11)|simpa using h11
   have hS2:=hsk ha;clear h11 hx0 hsk hnd hxa hspn;refine X3 ?_;exact⟨(n+1,S),⟨hn1,hS2⟩,by simp only;omega,X6 (fun n=>n) []⟩
 (try simp only[BN]at h7);have hnn:n=N.length:=by omega
 subst hnn;clear h7 hdef;refine(Xg ?_);refine X0<|X0<|X3 ?_;refine X5<|(Xd [5,6,7,45] (fun(u:Nat×List (List Nat))=>[(46,.v (li u.1))]) (fun(u:Nat×List (List Nat))=>[(2,.box [.c (.sl 5 (Xs vars)),.c (.sl 6 (Xt hats)),.c (.sl 10 (Xa body))]),(3,.box [.c (.sl 4 (XG N))]),(6,.box [.own 900001]),(900001,.mat 27 3 1 (WE u.2))]) (fun(u:Nat×List (List Nat))=>u.1≤vars.length∧Gq N steps N.length u.1 u.2) (fun(u:Nat×List (List Nat))=>vars.length - u.1) (0,S) ⟨Nat.zero_le _,hS⟩ ?_ ?_)
 · exact X6 (fun n=>n) []
 rintro⟨m,S1⟩ ⟨hm,hS1⟩;simp only[upS,X8,Xy]
 try simp only[X8,KN,Nat.reduceBEq,if_true,if_false,ins,Nat.reduceLT]
 simp only at hm hS1;clear hS;refine X4 ?_;refine X0<|(X9 rfl (fun h20=>Xb ?_) (fun h20=>?_))
 · (try simp only[BN]at h20);have hlt:m<vars.length:=by first|omega|simpa using h20
   have hwn:=XA hlt (by omega);have hws:IntKind.i64.wrap ((steps.length:Int)+m)=(steps.length:Int)+m:=Xc (by omega) (by omega);have hn1:m+1≤vars.length:=hlt;have hS2:=hS1.var g;have cs:=hsp2 N.length m S1 hS1 (by omega) 0 (steps.length+m) m hN0;obtain⟨S2,hS2e⟩:∃y,Wx (fwT N (dfN steps) m 0) (steps.length+m) S1=y:=⟨_,rfl⟩;rw[hS2e]at hS2 cs;have e0:((0:Nat):Int)=0:=rfl;simp only[Int.natCast_add,e0]at cs;clear h20 hlt hS2e hsp2;refine X0<|X5<|X0<|X3 ?_;refine(XS ?_);refine RunsN.cutE 5 [] (by simp[*];rfl) trivial (le_refl _) ?_;refine RunsN.callA (fun n=>if n=1000001 then 3 else if n=1000002 then 6 else if n=1000003 then 2 else n) (fun n=>if n=1000001 then 3 else if n=1000002 then 6 else if n=1000003 then 2 else if n=900001 then 66 else n) cs fun _ _=>?_;refine RunsN.doneE [] rfl trivial ?_;refine XC (s':=⟨⟨68,none⟩,[(5,.v (li steps.length)),(6,.v (.one (.at_ 6 0))),(7,.v (.one (.fn 151 [(3,0),(6,0),(2,0)]))),(45,.v (li vars.length)),(46,.v (li m))],[(2,.box [.c (.sl 5 (Xs vars)),.c (.sl 6 (Xt hats)),.c (.sl 10 (Xa body))]),(3,.box [.c (.sl 4 (XG N))]),(6,.box [.own 900001]),(900001,.mat 27 3 1 (WE S2))]⟩) (Xu (fun n=>if n=900001 then 66 else n) [] rfl (by simp[Qj,QT,del,ins,CV.ren,Ob.ren]) (by simp[Qj,QT,del,ins,CV.ren,Ob.ren]) (by simp)) ?_;refine X3 ?_;exact⟨(m+1,S2),⟨hn1,hS2⟩,by simp only;omega,X6 (fun n=>n) []⟩
 (try simp only[BN]at h20);have hnn:m=vars.length:=by omega
 subst hnn;have hSl:=hS1.len;have hfin:=hend S1 hS1;rw[hSl]at hfin;have hSb:=fun l hl=>(hS1.llen g (l:=l) hl);clear h20 hsp2 hend;refine(Xg ?_);refine X0<|X0<|X3 ?_;refine X5<|(Xd [6,57] (fun(y:Nat)=>[(58,.v (li y))]) (fun y=>[(6,.box [.own 900001]),(900001,.mat 27 3 1 (X2G S1 y))]) (fun y=>y≤S1.length) (fun y=>S1.length - y) (0:Nat) (Nat.zero_le _) ?_ ?_)
 · exact Xu (fun n=>n) [] rfl (by simp[*,upS,X8]) (by simp[*,upS,XcR]) (by simp[upS])
 rintro y hy;simp only[upS,X8,Xy]
 try simp only[X8,KN,Nat.reduceBEq,if_true,if_false,ins,Nat.reduceLT]
 refine X4 ?_;refine X0<|(X9 rfl (fun h28=>Xb ?_) (fun h28=>?_))
 · (try simp only[BN]at h28);have hlt:y<S1.length:=by first|omega|simpa[X5s]using h28
   have hwn:=XA hlt (by omega);have hn1:y+1≤S1.length:=hlt;obtain⟨l,hl,_⟩:=Xq hlt;have hlb:=hSb l (List.mem_of_getElem? hl);have hget:=X8f hl;have hset:=X8U hl;have hRl:y+1≤(X2G S1 y).length:=by rw[X5s];exact hn1
   have hnil:=fun h:l=[]=>rowM_nil (by rw[hl,h]:S1[y]? =some []);clear h28 hlt hl;refine X0<|X5<|X0<|X3 ?_;cases l with
   | nil=>
     have hm2:=hnil rfl;simp only[X2W]at hget;refine XS ?_;refine RunsN.cutE 4 [] (by simp[hget,hRl];rfl) trivial (le_refl _) ?_;refine RunsN.subE (by simp[subEP,X3N,hget];first|rfl|exact⟨rfl,rfl⟩) XcT ?_;refine RunsN.doneE [] rfl trivial ?_;refine Xn (by simp[hwn];rfl) ?_;exact⟨y+1,hn1,by omega,Xu (fun n=>n) [] rfl (by simp[upS,X8]) (by simp[upS,hm2]) (by simp[upS])⟩
   | cons a o=>
     have cs:=X4t ((a::o).map Int.ofNat) (by simp) (by simp only[List.length_map];omega);rw[←X3O]at cs;refine XS ?_;refine RunsN.cutE 4 [] (by simp[hget,hRl];rfl) trivial (le_refl _) ?_;refine RunsN.subA (by simp[X8M,X3N,hget];exact⟨rfl,rfl,rfl,rfl,rfl⟩) cs ?_;refine RunsN.doneE [] rfl trivial ?_;refine Xn (by simp[hwn];rfl) ?_;exact⟨y+1,hn1,by omega,Xu (fun n=>n) [] rfl (by simp[upS,X8]) (by simp[upS,←hset,srtN]) (by simp[upS])⟩
 (try simp only[BN]at h28);have hyn:y=S1.length:=by omega
 subst hyn;clear h28;refine(Xg ?_);refine XC (X3J 900001 rfl) ?_;refine X4 ?_;exact XU ⟨.inr rfl,_,le_refl _,⟨_,by simp[HS.frz,Wz,RV.frz,TV.frz,CV.frz];rfl,by simp[XN,hfin]⟩,by simp,fun h=>by cases h⟩
theorem XbS:RcC:=by
 intro f h h0 d;have cb:=X4B f (by have:=h.nodes;omega) (X1R h0);have cr:=X5z f h h0;obtain⟨R,hR⟩:∃x,rcL (grN f.body) (flL f.body) f.vars.length=x:=⟨_,rfl⟩;rw[hR]at cr⊢;obtain⟨vars,hats,body⟩:=f;simp only[grC]at cb cr;obtain⟨G,hG⟩:∃x,XG (grN body)=x:=⟨_,rfl⟩;rw[hG]at cb cr;clear hG hR;simp only[aF,Fl.enc,List.map_cons,List.map_nil]at cb cr⊢;refine X7 Tryz.func86 ?_;simp only[Tryz.f86];refine X4 ?_;refine X0<|(Z8 [(3,1),(4,1)] [⟨false,.v (.agg [.c (.sl 4 G)]),none⟩,⟨false,.v (.one (.c (.sl 1 (Q7 R)))),none⟩] (by kernel_rfl) (by kernel_rfl) (by rfl) (by simp[X3d,X2h,Qq, *];first|exact⟨rfl,Iff.rfl⟩|exact⟨rfl,trivial⟩|rfl) ?_ ?_)
 · first|exact⟨cb _,cr _⟩|exact trivial|(repeat' first|exact trivial|exact cb _|exact cr _|apply And.intro)
 exact Xh
end Go.Proofs.YtppjennamodfdaaGreat

namespace Go.Proofs.YtppjennamodfdaaGreat
open Go Go.Hl
theorem inN_con (l:List Int) (hl:l.length≤1000000000) (x:Int) (d:Nat):Con Tryz.prog 23 true [li x,.one (.c (.ptr [.sl 1 (Xj l)]))] (.v (lb (!decide (x∈l)))) none d:=by
 have ch:=X59 l x hl;obtain⟨G,hG⟩:∃y,decide (x∈l)=y:=⟨_,rfl⟩;rw[hG]at ch⊢;refine X7 Tryz.func23 ?_;simp only[Tryz.f23];refine X4 ?_;refine Xk [⟨true,.v (lb G),none⟩] ?_ ?_
 · first|exact ch _|exact trivial|simpa[*]using ch _
 exact Xh
theorem clB_bw {f:Fl} (h:Sm f) {q:List Int} (hq:okQ (Q5 f).length q):clB f q= !(toI (bwL f q)).any fun s=> !decide (s∈q):=by
 obtain⟨h3,h4⟩:=We (lk_bw h).ok (l0:=QL q) hq.nat;have hm:∀d,d∈bwL f q↔d∈Zh (Q5 f) (QL q):=fun d=>by rw[XaR h hq.nat,h4]
 rw[Bool.eq_iff_iff];unfold clB;simp only[List.all_eq_true,decide_eq_true_eq,Bool.not_eq_true',List.any_eq_false,Bool.not_eq_false];constructor
 · intro h s hs;obtain⟨d,hd,rfl⟩:=List.mem_map.1 hs;exact h d ((hm d).1 hd)
 intro h d hd;exact h (d:Int) (List.mem_map.2 ⟨d,(hm d).2 hd,rfl⟩)
set_option maxHeartbeats 32000000 in
theorem Xci (hR:RcC) (f:Fl) (a:List Int) (d:Nat):Con Tryz.prog 4 true [aF f,lI a] (.v (lb true)) none d:=by
 have ck:=Xd0;have cf:=fit_con f [a] (by simp);obtain⟨FQ,hFQ⟩:∃x,fitQ f [a]=x:=⟨_,rfl⟩;rw[hFQ]at cf;have hsm:=fun h:FQ=true=>few_sm (X8u (hFQ.trans h)).1;have hla:=fun h:FQ=true=>(X8u (hFQ.trans h)).2 a (by simp);have cn1:=fun h:FQ=true=>X6Z f (hsm h) a (by have:=hla h;omega);have cc1:=fun h:FQ=true=>X5r f (hsm h) a (by have:=hla h;omega);have ca1:=fun h:FQ=true=>X9K f (hsm h) [a] (by simp) (fun q' hq'=>by rw[List.mem_singleton.1 hq'];have:=hla h;omega);have kb:=fun(h:FQ=true) (h0:WN f [a]=0)=>bk_con hR f (hsm h) (X22 h0).1 a ((X22 h0).2 a (by simp)) (by have:=hla h;omega);have kn:=fun(h:FQ=true) (h0:WN f [a]=0)=>X9X hR f (hsm h) (X22 h0).1 a ((X22 h0).2 a (by simp)) (by have:=hla h;omega);have hcl:=fun(h:FQ=true) (h0:WN f [a]=0)=>clB_bw (hsm h) (q:=a) (by rw[Qy,XK];exact(X22 h0).2 a (by simp));have hNl:=fun(h:FQ=true) (h0:WN f [a]=0)=>neL_len (hsm h) ((X22 h0).2 a (by simp));have hnl:=fun h:FQ=true=>(by have:=(hsm h).nodes;have:=Qw f.body;rw[Qy,XK];omega:(Q5 f).length≤1000);have lB:=sl_len (Q5 f).length (Q5 f) a;rw[←bwL_sl]at lB;obtain⟨C,hC⟩:∃x,WN f [a]=x:=⟨_,rfl⟩;rw[hC]at cn1 cc1 ca1 kb kn hcl hNl;obtain⟨N,hN⟩:∃x,neL f a=x:=⟨_,rfl⟩;rw[hN]at cn1 kn hNl;obtain⟨BB,hBB⟩:∃x,toI (bwL f a)=x:=⟨_,rfl⟩;rw[hBB]at kb lB hcl;obtain⟨CB,hCB⟩:∃x,clB f a=x:=⟨_,rfl⟩;rw[hCB]at cc1 hcl;simp only[lQ,X41,List.map_cons,List.map_nil]at cf ca1;clear hsm hFQ hC hN hBB hCB hR;obtain⟨vars,hats,body⟩:=f;simp only[aF,Fl.enc,List.map_cons,List.map_nil]at cf cn1 cc1 ca1 kb kn⊢;refine X7 Tryz.func4 ?_;simp only[Tryz.f4];refine X4 ?_;refine X0<|X0<|(Xp [⟨false,.v (lb true),none⟩] ?_ ?_)
 · first|exact ck _|exact trivial|simpa[*]using ck _
 refine(Xe rfl (fun h2=>?_) fun h2=>?_)
 · exact absurd h2 (by simp)
 (try simp only[BN]at h2);refine X0<|X0<|(Xp [⟨true,.v (lb FQ),none⟩] ?_ ?_)
 · first|exact cf _|exact trivial|simpa[*]using cf _
 refine(Xe rfl (fun h6=>?_) fun h6=>?_)
 · (try simp only[BN]at h6);refine X4 ?_;exact Xh
 (try simp only[BN]at h6);have hF:FQ=true:=by simpa using h6
 have cn1:=cn1 hF;have cc1:=cc1 hF;have ca1:=ca1 hF;have kb:=kb hF;have kn:=kn hF;have hcl:=hcl hF;have hNl:=hNl hF;have hnl:=hnl hF;have hla:=hla hF;clear h6 cf ck;by_cases hz:C=0
 · subst hz;simp only[if_true,decide_true,Bool.true_and]at cn1 cc1;have kb:=kb rfl;have kn:=kn rfl;have hcl:=hcl rfl;have hNl:=hNl rfl;have eN:=X3G N N (by omega) (by omega);rw[decide_eq_true rfl]at eN;have cI:=X64 BB 23 [.ptr [.sl 1 (Xj a)]] (fun s=> !decide (s∈a)) (by omega) (fun s _ d=>inN_con a (by omega) s d);obtain⟨G,hG⟩:∃x,(BB.any fun s=> !decide (s∈a))=x:=⟨_,rfl⟩;rw[hG]at cI hcl;subst hcl;clear hG;refine Xk [⟨false,.tup [lI N,li 0],none⟩] ?_ ?_
   · first|exact cn1 _|exact trivial|simpa[*]using cn1 _
   refine Xk [⟨false,.tup [lb (!G),li 0],none⟩] ?_ ?_
   · first|exact cc1 _|exact trivial|simpa[*]using cc1 _
   refine X0<|X0<|(Xp [⟨true,.v (li 0),none⟩] ?_ ?_)
   · first|exact ca1 _|exact trivial|simpa[*]using ca1 _
   refine X4 ?_;refine(Xe rfl (fun h13=>?_) fun h13=>?_)
   · exact absurd h13 (by simp)
   (try simp only[BN]at h13);refine Xk [⟨false,.v (lI BB),none⟩,⟨true,.v (lb G),none⟩] ?_ ?_
   · first|exact⟨kb _,cI _⟩|exact trivial|(repeat' first|exact trivial|exact kb _|exact cI _|apply And.intro)
   refine Xk [⟨false,.v (lI N),none⟩,⟨true,.v (lb true),none⟩] ?_ ?_
   · first|exact⟨kn _,eN _⟩|exact trivial|(repeat' first|exact trivial|exact kn _|exact eN _|apply And.intro)
   exact Xh
 rw[if_neg hz]at cn1;rw[decide_eq_false hz]at cc1;simp only[Bool.false_and]at cc1;clear kb kn hcl hNl;refine Xk [⟨false,.tup [.one (.c (.lit XY)),li C],none⟩] ?_ ?_
 · first|exact cn1 _|exact trivial|simpa[*]using cn1 _
 refine Xk [⟨false,.tup [lb false,li C],none⟩] ?_ ?_
 · first|exact cc1 _|exact trivial|simpa[*]using cc1 _
 refine X0<|X0<|(Xp [⟨true,.v (li C),none⟩] ?_ ?_)
 · first|exact ca1 _|exact trivial|simpa[*]using ca1 _
 refine X4 ?_;refine(Xe rfl (fun h13=>?_) fun h13=>?_)
 · (try simp only[BN]at h13);refine X4 ?_;exact Xh
 exact absurd h13 (by simpa using hz)
end Go.Proofs.YtppjennamodfdaaGreat
