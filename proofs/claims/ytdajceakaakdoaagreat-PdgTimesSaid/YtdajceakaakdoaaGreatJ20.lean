/- Contracts of functions and plain facts about what they compute. Conditions: as each theorem states. -/
import Derived.Test.YtdajceakaakdoaaGreatJ16
import Derived.Test.YtdajceakaakdoaaGreatJ19
import Derived.Test.YtdajceakaakdoaaGreatJ11
import Derived.Test.YtdajceakaakdoaaGreatJ9
import Derived.Test.YtdajceakaakdoaaGreatJ17
import Derived.Test.YtdajceakaakdoaaGreatJ18
set_option linter.unusedSimpArgs false
set_option linter.unusedVariables false
set_option linter.unnecessarySimpa false
set_option maxRecDepth 100000
set_option maxHeartbeats 2000000
namespace Go.Proofs.YtdajceakaakdoaaGreat
open Go Go.Hl
open Tryz(prog)
theorem mem_flL {l:List St} {s:St} (h:s∈l):s∈flL l:=by
 induction l with
 |nil=>cases h
 | cons a l ih=>
   simp only[flL,Ni];rcases Ng.1 h with rfl|h
   .left;obtain⟨o,c,v,n,t,a,b,bs⟩:=s;simp[flS]
   exact .inr (ih h)
structure PdOK (f:Fl):Prop where
 nd:∀x∈grN f.body,okN1 f.hats (flL f.body) x
 st:∀q∈flL f.body,meV q.term=tmV q.term/\q.term.nodes<=100000/\∀v∈tmV q.term,0<=v/\v<=1000000
 ht:∀h∈f.hats,meV h.term=tmV h.term/\h.term.nodes<=100000/\∀v∈tmV h.term,0<=v/\v<=1000000
 rl:∀r∈rcL (grN f.body) (flL f.body) f.vars.length,r.length<=100000/\∀d∈r,d<=1000000
 sz:∀s∈flL f.body,Xl s.then_<=1000000000/\Xl s.else_<=1000000000
theorem stl_b6 {f:Fl} (h0:XR f=0):∀s∈f.body,s.do_=6->s.bounds≠[]:=by
 intro s hs h6;obtain⟨last,hsh⟩:=X2e f.body true (Q6 h0).2.2.2.1 s (mem_flL hs);unfold shB at hsh;rw[h6]at hsh;simp only[Int.reduceEq,Nc,Nj,N3]at hsh;intro e;rw[e]at hsh;exact absurd hsh.2 (by decide)
theorem stld_con {f:Fl} (h:Sm f) (h0:XR f=0) (d:Nat):Con prog 128 true [aF f] (.v (lb (X5y f))) none d:=
 Xdh f (by have:=h.vars;omega) (by have:=h.hats;omega) (by have:=h.nodes;omega) h.bnd h0 (by have:=X5I f.body;have:=h.sz;omega) (stl_b6 h0) d
noncomputable def X1R (f:Fl):List Dp:=XV (if X5y f=true then [] else tmP X32 (((flL f.body).length:Int)+f.vars.length) (flL f.body)) (XV (X2R (flL f.body).length f.hats (flL f.body) (grN f.body) (rcL (grN f.body) (flL f.body) f.vars.length)) (XV (ctL f.body (-1) 0) []))
theorem X2Z (f:Fl):(X1R f).Nodup:=X0I _ _ (X0I _ _ (X0I _ _ List.nodup_nil))
noncomputable def bdR (f:Fl):RV:=.tup [.agg (if XR f=0 then [.c (iC (flL f.body).length),.c (iC f.vars.length),.c (.sl 3 (Qp (WH (X1R f))))] else [.c (iC 0),.c (iC 0),.c (.lit XX)]),li (XR f)]
theorem get_dpM {l:List Dp} {j:Nat} {k:Value} {v:CD} (h:(dpM l)[j]? =some (k,v)):∃x,l[j]? =some x/\k=d3V x.d3/\v=.lit (.bool true):=by
 unfold dpM d3M at h;simp only[Nn]at h;cases hx:l[j]? with
 |none=>rw[hx]at h;cases h
 |some x=>rw[hx]at h;cases h;exact⟨x,rfl,rfl,rfl⟩
theorem Xe6 {t:List Dp} (hnd:t.Nodup) {i j:Nat} {x:Dp} (hi:t[i]? =some x) (hj:t[j]? =some x):j=i:=by
 obtain⟨h1,h2⟩:=N6.1 hi;obtain⟨h3,h4⟩:=N6.1 hj;rcases Nat.lt_trichotomy i j with h|h|h
 .exact absurd (h2.trans h4.symm) (List.pairwise_iff_getElem.1 hnd i j h1 h3 h)
 .exact h.symm
 exact absurd (h4.trans h2.symm) (List.pairwise_iff_getElem.1 hnd j i h3 h1 h)
theorem X6y (g:FuncId) (d:Nat):Con prog 58 true [.one (.c (.sl 3 [])),.one (.fn g [])] (.tup []) none d:=by
 refine⟨by kernel_rfl,fun F w vs hF hsz hargs=>?_⟩;obtain⟨l⟩:=vs
 match l,hsz with
 | [v0,v1],_=>
   have a0:CRel F w (.sl 3 []) v0:=hargs 0 _ v0 rfl rfl
   have key:∃p cap,v0=.slice p 0 cap:=by
    cases a0 with
    |nil=>exact⟨_,_,rfl⟩
    |emp a cap=>exact⟨_,_,rfl⟩
    |sl rows b o cap cells=>exact⟨_,_,rfl⟩
   obtain⟨p,cap,rfl⟩:=key;have a1:Xq F noγ w (.fn g []) v1:=hargs 1 _ v1 rfl rfl;obtain⟨us,rfl,hl,_⟩:=a1;have hus':us=[]:=Ns hl;subst hus';refine(X90 p cap g w).mono ?_;rintro e w' ⟨rfl,rfl⟩;exact⟨_,fun _=>False,noγ,rfl,⟨rfl,rfl,rfl,NI _,fun _ _=>rfl⟩,fun b hb=>hb.elim,⟨#[],rfl,rfl,fun j t u h1 h2=>by simp at h1⟩,fun o ho=>by cases ho⟩
set_option maxHeartbeats 32000000 in
theorem Xc4 (f:Fl) (h:Sm f) (hok:XR f=0->PdOK f/\(X1R f).length<=20000000) (d:Nat):Con prog 23 false [aF f] (bdR f) none d:=by
 have cc:=X1u f (by have:=h.vars;omega) (by have:=h.hats;omega) (by have:=h.nodes;omega) h.bnd;have cb:=X86 f h;unfold bdR;by_cases h0:XR f=0
 .have cr:=X8X f h h0;obtain⟨⟨hnd,hst,hht,hrl,hsz⟩,hDl⟩:=hok h0;have cst:=stld_con h h0;have hlen:=h.sz;have hfl:=Q2 f.body;have cl:=Xdt f.vars f.hats f.body f.body (-1) [] [] (by simp only[List.length_nil];omega);have cd:=Xd3 f.vars f.hats f.body (flL f.body) (grN f.body) (rcL (grN f.body) (flL f.body) f.vars.length) (XV (ctL f.body (-1) 0) []) (by omega) (by have:=X1q (X0T h0);have:=X4I f.body;omega) (X3S _ _ _) hrl hnd hst hht;have ct:=Xdv f.vars f.hats f.body (flL f.body) (XV (X2R (flL f.body).length f.hats (flL f.body) (grN f.body) (rcL (grN f.body) (flL f.body) f.vars.length)) (XV (ctL f.body (-1) 0) [])) (by have:=h.vars;omega) (by omega) hsz cst;have hD:X1R f=XV (if X5y f=true then [] else tmP X32 (((flL f.body).length:Int)+f.vars.length) (flL f.body)) (XV (X2R (flL f.body).length f.hats (flL f.body) (grN f.body) (rcL (grN f.body) (flL f.body) f.vars.length)) (XV (ctL f.body (-1) 0) [])):=rfl;have hDn:=X2Z f;rw[<-hD]at ct;rw[h0]at cc cb⊢;simp only[Nj,List.nil_append,List.length_nil]at cb cl⊢;have hv1:=h.vars;clear h hok h0 cst hnd hst hht hrl hsz hD;obtain⟨D,hD⟩:∃x,X1R f=x:=⟨_,rfl⟩;rw[hD]at ct hDn hDl⊢;clear hD;obtain⟨D1,hD1⟩:∃x,XV (ctL f.body (-1) 0) []=x:=⟨_,rfl⟩;rw[hD1]at cl cd ct;clear hD1;obtain⟨D2,hD2⟩:∃x,XV (X2R (flL f.body).length f.hats (flL f.body) (grN f.body) (rcL (grN f.body) (flL f.body) f.vars.length)) D1=x:=⟨_,rfl⟩;rw[hD2]at cd ct;clear hD2;obtain⟨RR,hRR⟩:∃x,rcL (grN f.body) (flL f.body) f.vars.length=x:=⟨_,rfl⟩;rw[hRR]at cd cr;clear hRR;obtain⟨vars,hats,body⟩:=f;simp only[aF,Fl.enc,Nk,Nr,grC]at cc cb cr cl cd ct hv1 hlen hfl⊢;obtain⟨G,hG⟩:∃x,grN body=x:=⟨_,rfl⟩;rw[hG]at cb cr cd;clear hG;obtain⟨Q,hQ⟩:∃x,flL body=x:=⟨_,rfl⟩;rw[hQ]at cl cd ct hfl⊢;clear hQ;have hQl:Q.length<=1000:=by omega
  clear hlen hfl;have dp0:dpM []=[]:=rfl;have es0:X7 []=[]:=rfl;simp only[pdO,pdF,dp0,es0]at cl cd ct;refine X5 Tryz.func23 ?_;simp only[Tryz.f23];refine X2 ?_;refine X0<|X0<|(Xo [⟨true,.v (li 0),none⟩] ?_ ?_)
  .first|exact cc _|exact trivial|simpa[*]using cc _
  refine X2 ?_;refine(Xb rfl (fun h3=>?_) fun h3=>?_)
  .exact absurd h3 (by simp)
  simp only at h3;refine Xh [⟨false,.tup [.agg [.c (.sl 4 (Qv G))],li 0],none⟩] ?_ ?_
  .first|exact cb _|exact trivial|simpa[*]using cb _
  refine X0<|X0<|X1 ?_;refine(Xb rfl (fun h8=>?_) fun h8=>?_)
  .exact absurd h8 (by simp)
  simp only at h8;refine Xh [⟨false,.tup [.one (.c (.sl 1 (Za RR))),li 0],none⟩] ?_ ?_
  .first|exact cr _|exact trivial|simpa[*]using cr _
  refine X0<|X0<|X1 ?_;refine(Xb rfl (fun h13=>?_) fun h13=>?_)
  .exact absurd h13 (by simp)
  simp only at h13;refine X2 ?_;refine XC (s':=⟨⟨78,none⟩,[(1,.v (.one (.at_ 1 0))),(2,.v (.one (.at_ 2 0))),(5,.v (.one (.at_ 5 0))),(7,.v (.one (.c (.sl 1 (Za RR))))),(8,.v (.one (.at_ 39 0)))],[(1,.box [.c (.sl 5 (Xk vars)),.c (.sl 6 (Xn hats)),.c (.sl 10 (X7 body))]),(2,.box [.c (iC 0),.c (iC 0),.c (.lit XX)]),(5,.box [.c (.sl 4 (Qv G))]),(39,.box [.c (.sl 5 (Xk vars)),.c (.sl 6 (Xn hats)),.c (.sl 10 (X7 body)),.own 900001,.own 900002]),(900001,.row 70 10 []),(900002,.mp [])]⟩) (Xw (fun n=>if n=900002 then 37 else n) [900001] rfl (by simp) (by simp[XX]) (by simp)) ?_;refine X0<|(XJ ?_);refine RunsN.cutE 3 [] (by simp;rfl) trivial (le_refl _) ?_;refine RunsN.callA (fun n=>if n=1000001 then 39 else n) (fun n=>if n=1000001 then 39 else if n=900001 then 900011 else if n=900002 then 900012 else n) cl fun _ _=>?_;refine RunsN.doneE [] rfl trivial ?_;refine XC (s':=⟨⟨78,none⟩,[(1,.v (.one (.at_ 1 0))),(2,.v (.one (.at_ 2 0))),(5,.v (.one (.at_ 5 0))),(7,.v (.one (.c (.sl 1 (Za RR))))),(8,.v (.one (.at_ 39 0)))],[(1,.box [.c (.sl 5 (Xk vars)),.c (.sl 6 (Xn hats)),.c (.sl 10 (X7 body))]),(2,.box [.c (iC 0),.c (iC 0),.c (.lit XX)]),(5,.box [.c (.sl 4 (Qv G))]),(39,.box [.c (.sl 5 (Xk vars)),.c (.sl 6 (Xn hats)),.c (.sl 10 (X7 body)),.own 900001,.own 900002]),(900001,.row 70 10 (X7 Q)),(900002,.mp (dpM D1))]⟩) (Xw (fun n=>if n=900001 then 900011 else if n=900002 then 900012 else n) [] rfl (by simp[Qa,QE,del,ins,CV.ren,Ob.ren]) (by simp[Qa,QE,del,ins,CV.ren,Ob.ren]) (by simp)) ?_;refine XC (Qy 900001 rfl) ?_;refine X0<|(XJ ?_);refine RunsN.cutE 3 [] (by simp;rfl) trivial (le_refl _) ?_;refine RunsN.callA (fun n=>if n=1000001 then 39 else n) (fun n=>if n=1000001 then 39 else if n=900002 then 900012 else n) cd fun _ _=>?_;refine RunsN.doneE [] rfl trivial ?_;refine XC (s':=⟨⟨78,none⟩,[(1,.v (.one (.at_ 1 0))),(2,.v (.one (.at_ 2 0))),(8,.v (.one (.at_ 39 0)))],[(1,.box [.c (.sl 5 (Xk vars)),.c (.sl 6 (Xn hats)),.c (.sl 10 (X7 body))]),(2,.box [.c (iC 0),.c (iC 0),.c (.lit XX)]),(39,.box [.c (.sl 5 (Xk vars)),.c (.sl 6 (Xn hats)),.c (.sl 10 (X7 body)),.c (.sl 10 (X7 Q)),.own 900002]),(900002,.mp (dpM D2))]⟩) (Xw (fun n=>if n=900002 then 900012 else n) [] rfl (by simp[Qa,QE,del,ins,CV.ren,Ob.ren]) (by simp[Qa,QE,del,ins,CV.ren,Ob.ren]) (by simp)) ?_;refine X0<|(XJ ?_);refine RunsN.cutE 1 [] (by simp;rfl) trivial (le_refl _) ?_;refine RunsN.callA (fun n=>if n=1000001 then 39 else n) (fun n=>if n=1000001 then 39 else if n=900002 then 900012 else n) ct fun _ _=>?_;refine RunsN.doneE [] rfl trivial ?_;refine XC (s':=⟨⟨78,none⟩,[(1,.v (.one (.at_ 1 0))),(2,.v (.one (.at_ 2 0))),(8,.v (.one (.at_ 39 0)))],[(1,.box [.c (.sl 5 (Xk vars)),.c (.sl 6 (Xn hats)),.c (.sl 10 (X7 body))]),(2,.box [.c (iC 0),.c (iC 0),.c (.lit XX)]),(39,.box [.c (.sl 5 (Xk vars)),.c (.sl 6 (Xn hats)),.c (.sl 10 (X7 body)),.c (.sl 10 (X7 Q)),.own 900002]),(900002,.mp (dpM D))]⟩) (Xw (fun n=>if n=900002 then 900012 else n) [] rfl (by simp[Qa,QE,del,ins,CV.ren,Ob.ren]) (by simp[Qa,QE,del,ins,CV.ren,Ob.ren]) (by simp)) ?_;refine XC (le_frzP 900002 rfl) ?_;refine X0<|(N0 ?_);refine X0<|X0<|X1 ?_;refine X3<|(Xg [2,9,63] (fun(y:List Nat×List Dp)=>[(2,.v (.one (.at_ 2 0))),(9,.v (.one (.at_ 9 0)))]) (fun y=>[(2,.box [.c (iC 0),.c (iC 0),.c (.lit XX)]),(9,.box [.c (iC Q.length),.c (iC vars.length),.own 1003]),(63,.it (dpM D) y.1),(1003,.row 51 3 (Qp y.2))]) (fun y=>y.1.Nodup/\X3x y.1 D.length/\(∀d,d∈y.2↔∃j∈y.1,D[j]? =some d)/\y.2.Nodup/\y.2.length<=y.1.length) (fun y=>D.length - y.1.length) ([],[]) ⟨List.nodup_nil,by simp[X3x],by simp,List.nodup_nil,NI _⟩ ?_ ?_)
  .exact X4 (fun n=>n) [1003]
  rintro⟨seen,out⟩ ⟨j1,j2,j3,j4,j5⟩;simp only[upS,X8,Xz]
  simp only[KN,Nat.reduceBEq,Nj,Nc,ins,Nat.reduceLT]
  simp only at j1 j2 j3 j4 j5;refine X6e (fun j k v hj hn=>?_) (fun hall=>?_)
  skip
  ·obtain⟨x,hd,rfl,rfl⟩:=get_dpM hj;have hjl:j<D.length:=(N6.1 hd).1
   have hnd2:(seen++[j]).Nodup:=by
    rw[List.nodup_append];exact⟨j1,by simp,fun a ha b hb=>by rw[Nl.1 hb];exact fun e=>hn (e▸ha)⟩
   have hin:X3x (seen++[j]) D.length:=fun i hi=>by
    rcases Ni.1 hi with h|h
    .exact j2 i h
    rw[Nl.1 h];exact hjl
   have hnew:(out++[x]).Nodup:=by
    rw[List.nodup_append];refine⟨j4,by simp,fun a ha b hb=>?_⟩;rw[Nl.1 hb];rintro rfl;obtain⟨i,hi,he⟩:=(j3 a).1 ha;exact hn (Xe6 hDn hd he▸hi)
   have hmem:∀y,y∈out++[x]↔∃i∈seen++[j],D[i]? =some y:=by
    intro y;rw[Ni,j3,Nl];constructor
    .rintro(⟨i,h1,h2⟩|rfl)
     .exact⟨i,List.mem_append_left _ h1,h2⟩
     exact⟨j,by simp,hd⟩
    rintro⟨i,h1,h2⟩;rcases Ni.1 h1 with h1|h1
    .exact .inl ⟨i,h1,h2⟩
    rw[Nl.1 h1,hd]at h2;exact .inr (Option.some.inj h2).symm
   have hap:Qp (out++[x])=Qp out++[[CD.lit (.int .i64 x.d3.1),CD.lit (.int .i64 x.d3.2.1),CD.lit (.int .i64 x.d3.2.2)]]:=by rw[Xe5];rfl
   have hsn:Qp [x]=[[iC x.f,iC x.t,iC x.k]]:=rfl;have hle:=WA hnd2 hin;simp only[Na,List.length_singleton]at hle;have hroom:W5 (out.length+1) 24:=⟨by unfold maxLen;omega,by omega⟩;clear hjl;refine X3<|X0<|(XJ ?_);refine RunsN.cutE 2 [] (by simp[*];rfl) trivial (le_d3 67 x.d3 rfl) ?_;refine RunsN.doneE [] (by simp[d3C];rfl) trivial ?_;refine X1 ?_;exact⟨(seen++[j],out++[x]),⟨hnd2,hin,hmem,hnew,by simp only[Na,List.length_singleton];omega⟩,by simp only[Na,List.length_singleton];omega,X4 (fun n=>if n=1003 then 72 else n) []⟩
  have hout:∀d,d∈out↔d∈D:=by
   intro d;rw[j3];constructor
   .rintro⟨i,_,h⟩;exact N4 h
   intro h;obtain⟨i,hi⟩:=NK.1 h;exact⟨i,hall i (by rw[len_dpM];exact(N6.1 hi).1),hi⟩
  have hfin:WH out=WH D:=X5e hout;have hsl:=WA j1 j2;obtain⟨res,hres⟩:∃y,WH D=y:=⟨_,rfl⟩;rw[hres]at hfin⊢;clear hall j1 j2 j3 hout hres;refine(Xi ?_);rcases out with _|⟨a0,o⟩
  .refine XC (Qy 1003 rfl) ?_;have hr0:res=[]:=by rw[<-hfin];simp[WH,XV]
   subst hr0;refine Xh [⟨true,.tup [],none⟩] ?_ ?_
   .first|exact X6y _ _|exact trivial|simpa[*]using X6y _ _
   refine X2 ?_;exact Xc
  have cs:=Xe9 (a0::o) j4 (by simp) (by omega);rw[hfin]at cs;refine X0<|(XJ ?_);refine RunsN.cutE 2 [] (by simp;rfl) trivial (le_refl _) ?_;refine RunsN.rowG (by simp[rowGP,X3t];exact⟨rfl,rfl⟩) cs ?_;refine RunsN.doneE [] rfl trivial ?_;refine XC (Qy 1003 rfl) ?_;refine X2 ?_;exact Xc
 rw[N7 h0];obtain⟨C,hC⟩:∃x,XR f=x:=⟨_,rfl⟩;rw[hC]at cc h0⊢;clear cb h hok hC;obtain⟨vars,hats,body⟩:=f;simp only[aF,Fl.enc,Nk,Nr]at cc⊢;refine X5 Tryz.func23 ?_;simp only[Tryz.f23];refine X2 ?_;refine X0<|X0<|(Xo [⟨true,.v (li C),none⟩] ?_ ?_)
 .first|exact cc _|exact trivial|simpa[*]using cc _
 refine X2 ?_;refine(Xb rfl (fun h3=>?_) fun h3=>?_)
 ·simp only at h3;refine X2 ?_;exact Xc
 exact absurd (by simpa using h3) h0
theorem rc_rl {f:Fl} (h:Sm f):∀r∈rcL (grN f.body) (flL f.body) f.vars.length,r.length<=100000/\∀d∈r,d<=1000000:=by
 have hs:=h.sz;have hv:=h.vars;have hl:=Q2 f.body;intro r hr;unfold rcL at hr;obtain⟨i,_,rfl⟩:=NG.1 hr;refine⟨Dz (Dh _ _) (by simp;omega),fun d hd=>?_⟩;have:=(NN.1 hd).1;have:=List.mem_range.1 this;omega
mutual
theorem X8z {vars:List Vr} {inp:Bool}:∀t:Tm,Qu vars inp t=true->∀v∈tmV t,0<=v/\v<vars.length
 | .mk o n ks,h,v,hv=>by
   simp only[Qu,N3]at h;simp only[tmV,Ni]at hv;rcases hv with hv|hv
   .split at hv
    .rename_i h24;rw[Nl.1 hv];subst h24;have h1:=h.1;unfold Q3 at h1;simp only[N3,show ¬(24:Int)=0 by decide,Nc,Nj]at h1;have h2:=h1.2;unfold X0a at h2;simp only[N3,N5]at h2;refine⟨h2.1,?_⟩;cases hx:vars[n.toNat]? with
     |none=>rw[hx]at h2;exact absurd h2.2 (by simp)
     |some x=>have:=(N6.1 hx).1;omega
    cases hv
   exact Xcw ks h.2 v hv
theorem Xcw {vars:List Vr} {inp:Bool}:∀l:List Tm,WD vars inp l=true->∀v∈X1S l,0<=v/\v<vars.length
 |[],_,v,hv=>by simp[X1S]at hv
 | t::l,h,v,hv=>by
   simp only[WD,N3]at h;simp only[X1S,Ni]at hv;rcases hv with hv|hv
   .exact X8z t h.1 v hv
   exact Xcw l h.2 v hv
end
theorem X1Z {vars:List Vr} {nh:Nat}:∀(l:List St) (top:Bool),ssC vars nh l top=0->∀q∈flL l,Qu vars false q.term=true
 |[],_,_,q,hq=>by simp[flL]at hq
 | .mk d c v n t a b bs::l,top,h,q,hq=>by
   have hs:Qu vars false t=true:=by
    simp only[ssC]at h;split at h
    .rename_i h0;unfold stC at h0;split at h0
     .cases h0
     split at h0
     .cases h0
     exact X3p h0
    rename_i h0;exact absurd h h0
   have hr:ssC vars nh a false=0/\ssC vars nh b false=0/\ssC vars nh l top=0:=by
    simp only[ssC]at h;split at h
    .split at h
     .split at h
      .rename_i ha hb;exact⟨ha,hb,h⟩
      rename_i hb;exact absurd h hb
     rename_i ha;exact absurd h ha
    rename_i h0;exact absurd h h0
   simp only[flL,flS,List.cons_append,Ng,Ni]at hq;rcases hq with rfl|(hq|hq)|hq
   .exact hs
   .exact X1Z a false hr.1 q hq
   .exact X1Z b false hr.2.1 q hq
   exact X1Z l top hr.2.2 q hq
theorem X29:∀(l:List St),∀q∈flL l,q.term.nodes+Xl q.then_+Xl q.else_<=Xl l
 |[],q,hq=>by simp[flL]at hq
 | .mk d c v n t a b bs::l,q,hq=>by
   simp only[flL,flS,List.cons_append,Ng,Ni]at hq;simp only[Xl,St.nodes];rcases hq with rfl|(hq|hq)|hq
   .simp only[St.term,St.then_,St.else_];omega
   .have:=X29 a q hq;omega
   .have:=X29 b q hq;omega
   have:=X29 l q hq;omega
theorem sh_hat' {vars:List Vr} {nh:Nat} {q:St} {last:Bool} (h:shB vars nh q.do_ q.var q.n q.term q.then_.length q.else_.length q.bounds last=true) (h5:q.do_=5):0<=q.n/\q.n<nh:=by
 unfold shB at h;rw[h5]at h;simp only[show ¬(5:Int)=0 by decide,show ¬(5:Int)=1 by decide,show ¬(5:Int)=2 by decide,show ¬(5:Int)=3 by decide,show ¬(5:Int)=4 by decide,Nc,Nj,N3,N5]at h;exact⟨h.1.1.1.2,h.1.1.2⟩
theorem pd_ok {f:Fl} (h:Sm f) (h0:XR f=0):PdOK f:=by
 have hc:=Q6 h0;have hs:=h.sz;have hv:=h.vars;have hn:=h.nodes;have hsh:=X2e f.body true hc.2.2.2.1;have hfm:=X1Z f.body true hc.2.2.2.1;refine⟨fun x hx=>⟨?_,fun a q ha hq h5=>?_⟩,fun q hq=>?_,fun q hq=>?_,rc_rl h,fun q hq=>?_⟩
 .rcases(X6L (X0T h0) x hx).ha with h1|⟨t,h1,h2⟩
  .exact .inl (by omega)
  exact .inr ⟨t,h1,by rw[Q2];exact h2⟩
 .obtain⟨last,h1⟩:=hsh q (N4 hq);have:=sh_hat' h1 h5;omega
 .have h1:=X29 f.body q hq;exact⟨X8P q.term (hfm q hq),by omega,fun v hv=>by have:=X8z q.term (hfm q hq) v hv;omega⟩
 .have h1:=X3P f.hats [] hc.2.2.1 q hq;have h2:=X31 hq;exact⟨X8P q.term h1,by omega,fun v hv=>by have:=X8z q.term h1 v hv;omega⟩
 have h1:=X29 f.body q hq;omega
def okDp (N:Int) (e:Dp):Prop:=(0<=e.f/\e.f<=N)/\(0<=e.t/\e.t<=N)/\(e.k=0\/e.k=1\/e.k=2)
theorem ctL_rng {N:Int}:∀l:List St,∀(c:Int) (p:Nat),c<N->(p:Int)+szL l<=N->∀e∈ctL l c p,okDp N e:=by
 apply St.lind
 .intro c p _ _ e he;simp[ctL]at he
 intro o c' w q t a b bs l ia ib il c p hc hp e he;simp only[szL,szS]at hp;simp only[ctL,Ni]at he;rcases he with he|he|he|he|he
 .unfold ctE at he;split at he
  .rw[Nl.1 he];exact⟨⟨by assumption,by simp only;omega⟩,⟨by simp only;omega,by simp only;omega⟩,.inr (.inl rfl)⟩
  cases he
 .split at he
  .rw[Nl.1 he];exact⟨⟨by simp only;omega,by simp only;omega⟩,⟨by simp only;omega,by simp only;omega⟩,.inr (.inl rfl)⟩
  cases he
 .exact ia p (p+1) (by omega) (by omega) e he
 .exact ib p (p+1+szL a) (by omega) (by omega) e he
 exact il c _ hc (by omega) e he
theorem XcD {f:Fl} (h:Sm f) (h0:XR f=0):∀e∈X1R f,okDp (((flL f.body).length:Int)+f.vars.length) e:=by
 have hc:=Q6 h0;have hfm:=X1Z f.body true hc.2.2.2.1;have hhm:=X3P f.hats [] hc.2.2.1;have hl:=Q2 f.body;intro e he;unfold X1R at he;rw[Wm,Wm,Wm]at he;rcases he with(((he|he)|he)|he)
 .cases he
 .exact ctL_rng f.body (-1) 0 (by omega) (by omega) e he
 .unfold X2R at he;obtain⟨⟨x,r⟩,hp,he⟩:=List.mem_flatMap.1 he;obtain⟨n,hx,hr⟩:=X2E.1 hp;simp only at hx hr he;unfold X2S at he;split at he
  .cases he
  rename_i hxa;split at he
  .rename_i s hs;have ha:=(N6.1 hs).1;split at he
   .split at he
    .rename_i hh hhe;obtain⟨v,hv,rfl⟩:=X5F.1 he;have:=X8z _ (hhm hh (N4 hhe)) v hv;exact⟨⟨by simp only;omega,by simp only;omega⟩,⟨by simp only;omega,by simp only;omega⟩,.inr (.inr rfl)⟩
    cases he
   obtain⟨v,hv,he⟩:=List.mem_flatMap.1 he;obtain⟨d,hd,rfl⟩:=NG.1 he;have hd:=(NN.1 hd).1;unfold rcL at hr;obtain⟨k,hk1,hk2⟩:=NG.1 (N4 hr);rw[<-hk2]at hd;have:=List.mem_range.1 (NN.1 hd).1;exact⟨⟨by simp only;omega,by simp only;omega⟩,⟨by simp only;omega,by simp only;omega⟩,.inl rfl⟩
  cases he
 split at he
 .cases he
 obtain⟨i,s,hs,_,rfl⟩:=(X87 _ _ _ _).1 he;have ha:=(N6.1 hs).1;exact⟨⟨by simp only;omega,by simp only;omega⟩,⟨by simp only;omega,by simp only;omega⟩,.inr (.inl rfl)⟩
theorem dp_few {N:Nat} {l:List Dp} (hn:l.Nodup) (h:∀e∈l,okDp N e):l.length<=(N+1)*(N+1)*3:=by
 have h1:Nb ((N+1)*(N+1)*3) (l.map fun e=>(e.f.toNat*(N+1)+e.t.toNat)*3+e.k.toNat):=by
  refine⟨?_,?_⟩
  .rw[List.nodup_iff_pairwise_ne,List.pairwise_map];refine List.Pairwise.imp_of_mem ?_ (List.nodup_iff_pairwise_ne.1 hn);intro a b ha hb hab e;obtain⟨⟨a1,a2⟩,⟨a3,a4⟩,a5⟩:=h a ha;obtain⟨⟨b1,b2⟩,⟨b3,b4⟩,b5⟩:=h b hb;apply hab;have e1:a.k.toNat=b.k.toNat:=by omega
   have e2:a.f.toNat*(N+1)+a.t.toNat=b.f.toNat*(N+1)+b.t.toNat:=by omega
   have e3:a.t.toNat=b.t.toNat:=by
    have:=congrArg (· %(N+1)) e2;simp only[Nat.mul_add_mod_self_right]at this
    rwa [Nat.mod_eq_of_lt (by omega),Nat.mod_eq_of_lt (by omega)]at this
   have e4:a.f.toNat=b.f.toNat:=Nat.eq_of_mul_eq_mul_right (show 0<N+1 by omega) (by omega);obtain⟨af,at_,ak⟩:=a;obtain⟨bf,bt,bk⟩:=b;simp only at*;have:af=bf:=by omega
   have:at_=bt:=by omega
   have:ak=bk:=by omega
   subst_vars
   rfl
  intro d hd;obtain⟨e,he,rfl⟩:=NG.1 hd;obtain⟨⟨a1,a2⟩,⟨a3,a4⟩,a5⟩:=h e he;have h3:e.f.toNat*(N+1)<=N*(N+1):=Db _ (by omega);have h4:(N+1)*(N+1)=N*(N+1)+(N+1):=Nat.succ_mul ..;omega
 have:=h1.len
 rwa [NW]at this
theorem Xcu {f:Fl} (h:Sm f) (h0:XR f=0):(X1R f).length<=20000000:=by
 have h1:=dp_few (N:=(flL f.body).length+f.vars.length) (X2Z f) (by have:=XcD h h0;simpa using this);have hs:=h.sz;have hv:=h.vars;have hl:=Q2 f.body;have h2:((flL f.body).length+f.vars.length+1)*((flL f.body).length+f.vars.length+1)<=2001*2001:=Nat.mul_le_mul (by omega) (by omega);omega
theorem X2p (f:Fl) (h:Sm f) (d:Nat):Con prog 23 false [aF f] (bdR f) none d:=Xc4 f h (fun h0=>⟨pd_ok h h0,Xcu h h0⟩) d
def depQ (f:Fl):List Dp:=edL (flL f.body).length f.hats f.body (-1) 0 (D0 (flL f.body).length f.vars.length)++(if X5y f=true then [] else tmP X32 (((flL f.body).length:Int)+f.vars.length) (flL f.body))
theorem depP_ref {f:Fl} (h:Sm f) (h0:XR f=0) (x:Dp):x∈X1R f↔x∈depQ f:=by
 have hvf:∀q∈flL f.body,∀v∈tmV q.term,0<=v:=fun q hq v hv=>((pd_ok h h0).st q hq).2.2 v hv |>.1;have h1:=prog_ref h h0 hvf x;unfold X1R depQ;rw[Wm,Wm,Wm,Ni,<-h1,Ni];simp only[Dk,false_or]
theorem sort_ref {f:Fl} (h:Sm f) (h0:XR f=0):WH (X1R f)=WH (depQ f):=X5e (depP_ref h h0)
def dsB (m l:List Dp):Bool:=(m.all fun x=>decide (x∈l))&&(l.all fun x=>decide (x∈m))
def ascB:List Dp->Bool
 |a::b::l=>dpB a b&&ascB (b::l)
 |_=>true
theorem dpB_tr {a b c:Dp} (h1:dpB a b=true) (h2:dpB b c=true):dpB a c=true:=by
 rw[Ze]at*;omega
theorem XcW:∀{l:List Dp},ascB l=true->l.Pairwise (fun a b=>dpB a b=true)
 |[],_=>.nil
 |[a],_=>by simp
 | a::b::l,h=>by
   simp only[ascB,N3]at h;have ih:=XcW h.2;refine .cons (fun c hc=>?_) ih;rcases Ng.1 hc with rfl|hc
   .exact h.1
   exact dpB_tr h.1 ((NS.1 ih).1 c hc)
theorem Xda {l m:List Dp} (h1:ascB m=true) (h2:dsB m l=true):WH l=m:=by
 unfold dsB at h2;simp only[N3,Nm,N5]at h2;exact(XaE (XcW h1) fun x=>⟨h2.1 x,h2.2 x⟩).symm
def ordB (P:List (Int×Int)) (R:List Int):List Int->List Int->Bool
 |_,[]=>true
 |s,x::l=>(decide (x∈R)||P.any fun p=>decide (p.2=x)&&decide (p.1∈s))&&ordB P R (x::s) l
theorem ord_cz {P:List (Int×Int)} {R:List Int}:∀(o s:List Int),ordB P R s o=true->(∀x∈s,Cz P (fun x=>x∈R) x)->∀x∈o,Cz P (fun x=>x∈R) x
 |[],_,_,_,x,hx=>by cases hx
 | y::o,s,h,hs,x,hx=>by
   simp only[ordB,N3,Nf,N5,List.any_eq_true]at h
   have hy:Cz P (fun x=>x∈R) y:=by
    rcases h.1 with h1|⟨⟨a,b⟩,h1,h2,h3⟩
    .exact .base h1
    simp only at h2 h3;exact .step (h2▸h1) (hs a h3)
   rcases Ng.1 hx with rfl|hx
   .exact hy
   exact ord_cz o (y::s) h.2 (fun z hz=>by
    rcases Ng.1 hz with rfl|hz
    .exact hy
    exact hs z hz) x hx
theorem czL_run {P:List (Int×Int)} {R:List Int} {N:Nat} (o:List Int) (h1:ordB P R [] o=true) (h2:(R.all fun x=>decide (x∈o))=true) (h3:(P.all fun p=> !decide (p.1∈o)||decide (p.2∈o))=true):czL P R N=(List.range N).map fun n:Nat=>decide ((n:Int)∈o):=by
 refine(Xba (by simp) fun n hn=>?_).symm;rw[Nn,List.getElem?_range hn];simp only[Option.map_some,Option.some.injEq,N5];simp only[Nm,Nf,Nu,Nh,N5]at h2 h3;refine⟨ord_cz o [] h1 (fun x hx=>by cases hx) n,fun hc=>?_⟩
 have key:∀{x:Int},Cz P (fun x=>x∈R) x->x∈o:=by
  intro x hx
  induction hx with
  |base hb=>exact h2 _ hb
  |step hab _ ih=>exact(h3 _ hab).resolve_left fun h=>h ih
 exact key hc
def rfT (n:Int):Tm:=⟨24,n,[]⟩
def exP:Fl:=⟨[⟨⟨#[120]⟩,1,0,1,0⟩,⟨⟨#[121]⟩,0,0,1,0⟩,⟨⟨#[122]⟩,0,0,1,0⟩],[⟨⟨#[104]⟩,0,1,rfT 0⟩],
 [.mk 0 0 1 0 (rfT 0) [] [] [],.mk 3 0 0 0 (rfT 1) [.mk 0 1 2 0 ⟨0,1,[]⟩ [] [] []] [] [],.mk 1 0 0 0 (rfT 2) [] [] [],.mk 5 0 1 0 ⟨0,0,[]⟩ [] [] [],.mk 1 0 0 0 (rfT 1) [] [] []]⟩
def exW:List Dp:=[⟨0,1,0⟩,⟨1,2,1⟩,⟨1,9,1⟩,⟨2,3,0⟩,⟨4,5,0⟩,⟨6,0,0⟩,⟨6,4,2⟩,⟨8,3,0⟩]
theorem X6t:XR exP=0:=by
 simp only[exP,rfT,XR,X1G,sdL,WO,ssC];kernel_rfl
theorem Xbh:Sm exP:=⟨by decide,by decide,by decide,by decide⟩
theorem X8I (a b:List Nat) (l:List Nat) (h:l.Pairwise (· < ·)) (ha:a.Pairwise (· < ·)) (hm:∀x,x∈l↔x∈a\/x∈b):uniL a b=l:=
 X8u (X9I b ha) h fun x=>by rw[X9F,hm]
theorem exP_q:depQ exP=[⟨6,0,0⟩,⟨0,1,0⟩,⟨1,2,1⟩,⟨2,3,0⟩,⟨8,3,0⟩,⟨6,4,2⟩,⟨4,5,0⟩,⟨1,9,1⟩]:=by
 have j1:Zz [[6],[0],[2]] [[6],[0],[8]]=[[6],[0],[2,8]]:=by
  simp only[Zz];rw[X8I [6] [6] [6] (by simp) (by simp) (by simp),X8I [0] [0] [0] (by simp) (by simp) (by simp),X8I [2] [8] [2,8] (by simp) (by simp) (by simp)]
 have e:edL 6 exP.hats exP.body (-1) 0 (D0 6 3)=[⟨6,0,0⟩,⟨0,1,0⟩,⟨1,2,1⟩]++edL 6 exP.hats (exP.body.drop 2) (-1) 3 (Zz [[6],[0],[2]] [[6],[0],[8]]):=by kernel_rfl
 have e2:edL 6 exP.hats (exP.body.drop 2) (-1) 3 [[6],[0],[2,8]]=[⟨2,3,0⟩,⟨8,3,0⟩,⟨6,4,2⟩,⟨4,5,0⟩]:=by kernel_rfl
 have e3:(if X5y exP=true then [] else tmP X32 (((flL exP.body).length:Int)+exP.vars.length) (flL exP.body))=[⟨1,9,1⟩]:=by kernel_rfl
 unfold depQ;rw[show(flL exP.body).length=6 from rfl,show exP.vars.length=3 from rfl]at*;rw[e,j1,e2,e3];rfl
theorem Xcz:WH (X1R exP)=exW:=by
 rw[sort_ref Xbh X6t];rw[exP_q];exact Xda (by kernel_rfl) (by kernel_rfl)
theorem exP_src:czL (prs true false exW) [5] 10=[false,false,false,false,true,true,false,false,false,false]:=by
 rw[czL_run [5,4] (by kernel_rfl) (by kernel_rfl) (by kernel_rfl)];kernel_rfl
end Go.Proofs.YtdajceakaakdoaaGreat
namespace Go.Proofs.YtdajceakaakdoaaGreat
open Go Go.Hl Go.Sort Go.Lib Go.Joins Go.Shelf
open Tryz(prog)
theorem Xa1 {F:Nat->Prop} {w:World} {x:Dp} {v:Value} (h:XH F noγ w (.agg [.c (iC x.f),.c (iC x.t),.c (iC x.k)]) v):v=.agg (dpE x).toArray:=by
 obtain⟨vs,rfl,hc⟩:=h;obtain⟨l⟩:=vs;obtain⟨hs,hc⟩:=hc
 match l,hs with
 | [a,b,c],_=>
   have e1:=hc 0 _ a rfl rfl;have e2:=hc 1 _ b rfl rfl;have e3:=hc 2 _ c rfl rfl;cases e1;cases e2;cases e3;rfl
theorem cmp_con (x y:Dp) (d:Nat):Con prog 61 true [.agg [.c (iC x.f),.c (iC x.t),.c (iC x.k)],.agg [.c (iC y.f),.c (iC y.t),.c (iC y.k)]] (.v (li (X5x x y))) none d:=by
 refine⟨by kernel_rfl,fun F w vs hF hsz hargs=>?_⟩;obtain⟨l⟩:=vs
 match l,hsz with
 | [v0,v1],_=>
   have a0:=Xa1 (hargs 0 _ v0 rfl rfl);have a1:=Xa1 (hargs 1 _ v1 rfl rfl);subst a0;subst a1;refine(XaX x y w).mono ?_;rintro e w' ⟨rfl,q,os',rfl⟩;exact⟨_,fun _=>False,noγ,rfl,⟨rfl,rfl,rfl,by show w.heap.size<=(w.heap++os').size;rw[Array.size_append];omega,fun j hj=>heap_grow_old (w.drewN q) os' (k:=j) hj⟩,fun b hb=>hb.elim,.lit _,fun o ho=>by cases ho⟩
def aPd (ns nv:Int) (E:List Dp):TV:=.agg [.c (iC ns),.c (iC nv),.c (.sl 3 (Qp E))]
theorem lt_cmpD' (x y:Dp):decide (X5x x y<0)=dpB x y:=X4B x y
end Go.Proofs.YtdajceakaakdoaaGreat
namespace Go.Proofs.YtdajceakaakdoaaGreat
open Go Go.Hl
open Tryz(prog)
def X65 (N:Int) (x:Dp):Bool:=(decide (0<=x.f)&&decide (x.f<=N))&&(decide (0<=x.t)&&decide (x.t<=N))
def kdB (x:Dp):Bool:=decide (x.k=0)||(decide (x.k=1)||decide (x.k=2))
def pvD (E:List Dp) (k:Nat):Option Dp:=if k=0 then none else E[k - 1]?
def ordF (p:Option Dp) (x:Dp):Bool:=match p with
 |some q=>dpB q x
 |none=>true
def chL (N:Int) (p:Option Dp):List Dp->Int
 |[]=>0
 |x::l=>if X65 N x=false then 3 else if kdB x=false then 1 else if ordF p x=false then 10 else chL N (some x) l
def hdB (ns nv:Int):Bool:=(decide (0<=ns)&&decide (ns<=1024))&&(decide (0<=nv)&&decide (nv<=64))
def chF (ns nv:Int) (E:List Dp):Int:=if hdB ns nv=false then 3 else chL (ns+nv) none E
theorem chL_at {N:Int} {E:List Dp} {k:Nat} {x:Dp} (hx:E[k]? =some x) (hd:E.drop k=x::E.drop (k+1)):chL N (pvD E k) (E.drop k)=if X65 N x=false then 3 else if kdB x=false then 1 else if ordF (pvD E k) x=false then 10 else chL N (pvD E (k+1)) (E.drop (k+1)):=by
 rw[hd,chL];have:pvD E (k+1)=some x:=by unfold pvD;rw[N7 (by omega)];simpa using hx
 rw[this]
theorem hd_in {ns nv:Int} (h:hdB ns nv=true):(0<=ns/\ns<=1024)/\(0<=nv/\nv<=64):=by
 unfold hdB at h;simpa using h
set_option maxHeartbeats 16000000 in
theorem chkP_con (ns nv:Int) (E:List Dp) (hl:E.length<=20000000) (d:Nat):Con prog 21 true [aPd ns nv E] (.v (li (chF ns nv E))) none d:=by
 unfold aPd chF;by_cases hh:hdB ns nv=true
 .rw [N7 (by rw[hh];decide)];obtain⟨⟨n0,n1⟩,v0,v1⟩:=hd_in hh;have hwN:IntKind.i64.wrap (ns+nv)=ns+nv:=Xa;obtain⟨res,hres⟩:∃r,chL (ns+nv) none E=r:=⟨_,rfl⟩;rw[hres];clear hh;refine X5 Tryz.func21 ?_;simp only[Tryz.f21];refine X2 ?_;refine X0<|X0<|X1 ?_;refine(Xb rfl (fun h2=>?_) fun h2=>?_)
  .exfalso;simp at h2<;>omega
  simp only[BN]at h2;refine X2 ?_;refine X0<|X0<|X1 ?_;refine X3<|(Xg [1,3,30,31] (fun(y:Nat)=>[(32,.v (li y))]) (fun y=>[(1,.box [.c (iC ns),.c (iC nv),.c (.sl 3 (Qp E))])]) (fun y=>y<=E.length/\chL (ns+nv) (pvD E y) (E.drop y)=res) (fun y=>E.length - y) (0:Nat) ⟨Nq _,hres⟩ ?_ ?_)
  .exact X4 (fun n=>n) []
  rintro y ⟨hy,hj⟩;simp only[upS,X8,Xz]
  simp only[KN,Nat.reduceBEq,Nj,Nc,ins,Nat.reduceLT]
  refine X2 ?_;refine X0<|(X6 rfl (fun h9=>Xe ?_) (fun h9=>?_))
  ·simp only[BN]at h9;have hlt:y<E.length:=by omega
   have hw1:=XD hlt (by omega);obtain⟨x,hx,hdr⟩:=Xt hlt;have hxe:=X1e hx;rw[chL_at hx hdr]at hj;clear hdr;obtain⟨xf,xt,xk⟩:=x;simp only[Dp.enc]at hxe;have hlt2:y+1<=E.length:=hlt;clear h9 hlt;refine X0<|X3<|X0<|X1 ?_;refine X3<|X0<|X1 ?_;refine(X6 rfl (fun h12=>?_) (fun h12=>?_))
   .simp only[BN]at h12
    have hr:X65 (ns+nv) ⟨xf,xt,xk⟩=false:=by
     rw[<-Bool.not_eq_true];intro h;simp[X65]at h h12;omega
    rw[N8 hr]at hj;subst hj;refine X2 ?_;exact Xc
   simp only[BN]at h12
   have hr:X65 (ns+nv) ⟨xf,xt,xk⟩=true:=by
    simp[X65]at h12⊢;omega
   rw[N7 (by rw[hr];decide)]at hj;clear h12;refine X2 ?_;refine(X6 rfl (fun h16=>?_) (fun h16=>?_))
   .simp only[BN]at h16
    have hr:kdB ⟨xf,xt,xk⟩=false:=by
     rw[<-Bool.not_eq_true];intro h;simp[kdB]at h h16;omega
    rw[N8 hr]at hj;subst hj;refine X2 ?_;exact Xc
   simp only[BN]at h16
   have hr:kdB ⟨xf,xt,xk⟩=true:=by
    simp[kdB]at h16⊢;omega
   rw[N7 (by rw[hr];decide)]at hj;clear h16;rcases y with _|k
   .have hw0:IntKind.i64.wrap 1=1:=by decide
    refine X0<|(X2M [none] (by kernel_rfl) (by kernel_rfl) (by rfl) (by simp[*];first|exact⟨rfl,Iff.rfl⟩|exact⟨rfl,trivial⟩|rfl) ?_ ?_)
    .trivial
    refine(Xb rfl (fun h20=>?_) fun h20=>?_)
    ·refine X2 ?_;exact Xc
    simp only at h20;rw[N7 (by simp[pvD,ordF])]at hj;refine X1 ?_;exact⟨1,⟨hlt2,hj⟩,by omega,X4 (fun n=>n) []⟩
   obtain⟨q,hq,hdq⟩:=Xt (show k<E.length by omega);have hqe:=X1e hq;have cq:=cmp_con q ⟨xf,xt,xk⟩;have hpv:pvD E (k+1)=some q:=hq;have hlq:=lt_cmpD' q ⟨xf,xt,xk⟩;rw[hpv]at hj;simp only[ordF,<-hlq]at hj;obtain⟨c,hc⟩:∃c,X5x q ⟨xf,xt,xk⟩=c:=⟨_,rfl⟩;rw[hc]at cq hj;obtain⟨qf,qt,qk⟩:=q;simp only[Dp.enc]at hqe cq;have hw2:IntKind.i64.wrap (((k+1:Nat):Int) - 1)=(k:Int):=by rw[Xa (by omega) (by omega)];omega
   have hk1:(0:Int)<(k:Int)+1:=by omega
   have hw4:IntKind.i64.wrap ((k:Int)+1+1)=(k:Int)+1+1:=Xa;have hw3:IntKind.i64.wrap (k:Int)=(k:Int):=Xa;clear hc hlq hpv hq hdq;refine X0<|(X2M [some ⟨true,.v (li c),none⟩] (by kernel_rfl) (by kernel_rfl) (by rfl) (by simp[*];first|exact⟨rfl,Iff.rfl⟩|exact⟨rfl,trivial⟩|rfl) ?_ ?_)
   .first|exact cq _|simpa using cq _
   refine(Xb rfl (fun h20=>?_) fun h20=>?_)
   .simp only[BN]at h20
    have hr:res=10:=by
     rw[<-hj,N8];simp at h20⊢;omega
    subst hr;refine X2 ?_;exact Xc
   simp only[BN]at h20;rw[N7 (by simp at h20⊢;omega)]at hj;refine X1 ?_;exact⟨k+1+1,⟨hlt2,hj⟩,by omega,X4 (fun n=>n) []⟩
  simp only[BN]at h9
  have hr:res=0:=by
   rw[<-hj,List.drop_eq_nil_of_le (by omega),chL]
  subst hr;refine(Xi ?_);refine X2 ?_;exact Xc
 have hh:hdB ns nv=false:=by simpa using hh
 rw[N8 hh]
 have hneg:¬((0<=ns/\ns<=1024)/\(0<=nv/\nv<=64)):=by
  intro h;have:hdB ns nv=true:=by unfold hdB;simpa using h
  rw[hh]at this;cases this
 refine X5 Tryz.func21 ?_;simp only[Tryz.f21];refine X2 ?_;refine X0<|X0<|X1 ?_;refine(Xb rfl (fun h2=>?_) fun h2=>?_)
 ·simp only[BN]at h2;refine X2 ?_;exact Xc
 exfalso;simp at h2<;>omega
def edgE (E:List Dp):List (List CD):=E.map fun x=>[iC x.f,iC x.t]
@[simp] theorem edgE_len (E:List Dp):(edgE E).length=E.length:=by simp[edgE]
@[simp] theorem edgE_nil:edgE []=[]:=rfl
theorem ch_hd {ns nv:Int} {E:List Dp} (h:chF ns nv E=0):hdB ns nv=true:=by
 unfold chF at h;split at h
 .cases h
 rename_i h1;simpa using h1
def X0C (S:List (List Int)):List (Option (List (List CD))):=S.map fun l=>some (X9 l)
@[simp] theorem rowI_len (S:List (List Int)):(X0C S).length=S.length:=by simp[X0C]
theorem XaM {S:List (List Int)} {i:Nat} {l:List Int} (h:S[i]? =some l):(X0C S)[i]? =some (some (X9 l)):=by simp[X0C,h]
theorem Xa6 (S:List (List Int)) (i:Nat) (l:List Int) (d:Int):(X0C S).set i (some (X9 l++[[iC d]]))=X0C (S.set i (l++[d])):=by
 simp only[X0C,List.map_set];congr 2;simp[X9]
def nxM (N:Nat) (P:List (Int×Int)):List (List Int):=(List.range N).map fun n:Nat=>nxF P n
@[simp] theorem nxM_len (N:Nat) (P:List (Int×Int)):(nxM N P).length=N:=by simp[nxM]
theorem X8U {N n:Nat} (P:List (Int×Int)) (h:n<N):(nxM N P)[n]? =some (nxF P n):=by simp[nxM,h]
theorem XcN {N a:Nat} (P:List (Int×Int)) (b:Int):(nxM N P).set a (nxF P a++[b])=nxM N (P++[((a:Int),b)]):=by
 apply NX;intro k;rw[NY];unfold nxM;simp only[NW,List.length_range,Nn];by_cases e:a=k
 .subst e;by_cases h:a<N
  .simp[h,Xay]
  simp[h]
 rw[N7 e];by_cases h:k<N
 .rw[List.getElem?_range h];simp only[Option.map_some,Option.some.injEq];rw[Xay,N7 (by omega)]
 rw[Ny (by simpa using h)];rfl
theorem nxM_nil (N:Nat):X0C (nxM N [])=List.replicate N (some []):=by
 apply NX;intro k;simp only[X0C,nxM,Nn,Dd];by_cases h:k<N
 .simp[h,nxF,X9]
 simp[h]
theorem take_prs {E:List Dp} {y:Nat} {x:Dp} (hx:E[y]? =some x) (back rel:Bool):prs back rel (E.take (y+1))=prs back rel (E.take y)++(if(rel||decide (x.k≠2))=true then [if back=true then(x.t,x.f)else(x.f,x.t)] else []):=by
 rw[List.take_add_one,hx];exact prs_snoc ..
def X5h (S:List (List Int)):List (List CD):=S.map fun l=>[.sl 1 (X9 l)]
@[simp] theorem encII_len (S:List (List Int)):(X5h S).length=S.length:=by simp[X5h]
theorem Xei {S:List (List Int)} {i:Nat} {l:List Int} (h:S[i]? =some l):(X5h S)[i]? =some [.sl 1 (X9 l)]:=by simp[X5h,h]
theorem rowI_mat (S:List (List Int)):(X0C S).map (fun r=>[X5D 1 r])=X5h S:=by simp[X0C,X5h,X5D]
theorem snoc_of {l:List Int} (h:l≠[]):∃W x,l=W++[x]:=⟨l.dropLast,l.getLast h,(List.dropLast_concat_getLast h).symm⟩
set_option maxHeartbeats 64000000 in
theorem X5p (ns nv:Int) (E:List Dp) (nodes:List Int) (back rel:Bool) (g:FuncId) (N:Nat) (hN:ns+nv+1=N) (n0:0<=ns) (v0:0<=nv) (hN2:N<=100000) (hl:E.length<=20000000) (hE:∀e∈E,(0<=e.f/\e.f<N)/\(0<=e.t/\e.t<N)) (hnl:nodes.length<=1000000) (hR:∀x∈nodes,0<=x/\x<N)
  (hg:∀(k:Int) d,Con prog g true [li k] (.v (lb (rel||decide (k≠2)))) none d) (d:Nat):Con prog 43 false [aPd ns nv E,lI nodes,lb back,.one (.fn g [])] (.v (lBl (czL (prs back rel E) nodes N))) none d:=by
 have hP:=prs_in (back:=back) (rel:=rel) hE;have hPl:=X8x back rel E;have hdone:=fun S=>Wk.done (S:=S) hP hR;have hinit:=Wk.init (P:=prs back rel E) hR;obtain⟨res,hres⟩:∃r,czL (prs back rel E) nodes N=r:=⟨_,rfl⟩;simp only[hres]at hdone⊢;clear hres;have hw1:IntKind.i64.wrap (ns+nv)=ns+nv:=Xa;have hw2:IntKind.i64.wrap (ns+nv+1)=N:=by rw[hN];exact Xa
 have hwN:IntKind.i64.wrap (N:Int)=N:=Xa;have ccl:=X3r nodes (by omega);have hbig:(8:Int)*N<=281474976710656:=by omega
 have hbig2:(N:Int)<=281474976710656:=by omega
 have hbig3:(24:Int)*N<=281474976710656:=by omega
 have hmx:N<=maxLen:=by unfold maxLen;omega
 have hnil:=nxM_nil N;have hrep:=Xd6 N;unfold aPd;refine X5 Tryz.func43 ?_;simp only[Tryz.f43];refine X2 ?_;refine X2 ?_;refine XC (le_mat 21 3 1 (by decide) (by decide) rfl rfl rfl) ?_;refine XC (le_matE 21 900001 rfl rfl) ?_;refine XC (s':=⟨⟨95,none⟩,[(1,.v (.one (.c (.sl 1 (X9 nodes))))),(2,.v (lb back)),(3,.v (.one (.fn g []))),(4,.v (.one (.at_ 4 0))),(9,.v (.one (.own 900001)))],[(4,.box [.c (iC ns),.c (iC nv),.c (.sl 3 (Qp E))]),(900001,.mat 29 3 1 (X0C (nxM N (prs back rel (E.take 0)))))]⟩) (Xw (fun n=>n) [] rfl (by simp[WI,RV.mv,TV.mv,CV.mv]) (by simp[WI,Ob.mv,CV.mv,ins,del,prs,hnil]) (by simp)) ?_;refine X0<|X0<|X1 ?_;refine X3<|(Xg [1,2,3,9,23,24] (fun(y:Nat)=>[(25,.v (li y)),(9,.v (.one (.own 900001)))]) (fun y=>[(900001,.mat 29 3 1 (X0C (nxM N (prs back rel (E.take y)))))]) (fun y=>y<=E.length) (fun y=>E.length - y) (0:Nat) (Nq _) ?_ ?_)
 .exact X4 (fun n=>n) []
 rintro y hy;simp only[upS,X8,Xz]
 try simp only[X8,KN,Nat.reduceBEq,Nj,Nc,ins,Nat.reduceLT]
 refine X2 ?_;refine X0<|(X6 rfl (fun h5=>Xe ?_) (fun h5=>?_))
 ·(try simp only[BN]at h5);have hlt:y<E.length:=by omega
  have hw3:=XD hlt (by omega);obtain⟨x,hx,_⟩:=Xt hlt;have hxe:=X1e hx;have htp:=take_prs hx back rel;obtain⟨⟨f0,f1⟩,t0,t1⟩:=hE x (N4 hx);obtain⟨xf,xt,xk⟩:=x;simp only at f0 f1 t0 t1;obtain⟨f,rfl⟩:∃f:Nat,xf=f:=⟨xf.toNat,by omega⟩;obtain⟨t,rfl⟩:∃t:Nat,xt=t:=⟨xt.toNat,by omega⟩;simp only[Dp.enc]at hxe;simp only at htp;have hlt2:y+1<=E.length:=hlt;clear h5 hlt;refine X0<|X3<|X0<|X1 ?_;refine X0<|X0<|(Xo [⟨true,.v (lb (rel||decide (xk≠2))),none⟩] ?_ ?_)
  .first|exact hg xk _|exact trivial|simpa[*]using hg xk _
  refine(Xb rfl (fun h8=>?_) fun h8=>?_)
  ·(try simp only[BN]at h8);have hu:(rel||decide (xk≠2))=false:=by simpa using h8
   rw[hu]at htp;simp only[NB,Nc,Dq]at htp;clear h8 hu;refine(Xi ?_);refine X1 ?_;exact⟨y+1,hlt2,by omega,X4 (fun n=>n) []⟩
  try simp only[BN]at h8
  have hu:(rel||decide (xk≠2))=true:=by
   rcases Bool.eq_false_or_eq_true (rel||decide (xk≠2))with h|h
   .exact h
   exfalso;simp at h h8;rcases h8 with e|e
   .rw[h.1]at e;cases e
   exact e h.2
  rw[hu]at htp;simp only[Nj]at htp;clear h8 hu;refine X2 ?_;refine(X6 rfl (fun h12=>?_) (fun h12=>?_))
  ·(try simp only[BN]at h12);have hb:back=true:=by simpa using h12
   subst hb;simp only[Nj]at htp;have hrg:=XaM (X8U (prs true rel (E.take y)) (show t<N by omega));have hrs:=Xa6 (nxM N (prs true rel (E.take y))) t (nxF (prs true rel (E.take y)) t) f;rw[XcN,<-htp]at hrs;have ht1:t+1<=(X0C (nxM N (prs true rel (E.take y)))).length:=by simp;omega
   have hroom:W5 ((nxF (prs true rel (E.take y)) t).length+1) 8:=by
    have h1:=X4c (prs true rel (E.take y)) t;have h2:=X8x true rel (E.take y);have h3:(E.take y).length<=E.length:=by simp;omega
    exact⟨by unfold maxLen;omega,by omega⟩
   clear h12;refine XC (s':=⟨⟨95,none⟩,[(1,.v (.one (.c (.sl 1 (X9 nodes))))),(2,.v (lb true)),(3,.v (.one (.fn g []))),(9,.v (.one (.own 900001))),(11,.v (.one (.at_ 11 0))),(23,.v (.one (.c (.sl 3 (Qp E))))),(24,.v (li E.length)),(25,.v (li y))],[(11,.box [.c (iC f),.c (iC t),.c (iC xk)]),(900001,.mat 29 3 1 (X0C (nxM N (prs true rel (E.take y)))))]⟩) (Xw (fun n=>n) [] rfl (by simp) (by simp) (by simp)) ?_;refine(rg114_13 (X9 nodes) (Qp E) E.length g (X0C (nxM N (prs true rel (E.take y)))) (X9 (nxF (prs true rel (E.take y)) t)) y f t xk hrg ht1 (by simpa using hroom) ?_);refine XC (s':=⟨⟨95,none⟩,[(1,.v (.one (.c (.sl 1 (X9 nodes))))),(2,.v (lb true)),(3,.v (.one (.fn g []))),(9,.v (.one (.own 900001))),(23,.v (.one (.c (.sl 3 (Qp E))))),(24,.v (li E.length)),(25,.v (li y))],[(900001,.mat 29 3 1 (X0C (nxM N (prs true rel (E.take (y+1))))))]⟩) (Xw (fun n=>if n=900001 then 46 else n) [] rfl (by simp[QN,trS,WI,RV.mv,TV.mv,CV.mv,ins]) (by simp[WI,Ob.mv,CV.mv,hrs,del,ins]) (by simp)) ?_;refine X1 ?_;exact⟨y+1,hlt2,by omega,X4 (fun n=>n) []⟩
  (try simp only[BN]at h12);have hb:back=false:=by simpa using h12
  subst hb;simp only[NB,Nc]at htp;have hrg:=XaM (X8U (prs false rel (E.take y)) (show f<N by omega));have hrs:=Xa6 (nxM N (prs false rel (E.take y))) f (nxF (prs false rel (E.take y)) f) t;rw[XcN,<-htp]at hrs;have ht1:f+1<=(X0C (nxM N (prs false rel (E.take y)))).length:=by simp;omega
  have hroom:W5 ((nxF (prs false rel (E.take y)) f).length+1) 8:=by
   have h1:=X4c (prs false rel (E.take y)) f;have h2:=X8x false rel (E.take y);have h3:(E.take y).length<=E.length:=by simp;omega
   exact⟨by unfold maxLen;omega,by omega⟩
  clear h12;refine XC (s':=⟨⟨95,none⟩,[(1,.v (.one (.c (.sl 1 (X9 nodes))))),(2,.v (lb false)),(3,.v (.one (.fn g []))),(9,.v (.one (.own 900001))),(11,.v (.one (.at_ 11 0))),(23,.v (.one (.c (.sl 3 (Qp E))))),(24,.v (li E.length)),(25,.v (li y))],[(11,.box [.c (iC f),.c (iC t),.c (iC xk)]),(900001,.mat 29 3 1 (X0C (nxM N (prs false rel (E.take y)))))]⟩) (Xw (fun n=>n) [] rfl (by simp) (by simp) (by simp)) ?_;refine(rg114_16 (X9 nodes) (Qp E) E.length g (X0C (nxM N (prs false rel (E.take y)))) (X9 (nxF (prs false rel (E.take y)) f)) y f t xk hrg ht1 (by simpa using hroom) ?_);refine XC (s':=⟨⟨95,none⟩,[(1,.v (.one (.c (.sl 1 (X9 nodes))))),(2,.v (lb false)),(3,.v (.one (.fn g []))),(9,.v (.one (.own 900001))),(23,.v (.one (.c (.sl 3 (Qp E))))),(24,.v (li E.length)),(25,.v (li y))],[(900001,.mat 29 3 1 (X0C (nxM N (prs false rel (E.take (y+1))))))]⟩) (Xw (fun n=>if n=900001 then 59 else n) [] rfl (by simp[QN,trS,WI,RV.mv,TV.mv,CV.mv,ins]) (by simp[WI,Ob.mv,CV.mv,hrs,del,ins]) (by simp)) ?_;refine X1 ?_;exact⟨y+1,hlt2,by omega,X4 (fun n=>n) []⟩
 (try simp only[BN]at h5);have hyl:y=E.length:=by omega
 subst hyl;have hte:E.take E.length=E:=List.take_length;rw[hte];clear h5;obtain⟨P,hPP⟩:∃p,prs back rel E=p:=⟨_,rfl⟩;rw[hPP]at hP hPl hdone hinit⊢;have hmat:=rowI_mat (nxM N P);clear hPP hte;refine(Xi ?_);refine XC (le_frzM 900001 rfl) ?_;refine XC (s':=⟨⟨95,none⟩,[(1,.v (.one (.c (.sl 1 (X9 nodes))))),(9,.v (.one (.c (.sl 1 (X5h (nxM N P))))))],[]⟩) (Xw (fun n=>n) [] rfl (by simp[HS.frz,X0C,X5h]) (by simp[HS.frz]) (by simp)) ?_;refine X2 ?_;refine Xh [⟨false,.v (.one (.own 66)),some (.row 3 1 (X9 nodes))⟩] ?_ ?_
 .first|exact ccl _ (by decide)|exact trivial|simpa[*]using ccl _ (by decide)
 refine X0<|X3<|(Xg [9,12] (fun(y:List Bool×List Int)=>[(13,.v (.one (.own 1013)))]) (fun y=>[(64,.row 4 1 (X23 y.1)),(1013,.row 3 1 (X9 y.2))]) (fun y=>Wk N P nodes y.1 y.2) (fun y=>cfS y.1*(P.length+1)+y.2.length) (List.replicate N false,nodes) hinit ?_ ?_)
 .exact X4 (fun n=>if n=1013 then 66 else n) []
 rintro⟨S,W0⟩ hj;simp only[upS,X8,Xz]
 try simp only[X8,KN,Nat.reduceBEq,Nj,Nc,ins,Nat.reduceLT]
 simp only at hj;have hbd:=hj.bd
 have hWl:W0.length<=3000000000000:=by
  have h1:N*(P.length+1)<=100000*20000001:=Nat.mul_le_mul hN2 (by omega);omega
 clear hbd;refine X0<|X0<|X1 ?_;refine(X6 rfl (fun h23=>Xe ?_) (fun h23=>?_))
 ·(try simp only[BN]at h23);obtain⟨W,x,rfl⟩:=snoc_of (l:=W0) (by rintro rfl;simp at h23);obtain⟨⟨x0,x1⟩,_⟩:=hj.wk x (by simp);obtain⟨k,rfl⟩:∃k:Nat,x=k:=⟨x.toNat,by omega⟩;have hkN:k<N:=by omega
  have hSl:=hj.len;obtain⟨b,hb,_⟩:=Xt (show k<S.length by omega);have hbe:=X2I hb;have hwx:(X9 (W++[(k:Int)]))[W.length]? =some [iC k]:=by simp[X9]
  have hwl:(X9 (W++[(k:Int)])).length=W.length+1:=by simp
  have hwt:(X9 (W++[(k:Int)])).take W.length=X9 W:=by simp[X9]
  have hw4:IntKind.i64.wrap ((W.length:Int)+1 - 1)=W.length:=by rw[Na]at hWl;simp only[List.length_singleton]at hWl;rw[Xa (by omega) (by omega)];omega
  have hw5:IntKind.i64.wrap (W.length:Int)=W.length:=by rw[Na]at hWl;simp only[List.length_singleton]at hWl;exact Xa
  have hroomW:W5 (W.length+(nxF P k).length) 8:=by
   have h1:=X4c P k;rw[Na]at hWl;simp only[List.length_singleton]at hWl;exact⟨by unfold maxLen;omega,by omega⟩
  have hne:=Xei (X8U P hkN);have hset:=XdV S k true;clear h23 hkN hSl x1;refine X3<|X0<|X1 ?_;refine X0<|(XJ ?_);refine RunsN.cutE 4 [] (by simp[*];rfl) trivial (le_refl _) ?_;refine RunsN.cutR (l:=0) (hi:=W.length) rfl rfl rfl rfl rfl rfl rfl rfl rfl rfl rfl (by simp[X16, *]) (Nq _) (by simp) ?_;refine RunsN.doneE [] (by simp[*];rfl) trivial ?_;refine X0<|X0<|X1 ?_;refine(Xb rfl (fun h27=>?_) fun h27=>?_)
  ·(try simp only[BN]at h27);have hbt:b=true:=by simpa using h27
   subst hbt;have hj2:=hj.skip (by simpa using hb);have hlt3:cfS S*(P.length+1)+W.length<cfS S*(P.length+1)+(W++[(k:Int)]).length:=by simp
   clear hj;refine(Xi ?_);exact⟨(S,W),hj2,hlt3,X4 (fun n=>if n=1013 then 80 else n) []⟩
  (try simp only[BN]at h27);have hbt:b=false:=by simpa using h27
  subst hbt;have hb2:S[(k:Int).toNat]? =some false:=by simpa using hb
  have hj2:=hj.add hP hb2;have hlt3:=Wk.lt (N:=N) (R:=nodes) (P:=P) (W:=W) hb2;simp only[Int.toNat_natCast]at hj2 hlt3;clear hj;refine X2 ?_;refine X1 ?_;exact⟨(S.set k true,W++nxF P k),hj2,hlt3,X4 (fun n=>if n=1013 then 93 else n) []⟩
 try simp only[BN]at h23
 have hW0:W0=[]:=by
  rcases W0 with _|⟨a,W0⟩
  .rfl
  simp at h23<;>omega
 subst hW0;have hS:=hdone S hj;rw[hS];refine(Xi ?_);refine XC (Qy 64 rfl) ?_;refine X2 ?_;exact Xc
theorem Xca {N:Int}:∀{l:List Dp} {p:Option Dp},chL N p l=0->∀e∈l,X65 N e=true
 |[],_,_,e,he=>by cases he
 | x::l,p,h,e,he=>by
   simp only[chL]at h;split at h
   .cases h
   split at h
   .cases h
   split at h
   .cases h
   rename_i h1 _ _;rcases Ng.1 he with rfl|he
   .simpa using h1
   exact Xca h e he
theorem ch_all {ns nv:Int} {E:List Dp} (h:chF ns nv E=0):∀e∈E,X65 (ns+nv) e=true:=by
 unfold chF at h;split at h
 .cases h
 exact Xca h
theorem ch_in {ns nv:Int} {E:List Dp} {N:Nat} (hN:ns+nv+1=N) (h:chF ns nv E=0):∀e∈E,(0<=e.f/\e.f<N)/\(0<=e.t/\e.t<N):=by
 intro e he;have h1:=ch_all h e he;simp only[X65,N3,N5]at h1;omega
theorem all_con (k:Int) (d:Nat):Con prog 131 true [li k] (.v (lb (true||decide (k≠2)))) none d:=by
 refine X5 Tryz.func131 ?_;simp only[Tryz.f131];refine X2 ?_;refine X2 ?_;exact Xc
theorem Xbn (k:Int) (d:Nat):Con prog 44 true [li k] (.v (lb (false||decide (k≠2)))) none d:=by
 refine X5 Tryz.func44 ?_;simp only[Tryz.f44];refine X2 ?_;refine X2 ?_;exact Xc
def X4U (N:Int) (l:List Int):Bool:=l.all fun x=>decide (0<=x)&&decide (x<N)
theorem nodB_at {N:Int} {l:List Int} {y:Nat} {x:Int} (hd:l.drop y=x::l.drop (y+1)):X4U N (l.drop y)=((decide (0<=x)&&decide (x<N))&&X4U N (l.drop (y+1))):=by
 rw[hd];rfl
theorem nodB_mem {N:Int} {l:List Int} (h:X4U N l=true):∀x∈l,0<=x/\x<N:=by
 intro x hx;unfold X4U at h;simpa using Nm.1 h x hx
noncomputable def wkR (back:Bool) (ns nv:Int) (E:List Dp) (nodes:List Int):RV:=
 .tup [if chF ns nv E=0/\X4U (ns+nv+1) nodes=true then lBl (czL (prs back true E) nodes (ns+nv+1).toNat)else .one (.c (.lit XX)),li (if chF ns nv E=0 then(if X4U (ns+nv+1) nodes=true then 0 else 3)else 1)]
theorem clos_con (back:Bool) (ns nv:Int) (E:List Dp) (nodes:List Int) (hl:E.length<=20000000) (hnl:nodes.length<=1000000) (d:Nat):Con prog 70 false [aPd ns nv E,lI nodes,lb back] (wkR back ns nv E nodes) none d:=by
 have cc:=chkP_con ns nv E hl;unfold wkR;by_cases h0:chF ns nv E=0
 .obtain⟨⟨n0,n1⟩,v0,v1⟩:=hd_in (ch_hd h0);obtain⟨N,hN⟩:∃N:Nat,ns+nv+1=N:=⟨(ns+nv+1).toNat,by omega⟩;have cr:=fun hR=>X5p ns nv E nodes back true 131 N hN n0 v0 (by omega) hl (ch_in hN h0) hnl hR all_con;have hw1:IntKind.i64.wrap (ns+nv)=ns+nv:=Xa;rw[h0]at cc;simp only[h0,Nj,true_and,hN,Int.toNat_natCast];have hmem:=nodB_mem (N:=(N:Int)) (l:=nodes);obtain⟨B,hB⟩:∃b,X4U (N:Int) nodes=b:=⟨_,rfl⟩;rw[hB]at hmem⊢;obtain⟨Z,hZ⟩:∃z,czL (prs back true E) nodes N=z:=⟨_,rfl⟩;rw[hZ]at cr⊢;clear h0 hZ;unfold aPd at cc cr⊢;refine X5 Tryz.func70 ?_;simp only[Tryz.f70];refine X2 ?_;refine X0<|X0<|(Xo [⟨true,.v (li 0),none⟩] ?_ ?_)
  .first|exact cc _|exact trivial|simpa[*]using cc _
  refine(Xb rfl (fun h2=>?_) fun h2=>?_)
  .exact absurd h2 (by simp)
  (try simp only[BN]at h2);refine X0<|X0<|X1 ?_;refine X3<|(Xg [1,2,3,13,14] (fun(y:Nat)=>[(15,.v (li y))]) (fun y=>[(3,.box [.c (iC ns),.c (iC nv),.c (.sl 3 (Qp E))])]) (fun y=>y<=nodes.length/\X4U (N:Int) (nodes.drop y)=B) (fun y=>nodes.length - y) (0:Nat) ⟨Nq _,hB⟩ ?_ ?_)
  .exact X4 (fun n=>n) []
  rintro y ⟨hy,hj⟩;simp only[upS,X8,Xz]
  try simp only[X8,KN,Nat.reduceBEq,Nj,Nc,ins,Nat.reduceLT]
  refine X2 ?_;refine X0<|(X6 rfl (fun h8=>Xe ?_) (fun h8=>?_))
  ·(try simp only[BN]at h8);have hlt:y<nodes.length:=by omega
   have hw2:=XD hlt (by omega);obtain⟨x,hx,hdr⟩:=Xt hlt;rw[nodB_at hdr]at hj;have hlt2:y+1<=nodes.length:=hlt;clear h8 hlt hdr;refine X0<|X3<|X0<|X1 ?_;refine X2 ?_;refine(Xb rfl (fun h11=>?_) fun h11=>?_)
   .try simp only[BN]at h11
    have hb:B=false:=by
     rw[<-hj]
     have h12:¬(0<=x/\x<(N:Int)):=by
      try simp at h11
      omega
     rw[show(decide (0<=x)&&decide (x<(N:Int)))=false by rw[<-Bool.not_eq_true];simpa using h12];rfl
    subst hb;refine X2 ?_;exact Xc
   try simp only[BN]at h11
   have hb:X4U (N:Int) (nodes.drop (y+1))=B:=by
    rw[<-hj]
    have h12:0<=x/\x<(N:Int):=by
     try simp at h11
     omega
    rw[show(decide (0<=x)&&decide (x<(N:Int)))=true by simpa using h12];rfl
   clear h11;refine X1 ?_;exact⟨y+1,⟨hlt2,hb⟩,by omega,X4 (fun n=>n) []⟩
  (try simp only[BN]at h8);have hyl:y=nodes.length:=by omega
  subst hyl
  have hb:B=true:=by
   rw[<-hj,Nw];rfl
  subst hb;have cr:=cr (hmem rfl);refine(Xi ?_);refine Xh [⟨false,.v (lBl Z),none⟩] ?_ ?_
  .first|exact cr _|exact trivial|simpa[*]using cr _
  exact Xc
 obtain⟨C,hC⟩:∃x,chF ns nv E=x:=⟨_,rfl⟩;rw[hC]at cc h0;simp only[hC,N7 h0,h0,false_and,Nc];clear hC;unfold aPd at cc⊢;refine X5 Tryz.func70 ?_;simp only[Tryz.f70];refine X2 ?_;refine X0<|X0<|(Xo [⟨true,.v (li C),none⟩] ?_ ?_)
 .first|exact cc _|exact trivial|simpa[*]using cc _
 refine(Xb rfl (fun h2=>?_) fun h2=>?_)
 ·(try simp only[BN]at h2);refine X2 ?_;exact Xc
 exact absurd (by simpa using h2) h0
theorem back_con (ns nv:Int) (E:List Dp) (nodes:List Int) (hl:E.length<=20000000) (hnl:nodes.length<=1000000) (d:Nat):Con prog 28 false [aPd ns nv E,lI nodes] (wkR true ns nv E nodes) none d:=by
 have cc:=clos_con true ns nv E nodes hl hnl;unfold wkR at cc⊢;obtain⟨A,hA⟩:∃x,(if chF ns nv E=0/\X4U (ns+nv+1) nodes=true then lBl (czL (prs true true E) nodes (ns+nv+1).toNat)else .one (.c (.lit XX)))=x:=⟨_,rfl⟩;obtain⟨C,hC⟩:∃x,(if chF ns nv E=0 then(if X4U (ns+nv+1) nodes=true then(0:Int)else 3)else 1)=x:=⟨_,rfl⟩;have hAd:∃D:CD,A=.one (.c D):=by rw[<-hA];split<;>exact⟨_,rfl⟩
 rw[hA,hC]at cc⊢;obtain⟨D,rfl⟩:=hAd;clear hA hC;unfold aPd at cc⊢;refine X5 Tryz.func28 ?_;simp only[Tryz.f28];refine X2 ?_;refine Xh [⟨false,.tup [.one (.c D),li C],none⟩] ?_ ?_
 .first|exact cc _|exact trivial|simpa[*]using cc _
 exact Xc
theorem X3W (d:Nat):Con prog 47 false [lI []] (.v (lI [])) none d:=by
 refine X5 Tryz.func47 ?_;simp only[Tryz.f47];refine X2 ?_;refine X0<|X0<|X1 ?_;refine(Xb rfl (fun h2=>?_) fun h2=>?_)
 ·(try simp only[BN]at h2);refine X2 ?_;exact Xc
 exact absurd h2 (by simp)
def kdV (vars:List Vr) (v:Nat):Bool:=match vars[v]? with
 |some x=>decide (x.kind≠0)
 |none=>false
def X4F (vars:List Vr) (S:List Bool) (n y:Nat):List Int:=((List.range y).filter fun v=>kdV vars v&&(S[n+v]?.getD false)).map fun v:Nat=>(v:Int)
theorem XdY (vars:List Vr) (S:List Bool) (n y:Nat):X4F vars S n (y+1)=X4F vars S n y++(if(kdV vars y&&(S[n+y]?.getD false))=true then [(y:Int)] else []):=by
 unfold X4F;rw[List.range_succ,Da,DA];congr 1;by_cases h:(kdV vars y&&(S[n+y]?.getD false))=true
 .simp only[List.filter_cons,h,Nj,List.filter_nil,Nk,Nr]
 simp only[List.filter_cons,h,Nc,List.filter_nil,Nr];simp
theorem srcI_len (vars:List Vr) (S:List Bool) (n y:Nat):(X4F vars S n y).length<=y:=by
 unfold X4F;rw[NW];exact Dz (Dh _ _) (by simp)
@[simp] theorem srcI_zero (vars:List Vr) (S:List Bool) (n:Nat):X4F vars S n 0=[]:=rfl
def rlS (steps:List St) (S:List Bool) (i:Nat):Bool:=match steps[i]? with
 |some s=>decide (s.do_=5)&&(S[i]?.getD false)
 |none=>false
def stN (steps:List St) (i:Nat):Int:=match steps[i]? with
 |some s=>s.n
 |none=>0
def X4Y (steps:List St) (S:List Bool) (y:Nat):List Int:=((List.range y).filter fun i=>rlS steps S i).map fun i=>stN steps i
theorem XdJ (steps:List St) (S:List Bool) (y:Nat):X4Y steps S (y+1)=X4Y steps S y++(if rlS steps S y=true then [stN steps y] else []):=by
 unfold X4Y;rw[List.range_succ,Da,DA];congr 1;by_cases h:rlS steps S y=true
 .simp only[List.filter_cons,h,Nj,List.filter_nil,Nk,Nr]
 simp only[List.filter_cons,h,Nc,List.filter_nil,Nr];simp
@[simp] theorem hatS_zero (steps:List St) (S:List Bool):X4Y steps S 0=[]:=rfl
theorem XaN (steps:List St) (S:List Bool) (y:Nat):(X4Y steps S y).length<=y:=by
 unfold X4Y;rw[NW];exact Dz (Dh _ _) (by simp)
def hatC (l:List Int):List Int:=Lib.compact (l.mergeSort fun x y=>decide (x<=y))
noncomputable def Zo (f:Fl):List Dp:=WH (X1R f)
noncomputable def dirZ (f:Fl) (node:Int):List Bool:=czL (prs true false (Zo f)) [node] ((flL f.body).length+f.vars.length+1)
noncomputable def srcR (f:Fl) (node:Int):RV:=
 .tup (if XR f=0 then(if 0<=node/\node<=((flL f.body).length:Int)+f.vars.length then [lI (X4F f.vars (dirZ f node) (flL f.body).length f.vars.length),lI (hatC (X4Y (flL f.body) (dirZ f node) (flL f.body).length)),li 0] else [.one (.c (.lit XX)),.one (.c (.lit XX)),li 3])
  else [.one (.c (.lit XX)),.one (.c (.lit XX)),li (XR f)])
theorem Xau {f:Fl} (h:Sm f) (h0:XR f=0):(Zo f).length<=20000000:=by
 unfold Zo;rw[X7d _ (X2Z f)];exact Xcu h h0
theorem X9o {f:Fl} (h:Sm f) (h0:XR f=0):∀e∈Zo f,okDp (((flL f.body).length:Int)+f.vars.length) e:=fun e he=>XcD h h0 e ((X0e _ _).1 he)
theorem depL_in {f:Fl} (h:Sm f) (h0:XR f=0):∀e∈Zo f,(0<=e.f/\e.f<(((flL f.body).length+f.vars.length+1:Nat):Int))/\(0<=e.t/\e.t<(((flL f.body).length+f.vars.length+1:Nat):Int)):=by
 intro e he;have:=X9o h h0 e he;unfold okDp at this;omega
set_option maxHeartbeats 16000000 in
theorem X78 (f:Fl) (h:Sm f) (node:Int) (d:Nat):Con prog 14 false [aF f,li node] (srcR f node) none d:=by
 have cb:=X2p f h;have hat:=fun(i:Nat) (s:St) (hs:(flL f.body)[i]? =some s)=>atP_con f (by have:=h.nodes;omega) h.bnd i s (by rw[XcF f.body i (by omega)];simpa using hs);unfold srcR;unfold bdR at cb;by_cases h0:XR f=0
 .rw [h0]at cb;simp only[h0,Nj]at cb⊢;have hv:=h.vars;have hsz:=h.sz;have hfl:=Q2 f.body;have hEl:=Xau h h0;have hEi:=depL_in h h0;have cr:=fun hR=>X5p ((flL f.body).length:Int) f.vars.length (Zo f) [node] true false 44 ((flL f.body).length+f.vars.length+1) (by omega) (by omega) (by omega) (by omega) hEl hEi (by simp) hR Xbn;have hZl:(dirZ f node).length=(flL f.body).length+f.vars.length+1:=X2P ..;have hdz:czL (prs true false (Zo f)) [node] ((flL f.body).length+f.vars.length+1)=dirZ f node:=rfl;rw[hdz]at cr;have hdl:WH (X1R f)=Zo f:=rfl;rw[hdl]at cb;clear hdz hdl hEi h h0;obtain⟨Z,hZ⟩:∃z,dirZ f node=z:=⟨_,rfl⟩;rw[hZ]at cr hZl⊢;obtain⟨E,hE⟩:∃z,Zo f=z:=⟨_,rfl⟩;rw[hE]at cr cb hEl;clear hZ hE;obtain⟨vars,hats,body⟩:=f;simp only[aF,Fl.enc,Nk,Nr]at*;obtain⟨st,hst⟩:∃z,flL body=z:=⟨_,rfl⟩;rw[hst]at hat cb cr hZl hfl⊢;obtain⟨n,hn⟩:∃n,st.length=n:=⟨_,rfl⟩;obtain⟨V,hV⟩:∃n,vars.length=n:=⟨_,rfl⟩;rw[hn]at cb cr hZl hfl⊢;rw[hV]at cb cr hZl hv⊢;have hn1:n<=1000:=by omega
  clear hfl hsz hst;have hw1:IntKind.i64.wrap ((n:Int)+V)=n+V:=Xa;unfold aPd at cr;by_cases hr:0<=node/\node<=(n:Int)+V
  .simp only[hr,and_self,Nj];have cr:=cr (by intro x hx;rw[Nl.1 hx];omega);refine X5 Tryz.func14 ?_;simp only[Tryz.f14];refine X2 ?_;refine Xh [⟨false,.tup [.agg [.c (iC n),.c (iC V),.c (.sl 3 (Qp E))],li 0],none⟩] ?_ ?_
   .first|exact cb _|exact trivial|simpa[*]using cb _
   refine X0<|X0<|X1 ?_;refine(Xb rfl (fun h3=>?_) fun h3=>?_)
   .exact absurd h3 (by simp)
   (try simp only[BN]at h3);refine X0<|X0<|X1 ?_;refine(Xb rfl (fun h7=>?_) fun h7=>?_)
   .exfalso;simp at h7<;>omega
   (try simp only[BN]at h7);have hnd:X9 [node]=[[iC node]]:=rfl;refine X0<|(X5J 3 [] [⟨false,.v (lBl Z),none⟩] (by simp[*];rfl) trivial (Qy 38 rfl) (by simp[*];first|exact⟨rfl,Iff.rfl⟩|exact⟨rfl,trivial⟩|rfl) ?_ ?_)
   .first|exact cr _|simpa using cr _
   refine X2 ?_;refine X0<|X0<|X1 ?_;refine X3<|(Xg [2,7,9,11,41,42] (fun(y:Nat)=>[(10,.v (.one (.own 1010))),(43,.v (li y))]) (fun y=>[(2,.box [.c (.sl 5 (Xk vars)),.c (.sl 6 (Xn hats)),.c (.sl 10 (X7 body))]),(7,.box [.c (iC n),.c (iC V),.c (.sl 3 (Qp E))]),(1010,.row 3 1 (X9 (X4F vars Z n y)))]) (fun y=>y<=V) (fun y=>V - y) (0:Nat) (Nq _) ?_ ?_)
   .exact X4 (fun n=>n) [1010]
   rintro y hy;simp only[upS,X8,Xz]
   try simp only[X8,KN,Nat.reduceBEq,Nj,Nc,ins,Nat.reduceLT]
   refine X2 ?_;refine X0<|(X6 rfl (fun h15=>Xe ?_) (fun h15=>?_))
   ·(try simp only[BN]at h15);have hlt:y<V:=by omega
    have hw3:=XD hlt (by omega);obtain⟨x,hx,_⟩:=Xt (show y<vars.length by omega);obtain⟨b,hb,_⟩:=Xt (show n+y<Z.length by omega);have hbe:=X2I hb;have hw4:IntKind.i64.wrap ((n:Int)+y)=((n+y:Nat):Int):=by rw[Xa (by omega) (by omega)];omega
    have hsc:=XdY vars Z n y;have hkd:kdV vars y=decide (x.kind≠0):=by unfold kdV;rw[hx]
    rw[hkd,hb]at hsc;simp only[Option.getD_some]at hsc;have hll:=srcI_len vars Z n y;have hroom:W5 ((X4F vars Z n y).length+1) 8:=Qc (by omega) (by decide);have hlt2:y+1<=V:=hlt;obtain⟨k,hk⟩:∃k,n+y=k:=⟨_,rfl⟩;rw[hk]at hw4 hbe;obtain⟨xn,xk,xl,xh,xi⟩:=x;replace hsc:X4F vars Z n (y+1)=X4F vars Z n y++(if(decide (xk≠0)&&b)=true then [(y:Int)] else []):=hsc;have hsn:X9 [(y:Int)]=[[iC y]]:=rfl;clear h15 hlt hb hk hkd hll;refine X0<|X3<|X0<|X1 ?_;refine X2 ?_;refine(Xb rfl (fun h18=>?_) fun h18=>?_)
    ·(try simp only[BN]at h18);have hu:(decide (xk≠0)&&b)=true:=by simpa using h18
     simp only[hu,Nj]at hsc;refine X1 ?_;refine X1 ?_;exact⟨y+1,hlt2,by omega,X4 (fun n=>if n=1010 then 63 else n) []⟩
    (try simp only[BN]at h18);have hu:(decide (xk≠0)&&b)=false:=by rcases h18 with e|e<;>simp[e]
    simp only[hu,NB,Nc,Dq]at hsc;refine X1 ?_;exact⟨y+1,hlt2,by omega,X4 (fun n=>n) []⟩
   (try simp only[BN]at h15);obtain rfl:y=V:=by omega
   clear h15;refine(Xi ?_);refine X0<|X0<|X1 ?_;refine X3<|(Xg [2,9,10,66] (fun(z:Nat)=>[(11,.v (.one (.own 1011))),(67,.v (li z))]) (fun z=>[(2,.box [.c (.sl 5 (Xk vars)),.c (.sl 6 (Xn hats)),.c (.sl 10 (X7 body))]),(1010,.row 3 1 (X9 (X4F vars Z n y))),(1011,.row 3 1 (X9 (X4Y st Z z)))]) (fun z=>z<=n) (fun z=>n - z) (0:Nat) (Nq _) ?_ ?_)
   .exact X4 (fun n=>n) [1011]
   rintro z hz;simp only[upS,X8,Xz]
   try simp only[X8,KN,Nat.reduceBEq,Nj,Nc,ins,Nat.reduceLT]
   refine X2 ?_;refine X0<|(X6 rfl (fun h27=>Xe ?_) (fun h27=>?_))
   .try simp only[BN]at h27
    have hlt:z<n:=by
     have:(z:Int)<n:=by simpa using h27
     omega
    have hw3:=XD hlt (by omega);obtain⟨s,hs,_⟩:=Xt (show z<st.length by omega);have ca:=hat z s hs;obtain⟨b,hb,_⟩:=Xt (show z<Z.length by omega);have hbe:=X2I hb;have hsc:=XdJ st Z z;have hkd:rlS st Z z=(decide (s.do_=5)&&b):=by unfold rlS;rw[hs,hb];rfl
    have hkn:stN st z=s.n:=by unfold stN;rw[hs]
    rw[hkd,hkn]at hsc;have hll:=XaN st Z z;have hroom:W5 ((X4Y st Z z).length+1) 8:=Qc (by omega) (by decide);have hlt2:z+1<=n:=hlt;obtain⟨so,sc,sv,sn,⟨po,tn,tk⟩,sa,sb,sbs⟩:=s;simp only[aS,St.enc,Tm.enc,List.cons_append,List.nil_append,Nk,Nr]at ca;replace hsc:X4Y st Z (z+1)=X4Y st Z z++(if(decide (so=5)&&b)=true then [sn] else []):=hsc;have hsn:X9 [sn]=[[iC sn]]:=rfl;clear h27 hlt hs hb hkd hkn hll hat;refine X0<|X3<|X0<|X1 ?_;refine Xh [⟨false,.tup [.agg [.c (iC so),.c (iC sc),.c (iC sv),.c (iC sn),.c (iC po),.c (iC tn),.c (.sl 3 (Xx tk)),.c (.sl 10 (X7 sa)),.c (.sl 10 (X7 sb)),.c (.sl 1 (X9 sbs))],li 0],none⟩] ?_ ?_
    .first|exact ca _|exact trivial|simpa[*]using ca _
    refine X2 ?_;refine(Xb rfl (fun h31=>?_) fun h31=>?_)
    ·(try simp only[BN]at h31);have hu:(decide (so=5)&&b)=true:=by simpa using h31
     simp only[hu,Nj]at hsc;refine X1 ?_;refine X1 ?_;exact⟨z+1,hlt2,by omega,X4 (fun n=>if n=1011 then 89 else n) []⟩
    (try simp only[BN]at h31);have hu:(decide (so=5)&&b)=false:=by rcases h31 with e|e<;>simp[e]
    simp only[hu,NB,Nc,Dq]at hsc;refine X1 ?_;exact⟨z+1,hlt2,by omega,X4 (fun n=>n) []⟩
   try simp only[BN]at h27
   obtain rfl:z=n:=by
    have:¬(z:Int)<n:=by simpa using h27
    omega
   have hll:=XaN st Z z;obtain⟨H,hH⟩:∃H,X4Y st Z z=H:=⟨_,rfl⟩;rw[hH]at hll⊢;clear h27 hH;refine(Xi ?_);rcases H with _|⟨a0,o⟩
   .refine XC (Qy 1010 rfl) ?_;refine XC (Qy 1011 rfl) ?_;have hc0:hatC []=[]:=by simp[hatC,Lib.compact,Lib.compactUpTo]
    rw[hc0];refine Xh [⟨true,.tup [],none⟩] ?_ ?_
    .first|exact X4H _|exact trivial|simpa[*]using X4H _
    refine Xh [⟨false,.v (lI []),none⟩] ?_ ?_
    .first|exact X3W _|exact trivial|simpa[*]using X3W _
    exact Xc
   refine XC (Qy 1010 rfl) ?_;have cs1:=X7G (a0::o) (by simp) (by omega);have cs2:=X9r ((a0::o).mergeSort fun x y=>decide (x<=y)) (by rw[List.length_mergeSort];simp) (by rw[List.length_mergeSort];omega);have hcc:Lib.compact ((a0::o).mergeSort fun x y=>decide (x<=y))=hatC (a0::o):=rfl;rw[hcc]at cs2;obtain⟨S1,hS1⟩:∃x,((a0::o).mergeSort fun x y=>decide (x<=y))=x:=⟨_,rfl⟩;rw[hS1]at cs1 cs2;obtain⟨S2,hS2⟩:∃x,hatC (a0::o)=x:=⟨_,rfl⟩;rw[hS2]at cs2⊢;clear hcc hS1 hS2;refine X0<|(XJ ?_);refine RunsN.cutE 1 [] (by simp;rfl) trivial (le_refl _) ?_;refine RunsN.rowA (by simp[rowAP,X3t];exact⟨rfl,rfl⟩) cs1 ?_;refine RunsN.doneE [] rfl trivial ?_;refine X0<|(XJ ?_);refine RunsN.cutE 2 [] (by simp;rfl) trivial (le_refl _) ?_;refine RunsN.callA (fun n=>if n=900001 then 1011 else n) (fun n=>if n=900001 then 1016 else n) cs2.toN fun _ _=>?_;refine RunsN.doneE [] rfl trivial ?_;refine XC (Qy 1016 rfl) ?_;exact Xc
  simp only[N7 hr];refine X5 Tryz.func14 ?_;simp only[Tryz.f14];refine X2 ?_;refine Xh [⟨false,.tup [.agg [.c (iC n),.c (iC V),.c (.sl 3 (Qp E))],li 0],none⟩] ?_ ?_
  .first|exact cb _|exact trivial|simpa[*]using cb _
  refine X0<|X0<|X1 ?_;refine(Xb rfl (fun h3=>?_) fun h3=>?_)
  .exact absurd h3 (by simp)
  (try simp only[BN]at h3);refine X0<|X0<|X1 ?_;refine(Xb rfl (fun h7=>?_) fun h7=>?_)
  ·(try simp only[BN]at h7);refine X2 ?_;exact Xc
  exfalso;simp at h7<;>omega
 obtain⟨C,hC⟩:∃x,XR f=x:=⟨_,rfl⟩;rw[hC]at cb h0;simp only[hC,N7 h0]at cb⊢;clear hC hat h;obtain⟨vars,hats,body⟩:=f;simp only[aF,Fl.enc,Nk,Nr]at*;refine X5 Tryz.func14 ?_;simp only[Tryz.f14];refine X2 ?_;refine Xh [⟨false,.tup [.agg [.c (iC 0),.c (iC 0),.c (.lit XX)],li C],none⟩] ?_ ?_
 .first|exact cb _|exact trivial|simpa[*]using cb _
 refine X0<|X0<|X1 ?_;refine(Xb rfl (fun h3=>?_) fun h3=>?_)
 ·(try simp only[BN]at h3);refine X2 ?_;exact Xc
 exact absurd (by simpa using h3) h0
theorem XaO (f:Fl) (e:Dp):e∈Zo f↔e∈X1R f:=X0e _ _
theorem Xaa (f:Fl):∀x,x∈ctL f.body (-1) 0++X2R (flL f.body).length f.hats (flL f.body) (grN f.body) (rcL (grN f.body) (flL f.body) f.vars.length)->x∈Zo f:=by
 intro x hx;rw[XaO,X1R,Wm,Wm,Wm];rcases Ni.1 hx with hx|hx
 .exact .inl (.inl (.inr hx))
 exact .inl (.inr hx)
theorem chL_ok {N:Int}:∀(l:List Dp) (p:Option Dp),(∀e∈l,X65 N e=true/\kdB e=true)->l.Pairwise (fun a b=>dpB a b=true)->(∀q,p=some q->∀e∈l,dpB q e=true)->chL N p l=0
 |[],_,_,_,_=>rfl
 | x::l,p,h1,h2,h3=>by
   obtain⟨hr,hk⟩:=h1 x (by simp)
   have ho:ordF p x=true:=by
    cases p with
    |none=>rfl
    |some q=>exact h3 q rfl x (by simp)
   rw[chL,N7 (by rw[hr];decide),N7 (by rw[hk];decide),N7 (by rw[ho];decide)];obtain⟨h4,h5⟩:=NS.1 h2;exact chL_ok l (some x) (fun e he=>h1 e (by simp[he])) h5 fun q hq e he=>by cases hq;exact h4 e he
theorem ch_dep {f:Fl} (h:Sm f) (h0:XR f=0) (h1:(flL f.body).length<=1024) (h2:f.vars.length<=64):chF (flL f.body).length f.vars.length (Zo f)=0:=by
 have hb:hdB ((flL f.body).length:Int) f.vars.length=true:=by simp[hdB];omega
 rw[chF,N7 (by rw[hb];decide)];refine chL_ok _ _ (fun e he=>?_) (X0Y _) fun q hq=>by cases hq
 have h3:=X9o h h0 e he;unfold okDp at h3;simp only[X65,kdB,N3,Nf,N5];omega
end Go.Proofs.YtdajceakaakdoaaGreat
