/- Contracts of functions and plain facts about what they compute. Conditions: as each theorem states. -/
import Derived.Test.YtdajceakaakdoaaGreatB14
import Derived.Test.YtdajceakaakdoaaGreatB18
import Derived.Test.YtdajceakaakdoaaGreatB19
import Derived.Test.YtdajceakaakdoaaGreatB13
import Derived.Test.YtdajceakaakdoaaGreatB12
import Derived.Test.YtdajceakaakdoaaGreatRows
set_option linter.unusedSimpArgs false
set_option linter.unusedVariables false
set_option linter.unnecessarySimpa false
set_option maxRecDepth 100000
set_option maxHeartbeats 2000000
namespace Go.Proofs.YtdajceakaakdoaaGreat
open Go Go.Hl Go.Shelf Go.RowKit Go.Lib Go.Sort
set_option maxHeartbeats 4000000 in
theorem X7C (x y:Dp) (W:World):Calls Tryz.prog 60 #[.agg (dpE x).toArray,.agg (dpE y).toArray] W fun e w'=>e=.returned (.bool (dpB x y))/\∃q os',w'=grow (W.drewN q) os':=by
 obtain⟨xf,xt,xk⟩:=x;obtain⟨yf,yt,yk⟩:=y;show Calls Tryz.prog 60 #[.agg #[.int .i64 xf,.int .i64 xt,.int .i64 xk],.agg #[.int .i64 yf,.int .i64 yt,.int .i64 yk]] W fun e w'=>e=.returned (.bool (dpB ⟨xf,xt,xk⟩ ⟨yf,yt,yk⟩))/\∃q os',w'=grow (W.drewN q) os';generalize hr:dpB ⟨xf,xt,xk⟩ ⟨yf,yt,yk⟩=r
 go_enter Tryz.func60,Tryz.ntmps60
 go_wp2
 all_goals(go_ret;refine⟨?_,0,_,by rw[alloc_eq_grow,alloc_eq_grow,grow_grow];rfl⟩)
 all_goals(rw[<-hr];congr 2;simp only[dpB];simp_all)
def cmpB (x y:Dp):Int:=if dpB x y=true then -1 else 1
set_option maxHeartbeats 4000000 in
theorem X7Z (x y:Dp) (W:World):Calls Tryz.prog 59 #[.agg (dpE x).toArray,.agg (dpE y).toArray] W fun e w'=>e=.returned (.int .i64 (cmpB x y))/\∃q os',w'=grow (W.drewN q) os':=by
 have hcon:=fun W'=>X7C x y W';obtain⟨xf,xt,xk⟩:=x;obtain⟨yf,yt,yk⟩:=y;show Calls Tryz.prog 59 #[.agg #[.int .i64 xf,.int .i64 xt,.int .i64 xk],.agg #[.int .i64 yf,.int .i64 yt,.int .i64 yk]] W fun e w'=>e=.returned (.int .i64 (cmpB ⟨xf,xt,xk⟩ ⟨yf,yt,yk⟩))/\∃q os',w'=grow (W.drewN q) os';change ∀W',Calls Tryz.prog 60 #[.agg #[.int .i64 xf,.int .i64 xt,.int .i64 xk],.agg #[.int .i64 yf,.int .i64 yt,.int .i64 yk]] W' _ at hcon;unfold cmpB;generalize dpB ⟨xf,xt,xk⟩ ⟨yf,yt,yk⟩=r at hcon⊢
 go_enter Tryz.func59,Tryz.ntmps59
 go_wp2_with (go_at_call 60;refine(hcon _).mono ?_;rintro e w' ⟨rfl,q,os',rfl⟩)
 all_goals first
  |(exfalso;simp_all;done)
  | (go_ret
     refine⟨by simp_all,q,?_,?_⟩
     rotate_left
     rw[alloc_eq_grow,alloc_eq_grow,grow_grow]
     exact grow_grow (W.drewN q) _ os')
theorem lt_cmpB (x y:Dp):ltOf cmpB x y=dpB x y:=by
 unfold ltOf cmpB;cases dpB x y<;>rfl
theorem XbD:ltOf cmpB=ltOf X4e:=by
 funext x y
 rw[lt_cmpB,X2l]
theorem X9E (zs:List Dp) (hn:zs.Nodup) (hl:zs.length<=17592186044416) (g o cap:Nat) (w:World) (hH:HoldsK dpE 3 w g o zs.toArray) (hg:g<w.heap.size):
  Calls Tryz.prog 58 #[.slice (some ⟨g,o,none⟩) zs.length cap,.func (.func 59) #[] #[]] w fun e w'=>e=.returned (.tuple #[])/\RowOutD w w' g o (QU zs):=by
 have h:=AnyQ.slices_SortFunc (P:=Tryz.prog) (ρ:=X7P) XaA 3 (fun w=>rfl) (fun w=>rfl) dpE (fun _=>rfl) X7j cmpB (XbD▸XbE) 59 #[] g o cap zs.toArray w
  (enters_of Tryz.func59 (by kernel_rfl) rfl) (fun m os dk hs x y=>X7Z x y _) hH hg (by simp;omega)
 refine(show Calls Tryz.prog 58 #[.slice (some ⟨g,o,none⟩) zs.length cap,.func (.func 59) #[] #[]] w _ from h).mono ?_;rintro e w' ⟨rfl,d',n,os,hp,hs,rfl⟩;refine⟨rfl,?_⟩;rw[XbD]at hs;have e:=X50 hn (by simpa using hp) (by simpa using hs);have:=X4P w n g o os (QU zs) hg;rw[<-e]at this⊢;simpa using this
theorem Xau (zs:List Dp) (hn:zs.Nodup) (hz:0<zs.length) (hl:zs.length<=17592186044416):
  X9T Tryz.prog 58 59 51 3 (XG zs) (XG (QU zs)):=
 X6X (by kernel_rfl) zs _ hz (X4s zs hn) fun g o cap w hH hg hcap hmax=>X9E zs hn hl g o cap w hH hg
end Go.Proofs.YtdajceakaakdoaaGreat
namespace Go.Proofs.YtdajceakaakdoaaGreat
open Go Go.Hl
theorem XbA {p N:Nat} {D:Dfs} (hD:∀r∈D,r.length<=N) (t:Tm):(rdE p D t).length<=t.nodes*N:=by
 have key:∀l:List Int,(l.flatMap fun v=>(D[v.toNat]?.getD []).map fun d:Nat=>(⟨(d:Int),(p:Int),0⟩:Dp)).length<=l.length*N:=by
  intro l
  induction l with
  |nil=>simp
  | cons v l ih=>
    rw[List.flatMap_cons,N9,NO,List.length_cons,Nat.succ_mul]
    have:(D[v.toNat]?.getD []).length<=N:=by
     cases h:D[v.toNat]? with
     |none=>simp
     |some r=>exact hD r (N3 h)
    omega
 exact Dx (key (tmV t)) (NZ N (X3V t))
theorem edL_len {nv N n H:Nat} {hats:List Ht} (hH:∀h∈hats,h.term.nodes<=H):∀l:List St,∀(c:Int) (p:Nat) (D:Dfs),p+szL l<=N->okM nv N D->(edL n hats l c p D).length<=szL l*(2+H)+Xh l*N:=by
 apply St.lind
 .intro c p D _ _;simp[edL]
 intro o k w q t a b bs l ia ib il c p D hp h;simp only[szL,szS]at hp;have hda:=okM.ouL a (p+1) D (by omega) h;have hdj:=h.join hda
 have hds:okM nv N (ouS (.mk o k w q t a b bs) p D):=by
  have:=okM.ouL [St.mk o k w q t a b bs] p D (by simp only[szL,szS];omega) h;exact this
 have h1:=il c (p+(1+szL a+szL b)) (ouS (.mk o k w q t a b bs) p D) (by omega) hds;have h2:(ctE c p).length<=1:=by unfold ctE;split<;>simp
 have h3:=XbA (p:=p) h.len t;have h4:=XbA (p:=p) hdj.len t;have ha1:=ia p (p+1) D (by omega) h;have ha2:=ia p (p+1) (XZ D (ouL a (p+1) D)) (by omega) hdj;have hb1:=ib p (p+1+szL a) D (by omega) h
 have h5:∀x,hats[q.toNat]? =some x->(rlE n p x.term).length<=H:=by
  intro x hx;have:=hH x (N3 hx);unfold rlE;rw[NO];exact Dx (X3V _) this
 rw[edL,N9,edS,N9];simp only[szS,szL,Xh,St.nodes]
 have e1:(1+szL a+szL b+szL l)*(2+H)=(2+H)+szL a*(2+H)+szL b*(2+H)+szL l*(2+H):=by
  rw[NP,NP,NP,Nat.one_mul]
 have e2:(1+t.nodes+Xh a+Xh b+Xh l)*N=N+t.nodes*N+Xh a*N+Xh b*N+Xh l*N:=by
  rw[NP,NP,NP,NP,Nat.one_mul]
 rw[e1,e2];clear e1 e2
 have key:(if o=0\/o=1 then rdE p D t else if o=5 then(match hats[q.toNat]? with|some h=>rlE n p h.term|none=>[])
  else if o=3 then rdE p D t++(edL n hats a p (p+1) D++edL n hats b p (p+1+szL a) D)
  else if o=4 then rdE p (XZ D (ouL a (p+1) D)) t++(⟨p,p,1⟩::edL n hats a p (p+1) (XZ D (ouL a (p+1) D)))else []).length<=1+H+szL a*(2+H)+szL b*(2+H)+t.nodes*N+Xh a*N+Xh b*N:=by
  split
  .omega
  split
  .split
   .rename_i x hx;have:=h5 x hx;omega
   simp
  split
  .rw[N9,N9];omega
  split
  .rw[N9,List.length_cons];omega
  simp
 refine Dx (Nat.add_le_add (Nat.add_le_add h2 key) h1) ?_;clear key h1 h3 h4 ha1 ha2 hb1;generalize szL a*(2+H)=A1 at*;generalize szL b*(2+H)=A2 at*;generalize szL l*(2+H)=A3 at*;generalize t.nodes*N=A4 at*;generalize Xh a*N=A5 at*;generalize Xh b*N=A6 at*;generalize Xh l*N=A7 at*;omega
theorem tmL_len (cnd:St->Bool) (e:Int):∀l:List St,∀p:Nat,(tmL cnd e l p).length<=szL l:=by
 apply St.lind
 .intro p;simp[tmL]
 intro o k w q t a b bs l ia ib il p;have h1:=ia (p+1);have h2:=ib (p+1+szL a);have h3:=il (p+(1+szL a+szL b));rw[tmL,N9,N9,N9];simp only[szL,szS];have:(if cnd (.mk o k w q t a b bs)=true then [(⟨p,e,1⟩:Dp)] else []).length<=1:=by split<;>simp
 omega
def mkT (f:Fl):List Dp:=QP false (QP false [] (edL (flL f.body).length f.hats f.body (-1) 0 (D0 (flL f.body).length f.vars.length))) (if X3G f=true then [] else tmL Zs (((flL f.body).length:Int)+f.vars.length) f.body 0)
theorem mkT_sort (f:Fl):QU (mkT f)=QU (depQ f):=by
 refine X25 fun x=>?_;unfold mkT depQ;simp only[QP,Nz,Nc];rw[WL,WL,Ng];simp only[De,false_or];refine or_congr Iff.rfl ?_;split
 .exact Iff.rfl
 rw[tmL_mem,Xbs];simp only[Nat.zero_add]
theorem Xcl (f:Fl):(mkT f).Nodup:=by
 unfold mkT;simp only[QP,Nz,Nc];exact Zf _ _ (Zf _ _ List.nodup_nil)
theorem D0_okM {n nv N:Nat} (h:n+nv<=N):okM nv N (D0 n nv):=by
 refine⟨D0_ok n nv,fun r hr=>?_,fun r hr x hx=>?_⟩
 .unfold D0 at hr;obtain⟨y,_,rfl⟩:=NF.1 hr;simp
 unfold D0 at hr;obtain⟨y,hy,rfl⟩:=NF.1 hr;rw[Nk.1 hx];have:=List.mem_range.1 hy;omega
theorem D0_take {n nv y:Nat} (h:y+1<=nv):(D0 n nv).take (y+1)=(D0 n nv).take y++[[n+y]]:=by
 refine WA ?_;unfold D0;rw[Np,List.getElem?_range (by omega)];rfl
theorem D0_len (n nv:Nat):(D0 n nv).length=nv:=by simp[D0]
set_option maxHeartbeats 8000000 in
theorem XbS {f:Fl} (h:Sm f) (h0:Qa f=0) (d:Nat):Con Tryz.prog 56 true [aF f] (.v (lb (X3G f))) none d:=by
 have cb:=X4V f.body (by have:=h.nodes;omega) (X0E _ _ (W6 h0).2.2.2.1);obtain⟨t1,t2,_,_⟩:=times_eq h0;have hb6:=stl_b6 h0;have hl:f.body.length<=1000000:=by have:=X2Y f.body;have:=h.sz;omega
 clear h h0;unfold X3G;rw[t1,<-t2];clear t1 t2;obtain⟨vars,hats,body⟩:=f;simp only at cb hb6 hl⊢;obtain⟨⟨bs,bo,bt⟩,hB⟩:∃x,bdL CR body ⟨0,0,0⟩=x:=⟨_,rfl⟩;rw[hB]at cb⊢;clear hB;cases hlast:body.getLast? with
 | none=>
   have hnil:body=[]:=by simpa using hlast
   subst hnil;clear hlast hb6 hl;refine X6 Tryz.func56 ?_;simp only[Tryz.f56];simp only[aF,Fl.enc,Ni,Nr]at cb⊢;refine X1 ?_;refine X0<|X0<|X2 ?_;refine(Xc rfl (fun h2=>?_) fun h2=>?_)
   ·(try simp only[BN]at h2);refine X1 ?_;exact Xf
   exact absurd h2 (by simp)
 | some s=>
   have hpos:body.length≠0:=by intro h;rw[Nv h]at hlast;cases hlast
   have hs:body[body.length - 1]? =some s:=by rw[<-hlast,List.getLast?_eq_getElem?]
   have hw1:IntKind.i64.wrap ((body.length:Int) - 1)=((body.length - 1:Nat):Int):=by simp[IntKind.wrap,IntKind.bits,IntKind.signed];omega
   have hb7:=hb6 s (N3 hs);have hse:=Q2 hs;clear hb6 hlast;obtain⟨so,sc,sv,sn,⟨po,tn,tk⟩,sa,sb,sbs⟩:=s;simp only[St.do_,St.bounds]at hb7⊢;simp only[St.enc,Tm.enc,List.cons_append,List.nil_append]at hse;have hp1:¬((body.length:Int)=0):=by omega
   by_cases h6:so=6
   .match sbs,hb7 h6 with
    | b0::sb1,_=>
      clear hb7;subst h6;refine X6 Tryz.func56 ?_;simp only[Tryz.f56];simp only[aF,Fl.enc,Ni,Nr]at cb⊢;refine X1 ?_;refine X0<|X0<|X2 ?_;refine(Xc rfl (fun h2=>?_) fun h2=>?_)
      .exact absurd (by simpa using h2) hp1
      (try simp only[BN]at h2);refine Xk [⟨true,.tup [li bs,li bo,li bt],none⟩] ?_ ?_
      .first|exact cb _|exact trivial|simpa[*]using cb _
      refine X1 ?_;exact Xf
   clear hb7;refine X6 Tryz.func56 ?_;simp only[Tryz.f56];simp only[aF,Fl.enc,Ni,Nr]at cb⊢;refine X1 ?_;refine X0<|X0<|X2 ?_;refine(Xc rfl (fun h2=>?_) fun h2=>?_)
   ·(try simp only[BN]at h2);refine X1 ?_;exact Xf
   exact absurd h2 (by simp[hp1,h6])
theorem Xak {f:Fl} (h:Sm f) (h0:Qa f=0) (hv:f.vars.length<=12) (hn:Xh f.body+Qu f.hats<=120):
  Z7 Tryz.prog 55 none (mkO f.vars f.hats f.body (flL f.body).length 0 [] false) [.one (.at_ 1000001 0),lS f.body,li (-1),lDD (D0 (flL f.body).length f.vars.length)] (fun _:Unit=>True) (fun _=>.v (lDD (ouL f.body 0 (D0 (flL f.body).length f.vars.length)))) (fun _=>mkO f.vars f.hats f.body (flL f.body).length (szL f.body:Nat) (QP false [] (edL (flL f.body).length f.hats f.body (-1) 0 (D0 (flL f.body).length f.vars.length))) false)
  /\(QP false [] (edL (flL f.body).length f.hats f.body (-1) 0 (D0 (flL f.body).length f.vars.length))).length<=1000000:=by
 have hfl:=Q6 f.body;have hsz:=X09 f.body;have hD0:okM f.vars.length 200 (D0 (flL f.body).length f.vars.length):=D0_okM (by omega)
 have hH:∀x∈f.hats,x.term.nodes<=120:=fun x hx=>by
  have:=X1l hx;omega
 have hw:=XbJ h.bnd h0;have hl:=edL_len (n:=(flL f.body).length) hH f.body (-1) 0 (D0 (flL f.body).length f.vars.length) (by omega) hD0;have hb:szL f.body*(2+120)+Xh f.body*200<=120*122+120*200:=Nat.add_le_add (NZ _ (by omega)) (NZ _ (by omega));have hTl:=ZP false [] (edL (flL f.body).length f.hats f.body (-1) 0 (D0 (flL f.body).length f.vars.length));have hbq:bq false (edL (flL f.body).length f.hats f.body (-1) 0 (D0 (flL f.body).length f.vars.length))=(edL (flL f.body).length f.hats f.body (-1) 0 (D0 (flL f.body).length f.vars.length)).length:=rfl;rw[hbq]at hTl;simp only[List.length_nil]at hTl;refine⟨?_,by omega⟩;have:=Xa2 f.vars f.hats f.body (flL f.body).length 200 (by omega) (by omega) (by omega) (by have:=h.hats;omega) (fun x hx=>⟨by have:=hH x hx;omega,fun v hv2=>by have:=X83 x.term (hw.2.2 x hx) v hv2;omega⟩) f.body (by omega) hw.1 (X0z h0) 0 false [] (-1) (D0 (flL f.body).length f.vars.length) (by omega) (by omega) hD0 (by rw[hbq];simp only[List.length_nil];omega);simpa using this
set_option maxHeartbeats 32000000 in
theorem Xa6 (f:Fl) (h:Sm f) (h0:Qa f=0) (hv:f.vars.length<=12) (hn:Xh f.body+Qu f.hats<=120) (d:Nat):Con Tryz.prog 18 false [aF f] (.v (aPd (flL f.body).length f.vars.length (QU (depQ f)))) none d:=by
 obtain⟨cst,hl1⟩:=Xak h h0 hv hn;have hfl:=Q6 f.body;have hszl:=X09 f.body;have csz:=Xcz f.body (by omega);have cs:=XbS h h0;have ctm:=Xaq f.vars f.hats f.body (flL f.body).length (szL f.body:Nat) false (by omega) (by omega) f.body (by omega) 0 (QP false [] (edL (flL f.body).length f.hats f.body (-1) 0 (D0 (flL f.body).length f.vars.length))) (by omega);have htl:=tmL_len Zs (((flL f.body).length:Int)+f.vars.length) f.body 0;have hsrt:=mkT_sort f;have hnd:=Xcl f;rw[<-hsrt];obtain⟨R,hR⟩:∃x,mkT f=x:=⟨_,rfl⟩;have hR2:=hR;rw[hR]at hnd⊢;unfold mkT at hR2;obtain⟨T1,hT1⟩:∃x,QP false [] (edL (flL f.body).length f.hats f.body (-1) 0 (D0 (flL f.body).length f.vars.length))=x:=⟨_,rfl⟩;rw[hT1]at cst ctm hl1 hR2
 have ctm := ctm (by have:bq false (tmL Zs (((flL f.body).length:Int)+f.vars.length) f.body 0)=(tmL Zs (((flL f.body).length:Int)+f.vars.length) f.body 0).length:=rfl
                     rw[this];omega)
 obtain⟨T2,hT2⟩:∃x,QP false T1 (tmL Zs (((flL f.body).length:Int)+f.vars.length) f.body 0)=x:=⟨_,rfl⟩;rw[hT2]at ctm;obtain⟨sb,hsb⟩:∃x,X3G f=x:=⟨_,rfl⟩;rw[hsb]at cs hR2
 have hRT:R=if sb=true then T1 else T2:=by
  rw[<-hR2];cases sb
  .simp only[Nz,Nc];exact hT2
  rfl
 have hRl:R.length<=2000000:=by
  rw[hRT];split
  .omega
  rw[<-hT2];have:=ZP false T1 (tmL Zs (((flL f.body).length:Int)+f.vars.length) f.body 0);have e:bq false (tmL Zs (((flL f.body).length:Int)+f.vars.length) f.body 0)=(tmL Zs (((flL f.body).length:Int)+f.vars.length) f.body 0).length:=rfl;rw[e]at this;omega
 rw[hfl]at cst ctm⊢;have hvl:f.vars.length<=12:=hv;have hN3:szL f.body<=1000000:=by omega
 clear h h0 hv hn hsrt hR hR2 hT1 hT2 hsb hfl htl hl1;obtain⟨N,hN⟩:∃x,szL f.body=x:=⟨_,rfl⟩;rw[hN]at cst ctm csz hN3⊢;obtain⟨vars,hats,body⟩:=f;simp only at cst ctm csz hN hvl⊢;obtain⟨OU,hOU⟩:∃x,ouL body 0 (D0 N vars.length)=x:=⟨_,rfl⟩;rw[hOU]at cst;clear hOU hN hszl;simp only[aF,Fl.enc,Ni,Nr,mkO,Nat.zero_add]at cst ctm cs⊢;obtain⟨D,hD⟩:∃x,D0 N vars.length=x:=⟨_,rfl⟩;have hDl:D.length=vars.length:=by rw[<-hD];exact D0_len _ _
 have hDt:∀y,y+1<=vars.length->D.take (y+1)=D.take y++[[N+y]]:=fun y hy=>by rw[<-hD];exact D0_take hy
 rw[hD]at cst;clear hD;simp only[aPd];refine X6 Tryz.func18 ?_;simp only[Tryz.f18];refine X1 ?_;refine X0<|(QC [⟨true,.v (li N),none⟩] (by kernel_rfl) (by kernel_rfl) (by rfl) (by simp[*,XO,QE,Q3,cellsOf,W2];first|exact⟨rfl,Iff.rfl⟩|exact⟨rfl,trivial⟩|rfl) ?_ ?_)
 .first|exact csz _|exact trivial|simpa[*,XO,QE,Q3,cellsOf,W2]using csz _
 refine X1 ?_;refine X0<|X0<|X2 ?_;refine X3<|(Xd [1,2,3,15] (fun(y:Nat)=>[(4,.v (.one (.own 1003))),(16,.v (li y))]) (fun y=>[(1,.box [.c (.sl 5 (Xm vars)),.c (.sl 6 (Xn hats)),.c (.sl 10 (X7 body))]),(2,.box [.c (iC 0),.c (iC 0),.c (.lit XY)]),(11,.box [.c (.sl 5 (Xm vars)),.c (.sl 6 (Xn hats)),.c (.sl 10 (X7 body)),.c (iC N),.c (iC 0),.c (.lit XY),.c (bC false)]),(1003,.row 29 1 (Q8 (D.take y)))]) (fun y=>y<=vars.length) (fun y=>vars.length - y) 0 (Nq _) ?_ ?_)
 .exact Xl (fun n=>if n=1003 then 12 else n) [] rfl (by simp[*,upS,X5]) (by simp[*,upS,Q8]) (by simp[upS])
 rintro k hk;simp only[upS,X5,Xy]
 try simp only[X5,KN,Nat.reduceBEq,Nf,Nc,ins,Nat.reduceLT]
 refine X1 ?_;refine X0<|(X8 rfl (fun h6=>Xb ?_) (fun h6=>?_))
 ·(try simp only[BN]at h6);have hlt:k<vars.length:=by first|omega|simpa using h6
  have hw1:=XE hlt (by omega);have hk1:k+1<=vars.length:=hlt;have hq1:IntKind.i64.wrap ((N:Int)+(k:Int))=((N+k:Nat):Int):=by rw[X9 (by omega) (by omega)];omega
  have hsn:Q8 (D.take k)++[[.sl 1 [[iC ((N+k:Nat):Int)]]]]=Q8 (D.take (k+1)):=by rw[hDt k hk1];simp[Q8,QJ]
  have hsn2:Q8 (D.take k)++[[CD.sl 1 [[CD.lit (Value.int IntKind.i64 ((N:Int)+(k:Int)))]]]]=Q8 (D.take k++[[N+k]]):=by simp[Q8,QJ]
  have hroom:W4 (k+1) 24:=XX (by omega) (by decide);have hmin:min k D.length=k:=by omega
  clear hlt h6;refine X0<|X3<|X0<|X2 ?_;refine(X2g 8 [] [] (by simp[*];rfl) trivial (Qs 26 rfl) (by simp[*];rfl) trivial ?_);refine X2 ?_;exact⟨k+1,hk1,by omega,X4 (fun n=>if n=1003 then 28 else n) []⟩
 try simp only[BN]at h6
 have hkl:k=D.length:=by
  have:¬k<vars.length:=by first|omega|simpa using h6
  omega
 subst hkl;rw[List.take_length];refine(Xg ?_);refine XB (Qs 1003 rfl) ?_;refine XB (s':=⟨⟨59,none⟩,[(1,.v (.one (.at_ 1 0))),(2,.v (.one (.at_ 2 0))),(3,.v (.one (.at_ 11 0))),(4,.v (lDD D))],[(1,.box [.c (.sl 5 (Xm vars)),.c (.sl 6 (Xn hats)),.c (.sl 10 (X7 body))]),(2,.box [.c (iC 0),.c (iC 0),.c (.lit XY)]),(11,.box [.c (.sl 5 (Xm vars)),.c (.sl 6 (Xn hats)),.c (.sl 10 (X7 body)),.c (iC N),.c (iC 0),.own 900002,.c (bC false)]),(900002,.row 51 3 (XG []))]⟩) (Xl (fun n=>n) [900002] rfl (by simp[HS.frz,W9,RV.frz,TV.frz,CV.frz,upS,X5]) (by simp[HS.frz,W9,Ob.frz,CV.frz,upS,XY,XG]) (by simp[upS])) ?_;refine X0<|(Xw ?_);refine RunsN.cutE 4 [] (by simp;rfl) trivial (le_refl _) ?_;refine RunsN.callA (fun n=>if n=1000001 then 11 else n) (fun n=>if n=1000001 then 11 else if n=900002 then 900012 else n) cst fun _ _=>?_;refine RunsN.doneE [] rfl trivial ?_;refine XB (s':=⟨⟨59,none⟩,[(1,.v (.one (.at_ 1 0))),(2,.v (.one (.at_ 2 0))),(3,.v (.one (.at_ 11 0)))],[(1,.box [.c (.sl 5 (Xm vars)),.c (.sl 6 (Xn hats)),.c (.sl 10 (X7 body))]),(2,.box [.c (iC 0),.c (iC 0),.c (.lit XY)]),(11,.box [.c (.sl 5 (Xm vars)),.c (.sl 6 (Xn hats)),.c (.sl 10 (X7 body)),.c (iC N),.c (iC N),.own 900002,.c (bC false)]),(900002,.row 51 3 (XG T1))]⟩) (Xl (fun n=>if n=900002 then 900012 else n) [] rfl (by simp[XJ,XU,del,ins,CV.ren,Ob.ren]) (by simp[XJ,XU,del,ins,CV.ren,Ob.ren]) (by simp)) ?_;refine(XM [1,2,3] (fun(z:Unit)=>[]) (fun(z:Unit)=>[(1,.box [.c (.sl 5 (Xm vars)),.c (.sl 6 (Xn hats)),.c (.sl 10 (X7 body))]),(2,.box [.c (iC 0),.c (iC 0),.c (.lit XY)]),(11,.box [.c (.sl 5 (Xm vars)),.c (.sl 6 (Xn hats)),.c (.sl 10 (X7 body)),.c (iC N),.c (iC N),.own 900002,.c (bC false)]),(900002,.row 51 3 (XG R))]) (fun(z:Unit)=>True) ?_ ?_)
 ·
  refine Xk [⟨true,.v (lb sb),none⟩] ?_ ?_
  .first|exact cs _|exact trivial|simpa[*]using cs _
  refine(Xc rfl (fun h14=>?_) fun h14=>?_)
  ·(try simp only[BN]at h14);have hs1:sb=false:=by simpa using h14
   rw[hs1]at hRT;simp only[Nz,Nc]at hRT;subst hRT;refine(Xw ?_);refine RunsN.cutE 3 [] (by simp;rfl) trivial (le_refl _) ?_;refine RunsN.callA (fun n=>if n=1000001 then 11 else n) (fun n=>if n=1000001 then 11 else if n=900002 then 900012 else n) ctm fun _ _=>?_;refine RunsN.doneE [] rfl trivial ?_;exact⟨(),trivial,Xl (fun n=>if n=900002 then 900012 else n) [] rfl (by simp[upS,X5,XJ,XU,del,ins,CV.ren,Ob.ren]) (by simp[upS,XJ,XU,del,ins,CV.ren,Ob.ren]) (by simp[upS])⟩
  (try simp only[BN]at h14);have hs1:sb=true:=by simpa using h14
  rw[hs1]at hRT;simp only[Nf]at hRT;subst hRT;exact⟨(),trivial,X4 (fun n=>n) []⟩
 rintro⟨⟩ hz;simp only[upS,X5,Xy]
 try simp only[X5,KN,Nat.reduceBEq,Nf,Nc,ins,Nat.reduceLT]
 clear cst ctm cs csz hDl hDt hRT;rcases R with _|⟨a0,o⟩
 .refine XB (Qs 900002 rfl) ?_;refine Xk [⟨true,.tup [],none⟩] ?_ ?_
  .first|exact X1h _ _|exact trivial|simpa[*]using X1h _ _
  refine X0<|(Q7 (by kernel_rfl) (by kernel_rfl) (by rfl) (by simp[*,XO,QE,Q3,cellsOf,W2];rfl) ?_);have hres:QU ([]:List Dp)=[]:=by simp[QU,XS]
  rw[hres];exact Xf
 have cso:=Xau (a0::o) hnd (by simp) (by omega);obtain⟨RES,hRES⟩:∃x,QU (a0::o)=x:=⟨_,rfl⟩;rw[hRES]at cso⊢;refine X0<|(Xw ?_);refine RunsN.cutE 4 [] (by simp;rfl) trivial (le_refl _) ?_;refine RunsN.rowG (by simp[X8P,X23];exact⟨rfl,rfl⟩) cso ?_;refine RunsN.doneE [] rfl trivial ?_;refine XB (Qs 900002 rfl) ?_;refine X0<|(Q7 (by kernel_rfl) (by kernel_rfl) (by rfl) (by simp[*,XO,QE,Q3,cellsOf,W2];rfl) ?_);exact Xf
theorem few_sm23 {f:Fl} (h:fewB f 12 120=true):Sm f/\f.vars.length<=12/\f.hats.length<=12/\Xh f.body+Qu f.hats<=120:=by
 obtain⟨h1,h2,h3,h4⟩:=fewB_in (by omega) h;exact⟨⟨by omega,by omega,by omega,h4⟩,by omega,by omega,by omega⟩
theorem XaR {f:Fl} (hS:Sm f) (h0:Qa f=0) (hv:f.vars.length<=12) (hn:Xh f.body+Qu f.hats<=120) (d:Nat):Con Tryz.prog 18 false [aF f] (.v (aPd (flL f.body).length f.vars.length (X1L f))) none d:=by
 have:=Xa6 f hS h0 hv hn d;rw[<-X8E hS h0]at this;exact this
end Go.Proofs.YtdajceakaakdoaaGreat
namespace Go.Proofs.YtdajceakaakdoaaGreat
open Go Go.Hl Go.RowKit Go.ChangeShapes Go.Proofs.YtdajceakaakdoaaGreat
theorem tiled:X8o Tryz.prog:=tiled_mk (by kernel_rfl)
theorem own:ownKnob Tryz.prog.godebug=none:=by kernel_rfl
theorem laidOut:laidOutB Tryz.prog=true:=by kernel_rfl
section
variable {P:Program} {k:Nat} {t:TypeId} {ds:List CD}
theorem ZF {T:Type} {enc:T->List CD} {e:TypeId} {c:Nat} (hu:P.underlying t=some (.slice e)) (hc:P.cellsOf e=c) (he:∀k',k'<k->∀r,QL P k' e r->∃x,r=enc x) (h:QL P k t ds):∃xs:List T,ds=[.sl c (xs.map enc)]:=by
 cases k with
 |zero=>exact h.elim
 | succ k=>
   unfold QL at h;rw[hu]at h;obtain⟨rows,h1,_,h3⟩:=h;obtain⟨xs,hxs⟩:=X9B (enc:=enc) fun r hr=>he k (Nat.lt_succ_self k) r (h3 r hr).2;subst hxs;exact⟨xs,by rw[h1,hc]⟩
theorem WX {fs:Array Field} {l:List (Nat×Nat×TypeId)} {c:Nat} (hu:P.underlying t=some (.struct fs)) (hl:X95 P fs=l) (hc:P.cellsOf t=c) (h:QL P k t ds):ds.length=c/\∃k',k'<k/\∀x∈l,QL P k' x.2.2 ((ds.drop x.1).take x.2.1):=by
 cases k with
 |zero=>exact h.elim
 | succ k=>
   unfold QL at h;rw[hu]at h;have h':ds.length=P.cellsOf t/\∀x∈X95 P fs,QL P k x.2.2 ((ds.drop x.1).take x.2.1):=h;exact⟨hc▸h'.1,k,Nat.lt_succ_self k,fun x hx=>h'.2 x (hl▸hx)⟩
end
theorem X0T {k:Nat} {t:TypeId} {ds:List CD} (hu:Tryz.prog.underlying t=some (.int .i64)) (h:QL Tryz.prog k t ds):∃n:Int,ds=[iC n]:=by
 obtain⟨n,h1,_⟩:=XbN hu h;exact⟨n,h1⟩
theorem dec_s {k:Nat} {ds:List CD} (h:QL Tryz.prog k 9 ds):∃s:ByteArray,ds=[sC s]:=by
 obtain⟨s,h1,_⟩:=Xci Tryz.underlying9 h;exact⟨s,h1⟩
theorem dec_I {k:Nat} {ds:List CD} (h:QL Tryz.prog k 29 ds):∃l:List Int,ds=[.sl 1 (Xi l)]:=
 ZF (enc:=fun x=>[iC x]) Tryz.underlying29 (by kernel_rfl:Tryz.prog.cellsOf 3=1) (fun _ _ _ hr=>X0T Tryz.underlying3 hr) h
theorem dec_T:∀(k:Nat) (ds:List CD),QL Tryz.prog k 68 ds->∃t:Tm,ds=t.enc:=by
 intro k
 induction k using Nat.strongRecOn with
 | ind k ih=>
   intro ds h;obtain⟨hl,k1,hk1,hx⟩:=WX (l:=[(0,1,65),(1,1,3),(2,1,66)]) Tryz.underlying68 (by kernel_rfl) (by kernel_rfl:Tryz.prog.cellsOf 68=3) h
   match ds,hl with
   | [a,b,c],_=>
     obtain⟨n1,h1⟩:=X0T Tryz.underlying65 (hx (0,1,65) (by simp));obtain⟨n2,h2⟩:=X0T Tryz.underlying3 (hx (1,1,3) (by simp));obtain⟨ks,h3⟩:=ZF (enc:=Tm.enc) Tryz.underlying66 (by kernel_rfl:Tryz.prog.cellsOf 68=3) (fun k' hk' r hr=>ih k' (by omega) r hr) (hx (2,1,66) (by simp));simp only[List.drop,List.take,List.cons.injEq,and_true]at h1 h2 h3;subst h1 h2 h3;exact⟨.mk n1 n2 ks,by simp only[Tm.enc,X0N]⟩
theorem dec_S:∀(k:Nat) (ds:List CD),QL Tryz.prog k 70 ds->∃s:St,ds=s.enc:=by
 intro k
 induction k using Nat.strongRecOn with
 | ind k ih=>
   intro ds h;obtain⟨hl,k1,hk1,hx⟩:=WX (l:=[(0,1,64),(1,1,3),(2,1,3),(3,1,3),(4,3,68),(7,1,24),(8,1,24),(9,1,29)]) Tryz.underlying70 (by kernel_rfl) (by kernel_rfl:Tryz.prog.cellsOf 70=10) h
   match ds,hl with
   | [a0,a1,a2,a3,a4,a5,a6,a7,a8,a9],_=>
     obtain⟨n0,h0⟩:=X0T Tryz.underlying64 (hx (0,1,64) (by simp));obtain⟨n1,h1⟩:=X0T Tryz.underlying3 (hx (1,1,3) (by simp));obtain⟨n2,h2⟩:=X0T Tryz.underlying3 (hx (2,1,3) (by simp));obtain⟨n3,h3⟩:=X0T Tryz.underlying3 (hx (3,1,3) (by simp));obtain⟨t,h4⟩:=dec_T _ _ (hx (4,3,68) (by simp));obtain⟨la,h7⟩:=ZF (enc:=St.enc) Tryz.underlying24 (by kernel_rfl:Tryz.prog.cellsOf 70=10) (fun k' hk' r hr=>ih k' (by omega) r hr) (hx (7,1,24) (by simp));obtain⟨lb',h8⟩:=ZF (enc:=St.enc) Tryz.underlying24 (by kernel_rfl:Tryz.prog.cellsOf 70=10) (fun k' hk' r hr=>ih k' (by omega) r hr) (hx (8,1,24) (by simp));obtain⟨lc,h9⟩:=dec_I (hx (9,1,29) (by simp));simp only[List.drop,List.take,List.cons.injEq,and_true]at h0 h1 h2 h3 h4 h7 h8 h9;subst h0 h1 h2 h3 h7 h8 h9;refine⟨.mk n0 n1 n2 n3 t la lb' lc,?_⟩;simp only[St.enc,WP,<-h4,List.cons_append,List.nil_append]
theorem dec_V {k:Nat} {ds:List CD} (h:QL Tryz.prog k 89 ds):∃v:Vr,ds=v.enc:=by
 obtain⟨hl,k1,_,hx⟩:=WX (l:=[(0,1,9),(1,1,87),(2,1,3),(3,1,3),(4,1,3)]) Tryz.underlying89 (by kernel_rfl) (by kernel_rfl:Tryz.prog.cellsOf 89=5) h
 match ds,hl with
 | [a0,a1,a2,a3,a4],_=>
   obtain⟨n0,h0⟩:=dec_s (hx (0,1,9) (by simp));obtain⟨n1,h1⟩:=X0T Tryz.underlying87 (hx (1,1,87) (by simp));obtain⟨n2,h2⟩:=X0T Tryz.underlying3 (hx (2,1,3) (by simp));obtain⟨n3,h3⟩:=X0T Tryz.underlying3 (hx (3,1,3) (by simp));obtain⟨n4,h4⟩:=X0T Tryz.underlying3 (hx (4,1,3) (by simp));simp only[List.drop,List.take,List.cons.injEq,and_true]at h0 h1 h2 h3 h4;subst h0 h1 h2 h3 h4;exact⟨⟨n0,n1,n2,n3,n4⟩,rfl⟩
theorem dec_H {k:Nat} {ds:List CD} (h:QL Tryz.prog k 93 ds):∃v:Ht,ds=v.enc:=by
 obtain⟨hl,k1,_,hx⟩:=WX (l:=[(0,1,9),(1,1,3),(2,1,3),(3,3,68)]) Tryz.underlying93 (by kernel_rfl) (by kernel_rfl:Tryz.prog.cellsOf 93=6) h
 match ds,hl with
 | [a0,a1,a2,a3,a4,a5],_=>
   obtain⟨n0,h0⟩:=dec_s (hx (0,1,9) (by simp));obtain⟨n1,h1⟩:=X0T Tryz.underlying3 (hx (1,1,3) (by simp));obtain⟨n2,h2⟩:=X0T Tryz.underlying3 (hx (2,1,3) (by simp));obtain⟨t,h3⟩:=dec_T _ _ (hx (3,3,68) (by simp));simp only[List.drop,List.take,List.cons.injEq,and_true]at h0 h1 h2 h3;subst h0 h1 h2;exact⟨⟨n0,n1,n2,t⟩,by simp only[Ht.enc,<-h3,List.cons_append,List.nil_append]⟩
theorem dec_F {k:Nat} {ds:List CD} (h:QL Tryz.prog k 26 ds):∃f:Fl,ds=f.enc:=by
 obtain⟨hl,k1,_,hx⟩:=WX (l:=[(0,1,22),(1,1,23),(2,1,24)]) Tryz.underlying26 (by kernel_rfl) (by kernel_rfl:Tryz.prog.cellsOf 26=3) h
 match ds,hl with
 | [a0,a1,a2],_=>
   obtain⟨lv,h0⟩:=ZF (enc:=Vr.enc) Tryz.underlying22 (by kernel_rfl:Tryz.prog.cellsOf 89=5) (fun _ _ _ hr=>dec_V hr) (hx (0,1,22) (by simp));obtain⟨lh,h1⟩:=ZF (enc:=Ht.enc) Tryz.underlying23 (by kernel_rfl:Tryz.prog.cellsOf 93=6) (fun _ _ _ hr=>dec_H hr) (hx (1,1,23) (by simp));obtain⟨ls,h2⟩:=ZF (enc:=St.enc) Tryz.underlying24 (by kernel_rfl:Tryz.prog.cellsOf 70=10) (fun k' _ r hr=>dec_S k' r hr) (hx (2,1,24) (by simp));simp only[List.drop,List.take,List.cons.injEq,and_true]at h0 h1 h2;subst h0 h1 h2;exact⟨⟨lv,lh,ls⟩,by simp only[Fl.enc,Xm,Xn,WP]⟩
theorem aggF:aggT Tryz.prog 26=true:=by unfold aggT;rw[Tryz.underlying26]
end Go.Proofs.YtdajceakaakdoaaGreat
