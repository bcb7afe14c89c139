/- Contracts of functions and plain facts about what they compute. Conditions: as each theorem states. -/
import Derived.Test.YtdccocolnaklkaaGreatDoorG4
import Derived.Test.YtdccocolnaklkaaGreatDoorG5
set_option linter.unusedSimpArgs false
set_option linter.unusedVariables false
set_option linter.unnecessarySimpa false
set_option maxRecDepth 100000
set_option maxHeartbeats 2000000
namespace Go.Proofs.YtdccocolnaklkaaGreatDoor
open Go Go.Hl
open Tryz(prog)
structure Sta where
 vals:List Int
 outs:List Int
 time:Int
abbrev aSt (s:Sta):TV:=.agg [.c (.sl 1 (Xg s.vals)),.c (.sl 1 (Xg s.outs)),.c (iC s.time)]
def QS (s:Sta) (c:Int):Sta:=⟨s.vals,s.outs,wr (s.time+c)⟩
def X1d (c:Int) (t:Tm) (body:Sta->Sta):Nat->Sta->Sta
 |0,s=>s
 |k+1,s=>if vT s.vals t=0 then QS s c else X1d c t body k (body (QS s c))
def X1s (vars:List Vr) (vs:List Int) (v n:Int):List Int:=
 match vars[v.toNat]? with
 |some w=>vs.set v.toNat (XN n w.low w.high)
 |none=>vs
def X0H (vars:List Vr) (hv:List Int) (d v n:Int) (t:Tm) (bs:List Int) (s:Sta):Sta:=
 if d=0 then⟨X1s vars s.vals v (vT s.vals t),s.outs,s.time⟩
 else if d=1 then⟨s.vals,s.outs++[vT s.vals t],s.time⟩
 else if d=5 then⟨X1s vars s.vals v ((hv[n.toNat]?).getD 0),s.outs,s.time⟩
 else if d=6 then⟨s.vals,s.outs,stlL bs s.time s.time false⟩ else s
def XJ (vars:List Vr) (hv:List Int):List St->Sta->Sta
 |[]=>fun s=>s
 | .mk d c v n t a b bs::l=>fun s=>
   XJ vars hv l (if d=4 then X1d c t (XJ vars hv a) n.toNat s
    else if d=3 then(if vT s.vals t=0 then XJ vars hv b (QS s c)else XJ vars hv a (QS s c))
    else X0H vars hv d v n t bs (QS s c))
mutual
def wfS (vars:List Vr) (nh:Nat):St->Bool
 | .mk d _ v n t a b bs=>Qb vars false t&&((decide (d≠0/\d≠5)||Qu vars v)&&((decide (d≠5)||(decide (0<=n)&&decide (n<nh)))&&((decide (d≠4)||decide (n<=4096))&&(decide (bs.length<=1000000000)&&(wfL vars nh a&&wfL vars nh b)))))
def wfL (vars:List Vr) (nh:Nat):List St->Bool
 |[]=>true
 |s::l=>wfS vars nh s&&wfL vars nh l
end
mutual
def oUS:St->Nat
 | .mk d _ _ n _ a b _=>if d=4 then n.toNat*oUL a else if d=3 then max (oUL a) (oUL b)else if d=1 then 1 else 0
def oUL:List St->Nat
 |[]=>0
 |s::l=>oUS s+oUL l
end
theorem ZV (vars:List Vr) (vs:List Int) (v n:Int):(X1s vars vs v n).length=vs.length:=by
 unfold X1s;split<;>simp
theorem leaf_len (vars:List Vr) (hv:List Int) (d v n:Int) (t:Tm) (bs:List Int) (s:Sta):(X0H vars hv d v n t bs s).vals.length=s.vals.length/\(X0H vars hv d v n t bs s).outs.length<=s.outs.length+(if d=1 then 1 else 0):=by
 unfold X0H;split
 .rename_i h;subst h;simp[ZV]
 split
 .rename_i h;subst h;simp
 split
 .simp[ZV]
 split<;>simp
theorem X5I {c:Int} {t:Tm} {body:Sta->Sta} {O:Nat} (hb:∀s,(body s).vals.length=s.vals.length/\(body s).outs.length<=s.outs.length+O):∀(k:Nat) (s:Sta),(X1d c t body k s).vals.length=s.vals.length/\(X1d c t body k s).outs.length<=s.outs.length+k*O
 |0,s=>by simp[X1d]
 | k+1,s=>by
   simp only[X1d];split
   .simp[QS]
   have h1:=X5I (c:=c) (t:=t) hb k (body (QS s c));have h2:=hb (QS s c);simp only[QS]at h2⊢;rw[Nat.succ_mul];simp only[QS]at h1;omega
theorem QQ (vars:List Vr) (hv:List Int):∀(l:List St) (s:Sta),(XJ vars hv l s).vals.length=s.vals.length/\(XJ vars hv l s).outs.length<=s.outs.length+oUL l
 |[],s=>by simp[XJ]
 | .mk d c v n t a b bs::l,s=>by
   simp only[XJ,oUL,oUS];have ha:=QQ vars hv a;have hb:=QQ vars hv b;by_cases h4:d=4
   .rw[N9 h4,N9 h4];have h1:=X5I (c:=c) (t:=t) ha n.toNat s;have h2:=QQ vars hv l (X1d c t (XJ vars hv a) n.toNat s);omega
   rw[N6 h4,N6 h4];by_cases h3:d=3
   .rw[N9 h3,N9 h3];have h1:=ha (QS s c);have h2:=hb (QS s c);have e:(QS s c).vals.length=s.vals.length/\(QS s c).outs.length=s.outs.length:=⟨rfl,rfl⟩;split
    .have h5:=QQ vars hv l (XJ vars hv b (QS s c));omega
    have h5:=QQ vars hv l (XJ vars hv a (QS s c));omega
   rw[N6 h3,N6 h3];have h1:=leaf_len vars hv d v n t bs (QS s c);have h5:=QQ vars hv l (X0H vars hv d v n t bs (QS s c));have e:(QS s c).vals.length=s.vals.length/\(QS s c).outs.length=s.outs.length:=⟨rfl,rfl⟩;omega
theorem wfL_mem {vars:List Vr} {nh:Nat} {l:List St} (h:wfL vars nh l=true) {s:St} (hs:s∈l):wfS vars nh s=true:=by
 induction l with
 |nil=>cases hs
 | cons x l ih=>
   simp only[wfL,N4]at h;rcases Np.1 hs with rfl|h1
   .exact h.1
   exact ih h.2 h1
theorem X7Y (f:Fl) (hv:List Int) (d0 c v n:Int) (t:Tm) (a b:List St) (bs:List Int) (hf:Qb f.vars false t=true) (hn:n<=4096)
  (hst:∀s:Sta,s.vals.length=f.vars.length->s.outs.length+oUL a<=2000000->∀d:Nat,Con prog 81 false [aF f,lI hv,lS a,aSt s] (.v (aSt (XJ f.vars hv a s))) none d)
  (s:Sta) (hs:s.vals.length=f.vars.length) (ho:s.outs.length+n.toNat*oUL a<=2000000) (d:Nat):
  Con prog 116 false [aF f,lI hv,aS (.mk d0 c v n t a b bs),aSt s] (.v (aSt (X1d c t (XJ f.vars hv a) n.toNat s))) none d:=by
 obtain⟨vars,hats,body⟩:=f;simp only at hf hst hs;have hlen:=QQ vars hv a;obtain⟨B,hB⟩:∃x,XJ vars hv a=x:=⟨_,rfl⟩;simp only[hB]at hst hlen⊢;obtain⟨O,hO⟩:∃x,oUL a=x:=⟨_,rfl⟩;rw[hO]at ho;simp only[hO]at hst hlen;obtain⟨res,hres⟩:∃r,X1d c t B n.toNat s=r:=⟨_,rfl⟩;rw[hres];have cval:=fun(vs:List Int) (h:vs.length=vars.length)=>X2E vars false vs h t hf;obtain⟨tq,tn,tk⟩:=t;obtain⟨sv,so,stm⟩:=s;clear hB hO hf;refine X3 Tryz.func116 ?_;simp only[Tryz.f116];simp only[aF,Fl.enc,aS,St.enc,Tm.enc,aSt,aT,Na,Ng,List.cons_append,List.nil_append]at hst cval⊢;refine X1 ?_;refine X0<|X0<|X2 ?_;refine X4<|(Xf [1,4,6,7,8] (fun(x:Nat×Sta)=>[(9,.v (li x.1))]) (fun x=>[(4,.box [.c (.sl 5 (Xt vars)),.c (.sl 6 (Xz hats)),.c (.sl 10 (Xe body))]),(6,.box [.c (iC d0),.c (iC c),.c (iC v),.c (iC n),.c (iC tq),.c (iC tn),.c (.sl 3 (XH tk)),.c (.sl 10 (Xe a)),.c (.sl 10 (Xe b)),.c (.sl 1 (Xg bs))]),(7,.box [.c (.sl 1 (Xg x.2.vals)),.c (.sl 1 (Xg x.2.outs)),.c (iC x.2.time)]),(8,.box [.c (.lit XZ),.c (.lit XZ),.c (iC 0)])]) (fun x=>x.1<=n.toNat/\X1d c (.mk tq tn tk) B (n.toNat - x.1) x.2=res/\x.2.vals.length=vars.length/\x.2.outs.length+(n.toNat - x.1)*O<=2000000) (fun x=>n.toNat - x.1) (0,⟨sv,so,stm⟩) ⟨Nf _,hres,hs,ho⟩ ?_ ?_)
 .exact X5 (fun n=>n) []
 rintro⟨k,⟨xv,xo,xt⟩⟩ ⟨hk,hJ,hxl,hxo⟩;simp only[upS,X7,Xy]
 try simp only[X7,KN,Nat.reduceBEq,Nd,Nb,ins,Nat.reduceLT]
 simp only at hk hJ hxl hxo;clear hres hs ho;refine X0<|X0<|X2 ?_;refine(X6 rfl (fun h4=>Xc ?_) (fun h4=>?_))
 ·(try simp only[BN]at h4);have hm:n.toNat - k=(n.toNat - (k+1))+1:=by omega
  have hk1:k+1<=n.toNat:=by omega
  have hw1:IntKind.i64.wrap ((k:Int)+1)=(k:Int)+1:=X8;rw[hm]at hJ hxo;rw[Nat.succ_mul]at hxo;simp only[X1d,QS,wr]at hJ;obtain⟨T,hT⟩:∃x,IntKind.i64.wrap (xt+c)=x:=⟨_,rfl⟩;rw[hT]at hJ;have cv:=cval xv hxl;have cs:=hst ⟨xv,xo,T⟩ hxl (by simp only;omega);have hbl:=hlen ⟨xv,xo,T⟩;obtain⟨A,hA⟩:∃x,vT xv (.mk tq tn tk)=x:=⟨_,rfl⟩;rw[hA]at cv hJ;obtain⟨⟨bv,bo,bt⟩,hBs⟩:∃x,B ⟨xv,xo,T⟩=x:=⟨_,rfl⟩;rw[hBs]at cs hbl hJ;simp only at cs hbl;clear h4 hst cval hlen hm hA hBs;refine X0<|X4<|X0<|X2 ?_;refine X0<|X0<|(Xl [⟨true,.v (li A),none⟩] ?_ ?_)
  .first|exact cv _|exact trivial|simpa[*]using cv _
  refine(X9 rfl (fun h7=>?_) fun h7=>?_)
  ·(try simp only[BN]at h7);rw[N9 h7]at hJ;subst hJ;refine X1 ?_;exact Xr ⟨.inr rfl,_,le_refl _,⟨⟨_,by simp;rfl,by simp[Xp]⟩,by simp,fun h=>by cases h⟩⟩
  (try simp only[BN]at h7);rw[N6 h7]at hJ;refine(Xl [⟨false,.v (.agg [.c (.sl 1 (Xg bv)),.c (.sl 1 (Xg bo)),.c (iC bt)]),none⟩] ?_ ?_)
  .first|exact cs _|exact trivial|simpa[*]using cs _
  refine X2 ?_;exact⟨(k+1,⟨bv,bo,bt⟩),⟨hk1,hJ,by simp only;omega,by simp only;omega⟩,by simp only;omega,X5 (fun n=>n) []⟩
 (try simp only[BN]at h4);have hkl:n.toNat - k=0:=by omega
 rw[hkl]at hJ;simp only[X1d]at hJ;subst hJ;refine(Xj ?_);refine X1 ?_;exact Xr ⟨.inr rfl,_,le_refl _,⟨⟨_,by simp;rfl,by simp[Xp]⟩,by simp,fun h=>by cases h⟩⟩
theorem X4x {vars:List Vr} {v:Int} (h:Qu vars v=true):0<=v/\∃w,vars[v.toNat]? =some w:=by
 unfold Qu at h;simp only[N4,N5]at h;refine⟨h.1,?_⟩;have h2:=h.2;split at h2
 .exact⟨_,by assumption⟩
 cases h2
theorem X5n (f:Fl) (hv:List Int) (hl:f.vars.length<=1000000) (hhv:hv.length=f.hats.length) (l:List St):Xh l<=1000000->wfL f.vars f.hats.length l=true->∀s:Sta,s.vals.length=f.vars.length->s.outs.length+oUL l<=2000000->∀d:Nat,
  Con prog 81 false [aF f,lI hv,lS l,aSt s] (.v (aSt (XJ f.vars hv l s))) none d:=by
 revert l
 apply St.lists;intro l ih hn hwf s hs ho d;have hlen:=XW l;have crnd:=X7Y f hv;have cset:=fun vs v n w h1 h2 h3=>set_con f vs v n w h1 hl h2 h3;obtain⟨res,hres⟩:∃r,XJ f.vars hv l s=r:=⟨_,rfl⟩;rw[hres];have hval:=fun(t:Tm) (vs:List Int) (h:vs.length=f.vars.length) (hf:Qb f.vars false t=true)=>X2E f.vars false vs h t hf;obtain⟨vars,hats,body⟩:=f;simp only at hl hhv hwf hs ih crnd cset hres hval;obtain⟨sv,so,stm⟩:=s;simp only at hs ho;refine X3 Tryz.func81 ?_;simp only[Tryz.f81];simp only[aF,Fl.enc,aSt,Na,Ng];refine X1 ?_;refine X0<|X0<|X2 ?_;refine X4<|(Xf [1,2,4,7,8] (fun(x:Nat×Sta)=>[(9,.v (li x.1))]) (fun x=>[(4,.box [.c (.sl 5 (Xt vars)),.c (.sl 6 (Xz hats)),.c (.sl 10 (Xe body))]),(7,.box [.c (.sl 1 (Xg x.2.vals)),.c (.sl 1 (Xg x.2.outs)),.c (iC x.2.time)]),(8,.box [.c (.lit XZ),.c (.lit XZ),.c (iC 0)])]) (fun x=>x.1<=l.length/\XJ vars hv (l.drop x.1) x.2=res/\x.2.vals.length=vars.length/\x.2.outs.length+oUL (l.drop x.1)<=2000000) (fun x=>l.length - x.1) (0,⟨sv,so,stm⟩) ⟨Nf _,hres,hs,by simpa using ho⟩ ?_ ?_)
 .exact X5 (fun n=>n) []
 rintro⟨k,⟨xv,xo,xt⟩⟩ ⟨hk,hJ,hxl,hxo⟩;simp only[upS,X7,Xy]
 try simp only[X7,KN,Nat.reduceBEq,Nd,Nb,ins,Nat.reduceLT]
 simp only at hk hJ hxl hxo;clear hres hs ho;refine X0<|X0<|X2 ?_;refine(X6 rfl (fun h4=>Xc ?_) (fun h4=>?_))
 ·(try simp only[BN]at h4);have hlt:k<l.length:=by omega
  obtain⟨s,he,hd⟩:=XF hlt;have hw1:=XB hlt (by omega);have hk1:k+1<=l.length:=hlt;have hmem:s∈l:=N3 he;have hnm:=Qe hmem;have hwm:=wfL_mem hwf hmem;have iha:=(ih s hmem).1 (by omega);have ihb:=(ih s hmem).2 (by omega);have he':=Qo he;rw[hd]at hJ hxo;obtain⟨sd,sc,sv,sn,t,sa,sb,sbs⟩:=s;simp only[St.then_,St.else_]at iha ihb;simp only[wfS,N4,Ni,N5]at hwm;obtain⟨wt,wl,wn,w4,wb,wa,wbb⟩:=hwm;have iha:=iha wa;have ihb:=ihb wbb;simp only[oUL,oUS]at hxo;simp only[XJ]at hJ;have hval:=fun vs h=>hval t vs h wt;obtain⟨so,stn,sks⟩:=t;simp only[St.enc,Tm.enc,List.cons_append,List.nil_append]at he';simp only[aF,Fl.enc,aT,Tm.enc,aSt,Na,Ng]at iha ihb hval cset;have hla:=QQ vars hv sa;have hlb:=QQ vars hv sb;clear hlt h4 ih hmem hnm hd he;refine X0<|X4<|X0<|X2 ?_;refine X0<|X0<|X2 ?_;refine(X9 rfl (fun h7=>?_) fun h7=>?_)
  ·(try simp only[BN]at h7);have hd4:sd=4:=by simpa using h7
   subst hd4;rw[N9 rfl]at hxo hJ;have iha':=fun(s:Sta) (h1:s.vals.length=vars.length) (h2:s.outs.length+oUL sa<=2000000)=>iha s h1 h2;have cr:=crnd 4 sc sv sn (.mk so stn sks) sa sb sbs wt (by omega) iha' ⟨xv,xo,xt⟩ hxl (by simp only;omega);have hrl:=X5I (c:=sc) (t:=.mk so stn sks) hla sn.toNat ⟨xv,xo,xt⟩;simp only at hrl;obtain⟨⟨rv,ro,rt⟩,hR⟩:∃x,X1d sc (.mk so stn sks) (XJ vars hv sa) sn.toNat ⟨xv,xo,xt⟩=x:=⟨_,rfl⟩;rw[hR]at cr hrl hJ;simp only at cr hrl;simp only[aF,Fl.enc,aS,St.enc,Tm.enc,aSt,Na,Ng,List.cons_append,List.nil_append]at cr;clear iha ihb iha' hval cset crnd hla hlb hR;refine Xd [⟨false,.v (.agg [.c (.sl 1 (Xg rv)),.c (.sl 1 (Xg ro)),.c (iC rt)]),none⟩] ?_ ?_
   .first|exact cr _|exact trivial|simpa[*]using cr _
   refine(Xj ?_);refine X2 ?_;exact⟨(k+1,⟨rv,ro,rt⟩),⟨hk1,hJ,by simp only;omega,by simp only;omega⟩,by simp only;omega,X5 (fun n=>n) []⟩
  (try simp only[BN]at h7);have hd4:¬sd=4:=by simpa using h7
  rw[N6 hd4]at hxo hJ;simp only[QS,wr]at hJ;obtain⟨T,hT⟩:∃x,IntKind.i64.wrap (xt+sc)=x:=⟨_,rfl⟩;rw[hT]at hJ;have hval:=hval xv hxl;obtain⟨A,hA⟩:∃x,vT xv (.mk so stn sks)=x:=⟨_,rfl⟩;unfold X0H at hJ;simp only at hJ;rw[hA]at hval hJ;have hxo1:xo.length<=2000000:=by omega
  have hroom0:Qy xo.length 8:=XC (by omega) (by omega);have hroom1:Qy (xo.length+1) 8:=XC (by omega) (by omega);have hroom2:Qy 1 8:=XC (by decide) (by decide);clear h7 crnd hA;refine X1 ?_;refine X1 ?_;refine X4<|X0<|X2 ?_;refine(X6 rfl (fun h14=>?_) (fun h14=>?_))
  ·(try simp only[BN]at h14);have hd0:sd=0:=by simpa using h14
   subst hd0;rw[N6 (by decide),N9 rfl]at hJ;have wl:=wl.resolve_left (by decide);obtain⟨hv0,w,hw⟩:=X4x wl;have cs:=cset xv sv A w hxl hv0 hw;have hsl:=ZV vars xv sv A;unfold X1s at hJ hsl;rw[hw]at hJ hsl;simp only at hJ hsl;obtain⟨R,hR⟩:∃x,xv.set sv.toNat (XN A w.low w.high)=x:=⟨_,rfl⟩;rw[hR]at cs hJ hsl;clear cset hR hw iha ihb hla hlb;refine(Xv [⟨true,.v (li A),none⟩,⟨false,.v (lI R),none⟩] (by kernel_rfl) (by kernel_rfl) (by rfl) (by simp[*];first|exact⟨rfl,Iff.rfl⟩|exact⟨rfl,trivial⟩|rfl) ?_ ?_)
   .first|exact⟨hval _,cs _⟩|exact trivial|(repeat' first|exact trivial|exact hval _|exact cs _|apply And.intro)
   refine X2 ?_;exact⟨(k+1,⟨R,xo,T⟩),⟨hk1,hJ,by simp only;omega,by simp only;omega⟩,by simp only;omega,X5 (fun n=>n) []⟩
  (try simp only[BN]at h14);have hd0:¬sd=0:=by simpa using h14
  rw[N6 hd0]at hJ;refine X1 ?_;refine(X6 rfl (fun h19=>?_) (fun h19=>?_))
  ·(try simp only[BN]at h19);have hd1:sd=1:=by simpa using h19
   subst hd1;rw[N6 (by decide),N9 rfl]at hJ;rw[N6 (by decide),N9 rfl]at hxo;clear cset iha ihb hla hlb;refine(X56 [(54,7),(57,7),(59,10),(64,7)] [⟨true,.v (li A),none⟩] (by kernel_rfl) (by kernel_rfl) (by rfl) (by simp[evcH,X3k,Qg, *];first|exact⟨rfl,Iff.rfl⟩|exact⟨rfl,trivial⟩|rfl) ?_ ?_)
   .first|exact hval _|exact trivial|simpa[*]using hval _
   refine Q9 (XO 63 rfl) ?_;refine X2 ?_;exact⟨(k+1,⟨xv,xo++[A],T⟩),⟨hk1,hJ,hxl,by simp only[Nz,List.length_singleton];omega⟩,by simp only;omega,X5 (fun n=>n) []⟩
  (try simp only[BN]at h19);have hd1:¬sd=1:=by simpa using h19
  rw[N6 hd1]at hJ;refine X1 ?_;refine(X6 rfl (fun h24=>?_) (fun h24=>?_))
  ·(try simp only[BN]at h24);have hd5:sd=5:=by simpa using h24
   subst hd5;rw[N6 (by decide),N9 rfl]at hJ;have wl:=wl.resolve_left (by decide);have wn:=wn.resolve_left (by decide);obtain⟨hv0,w,hw⟩:=X4x wl;have hnlt:sn.toNat<hv.length:=by omega
   have hn0:0<=sn:=wn.1;obtain⟨y,hy⟩:=Zr hnlt;rw[hy]at hJ;simp only[Option.getD_some]at hJ;have cs:=cset xv sv y w hxl hv0 hw;have hsl:=ZV vars xv sv y;unfold X1s at hJ hsl;rw[hw]at hJ hsl;simp only at hJ hsl;obtain⟨R,hR⟩:∃x,xv.set sv.toNat (XN y w.low w.high)=x:=⟨_,rfl⟩;rw[hR]at cs hJ hsl;clear cset hR hw hnlt hhv iha ihb hla hlb;refine(Xv [⟨false,.v (lI R),none⟩] (by kernel_rfl) (by kernel_rfl) (by rfl) (by simp[*];first|exact⟨rfl,Iff.rfl⟩|exact⟨rfl,trivial⟩|rfl) ?_ ?_)
   .first|exact cs _|exact trivial|simpa[*]using cs _
   refine X2 ?_;exact⟨(k+1,⟨R,xo,T⟩),⟨hk1,hJ,by simp only;omega,by simp only;omega⟩,by simp only;omega,X5 (fun n=>n) []⟩
  (try simp only[BN]at h24);have hd5:¬sd=5:=by simpa using h24
  rw[N6 hd5]at hJ;refine X1 ?_;refine(X6 rfl (fun h29=>?_) (fun h29=>?_))
  ·(try simp only[BN]at h29);have hd3:sd=3:=by simpa using h29
   subst hd3;rw[N9 rfl]at hJ hxo;have ca:=iha ⟨xv,xo,T⟩ hxl (by simp only;omega);have cb:=ihb ⟨xv,xo,T⟩ hxl (by simp only;omega);have hla:=hla ⟨xv,xo,T⟩;have hlb:=hlb ⟨xv,xo,T⟩;obtain⟨⟨av,ao,at_⟩,hAA⟩:∃x,XJ vars hv sa ⟨xv,xo,T⟩=x:=⟨_,rfl⟩;obtain⟨⟨bv,bo,bt⟩,hBB⟩:∃x,XJ vars hv sb ⟨xv,xo,T⟩=x:=⟨_,rfl⟩;rw[hAA]at ca hla hJ;rw[hBB]at cb hlb hJ;simp only at ca cb hla hlb;clear iha ihb hAA hBB cset;refine Xd [⟨true,.v (li A),none⟩] ?_ ?_
   .first|exact hval _|exact trivial|simpa[*]using hval _
   refine(X6 rfl (fun h31=>?_) (fun h31=>?_))
   ·(try simp only[BN]at h31);rw[N6 (by simpa using h31)]at hJ;refine(Xl [⟨false,.v (.agg [.c (.sl 1 (Xg av)),.c (.sl 1 (Xg ao)),.c (iC at_)]),none⟩] ?_ ?_)
    .first|exact ca _|exact trivial|simpa[*]using ca _
    refine X2 ?_;exact⟨(k+1,⟨av,ao,at_⟩),⟨hk1,hJ,by simp only;omega,by simp only;omega⟩,by simp only;omega,X5 (fun n=>n) []⟩
   (try simp only[BN]at h31);rw[N9 (by simpa using h31)]at hJ;refine(Xl [⟨false,.v (.agg [.c (.sl 1 (Xg bv)),.c (.sl 1 (Xg bo)),.c (iC bt)]),none⟩] ?_ ?_)
   .first|exact cb _|exact trivial|simpa[*]using cb _
   refine X2 ?_;exact⟨(k+1,⟨bv,bo,bt⟩),⟨hk1,hJ,by simp only;omega,by simp only;omega⟩,by simp only;omega,X5 (fun n=>n) []⟩
  (try simp only[BN]at h29);have hd3:¬sd=3:=by simpa using h29
  rw[N6 hd3]at hJ;clear iha ihb cset hla hlb;refine X1 ?_;refine(X9 rfl (fun h39=>?_) fun h39=>?_)
  ·(try simp only[BN]at h39);have hd6:sd=6:=by simpa using h39
   subst hd6;rw[N9 rfl]at hJ;have cse:=X6s sbs T wb;obtain⟨R,hR⟩:∃x,stlL sbs T T false=x:=⟨_,rfl⟩;rw[hR]at cse hJ;clear hR;refine(Xl [⟨true,.v (li R),none⟩] ?_ ?_)
   .first|exact cse _|exact trivial|simpa[*]using cse _
   refine X2 ?_;exact⟨(k+1,⟨xv,xo,R⟩),⟨hk1,hJ,hxl,by simp only;omega⟩,by simp only;omega,X5 (fun n=>n) []⟩
  (try simp only[BN]at h39);have hd6:¬sd=6:=by simpa using h39
  rw[N6 hd6]at hJ;refine X2 ?_;exact⟨(k+1,⟨xv,xo,T⟩),⟨hk1,hJ,hxl,by simp only;omega⟩,by simp only;omega,X5 (fun n=>n) []⟩
 (try simp only[BN]at h4);have hkl:k=l.length:=by omega
 rw[hkl,Nq]at hJ;simp only[XJ]at hJ;subst hJ;refine(Xj ?_);refine X1 ?_;exact Xr ⟨.inr rfl,_,le_refl _,⟨⟨_,by simp;rfl,by simp[Xp]⟩,by simp,fun h=>by cases h⟩⟩
theorem shB_free {vars:List Vr} {nh:Nat} {d v n:Int} {t:Tm} {la lb:Nat} {bs:List Int} {last:Bool} (h:shB vars nh d v n t la lb bs last=true):d=3\/d=4\/(la=0/\lb=0):=by
 by_cases h3:d=3
 .exact .inl h3
 by_cases h4:d=4
 .exact .inr (.inl h4)
 refine .inr (.inr ?_);unfold shB at h;simp only[N6 h3,N6 h4]at h;split at h
 .simp only[N4,N5]at h;exact h.1.1.1
 split at h
 .simp only[N4,N5]at h;exact h.1.1.1
 split at h
 .simp only[N4,N5]at h;exact h.1.1.1.1
 split at h
 .simp only[N4,N5]at h;exact h.1.1.1.1.1
 split at h
 .simp only[N4,N5]at h;exact h.1.1.1.1.1
 cases h
theorem X1t {vars:List Vr} {nh:Nat}:∀(l:List St) (top:Bool),ssC vars nh l top=0->okL l=true
 |[],_,_=>by simp[okL]
 | .mk d c v n t a b bs::l,top,h=>by
   simp only[ssC]at h;split at h
   .rename_i h0;split at h
    .rename_i ha;split at h
     .rename_i hb;have ia:=X1t a false ha;have ib:=X1t b false hb;have il:=X1t l top h;unfold stC at h0;split at h0
      .cases h0
      rename_i hs;split at h0
      .cases h0
      rename_i hn;have hs:shB vars nh d v n t a.length b.length bs (top&&l.isEmpty)=true:=by simpa using hs
      have hn:X1r d c n bs=true:=by simpa using hn
      have hf:=shB_free hs;unfold X1r at hn;simp only[N4,Nm,NC,No,Nc]at hn;have hm:X1O d<=67108864:=by unfold X1O;split<;>omega
      simp only[okL,okS,N4,Ni,N5,Dh,ia,ib,il];have hla:a.length=0->a=[]:=Nr;have hlb:b.length=0->b=[]:=Nr;refine⟨⟨⟨by omega,by omega,by omega⟩,?_,by simp⟩,by simp⟩;rcases hf with hf|hf|hf
      .exact .inl hf
      .exact .inr (.inl hf)
      exact .inr (.inr ⟨hla hf.1,hlb hf.2⟩)
     rename_i hb;exact absurd h hb
    rename_i ha;exact absurd h ha
   rename_i h0;exact absurd h h0
def XV:List Ht->Nat
 |[]=>0
 |h::l=>h.term.nodes+XV l
def mH:List Ht->Int×Bool->Int×Bool
 |[],s=>s
 |h::l,s=>mH l (if QF s=true then s else mTm h.term 1 s)
theorem Zs {l:List Ht} {h:Ht} (hm:h∈l):h.term.nodes<=XV l:=by
 induction l with
 |nil=>cases hm
 | cons x l ih=>
   simp only[XV];rcases Np.1 hm with rfl|h1
   .omega
   have:=ih h1;omega
theorem X5p:∀(l:List Ht) (s:Int×Bool),QF s=true->QF (mH l s)=true
 |[],s,h=>h
 | x::l,s,h=>by
   simp only[mH,N9 h];exact X5p l s h
def ZF (l:List Ht):Bool:=l.all fun h=>decide (tdT h.term<=12)
theorem mH_fit:∀(l:List Ht) (s:Int×Bool),0<=s.1->QF s=false->
  (s.1+XV l<=1024/\ZF l=true->QF (mH l s)=false)/\(¬(s.1+XV l<=1024/\ZF l=true)->QF (mH l s)=true)
 | [],s,h0,h=>by
   have:=X2Z h;simp only[mH,XV,ZF,List.all_nil];exact⟨fun _=>h,fun hn=>absurd ⟨by omega,trivial⟩ hn⟩
 | x::l,s,h0,h=>by
   have ho:=X2Z h;have ht:=X5r x.term 1 s h0 (by omega) h;have hle:=X0j x.term 1 s;simp only[mH,h,XV,ZF,List.all_cons,N4,N5,NA,Nb];by_cases hf:s.1+x.term.nodes<=1024/\1+(tdT x.term:Int)<=13
   .have e:=ht.1 hf;rw[e];have ih:=mH_fit l (s.1+x.term.nodes,false) (by simp only;omega) (by simp only[QF,Bool.false_or,Nc];omega);simp only[ZF]at ih;refine⟨fun hh=>ih.1 ⟨by omega,hh.2.2⟩,fun hh=>ih.2 fun h2=>hh ⟨by omega,by omega,h2.2⟩⟩
   have e:=ht.2 hf;refine⟨fun hh=>absurd ⟨by omega,by omega⟩ hf,fun _=>X5p _ _ e⟩
def Za (f:Fl):Bool:=((((decide (f.vars.length<=64)&&decide (f.hats.length<=8))&&decide (Xh f.body+XV f.hats<=1024))&&decide (sdL f.body<=12))&& !QM f.body)&&ZF f.hats
def mF (f:Fl):Int×Bool:=mH f.hats (mSs f.body 1 (0,false))
theorem X86 (f:Fl):Za f=false↔64<f.vars.length\/8<f.hats.length\/QF (mF f)=true:=by
 have h1:=X3x f.body 1 (0,false) (by decide) (by decide) rfl;unfold mF Za;simp only[No,Nc,Bool.not_eq_false',Nat.not_le];by_cases hs:((0:Int),false).1+Xh f.body<=1024/\1+(sdL f.body:Int)<=13/\QM f.body=false
 .rw[h1.1 hs];have h2:=mH_fit f.hats (0+(Xh f.body:Int),false) (by simp only;omega) (by simp only[QF,Bool.false_or,Nc];have:=hs.1;simp only at this;omega);obtain⟨a1,a2,a3⟩:=hs;simp only at a1 h2;by_cases hh:0+(Xh f.body:Int)+XV f.hats<=1024/\ZF f.hats=true
  .have e:=h2.1 hh;have e3:=hh.2;simp only[show((0:Int),false).1=0 from rfl];rw[e,a3,e3];simp;omega
  have e:=h2.2 hh;simp only[show((0:Int),false).1=0 from rfl];rw[e,a3];constructor
  .intro _;exact .inr (.inr rfl)
  intro _;by_cases hd:ZF f.hats=true
  .left;left;left;right;by_cases hc:0+(Xh f.body:Int)+XV f.hats<=1024
   .exact absurd ⟨hc,hd⟩ hh
   omega
  right;simpa using hd
 have e:=X5p f.hats _ (h1.2 hs);rw[e];constructor
 .intro _;exact .inr (.inr rfl)
 intro _;simp only at hs;by_cases ht:QM f.body=true
 .left;right;exact ht
 have ht:QM f.body=false:=by simpa using ht
 by_cases hd:sdL f.body<=12
 .left;left;left;right;by_cases hc:0+(Xh f.body:Int)<=1024
  .exact absurd ⟨hc,by omega,ht⟩ hs
  omega
 left;left;right;omega
def X4B (l:List St):Bool:=decide (4096<(bdL CR l ⟨0,0,0⟩).s)||(decide (8<(bdL CR l ⟨0,0,0⟩).o)||decide (67108864<(bdL CR l ⟨0,0,0⟩).t))
def Q2 (f:Fl):Int:=
 if Za f=false then 4 else if Wy f.vars=0 then
  (if hcs f.vars [] f.hats=0 then(if ssC f.vars f.hats.length f.body true=0 then(if X4B f.body=true then 4 else 0)else ssC f.vars f.hats.length f.body true)else hcs f.vars [] f.hats)
 else Wy f.vars
theorem WT {vars:List Vr} (h:Wy vars=0):WX vars:=by
 unfold Wy at h;split at h
 .rename_i h0;exact X2g _ _ h0
 rename_i h0;exact absurd h h0
theorem X96 (f:Fl) (hv:f.vars.length<=1000000) (hh:f.hats.length<=1000000) (hn:Xh f.body+XV f.hats<=900000000) (d:Nat):
  Con prog 97 true [aF f] (.v (lb (Za f))) none d:=by
 obtain⟨res,hres⟩:∃r,Za f=r:=⟨_,rfl⟩;rw[hres];have cn:=X9h f.body (by omega);have csd:=X80 f.body (by omega);have ctd:=X9J f.body (by omega);unfold Za at hres;obtain⟨vars,hats,body⟩:=f;simp only at hv hh hn hres cn csd ctd;refine X3 Tryz.func97 ?_;simp only[Tryz.f97];simp only[aF,Fl.enc,Na,Ng];refine X1 ?_;refine X0<|X0<|X2 ?_;refine(X9 rfl (fun h2=>?_) fun h2=>?_)
 .try simp only[BN]at h2
  have hz:(decide (vars.length<=64)&&decide (hats.length<=8))=false:=by
   simp only[No,Nc];omega
  rw[hz]at hres;simp only[NQ]at hres;subst hres;refine X1 ?_;exact Xb
 try simp only[BN]at h2
 have hz:(decide (vars.length<=64)&&decide (hats.length<=8))=true:=by
  simp only[N4,N5];omega
 rw[hz]at hres;simp only[NF]at hres;refine Xd [⟨true,.v (li (Xh body)),none⟩] ?_ ?_
 .first|exact cn _|exact trivial|simpa[*]using cn _
 refine X0<|X0<|X2 ?_;refine X4<|(Xf [1] (fun(x:Nat×Nat)=>[(3,.v (li x.2)),(4,.v (li x.1))]) (fun x=>[(1,.box [.c (.sl 5 (Xt vars)),.c (.sl 6 (Xz hats)),.c (.sl 10 (Xe body))])]) (fun x=>x.1<=hats.length/\x.2+XV (hats.drop x.1)=Xh body+XV hats/\ZF (hats.drop x.1)=ZF hats) (fun x=>hats.length - x.1) (0,Xh body) ⟨Nf _,by simp,by simp⟩ ?_ ?_)
 .exact X5 (fun n=>n) []
 rintro⟨k,n⟩ ⟨hk,hJ,hJ2⟩;simp only[upS,X7,Xy]
 try simp only[X7,KN,Nat.reduceBEq,Nd,Nb,ins,Nat.reduceLT]
 simp only at hk hJ hJ2;refine X0<|X0<|X2 ?_;refine(X6 rfl (fun h9=>Xc ?_) (fun h9=>?_))
 ·(try simp only[BN]at h9);have hlt:k<hats.length:=by omega
  obtain⟨h,he,hd⟩:=XF hlt;have hw1:=XB hlt (by omega);have hk1:k+1<=hats.length:=hlt;rw[hd]at hJ hJ2;simp only[XV]at hJ;have hJ2:(decide (tdT h.term<=12)&&ZF (hats.drop (k+1)))=ZF hats:=hJ2;have ctn:=X4q h.term (by omega);have ctd2:=X3V h.term (by omega);have hw2:IntKind.i64.wrap ((n:Int)+h.term.nodes)=((n+h.term.nodes:Nat):Int):=by rw[X8 (by omega) (by omega)];simp
  obtain⟨nm,lo,hi,⟨o,tn,ks⟩⟩:=h;simp only at hJ hJ2 ctn ctd2 hw2;simp only[aT,Tm.enc,Na,Ng]at ctn ctd2;obtain⟨N,hN⟩:∃x,(Tm.mk o tn ks).nodes=x:=⟨_,rfl⟩;obtain⟨D,hD⟩:∃x,tdT (Tm.mk o tn ks)=x:=⟨_,rfl⟩;rw[hN]at ctn hJ hw2;rw[hD]at ctd2 hJ2;clear hlt h9 hd hN hD;refine X0<|X4<|X0<|(Xl [⟨true,.v (li N),none⟩] ?_ ?_)
  .first|exact ctn _|exact trivial|simpa[*]using ctn _
  refine Xd [⟨true,.v (li D),none⟩] ?_ ?_
  .first|exact ctd2 _|exact trivial|simpa[*]using ctd2 _
  refine(X9 rfl (fun h12=>?_) fun h12=>?_)
  ·(try simp only[BN]at h12);have hz2:ZF hats=false:=by rw[<-hJ2];simp only[No,Nc];omega
   rw[hz2,Bool.and_false]at hres;subst hres;refine X1 ?_;exact Xb
  (try simp only[BN]at h12);rw[Nv (by omega),NF]at hJ2;refine X2 ?_;exact⟨(k+1,n+N),⟨hk1,by simp only;omega,hJ2⟩,by simp only;omega,X5 (fun n=>n) []⟩
 (try simp only[BN]at h9);have hkl:k=hats.length:=by omega
 subst hkl;rw[Nq]at hJ hJ2;simp only[XV,Nat.add_zero]at hJ;have hJ2:ZF hats=true:=hJ2.symm;rw[hJ2,Bool.and_true,<-hJ]at hres;obtain⟨S,hS⟩:∃x,sdL body=x:=⟨_,rfl⟩;obtain⟨T,hT⟩:∃x,QM body=x:=⟨_,rfl⟩;rw[hS]at csd hres;rw[hT]at ctd hres;have e1:decide (n<=1024)=decide ((n:Int)<=1024):=by rw[D6,N5,N5];omega
 have e2:decide (S<=12)=decide ((S:Int)<=12):=by rw[D6,N5,N5];omega
 rw[e1,e2]at hres;clear e1 e2 hS hT hJ2 h9 hJ;refine(Xj ?_);refine Xd [⟨true,.v (li S),none⟩,⟨true,.v (lb T),none⟩] ?_ ?_
 .first|exact⟨csd _,ctd _⟩|exact trivial|(repeat' first|exact trivial|exact csd _|exact ctd _|apply And.intro)
 exact(Xb (he:=by subst hres;simp[Xp]))
theorem X0n (f:Fl) (hv:f.vars.length<=1000000) (hh:f.hats.length<=1000000) (hn:Xh f.body+XV f.hats<=900000000) (hb:Qi f.body=true) (d:Nat):
  Con prog 64 true [aF f] (.v (li (Q2 f))) none d:=by
 obtain⟨res,hres⟩:∃r,Q2 f=r:=⟨_,rfl⟩;rw[hres];have csz:=X96 f hv hh hn;have cvars:=X9c f.vars hv;have ct:=fun(hg:WX f.vars) (h:Ht) (hm:h∈f.hats)=>X4v f.vars true hg (by omega) h.term (by have:=Zs hm;omega);have cst:=fun hg=>X88 f hg hv f.body (by omega) hb;have cup:=fun ho=>X38 f.body (by omega) ho;have hgood:Wy f.vars=0->WX f.vars:=WT;have hok:ssC f.vars f.hats.length f.body true=0->okL f.body=true:=X1t _ _;unfold Q2 X4B at hres;obtain⟨SZ,hSZ⟩:∃x,Za f=x:=⟨_,rfl⟩;rw[hSZ]at csz hres;obtain⟨vars,hats,body⟩:=f;simp only at hv hh hn hb hres csz cvars ct cst cup hgood hok;obtain⟨VC,hVC⟩:∃x,Wy vars=x:=⟨_,rfl⟩;obtain⟨HC,hHC⟩:∃x,hcs vars [] hats=x:=⟨_,rfl⟩;obtain⟨SC,hSC⟩:∃x,ssC vars hats.length body true=x:=⟨_,rfl⟩;rw[hVC]at cvars hres hgood;rw[hHC]at hres;rw[hSC]at hres hok;have cst:=fun hg=>cst hg true;rw[hSC]at cst;clear hVC hSC hSZ;refine X3 Tryz.func64 ?_;simp only[Tryz.f64];simp only[aF,Fl.enc,Na,Ng]at csz cst⊢;refine X1 ?_;refine X0<|X0<|(Xl [⟨true,.v (lb SZ),none⟩] ?_ ?_)
 .first|exact csz _|exact trivial|simpa[*]using csz _
 refine(X9 rfl (fun h2=>?_) fun h2=>?_)
 ·(try simp only[BN]at h2);have hz:SZ=false:=by simpa using h2
  rw[N9 hz]at hres;subst hres;refine X1 ?_;exact Xb
 (try simp only[BN]at h2);have hz:SZ=true:=by simpa using h2
 rw[N6 (by rw[hz];decide)]at hres;clear csz h2;subst hz;refine Xd [⟨true,.v (li VC),none⟩] ?_ ?_
 .first|exact cvars _|exact trivial|simpa[*]using cvars _
 refine X0<|X0<|X2 ?_;refine(X9 rfl (fun h7=>?_) fun h7=>?_)
 ·(try simp only[BN]at h7);rw[N6 h7]at hres;subst hres;refine X1 ?_;exact Xb
 (try simp only[BN]at h7);have hv0:VC=0:=by simpa using h7
 have hg:=hgood hv0;have ct:=ct hg;have cst:=cst hg;rw[N9 hv0]at hres;clear cvars hgood h7;subst hv0;refine X0<|X0<|X2 ?_;refine X4<|(Xf [1] (fun(x:Nat)=>[(4,.v (li x))]) (fun x=>[(1,.box [.c (.sl 5 (Xt vars)),.c (.sl 6 (Xz hats)),.c (.sl 10 (Xe body))])]) (fun x=>x<=hats.length/\hcs vars (hats.take x) (hats.drop x)=HC) (fun x=>hats.length - x) (0:Nat) ⟨Nf _,hHC⟩ ?_ ?_)
 .exact X5 (fun n=>n) []
 rintro k ⟨hk,hJ⟩;simp only[upS,X7,Xy]
 try simp only[X7,KN,Nat.reduceBEq,Nd,Nb,ins,Nat.reduceLT]
 clear hHC;refine X0<|X0<|X2 ?_;refine(X6 rfl (fun h13=>Xc ?_) (fun h13=>?_))
 ·(try simp only[BN]at h13);have hlt:k<hats.length:=by omega
  obtain⟨h,he,hd⟩:=XF hlt;have hw1:=XB hlt (by omega);have hk1:k+1<=hats.length:=hlt;have hkl:(hats.take k).length=k:=by rw[Nt];omega
  rw[hd]at hJ;simp only[hcs]at hJ;rw[<-WN he]at hJ;have ct:=ct h (N3 he);obtain⟨nm,lo,hi,⟨o,tn,ks⟩⟩:=h;obtain⟨C,hC⟩:∃x,X07 vars (hats.take k) ⟨nm,lo,hi,.mk o tn ks⟩=x:=⟨_,rfl⟩;rw[hC]at hJ;simp only[X07]at hC;simp only[aT,Tm.enc,Na,Ng]at ct;obtain⟨TC,hTC⟩:∃x,ZD vars true (.mk o tn ks)=x:=⟨_,rfl⟩;rw[hTC]at ct hC;clear hlt h13 hd cup hok cst hTC;refine X0<|X4<|X0<|X2 ?_;refine X0<|X0<|(Xl [⟨true,.v (lb (Zb nm)),none⟩] ?_ ?_)
  .first|exact X17 _ _|exact trivial|simpa[*]using X17 _ _
  refine(X9 rfl (fun h16=>?_) fun h16=>?_)
  ·(try simp only[BN]at h16);rw[N9 h16]at hC;subst hC;rw[N6 (by decide)]at hJ;subst hJ;rw[N6 (by decide)]at hres;subst hres;refine X1 ?_;exact Xb
  (try simp only[BN]at h16);rw[N6 (by simp[h16])]at hC;clear h16;refine X0<|X0<|X2 ?_;refine X4<|(Xf [1,4,5] (fun(x:Nat)=>[(6,.v (li x))]) (fun x=>[(1,.box [.c (.sl 5 (Xt vars)),.c (.sl 6 (Xz hats)),.c (.sl 10 (Xe body))]),(5,.box [.c (sC nm),.c (iC lo),.c (iC hi),.c (iC o),.c (iC tn),.c (.sl 3 (XH ks))])]) (fun x=>x<=k/\∀j:Nat,j<x->∀w,hats[j]? =some w->w.name≠nm) (fun x=>k - x) (0:Nat) ⟨Nf _,fun j hj=>absurd hj (Dd j)⟩ ?_ ?_)
  .exact X5 (fun n=>n) []
  rintro j ⟨hj,hno⟩;simp only[upS,X7,Xy]
  try simp only[X7,KN,Nat.reduceBEq,Nd,Nb,ins,Nat.reduceLT]
  refine X0<|X0<|X2 ?_;refine(X6 rfl (fun h22=>Xc ?_) (fun h22=>?_))
  ·(try simp only[BN]at h22);have hjk:j<k:=by omega
   obtain⟨w,hw⟩:∃w,hats[j]? =some w:=⟨hats[j],by simp[show j<hats.length by omega]⟩;have hwj:=XB hjk (by omega);have hj1:j+1<=k:=hjk
   have hmemw:w∈hats.take k:=by
    have:(hats.take k)[j]? =some w:=by rw[List.getElem?_take_of_lt hjk];exact hw
    exact N3 this
   obtain⟨n2,l2,i2,⟨o2,t2,k2⟩⟩:=w;clear hjk h22;refine X0<|X4<|X0<|(N0 ?_);refine(X9 rfl (fun h24=>?_) fun h24=>?_)
   .try simp only[BN]at h24
    have hany:((hats.take k).any fun w=>decide (w.name=nm))=true:=by
     rw[List.any_eq_true];exact⟨_,hmemw,by simpa using h24⟩
    rw[N9 hany]at hC;subst hC;rw[N6 (by decide)]at hJ;subst hJ;rw[N6 (by decide)]at hres;subst hres;refine X1 ?_;exact Xb
   (try simp only[BN]at h24);refine X2 ?_
   exact⟨j+1,⟨hj1,fun i hi u hu=>by
    rcases Nat.lt_or_eq_of_le (Nat.le_of_lt_succ hi)with h|h
    .exact hno i h u hu
    subst h;rw[hw]at hu;cases hu
    simpa using h24⟩,by omega,X5 (fun n=>n) []⟩
  (try simp only[BN]at h22);have hjk:j=k:=by omega
  subst hjk
  have hany:((hats.take j).any fun w=>decide (w.name=nm))=false:=by
   rw[Dm];intro w hw;obtain⟨i,hi⟩:=NH.1 hw;have hij:i<j:=by have:=(N8.1 hi).1;omega
   rw[List.getElem?_take_of_lt hij]at hi;simpa using hno i hij w hi
  rw[N6 (by simp[hany])]at hC;clear hno hkl hany;refine(Xj ?_);refine X0<|X0<|(Xl [⟨true,.v (lb (Qp lo hi)),none⟩] ?_ ?_)
  .first|exact Zi _ _ _|exact trivial|simpa[*]using Zi _ _ _
  refine(X9 rfl (fun h30=>?_) fun h30=>?_)
  ·(try simp only[BN]at h30);rw[N9 h30]at hC;subst hC;rw[N6 (by decide)]at hJ;subst hJ;rw[N6 (by decide)]at hres;subst hres;refine X1 ?_;exact Xb
  (try simp only[BN]at h30);rw[N6 (by simp[h30])]at hC;subst hC;clear h30;refine Xd [⟨true,.v (li TC),none⟩] ?_ ?_
  .first|exact ct _|exact trivial|simpa[*]using ct _
  refine X1 ?_;refine(X9 rfl (fun h35=>?_) fun h35=>?_)
  ·(try simp only[BN]at h35);rw[N6 h35]at hJ;subst hJ;rw[N6 h35]at hres;subst hres;refine X1 ?_;exact Xb
  (try simp only[BN]at h35);rw[N9 (by simpa using h35)]at hJ;refine X2 ?_;exact⟨j+1,⟨hk1,hJ⟩,by omega,X5 (fun n=>n) []⟩
 (try simp only[BN]at h13);have hkl:k=hats.length:=by omega
 rw[hkl,Nq]at hJ;simp only[hcs]at hJ;rw[N9 hJ.symm]at hres;clear hJ hkl hk h13 ct;refine(Xj ?_);refine Xd [⟨true,.v (li SC),none⟩] ?_ ?_
 .first|exact cst _|exact trivial|simpa[*]using cst _
 refine X0<|X0<|X2 ?_;refine(X9 rfl (fun h42=>?_) fun h42=>?_)
 ·(try simp only[BN]at h42);rw[N6 h42]at hres;subst hres;refine X1 ?_;exact Xb
 (try simp only[BN]at h42);have hs0:SC=0:=by simpa using h42
 rw[N9 hs0]at hres;have hok:=hok hs0;have cup:=cup hok;obtain⟨Y,hY⟩:∃x,bdL CR body ⟨0,0,0⟩=x:=⟨_,rfl⟩;rw[hY]at hres cup;obtain⟨y1,y2,y3⟩:=Y;simp only[Ni,N5]at hres;simp only at cup;clear hY cst h42 hok;refine Xd [⟨true,.tup [li y1,li y2,li y3],none⟩] ?_ ?_
 .first|exact cup _|exact trivial|simpa[*]using cup _
 refine X0<|X0<|X2 ?_;refine(X9 rfl (fun h47=>?_) fun h47=>?_)
 ·(try simp only[BN]at h47);rw[N9 (by omega)]at hres;subst hres;refine X1 ?_;exact Xb
 (try simp only[BN]at h47);rw[N6 (by omega)]at hres;subst hres;refine X1 ?_;exact Xb
theorem con_arg {P:Program} {f:FuncId} {fresh:Bool} {r:RV} {ob:Option Ob} {d n:Nat} {args:List TV} {xs ys:List CV} (h:Con P f fresh (args.set n (.agg ys)) r ob d) (hx:args[n]? =some (.agg xs)) (hw:LWk xs ys):Con P f fresh args r ob d:=by
 refine⟨h.1,fun F w vs hF hsz hargs=>h.2 F w vs hF (by simpa using hsz) fun j t u ht hu=>?_⟩;rw[D2]at ht;split at ht
 .rename_i e;subst e;split at ht
  .cases ht;obtain⟨ws,rfl,hc⟩:=hargs n _ u hx hu;exact⟨ws,rfl,hw.rel hc⟩
  cases ht
 exact hargs j t u ht hu
theorem X8G (i:Inp):∀(l:List Vr) (a b c:Nat) (vals:List Int) (fits:Bool),(stL i l a b c vals fits).2=0->(stL i l a b c vals fits).1.length=vals.length+l.length
 | [],a,b,c,vals,fits,h=>by
   simp only[stL]at h⊢;split
   .split
    .simp
    rename_i h1 h2;rw[N9 h1,N6 h2]at h;cases h
   rename_i h1;rw[N6 h1]at h;cases h
 | v::l,a,b,c,vals,fits,h=>by
   simp only[stL]at h⊢;split
   .rename_i h1;rw[N9 h1]at h;rw[X8G i l _ _ _ _ _ h];simp;omega
   rename_i h1;rw[N6 h1]at h;cases h
def st0:Sta:=⟨[],[],0⟩
def WC (f:Fl) (i:Inp):Sta×Int:=
 if Q2 f=0 then
  (if(stL i f.vars 0 0 0 [] true).2=0 then(XJ f.vars (QO (stL i f.vars 0 0 0 [] true).1 f.hats) f.body ⟨(stL i f.vars 0 0 0 [] true).1,[],0⟩,0)
  else(st0,(stL i f.vars 0 0 0 [] true).2))
 else(st0,Q2 f)
theorem play_con (f:Fl) (i:Inp) (hv:f.vars.length<=1000000) (hh:f.hats.length<=1000000) (hn:Xh f.body+XV f.hats<=1000000) (hb:Qi f.body=true)
  (hwf:Q2 f=0->wfL f.vars f.hats.length f.body=true/\oUL f.body<=2000000/\∀h∈f.hats,Qb f.vars true h.term=true) (d:Nat):
  Con prog 48 false [aF f,aI i] (.tup [aSt (WC f i).1,li (WC f i).2]) none d:=by
 have cc:=X0n f hv hh (by omega) hb;have cst:=X9i f.vars i hv;have hsl:=X8G i f.vars 0 0 0 [] true;have crun:=fun hvl h1 h2=>X5n f hvl hv h1 f.body (by omega) h2;have chv:=fun vs h1 h2=>X9F f vs h1 hh h2;obtain⟨⟨SV,SC⟩,hS⟩:∃x,stL i f.vars 0 0 0 [] true=x:=⟨_,rfl⟩;obtain⟨res,hres⟩:∃r,WC f i=r:=⟨_,rfl⟩;rw[hres];unfold WC at hres;obtain⟨C,hC⟩:∃x,Q2 f=x:=⟨_,rfl⟩;rw[hC]at cc hres hwf;rw[hS]at cst hsl hres;simp only at cst hsl hres;obtain⟨vars,hats,body⟩:=f;obtain⟨is,ip,ir⟩:=i;simp only at hv hh hn hb hwf cst hsl crun chv hres;clear hC hS;refine X3 Tryz.func48 ?_;simp only[Tryz.f48];simp only[aF,Fl.enc,aI,Na,Ng]at cc cst⊢;refine X1 ?_;refine Xd [⟨true,.v (li C),none⟩] ?_ ?_
 .first|exact cc _|exact trivial|simpa[*]using cc _
 refine X0<|X0<|X2 ?_;refine(X9 rfl (fun h3=>?_) fun h3=>?_)
 ·(try simp only[BN]at h3);rw[N6 h3]at hres;subst hres;refine X1 ?_;refine Q9 (Wc 4 [.c (.sl 1 []),.c (.sl 1 []),.c (iC 0)] rfl (by(repeat'(first|exact LWk.nil|apply LWk.cons|exact CWk.refl _|exact CWk.nil _)))) ?_;exact Xr ⟨.inr rfl,_,le_refl _,⟨⟨_,by simp;rfl,by simp[Xp,st0]⟩,by simp,fun h=>by cases h⟩⟩
 (try simp only[BN]at h3);have hc0:C=0:=by simpa using h3
 rw[N9 hc0]at hres;obtain⟨hw,ho,hf⟩:=hwf hc0;clear hwf cc h3;refine Xd [⟨false,.tup [lI SV,li SC],none⟩] ?_ ?_
 .first|exact cst _|exact trivial|simpa[*]using cst _
 refine X0<|X0<|X2 ?_;refine(X9 rfl (fun h8=>?_) fun h8=>?_)
 ·(try simp only[BN]at h8);rw[N6 h8]at hres;subst hres;refine X1 ?_;refine Q9 (Wc 4 [.c (.sl 1 []),.c (.sl 1 []),.c (iC 0)] rfl (by(repeat'(first|exact LWk.nil|apply LWk.cons|exact CWk.refl _|exact CWk.nil _)))) ?_;exact Xr ⟨.inr rfl,_,le_refl _,⟨⟨_,by simp;rfl,by simp[Xp,st0]⟩,by simp,fun h=>by cases h⟩⟩
 (try simp only[BN]at h8);have hs0:SC=0:=by simpa using h8
 rw[N9 hs0]at hres;have hsl:=hsl hs0;simp only[List.length_nil,Nat.zero_add]at hsl;have ch:=chv SV hsl hf;have hhl:(QO SV hats).length=hats.length:=by simp[QO]
 obtain⟨HV,hHV⟩:∃x,QO SV hats=x:=⟨_,rfl⟩;rw[hHV]at ch hres hhl;have cr:=crun HV hhl hw ⟨SV,[],0⟩ hsl (by simpa using ho);obtain⟨⟨rv,ro,rt⟩,hR⟩:∃x,XJ vars HV body ⟨SV,[],0⟩=x:=⟨_,rfl⟩;rw[hR]at cr hres;subst hres;simp only[aF,Fl.enc,aSt,Na,Ng]at cr ch;have cr':=fun d=>con_arg (n:=3) (args:=[.agg [.c (.sl 5 (Xt vars)),.c (.sl 6 (Xz hats)),.c (.sl 10 (Xe body))],lI HV,lS body,.agg [.c (.sl 1 (Xg SV)),.c (.lit XZ),.c (iC 0)]]) (cr d) rfl (by(repeat'(first|exact LWk.nil|apply LWk.cons|exact CWk.refl _|exact CWk.nil _)));clear cr crun chv cst hsl hw ho hf h8 hhl hHV hR;refine X0<|(Xv [⟨false,.v (lI HV),none⟩,⟨false,.v (.agg [.c (.sl 1 (Xg rv)),.c (.sl 1 (Xg ro)),.c (iC rt)]),none⟩] (by kernel_rfl) (by kernel_rfl) (by rfl) (by simp[*];first|exact⟨rfl,Iff.rfl⟩|exact⟨rfl,trivial⟩|rfl) ?_ ?_)
 .first|exact⟨ch _,cr' _⟩|exact trivial|(repeat' first|exact trivial|exact ch _|exact cr' _|apply And.intro)
 exact Xr ⟨.inr rfl,_,le_refl _,⟨⟨_,by simp;rfl,by simp[Xp]⟩,by simp,fun h=>by cases h⟩⟩
structure Obs where
 outs:List Int
 time:Int
abbrev aO (o:Obs):TV:=.agg [.c (.sl 1 (Xg o.outs)),.c (iC o.time)]
def Zz (f:Fl) (i:Inp):Obs×Int:=if(WC f i).2=0 then(⟨(WC f i).1.outs,(WC f i).1.time⟩,0)else(⟨[],0⟩,(WC f i).2)
theorem X5t (f:Fl) (i:Inp) (hv:f.vars.length<=1000000) (hh:f.hats.length<=1000000) (hn:Xh f.body+XV f.hats<=1000000) (hb:Qi f.body=true)
  (hwf:Q2 f=0->wfL f.vars f.hats.length f.body=true/\oUL f.body<=2000000/\∀h∈f.hats,Qb f.vars true h.term=true) (d:Nat):
  Con prog 15 false [aF f,aI i] (.tup [aO (Zz f i).1,li (Zz f i).2]) none d:=by
 have cp:=play_con f i hv hh hn hb hwf;obtain⟨res,hres⟩:∃r,Zz f i=r:=⟨_,rfl⟩;rw[hres];unfold Zz at hres;obtain⟨⟨⟨pv,po,pt⟩,pc⟩,hP⟩:∃x,WC f i=x:=⟨_,rfl⟩;rw[hP]at cp hres;simp only at cp hres;obtain⟨vars,hats,body⟩:=f;obtain⟨is,ip,ir⟩:=i;clear hP hwf;refine X3 Tryz.func15 ?_;simp only[Tryz.f15];simp only[aF,Fl.enc,aI,aSt,Na,Ng]at cp⊢;refine X1 ?_;refine Xd [⟨false,.tup [.agg [.c (.sl 1 (Xg pv)),.c (.sl 1 (Xg po)),.c (iC pt)],li pc],none⟩] ?_ ?_
 .first|exact cp _|exact trivial|simpa[*]using cp _
 refine X0<|X0<|X2 ?_;refine(X9 rfl (fun h3=>?_) fun h3=>?_)
 ·(try simp only[BN]at h3);rw[N6 h3]at hres;subst hres;refine X1 ?_;refine Q9 (Wc 4 [.c (.sl 1 []),.c (iC 0)] rfl (by(repeat'(first|exact LWk.nil|apply LWk.cons|exact CWk.refl _|exact CWk.nil _)))) ?_;exact Xr ⟨.inr rfl,_,le_refl _,⟨⟨_,by simp;rfl,by simp[Xp]⟩,by simp,fun h=>by cases h⟩⟩
 (try simp only[BN]at h3);rw[N9 (by simpa using h3)]at hres;subst hres;refine X1 ?_;exact Xr ⟨.inr rfl,_,le_refl _,⟨⟨_,by simp;rfl,by simp[Xp]⟩,by simp,fun h=>by cases h⟩⟩
theorem X3M {vars:List Vr} {inp:Bool} {t:Tm} (h:ZD vars inp t=0):Qb vars inp t=true:=by
 unfold ZD at h;split at h
 .assumption
 cases h
theorem X6K {vars:List Vr}:∀(l seen:List Ht),hcs vars seen l=0->∀h∈l,Qb vars true h.term=true
 |[],_,_,h,hm=>by cases hm
 | x ::l,seen,h0,h,hm=>by
   simp only[hcs]at h0;split at h0
   .rename_i hx;rcases Np.1 hm with rfl|h1
    .unfold X07 at hx;split at hx
     .cases hx
     split at hx
     .cases hx
     split at hx
     .cases hx
     exact X3M hx
    exact X6K l _ h0 h h1
   rename_i hx;exact absurd h0 hx
theorem X2Q {vars:List Vr} {nh:Nat} {d c v n:Int} {t:Tm} {a b:List St} {bs:List Int} {l:List St} {top:Bool} (h:ssC vars nh (.mk d c v n t a b bs::l) top=0):
  shB vars nh d v n t a.length b.length bs (top&&l.isEmpty)=true/\X1r d c n bs=true/\ZD vars false t=0/\ssC vars nh a false=0/\ssC vars nh b false=0/\ssC vars nh l top=0:=by
 simp only[ssC]at h;split at h
 .rename_i h0;split at h
  .rename_i ha;split at h
   .rename_i hb;unfold stC at h0;split at h0
    .cases h0
    rename_i hs;split at h0
    .cases h0
    rename_i hn;exact⟨by simpa using hs,by simpa using hn,h0,ha,hb,h⟩
   rename_i hb;exact absurd h hb
  rename_i ha;exact absurd h ha
 rename_i h0;exact absurd h h0
theorem X4z {vars:List Vr} {nh:Nat} {d v n:Int} {t:Tm} {la lb_:Nat} {bs:List Int} {last:Bool} (h:shB vars nh d v n t la lb_ bs last=true) (hd:d=0\/d=5):Qu vars v=true/\(d=5->0<=n/\n<nh):=by
 unfold shB at h;rcases hd with rfl|rfl
 .simp only[Nd,N4]at h;exact⟨h.1.1.2,fun h=>by cases h⟩
 simp only[show ¬(5:Int)=0 by decide,show ¬(5:Int)=1 by decide,show ¬(5:Int)=2 by decide,show ¬(5:Int)=3 by decide,show ¬(5:Int)=4 by decide,Nd,Nb,N4,N5]at h;exact⟨h.1.1.1.1.2,fun _=>⟨h.1.1.1.2,h.1.1.2⟩⟩
theorem numB_in {d c n:Int} {bs:List Int} (h:X1r d c n bs=true):0<=c/\(d=4->0<=n/\n<=4096):=by
 unfold X1r at h;simp only[N4,Nm,NC,No,Nc]at h;refine⟨by omega,fun h4=>?_⟩;rcases h.1.2 with h1|h1
 .exact absurd h4 h1
 omega
theorem X5x {vars:List Vr} {nh:Nat}:∀(l:List St) (top:Bool),ssC vars nh l top=0->Qi l=true->wfL vars nh l=true
 |[],_,_,_=>by simp[wfL]
 | .mk d c v n t a b bs::l,top,h,hb=>by
   obtain⟨hs,hn,ht,ha,hb',hl⟩:=X2Q h;simp only[Qi,ZK,N4,N5]at hb;have ia:=X5x a false ha hb.1.2.1;have ib:=X5x b false hb' hb.1.2.2;have il:=X5x l top hl hb.2;have hn4:=(numB_in hn).2;simp only[wfL,wfS,ia,ib,il,X3M ht,Bool.and_true,NF,N4,Ni,N5];refine⟨?_,?_,?_,hb.1.1⟩
   .by_cases hd:d=0\/d=5
    .exact .inr (X4z hs hd).1
    exact .inl ⟨fun h=>hd (.inl h),fun h=>hd (.inr h)⟩
   .by_cases hd:d=5
    .exact .inr ((X4z hs (.inr hd)).2 hd)
    exact .inl hd
   by_cases hd:d=4
   .exact .inr (hn4 hd).2
   exact .inl hd
theorem X5U:∀(l:List St) (p:B3),okL l=true->0<=p.o->mn (bdL CR l p).o 9=mn (p.o+(oUL l:Int)) 9
 |[],p,_,_=>by simp[bdL,oUL]
 | .mk d c v n t a b bs::l,p,h,hp=>by
   simp only[okL,okS,N4,Ni,N5]at h;have ha:=X5U a ⟨0,0,0⟩ h.1.2.2.1 (NW 0);have hb:=X5U b ⟨0,0,0⟩ h.1.2.2.2 (NW 0);have na:=WM (WR X2H a _ h.1.2.2.1 (Wq X2H));have nb:=WM (WR X2H b _ h.1.2.2.2 (Wq X2H));simp only[bdL,bdS,oUL,oUS];generalize bdL CR a ⟨0,0,0⟩=A at*;generalize bdL CR b ⟨0,0,0⟩=B at*;simp only[Int.zero_add]at ha hb
   have key:0<=(bd1 d c n A B).o/\mn (bd1 d c n A B).o 9=mn (((if d=4 then n.toNat*oUL a else if d=3 then max (oUL a) (oUL b)else if d=1 then 1 else 0:Nat)):Int) 9:=by
    unfold nn3 at na nb;unfold bd1;by_cases h4:d=4
    .have hn:0<=n:=by omega
     rw[N9 h4,N9 h4];refine⟨Dn hn na.2.1,?_⟩;have e:=X3v (C:=9) hn na.2.1 (Int.natCast_nonneg (oUL a)) (NW 0) (NW 0) ha;simp only[Int.zero_add]at e;rw[e,Int.natCast_mul,Int.toNat_of_nonneg hn]
    rw[N6 h4,N6 h4];by_cases h3:d=3
    .rw[N9 h3,N9 h3];simp only[mx,mn]at ha hb⊢;have e:((max (oUL a) (oUL b):Nat):Int)=max (oUL a:Int) (oUL b:Int):=by omega
     rw[e];refine⟨by split<;>omega,?_⟩
     (repeat' split at ha)<;>(repeat' split at hb)<;>(repeat' split)<;>omega
    rw[N6 h3,N6 h3];split<;>exact⟨by simp only;omega,rfl⟩
   obtain⟨k0,k1⟩:=key;generalize(bd1 d c n A B)=X at*;generalize(if d=4 then n.toNat*oUL a else if d=3 then max (oUL a) (oUL b)else if d=1 then 1 else 0:Nat)=K at*
   have e:0<=(Q4 CR p X).o/\mn (Q4 CR p X).o 9=mn (p.o+K) 9:=by
    simp only[Q4,CR];simp only[mn]at k1⊢;refine⟨by split<;>omega,?_⟩
    (repeat' split at k1)<;>(repeat' split)<;>omega
   have il:=X5U l (Q4 CR p X) h.2 e.1;rw[il];have e2:=e.2;generalize(Q4 CR p X).o=Y at*;simp only[mn]at e2⊢;rw[Int.natCast_add]
   (repeat' split at e2)<;>(repeat' split)<;>omega
theorem QD {f:Fl} (h:Q2 f=0):Za f=true/\Wy f.vars=0/\hcs f.vars [] f.hats=0/\ssC f.vars f.hats.length f.body true=0/\X4B f.body=false:=by
 unfold Q2 at h;split at h
 .cases h
 rename_i hs;split at h
 .rename_i hv;split at h
  .rename_i hh;split at h
   .rename_i hb;split at h
    .cases h
    rename_i ho;exact⟨by simpa using hs,hv,hh,hb,by simpa using ho⟩
   rename_i hb;exact absurd h hb
  rename_i hh;exact absurd h hh
 rename_i hv;exact absurd h hv
theorem X82 {l:List St} (h:X4B l=false):(bdL CR l ⟨0,0,0⟩).s<=4096/\(bdL CR l ⟨0,0,0⟩).o<=8/\(bdL CR l ⟨0,0,0⟩).t<=67108864:=by
 unfold X4B at h;simp only[NC,Nc,Int.not_lt]at h;exact⟨h.1,h.2.1,h.2.2⟩
theorem X5P {f:Fl} (hb:Qi f.body=true) (h:Q2 f=0):wfL f.vars f.hats.length f.body=true/\oUL f.body<=2000000/\∀h∈f.hats,Qb f.vars true h.term=true:=by
 obtain⟨_,_,hh,hs,ho⟩:=QD h;have h8:=(X82 ho).2.1;have hc:=X5U f.body ⟨0,0,0⟩ (X1t _ _ hs) (NW 0);refine⟨X5x _ _ hs hb,?_,X6K _ _ hh⟩;simp only[Int.zero_add,mn]at hc
 (repeat' split at hc)<;>omega
theorem X6W (f:Fl) (i:Inp) (hv:f.vars.length<=1000000) (hh:f.hats.length<=1000000) (hn:Xh f.body+XV f.hats<=1000000) (hb:Qi f.body=true) (d:Nat):
  Con prog 15 false [aF f,aI i] (.tup [aO (Zz f i).1,li (Zz f i).2]) none d:=
 X5t f i hv hh hn hb (X5P hb) d
theorem X4K (l:List St):Xh l<=1000000->Qi l=true->∀d:Nat,Con prog 73 false [lS l] (.v (lS l)) none d:=by
 revert l
 apply St.lists;intro l ih hn hbn d;have hlen:=XW l;refine X3 Tryz.func73 ?_;simp only[Tryz.f73];refine X1 ?_;refine X1 ?_;refine X0<|X0<|X2 ?_;refine X4<|(Xf [6,7] (fun(x:Nat)=>[(3,.v (.one (.own 1003))),(8,.v (li x))]) (fun x=>[(1003,.row 63 10 (Xe (l.take x)))]) (fun x=>x<=l.length) (fun x=>l.length - x) (0:Nat) (Nf _) ?_ ?_)
 .exact X5 (fun n=>n) [1003]
 rintro k hk;simp only[upS,X7,Xy]
 try simp only[X7,KN,Nat.reduceBEq,Nd,Nb,ins,Nat.reduceLT]
 refine X1 ?_;refine X0<|(X6 rfl (fun h5=>Xc ?_) (fun h5=>?_))
 ·(try simp only[BN]at h5);have hlt:k<l.length:=by omega
  obtain⟨s,he,hd⟩:=XF hlt;have hw1:=XB hlt (by omega);have hk1:k+1<=l.length:=hlt;have hmem:s∈l:=N3 he;have hnm:=Qe hmem;have hbm:=X2k hbn hmem;have ca:=(ih s hmem).1 (by omega);have cb:=(ih s hmem).2 (by omega);have ct:=X3P s.term (by omega);have cc:=X7P s.bounds;have htl:(l.take k).length=k:=by rw[Nt];omega
  have hroom:Qy (k+1) 144:=XC (by omega) (by omega)
  have hsn:Xe (l.take (k+1))=Xe (l.take k)++[s.enc]:=by
   rw[WK,WK,List.take_add_one,he,Option.toList_some,List.map_append];rfl
  have he':=Qo he;obtain⟨sd,sc,sv,sn,⟨so,stn,sks⟩,sa,sb,sbs⟩:=s;simp only[St.then_,St.else_,St.term,St.bounds]at ca cb ct cc;simp only[ZK,N4,N5]at hbm;have ca:=ca hbm.2.1;have cb:=cb hbm.2.2;have cc:=cc hbm.1;simp only[St.enc,Tm.enc,List.cons_append,List.nil_append]at he' hsn;simp only[aT,Tm.enc,Na,Ng]at ct;clear hlt h5 ih hmem hnm he hd hbm;refine X0<|X4<|X0<|X2 ?_;refine Xd [⟨false,.v (aT (.mk so stn sks)),none⟩] ?_ ?_
  .first|exact ct _|exact trivial|simpa[*]using ct _
  refine X0<|(Xv [⟨false,.v (lS sa),none⟩,⟨false,.v (lS sb),none⟩] (by kernel_rfl) (by kernel_rfl) (by rfl) (by simp[*];first|exact⟨rfl,Iff.rfl⟩|exact⟨rfl,trivial⟩|rfl) ?_ ?_)
  .first|exact⟨ca _,cb _⟩|exact trivial|(repeat' first|exact trivial|exact ca _|exact cb _|apply And.intro)
  refine Xd [⟨false,.v (lI sbs),none⟩] ?_ ?_
  .first|exact cc _|exact trivial|simpa[*]using cc _
  refine X2 ?_;refine X2 ?_;exact⟨k+1,hk1,by omega,X5 (fun n=>if n=1003 then 31 else n) []⟩
 (try simp only[BN]at h5);have hkl:k=l.length:=by omega
 subst hkl;simp only[List.take_length];refine(Xj ?_);refine X1 ?_;exact Xr ⟨.inr rfl,_,XO 1003 rfl,⟨⟨_,by simp;rfl,by simp[Xp]⟩,by simp,fun h=>by cases h⟩⟩
theorem X1y (f:Fl) (hv:f.vars.length<=1000000) (hh:f.hats.length<=1000000) (hn:Xh f.body+XV f.hats<=900000000) (hb:Qi f.body=true) (d:Nat):
  Con prog 26 true [aF f] (.v (li (Q2 f))) none d:=by
 obtain⟨res,hres⟩:∃r,Q2 f=r:=⟨_,rfl⟩;rw[hres];have hso:=X86 f;have cvars:=X9K f.vars hv;have chat:=fun hg=>X9B f hg hv hh (fun h hm=>by have:=Zs hm;omega);have cst:=fun hg=>X7u f hg hv f.body (by omega) hb;have cup:=fun ho=>X8Y f.body (by omega) ho;have cms:=X7C f.body 1 0 false (by decide) (by decide) (by omega);have hms:=Zq f.body 1 (0,false);have hgood:Wy f.vars=0->WX f.vars:=WT;have hok:ssC f.vars f.hats.length f.body true=0->okL f.body=true:=X1t _ _;have hcmp:=fun h=>@bd_cmp f.body h;unfold Q2 X4B at hres;unfold mF at hso;obtain⟨vars,hats,body⟩:=f;simp only at hv hh hn hb hres hso cvars chat cst cup cms hms hgood hok hcmp;obtain⟨m0,hm0⟩:∃m,mSs body 1 (0,false)=m:=⟨_,rfl⟩;rw[hm0]at cms hms hso;obtain⟨c0,b0⟩:=m0;simp only at cms hms;obtain⟨mE,hmE⟩:∃m,mH hats (c0,b0)=m:=⟨_,rfl⟩;rw[hmE]at hso;obtain⟨VC,hVC⟩:∃x,Wy vars=x:=⟨_,rfl⟩;obtain⟨HC,hHC⟩:∃x,hcs vars [] hats=x:=⟨_,rfl⟩;obtain⟨SC,hSC⟩:∃x,ssC vars hats.length body true=x:=⟨_,rfl⟩;rw[hVC]at cvars hres hgood;rw[hHC]at chat hres;rw[hSC]at hres hok;have cst:=fun hg=>cst hg true;rw[hSC]at cst;clear hVC hHC hSC hm0;refine X3 Tryz.func26 ?_;simp only[Tryz.f26];simp only[aF,Fl.enc,Na,Ng]at chat cst⊢;refine X1 ?_;refine X1 ?_;refine X0<|(ZW 2 (.tup []) ([iC c0,bC b0]) rfl (by simp[*];rfl) (by simp[ioOf, *];first|exact⟨rfl,rfl,rfl,rfl,rfl⟩|exact⟨rfl,rfl,rfl,rfl⟩|exact⟨rfl,rfl,rfl⟩|exact⟨rfl,rfl⟩|rfl) (cms) (by simp) (by simp[*];rfl) ?_);refine X0<|X0<|X2 ?_;refine X4<|(Xf [1,3,14,15] (fun(x:Nat×Int×Bool)=>[(16,.v (li x.1))]) (fun x=>[(1,.box [.c (.sl 5 (Xt vars)),.c (.sl 6 (Xz hats)),.c (.sl 10 (Xe body))]),(3,.box [.c (iC x.2.1),.c (bC x.2.2)])]) (fun x=>x.1<=hats.length/\mH (hats.drop x.1) x.2=mE/\0<=x.2.1/\x.2.1+XV (hats.drop x.1)<=1000000000) (fun x=>hats.length - x.1) (0,c0,b0) ⟨Nf _,by simpa using hmE,by simp only;omega,by simp only[List.drop_zero];omega⟩ ?_ ?_)
 .exact X5 (fun n=>n) []
 rintro⟨k,m,q⟩ ⟨hk,hJ,hm,hbb⟩;simp only[upS,X7,Xy]
 try simp only[X7,KN,Nat.reduceBEq,Nd,Nb,ins,Nat.reduceLT]
 simp only at hk hJ hm hbb;clear hmE hms cms;refine X1 ?_;refine X0<|(X6 rfl (fun h6=>Xc ?_) (fun h6=>?_))
 ·(try simp only[BN]at h6);have hlt:k<hats.length:=by omega
  obtain⟨h,he,hd⟩:=XF hlt;have hw1:=XB hlt (by omega);have hk1:k+1<=hats.length:=hlt;rw[hd]at hJ hbb;simp only[mH,XV]at hJ hbb;have hle:=X0j h.term 1 (m,q);have cmt:=X4G h.term 1 m q (by decide) hm (by omega);obtain⟨nm,lo,hi,⟨o,tn,ks⟩⟩:=h;simp only at hle cmt hJ hbb;obtain⟨m1,hm1⟩:∃x,mTm (.mk o tn ks) 1 (m,q)=x:=⟨_,rfl⟩;rw[hm1]at cmt hle hJ;obtain⟨c1,b1⟩:=m1;simp only[aT,Tm.enc,Na,Ng]at cmt hle;clear hlt h6 hd hm1 hso hres chat cst cup hok hcmp;refine X0<|X4<|X0<|X2 ?_;refine Xd [⟨true,.v (lb (q||decide (1024<m))),none⟩] ?_ ?_
  .first|exact Wr _ _ _|exact trivial|simpa[*]using Wr _ _ _
  refine(X9 rfl (fun h9=>?_) fun h9=>?_)
  .try simp only[BN]at h9
   have hov:QF (m,q)=false:=by
    simp only[QF,NC,Nc]
    first|exact h9|simpa using h9
   rw[N6 (by rw[hov];decide)]at hJ;clear hov;refine(ZW 2 (.tup []) ([iC c1,bC b1]) rfl (by simp[*];rfl) (by simp[ioOf, *];first|exact⟨rfl,rfl,rfl,rfl,rfl⟩|exact⟨rfl,rfl,rfl,rfl⟩|exact⟨rfl,rfl,rfl⟩|exact⟨rfl,rfl⟩|rfl) (cmt) (by simp) (by simp[*];rfl) ?_);refine X2 ?_;exact⟨(k+1,c1,b1),⟨hk1,hJ,by simp only;omega,by simp only;omega⟩,by simp only;omega,X5 (fun n=>n) []⟩
  try simp only[BN]at h9
  have hov:QF (m,q)=true:=by
   simp only[QF,Ni,N5]
   first|exact h9|simpa using h9
  rw[N9 hov]at hJ;clear hov;refine X2 ?_;exact⟨(k+1,m,q),⟨hk1,hJ,hm,by simp only;omega⟩,by simp only;omega,X5 (fun n=>n) []⟩
 (try simp only[BN]at h6);have hkl:k=hats.length:=by omega
 subst hkl;rw[Nq]at hJ;simp only[mH]at hJ;subst hJ;simp only[QF,Ni,N5]at hso;refine(Xj ?_);refine X0<|X0<|(Xl [⟨true,.v (lb (q||decide (1024<m))),none⟩] ?_ ?_)
 .first|exact Wr _ _ _|exact trivial|simpa[*]using Wr _ _ _
 refine(X9 rfl (fun h16=>?_) fun h16=>?_)
 .try simp only[BN]at h16
  rw [N9 (hso.2 (by
      simp only[or_assoc]at h16;rcases h16 with h|h|h|h
      .exact .inl (by omega)
      .exact .inr (.inl (by omega))
      .exact .inr (.inr (.inl h))
      exact .inr (.inr (.inr h))))]at hres
  subst hres;refine X1 ?_;exact Xb
 try simp only[BN]at h16
 rw [N6 (by
     rw[hso];rintro(h|h|h|h)
     .omega
     .omega
     .exact absurd h (by simp[h16])
     omega)]at hres
 refine X0<|X0<|(Xl [⟨true,.v (li VC),none⟩] ?_ ?_)
 .first|exact cvars _|exact trivial|simpa[*]using cvars _
 refine X1 ?_;refine(X9 rfl (fun h21=>?_) fun h21=>?_)
 ·(try simp only[BN]at h21);rw[N6 h21]at hres;subst hres;refine X1 ?_;exact Xb
 (try simp only[BN]at h21);have hv0:VC=0:=by simpa using h21
 have hg:=hgood hv0;have chat:=chat hg;have cst:=cst hg;rw[N9 hv0]at hres;clear cvars hgood h21;refine X0<|X0<|(Xl [⟨true,.v (li HC),none⟩] ?_ ?_)
 .first|exact chat _|exact trivial|simpa[*]using chat _
 refine X1 ?_;refine(X9 rfl (fun h26=>?_) fun h26=>?_)
 ·(try simp only[BN]at h26);rw[N6 h26]at hres;subst hres;refine X1 ?_;exact Xb
 (try simp only[BN]at h26);have hh0:HC=0:=by simpa using h26
 rw[N9 hh0]at hres;clear chat h26;refine X0<|X0<|(Xl [⟨true,.v (li SC),none⟩] ?_ ?_)
 .first|exact cst _|exact trivial|simpa[*]using cst _
 refine X1 ?_;refine(X9 rfl (fun h31=>?_) fun h31=>?_)
 ·(try simp only[BN]at h31);rw[N6 h31]at hres;subst hres;refine X1 ?_;exact Xb
 (try simp only[BN]at h31);have hs0:SC=0:=by simpa using h31
 rw[N9 hs0]at hres;have hok:=hok hs0;have cup:=cup hok;have hcmp:=hcmp hok;obtain⟨X,hX⟩:∃x,bdL CP body ⟨0,0,0⟩=x:=⟨_,rfl⟩;obtain⟨Y,hY⟩:∃x,bdL CR body ⟨0,0,0⟩=x:=⟨_,rfl⟩;rw[hX]at cup hcmp;rw[hY]at hcmp hres;obtain⟨x1,x2,x3⟩:=X;obtain⟨y1,y2,y3⟩:=Y;simp only[Ni,N5]at hcmp hres;clear hX hY cst h31 hok;refine X0<|X0<|(Xl [⟨true,.v (aB ⟨x1,x2,x3⟩),none⟩] ?_ ?_)
 .first|exact cup _|exact trivial|simpa[*]using cup _
 refine X1 ?_;refine(X9 rfl (fun h36=>?_) fun h36=>?_)
 ·(try simp only[BN]at h36);rw[N9 (by omega)]at hres;subst hres;refine X1 ?_;exact Xb
 (try simp only[BN]at h36);rw[N6 (by omega)]at hres;subst hres;refine X1 ?_;exact Xb
end Go.Proofs.YtdccocolnaklkaaGreatDoor
