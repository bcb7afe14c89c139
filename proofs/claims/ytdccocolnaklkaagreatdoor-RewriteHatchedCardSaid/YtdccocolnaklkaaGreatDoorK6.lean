/- Contracts of functions and plain facts about what they compute. Conditions: as each theorem states. -/
import Derived.Test.YtdccocolnaklkaaGreatDoorK4
import Derived.Test.YtdccocolnaklkaaGreatDoorK5
set_option linter.unusedSimpArgs false
set_option linter.unusedVariables false
set_option linter.unnecessarySimpa false
set_option maxRecDepth 100000
set_option maxHeartbeats 2000000
namespace Go.Proofs.YtdccocolnaklkaaGreatDoor
open Go Go.Hl
open Tryz(prog)
structure Sta where
 vals:List Int
 outs:List Int
 time:Int
abbrev aSt (s:Sta):TV:=.agg [.c (.sl 1 (Xk s.vals)),.c (.sl 1 (Xk s.outs)),.c (iC s.time)]
def WU (s:Sta) (c:Int):Sta:=⟨s.vals,s.outs,wr (s.time+c)⟩
def X3d (c:Int) (t:Tm) (body:Sta->Sta):Nat->Sta->Sta
 |0,s=>s
 |k+1,s=>if vT s.vals t=0 then WU s c else X3d c t body k (body (WU s c))
def X3b (vars:List Vr) (vs:List Int) (v n:Int):List Int:=
 match vars[v.toNat]? with
 |some w=>vs.set v.toNat (XP n w.low w.high)
 |none=>vs
def Zp (vars:List Vr) (hv:List Int) (d v n:Int) (t:Tm) (bs:List Int) (s:Sta):Sta:=
 if d=0 then⟨X3b vars s.vals v (vT s.vals t),s.outs,s.time⟩
 else if d=1 then⟨s.vals,s.outs++[vT s.vals t],s.time⟩
 else if d=5 then⟨X3b vars s.vals v ((hv[n.toNat]?).getD 0),s.outs,s.time⟩
 else if d=6 then⟨s.vals,s.outs,stlL bs s.time s.time false⟩ else s
def XT (vars:List Vr) (hv:List Int):List St->Sta->Sta
 |[]=>fun s=>s
 | .mk d c v n t a b bs::l=>fun s=>
   XT vars hv l (if d=4 then X3d c t (XT vars hv a) n.toNat s
    else if d=3 then(if vT s.vals t=0 then XT vars hv b (WU s c)else XT vars hv a (WU s c))
    else Zp vars hv d v n t bs (WU s c))
mutual
def wfS (vars:List Vr) (nh:Nat):St->Bool
 | .mk d _ v n t a b bs=>Xt vars false t&&((decide (d≠0/\d≠5)||QE vars v)&&((decide (d≠5)||(decide (0<=n)&&decide (n<nh)))&&((decide (d≠4)||decide (n<=4096))&&(decide (bs.length<=1000000000)&&(wfL vars nh a&&wfL vars nh b)))))
def wfL (vars:List Vr) (nh:Nat):List St->Bool
 |[]=>true
 |s::l=>wfS vars nh s&&wfL vars nh l
end
mutual
def oUS:St->Nat
 | .mk d _ _ n _ a b _=>if d=4 then n.toNat*oUL a else if d=3 then max (oUL a) (oUL b)else if d=1 then 1 else 0
def oUL:List St->Nat
 |[]=>0
 |s::l=>oUS s+oUL l
end
theorem X0X (vars:List Vr) (vs:List Int) (v n:Int):(X3b vars vs v n).length=vs.length:=by
 unfold X3b;split<;>simp
theorem leaf_len (vars:List Vr) (hv:List Int) (d v n:Int) (t:Tm) (bs:List Int) (s:Sta):(Zp vars hv d v n t bs s).vals.length=s.vals.length/\(Zp vars hv d v n t bs s).outs.length<=s.outs.length+(if d=1 then 1 else 0):=by
 unfold Zp;split
 .rename_i h;subst h;simp[X0X]
 split
 .rename_i h;subst h;simp
 split
 .simp[X0X]
 split<;>simp
theorem X6I {c:Int} {t:Tm} {body:Sta->Sta} {O:Nat} (hb:∀s,(body s).vals.length=s.vals.length/\(body s).outs.length<=s.outs.length+O):∀(k:Nat) (s:Sta),(X3d c t body k s).vals.length=s.vals.length/\(X3d c t body k s).outs.length<=s.outs.length+k*O
 |0,s=>by simp[X3d]
 | k+1,s=>by
   simp only[X3d];split
   .simp[WU]
   have h1:=X6I (c:=c) (t:=t) hb k (body (WU s c));have h2:=hb (WU s c);simp only[WU]at h2⊢;rw[Nat.succ_mul];simp only[WU]at h1;omega
theorem W4 (vars:List Vr) (hv:List Int):∀(l:List St) (s:Sta),(XT vars hv l s).vals.length=s.vals.length/\(XT vars hv l s).outs.length<=s.outs.length+oUL l
 |[],s=>by simp[XT]
 | .mk d c v n t a b bs::l,s=>by
   simp only[XT,oUL,oUS];have ha:=W4 vars hv a;have hb:=W4 vars hv b;by_cases h4:d=4
   .rw[N9 h4,N9 h4];have h1:=X6I (c:=c) (t:=t) ha n.toNat s;have h2:=W4 vars hv l (X3d c t (XT vars hv a) n.toNat s);omega
   rw[N6 h4,N6 h4];by_cases h3:d=3
   .rw[N9 h3,N9 h3];have h1:=ha (WU s c);have h2:=hb (WU s c);have e:(WU s c).vals.length=s.vals.length/\(WU s c).outs.length=s.outs.length:=⟨rfl,rfl⟩;split
    .have h5:=W4 vars hv l (XT vars hv b (WU s c));omega
    have h5:=W4 vars hv l (XT vars hv a (WU s c));omega
   rw[N6 h3,N6 h3];have h1:=leaf_len vars hv d v n t bs (WU s c);have h5:=W4 vars hv l (Zp vars hv d v n t bs (WU s c));have e:(WU s c).vals.length=s.vals.length/\(WU s c).outs.length=s.outs.length:=⟨rfl,rfl⟩;omega
theorem wfL_mem {vars:List Vr} {nh:Nat} {l:List St} (h:wfL vars nh l=true) {s:St} (hs:s∈l):wfS vars nh s=true:=by
 induction l with
 |nil=>cases hs
 | cons x l ih=>
   simp only[wfL,N4]at h;rcases Ni.1 hs with rfl|h1
   .exact h.1
   exact ih h.2 h1
theorem X8R (f:Fl) (hv:List Int) (d0 c v n:Int) (t:Tm) (a b:List St) (bs:List Int) (hf:Xt f.vars false t=true) (hn:n<=4096)
  (hst:∀s:Sta,s.vals.length=f.vars.length->s.outs.length+oUL a<=2000000->∀d:Nat,Con prog 81 false [aF f,lI hv,lS a,aSt s] (.v (aSt (XT f.vars hv a s))) none d)
  (s:Sta) (hs:s.vals.length=f.vars.length) (ho:s.outs.length+n.toNat*oUL a<=2000000) (d:Nat):
  Con prog 116 false [aF f,lI hv,aS (.mk d0 c v n t a b bs),aSt s] (.v (aSt (X3d c t (XT f.vars hv a) n.toNat s))) none d:=by
 obtain⟨vars,hats,body⟩:=f;simp only at hf hst hs;have hlen:=W4 vars hv a;obtain⟨B,hB⟩:∃x,XT vars hv a=x:=⟨_,rfl⟩;simp only[hB]at hst hlen⊢;obtain⟨O,hO⟩:∃x,oUL a=x:=⟨_,rfl⟩;rw[hO]at ho;simp only[hO]at hst hlen;obtain⟨res,hres⟩:∃r,X3d c t B n.toNat s=r:=⟨_,rfl⟩;rw[hres];have cval:=fun(vs:List Int) (h:vs.length=vars.length)=>X32 vars false vs h t hf;obtain⟨tq,tn,tk⟩:=t;obtain⟨sv,so,stm⟩:=s;clear hB hO hf;refine X2 Tryz.func116 ?_;simp only[Tryz.f116];simp only[aF,Fl.enc,aS,St.enc,Tm.enc,aSt,aT,Na,Nb,List.cons_append,List.nil_append]at hst cval⊢;refine X4 ?_;refine X0<|X0<|X1 ?_;refine X3<|(Xb [1,4,6,7,8] (fun(x:Nat×Sta)=>[(9,.v (li x.1))]) (fun(x:Nat×Sta)=>[(4,.box [.c (.sl 5 (Xr vars)),.c (.sl 6 (Xu hats)),.c (.sl 10 (Xf body))]),(6,.box [.c (iC d0),.c (iC c),.c (iC v),.c (iC n),.c (iC tq),.c (iC tn),.c (.sl 3 (Xg tk)),.c (.sl 10 (Xf a)),.c (.sl 10 (Xf b)),.c (.sl 1 (Xk bs))]),(7,.box [.c (.sl 1 (Xk x.2.vals)),.c (.sl 1 (Xk x.2.outs)),.c (iC x.2.time)]),(8,.box [.c (.lit XR),.c (.lit XR),.c (iC 0)])]) (fun(x:Nat×Sta)=>x.1<=n.toNat/\X3d c (.mk tq tn tk) B (n.toNat - x.1) x.2=res/\x.2.vals.length=vars.length/\x.2.outs.length+(n.toNat - x.1)*O<=2000000) (fun(x:Nat×Sta)=>n.toNat - x.1) (0,⟨sv,so,stm⟩) ⟨Nc _,hres,hs,ho⟩ ?_);rintro⟨k,⟨xv,xo,xt⟩⟩ ⟨hk,hJ,hxl,hxo⟩;simp only[LN,Nat.reduceBEq,Nat.reduceLT];simp only at hk hJ hxl hxo;clear hres hs ho;refine X0<|(Xc (fun h4=>X6 ?_) fun h4=>?_)
 .have hm:n.toNat - k=(n.toNat - (k+1))+1:=by omega
  have hk1:k+1<=n.toNat:=by omega
  have hw1:IntKind.i64.wrap ((k:Int)+1)=(k:Int)+1:=X5;rw[hm]at hJ hxo;rw[Nat.succ_mul]at hxo;simp only[X3d,WU,wr]at hJ;obtain⟨T,hT⟩:∃x,IntKind.i64.wrap (xt+c)=x:=⟨_,rfl⟩;rw[hT]at hJ;have cv:=cval xv hxl;have cs:=hst ⟨xv,xo,T⟩ hxl (by simp only;omega);have hbl:=hlen ⟨xv,xo,T⟩;obtain⟨A,hA⟩:∃x,vT xv (.mk tq tn tk)=x:=⟨_,rfl⟩;rw[hA]at cv hJ;obtain⟨⟨bv,bo,bt⟩,hBs⟩:∃x,B ⟨xv,xo,T⟩=x:=⟨_,rfl⟩;rw[hBs]at cs hbl hJ;simp only at cs hbl;clear h4 hst cval hlen hm hA hBs;refine X0<|X3<|X0<|X1 ?_;refine X0<|X0<|(Xa cv ?_);refine(XM (fun h7=>?_) fun h7=>?_)
  .rw[N9 h7]at hJ;subst hJ;refine X4 ?_;exact Xn ⟨.inr rfl,_,le_refl _,⟨⟨_,by simp;rfl,by simp[Xl]⟩,by simp,fun h=>by cases h⟩⟩
  rw[N6 h7]at hJ;refine(Xa cs ?_);refine X1 ?_;exact Xj ((k+1,⟨bv,bo,bt⟩)) (⟨hk1,hJ,by simp only;omega,by simp only;omega⟩) (hm:=by simp only;omega)
 have hkl:n.toNat - k=0:=by omega
 rw[hkl]at hJ;simp only[X3d]at hJ;subst hJ;refine(Xd ?_);refine X4 ?_;exact Xn ⟨.inr rfl,_,le_refl _,⟨⟨_,by simp;rfl,by simp[Xl]⟩,by simp,fun h=>by cases h⟩⟩
theorem W0 {vars:List Vr} {v:Int} (h:QE vars v=true):0<=v/\∃w,vars[v.toNat]? =some w:=by
 unfold QE at h;simp only[N4,N7]at h;refine⟨h.1,?_⟩;have h2:=h.2;split at h2
 .exact⟨_,by assumption⟩
 cases h2
theorem X6B (f:Fl) (hv:List Int) (hl:f.vars.length<=1000000) (hhv:hv.length=f.hats.length) (l:List St):Xe l<=1000000->wfL f.vars f.hats.length l=true->∀s:Sta,s.vals.length=f.vars.length->s.outs.length+oUL l<=2000000->∀d:Nat,
  Con prog 81 false [aF f,lI hv,lS l,aSt s] (.v (aSt (XT f.vars hv l s))) none d:=by
 revert l
 apply St.lists;intro l ih hn hwf s hs ho d;have hlen:=XB l;have crnd:=X8R f hv;have cset:=fun vs v n w h1 h2 h3=>set_con f vs v n w h1 hl h2 h3;obtain⟨res,hres⟩:∃r,XT f.vars hv l s=r:=⟨_,rfl⟩;rw[hres];have hval:=fun(t:Tm) (vs:List Int) (h:vs.length=f.vars.length) (hf:Xt f.vars false t=true)=>X32 f.vars false vs h t hf;obtain⟨vars,hats,body⟩:=f;simp only at hl hhv hwf hs ih crnd cset hres hval;obtain⟨sv,so,stm⟩:=s;simp only at hs ho;refine X2 Tryz.func81 ?_;simp only[Tryz.f81];simp only[aF,Fl.enc,aSt,Na,Nb];refine X4 ?_;refine X0<|X0<|X1 ?_;refine X3<|(Xb [1,2,4,7,8] (fun(x:Nat×Sta)=>[(9,.v (li x.1))]) (fun(x:Nat×Sta)=>[(4,.box [.c (.sl 5 (Xr vars)),.c (.sl 6 (Xu hats)),.c (.sl 10 (Xf body))]),(7,.box [.c (.sl 1 (Xk x.2.vals)),.c (.sl 1 (Xk x.2.outs)),.c (iC x.2.time)]),(8,.box [.c (.lit XR),.c (.lit XR),.c (iC 0)])]) (fun(x:Nat×Sta)=>x.1<=l.length/\XT vars hv (l.drop x.1) x.2=res/\x.2.vals.length=vars.length/\x.2.outs.length+oUL (l.drop x.1)<=2000000) (fun(x:Nat×Sta)=>l.length - x.1) (0,⟨sv,so,stm⟩) ⟨Nc _,hres,hs,by simpa using ho⟩ ?_);rintro⟨k,⟨xv,xo,xt⟩⟩ ⟨hk,hJ,hxl,hxo⟩;simp only[LN,Nat.reduceBEq,Nat.reduceLT];simp only at hk hJ hxl hxo;clear hres hs ho;refine X0<|(Xc (fun h4=>X6 ?_) fun h4=>?_)
 .have hlt:k<l.length:=by omega
  obtain⟨s,he,hd⟩:=Xw hlt;have hw1:=Xz hlt (by omega);have hk1:k+1<=l.length:=hlt;have hmem:s∈l:=N3 he;have hnm:=Q2 hmem;have hwm:=wfL_mem hwf hmem;have iha:=(ih s hmem).1 (by omega);have ihb:=(ih s hmem).2 (by omega);have he':=Q7 he;rw[hd]at hJ hxo;obtain⟨sd,sc,sv,sn,t,sa,sb,sbs⟩:=s;simp only[St.then_,St.else_]at iha ihb;simp only[wfS,N4,Ng,N7]at hwm;obtain⟨wt,wl,wn,w4,wb,wa,wbb⟩:=hwm;have iha:=iha wa;have ihb:=ihb wbb;simp only[oUL,oUS]at hxo;simp only[XT]at hJ;have hval:=fun vs h=>hval t vs h wt;obtain⟨so,stn,sks⟩:=t;simp only[St.enc,Tm.enc,List.cons_append,List.nil_append]at he';simp only[aF,Fl.enc,aT,Tm.enc,aSt,Na,Nb]at iha ihb hval cset;have hla:=W4 vars hv sa;have hlb:=W4 vars hv sb;clear hlt h4 ih hmem hnm hd he;refine X0<|X3<|X0<|X1 ?_;refine X0<|(X8 (fun h7=>?_) fun h7=>?_)
  .have hd4:sd=4:=by simpa using h7
   subst hd4;rw[N9 rfl]at hxo hJ;have iha':=fun(s:Sta) (h1:s.vals.length=vars.length) (h2:s.outs.length+oUL sa<=2000000)=>iha s h1 h2;have cr:=crnd 4 sc sv sn (.mk so stn sks) sa sb sbs wt (by omega) iha' ⟨xv,xo,xt⟩ hxl (by simp only;omega);have hrl:=X6I (c:=sc) (t:=.mk so stn sks) hla sn.toNat ⟨xv,xo,xt⟩;simp only at hrl;obtain⟨⟨rv,ro,rt⟩,hR⟩:∃x,X3d sc (.mk so stn sks) (XT vars hv sa) sn.toNat ⟨xv,xo,xt⟩=x:=⟨_,rfl⟩;rw[hR]at cr hrl hJ;simp only at cr hrl;simp only[aF,Fl.enc,aS,St.enc,Tm.enc,aSt,Na,Nb,List.cons_append,List.nil_append]at cr;clear iha ihb iha' hval cset crnd hla hlb hR;refine X0<|(Xa cr ?_);refine(Xd ?_);refine X1 ?_;exact Xj ((k+1,⟨rv,ro,rt⟩)) (⟨hk1,hJ,by simp only;omega,by simp only;omega⟩) (hm:=by simp only;omega)
  have hd4:¬sd=4:=by simpa using h7
  rw[N6 hd4]at hxo hJ;simp only[WU,wr]at hJ;obtain⟨T,hT⟩:∃x,IntKind.i64.wrap (xt+sc)=x:=⟨_,rfl⟩;rw[hT]at hJ;have hval:=hval xv hxl;obtain⟨A,hA⟩:∃x,vT xv (.mk so stn sks)=x:=⟨_,rfl⟩;unfold Zp at hJ;simp only at hJ;rw[hA]at hval hJ;have hxo1:xo.length<=2000000:=by omega
  have hroom0:QF xo.length 8:=XO (by omega) (by omega);have hroom1:QF (xo.length+1) 8:=XO (by omega) (by omega);have hroom2:QF 1 8:=XO (by decide) (by decide);clear h7 crnd hA;refine X4 ?_;refine X4 ?_;refine X3<|(Xc (fun h14=>?_) fun h14=>?_)
  .have hd0:sd=0:=by simpa using h14
   subst hd0;rw[N6 (by decide),N9 rfl]at hJ;have wl:=wl.resolve_left (by decide);obtain⟨hv0,w,hw⟩:=W0 wl;have cs:=cset xv sv A w hxl hv0 hw;have hsl:=X0X vars xv sv A;unfold X3b at hJ hsl;rw[hw]at hJ hsl;simp only at hJ hsl;obtain⟨R,hR⟩:∃x,xv.set sv.toNat (XP A w.low w.high)=x:=⟨_,rfl⟩;rw[hR]at cs hJ hsl;clear cset hR hw iha ihb hla hlb;refine(Xx [⟨true,.v (li A),none⟩,⟨false,.v (lI R),none⟩] (by kernel_rfl) (by kernel_rfl) (by rfl) (by simp[*];first|exact⟨rfl,Iff.rfl⟩|exact⟨rfl,trivial⟩|rfl) ?_ ?_)
   .first|exact⟨hval _,cs _⟩|exact trivial|(repeat' first|exact trivial|exact hval _|exact cs _|apply And.intro)
   refine X1 ?_;exact Xj ((k+1,⟨R,xo,T⟩)) (⟨hk1,hJ,by simp only;omega,by simp only;omega⟩) (hm:=by simp only;omega)
  have hd0:¬sd=0:=by simpa using h14
  rw[N6 hd0]at hJ;refine(Xc (fun h19=>?_) fun h19=>?_)
  .have hd1:sd=1:=by simpa using h19
   subst hd1;rw[N6 (by decide),N9 rfl]at hJ;rw[N6 (by decide),N9 rfl]at hxo;clear cset iha ihb hla hlb;refine(XaH [(54,7),(57,7),(59,10),(64,7)] [⟨true,.v (li A),none⟩] (by kernel_rfl) (by kernel_rfl) (by rfl) (by simp[evcH,hokB,Qx, *];first|exact⟨rfl,Iff.rfl⟩|exact⟨rfl,trivial⟩|rfl) ?_ ?_)
   .first|exact hval _|exact trivial|simpa[*]using hval _
   refine Q6 (XL 63 rfl) ?_;refine X1 ?_;exact Xj ((k+1,⟨xv,xo++[A],T⟩)) (⟨hk1,hJ,hxl,by simp only[Nt,List.length_singleton];omega⟩) (hm:=by simp only;omega)
  have hd1:¬sd=1:=by simpa using h19
  rw[N6 hd1]at hJ;refine(Xc (fun h24=>?_) fun h24=>?_)
  .have hd5:sd=5:=by simpa using h24
   subst hd5;rw[N6 (by decide),N9 rfl]at hJ;have wl:=wl.resolve_left (by decide);have wn:=wn.resolve_left (by decide);obtain⟨hv0,w,hw⟩:=W0 wl;have hnlt:sn.toNat<hv.length:=by omega
   have hn0:0<=sn:=wn.1;obtain⟨y,hy⟩:=X0i hnlt;rw[hy]at hJ;simp only[Option.getD_some]at hJ;have cs:=cset xv sv y w hxl hv0 hw;have hsl:=X0X vars xv sv y;unfold X3b at hJ hsl;rw[hw]at hJ hsl;simp only at hJ hsl;obtain⟨R,hR⟩:∃x,xv.set sv.toNat (XP y w.low w.high)=x:=⟨_,rfl⟩;rw[hR]at cs hJ hsl;clear cset hR hw hnlt hhv iha ihb hla hlb;refine(Xx [⟨false,.v (lI R),none⟩] (by kernel_rfl) (by kernel_rfl) (by rfl) (by simp[*];first|exact⟨rfl,Iff.rfl⟩|exact⟨rfl,trivial⟩|rfl) ?_ ?_)
   .first|exact cs _|exact trivial|simpa[*]using cs _
   refine X1 ?_;exact Xj ((k+1,⟨R,xo,T⟩)) (⟨hk1,hJ,by simp only;omega,by simp only;omega⟩) (hm:=by simp only;omega)
  have hd5:¬sd=5:=by simpa using h24
  rw[N6 hd5]at hJ;refine(Xc (fun h29=>?_) fun h29=>?_)
  .have hd3:sd=3:=by simpa using h29
   subst hd3;rw[N9 rfl]at hJ hxo;have ca:=iha ⟨xv,xo,T⟩ hxl (by simp only;omega);have cb:=ihb ⟨xv,xo,T⟩ hxl (by simp only;omega);have hla:=hla ⟨xv,xo,T⟩;have hlb:=hlb ⟨xv,xo,T⟩;obtain⟨⟨av,ao,at_⟩,hAA⟩:∃x,XT vars hv sa ⟨xv,xo,T⟩=x:=⟨_,rfl⟩;obtain⟨⟨bv,bo,bt⟩,hBB⟩:∃x,XT vars hv sb ⟨xv,xo,T⟩=x:=⟨_,rfl⟩;rw[hAA]at ca hla hJ;rw[hBB]at cb hlb hJ;simp only at ca cb hla hlb;clear iha ihb hAA hBB cset;refine X0<|(Xa hval ?_);refine(QR (fun h31=>?_) fun h31=>?_)
   .rw[N6 (by simpa using h31)]at hJ;refine(Xa ca ?_);refine X1 ?_;exact Xj ((k+1,⟨av,ao,at_⟩)) (⟨hk1,hJ,by simp only;omega,by simp only;omega⟩) (hm:=by simp only;omega)
   rw[N9 (by simpa using h31)]at hJ;refine(Xa cb ?_);refine X1 ?_;exact Xj ((k+1,⟨bv,bo,bt⟩)) (⟨hk1,hJ,by simp only;omega,by simp only;omega⟩) (hm:=by simp only;omega)
  have hd3:¬sd=3:=by simpa using h29
  rw[N6 hd3]at hJ;clear iha ihb cset hla hlb;refine(X8 (fun h39=>?_) fun h39=>?_)
  .have hd6:sd=6:=by simpa using h39
   subst hd6;rw[N9 rfl]at hJ;have cse:=X7j sbs T wb;obtain⟨R,hR⟩:∃x,stlL sbs T T false=x:=⟨_,rfl⟩;rw[hR]at cse hJ;clear hR;refine(Xa cse ?_);refine X1 ?_;exact Xj ((k+1,⟨xv,xo,R⟩)) (⟨hk1,hJ,hxl,by simp only;omega⟩) (hm:=by simp only;omega)
  have hd6:¬sd=6:=by simpa using h39
  rw[N6 hd6]at hJ;refine X1 ?_;exact Xj ((k+1,⟨xv,xo,T⟩)) (⟨hk1,hJ,hxl,by simp only;omega⟩) (hm:=by simp only;omega)
 have hkl:k=l.length:=by omega
 rw[hkl,Nj]at hJ;simp only[XT]at hJ;subst hJ;refine(Xd ?_);refine X4 ?_;exact Xn ⟨.inr rfl,_,le_refl _,⟨⟨_,by simp;rfl,by simp[Xl]⟩,by simp,fun h=>by cases h⟩⟩
theorem shB_free {vars:List Vr} {nh:Nat} {d v n:Int} {t:Tm} {la lb:Nat} {bs:List Int} {last:Bool} (h:shB vars nh d v n t la lb bs last=true):d=3\/d=4\/(la=0/\lb=0):=by
 by_cases h3:d=3
 .exact .inl h3
 by_cases h4:d=4
 .exact .inr (.inl h4)
 refine .inr (.inr ?_);unfold shB at h;simp only[N6 h3,N6 h4]at h;split at h
 .simp only[N4,N7]at h;exact h.1.1.1
 split at h
 .simp only[N4,N7]at h;exact h.1.1.1
 split at h
 .simp only[N4,N7]at h;exact h.1.1.1.1
 split at h
 .simp only[N4,N7]at h;exact h.1.1.1.1.1
 split at h
 .simp only[N4,N7]at h;exact h.1.1.1.1.1
 cases h
theorem X1P {vars:List Vr} {nh:Nat}:∀(l:List St) (top:Bool),ssC vars nh l top=0->okL l=true
 |[],_,_=>by simp[okL]
 | .mk d c v n t a b bs::l,top,h=>by
   simp only[ssC]at h;split at h
   .rename_i h0;split at h
    .rename_i ha;split at h
     .rename_i hb;have ia:=X1P a false ha;have ib:=X1P b false hb;have il:=X1P l top h;unfold stC at h0;split at h0
      .cases h0
      rename_i hs;split at h0
      .cases h0
      rename_i hn;have hs:shB vars nh d v n t a.length b.length bs (top&&l.isEmpty)=true:=by simpa using hs
      have hn:X1V d c n bs=true:=by simpa using hn
      have hf:=shB_free hs;unfold X1V at hn;simp only[N4,Nk,NH,Nn,Nd]at hn;have hm:X2S d<=67108864:=by unfold X2S;split<;>omega
      simp only[okL,okS,N4,Ng,N7,Dm,ia,ib,il];have hla:a.length=0->a=[]:=Np;have hlb:b.length=0->b=[]:=Np;refine⟨⟨⟨by omega,by omega,by omega⟩,?_,by simp⟩,by simp⟩;rcases hf with hf|hf|hf
      .exact .inl hf
      .exact .inr (.inl hf)
      exact .inr (.inr ⟨hla hf.1,hlb hf.2⟩)
     rename_i hb;exact absurd h hb
    rename_i ha;exact absurd h ha
   rename_i h0;exact absurd h h0
def XN:List Ht->Nat
 |[]=>0
 |h::l=>h.term.nodes+XN l
def mH:List Ht->Int×Bool->Int×Bool
 |[],s=>s
 |h::l,s=>mH l (if QL s=true then s else mTm h.term 1 s)
theorem Wz {l:List Ht} {h:Ht} (hm:h∈l):h.term.nodes<=XN l:=by
 induction l with
 |nil=>cases hm
 | cons x l ih=>
   simp only[XN];rcases Ni.1 hm with rfl|h1
   .omega
   have:=ih h1;omega
theorem X6f:∀(l:List Ht) (s:Int×Bool),QL s=true->QL (mH l s)=true
 |[],s,h=>h
 | x::l,s,h=>by
   simp only[mH,N9 h];exact X6f l s h
def ZI (l:List Ht):Bool:=l.all fun h=>decide (tdT h.term<=12)
theorem mH_fit:∀(l:List Ht) (s:Int×Bool),0<=s.1->QL s=false->
  (s.1+XN l<=1024/\ZI l=true->QL (mH l s)=false)/\(¬(s.1+XN l<=1024/\ZI l=true)->QL (mH l s)=true)
 | [],s,h0,h=>by
   have:=X38 h;simp only[mH,XN,ZI,List.all_nil];exact⟨fun _=>h,fun hn=>absurd ⟨by omega,trivial⟩ hn⟩
 | x::l,s,h0,h=>by
   have ho:=X38 h;have ht:=X64 x.term 1 s h0 (by omega) h;have hle:=X0J x.term 1 s;simp only[mH,h,XN,ZI,List.all_cons,N4,N7,Nz,NW];by_cases hf:s.1+x.term.nodes<=1024/\1+(tdT x.term:Int)<=13
   .have e:=ht.1 hf;rw[e];have ih:=mH_fit l (s.1+x.term.nodes,false) (by simp only;omega) (by simp only[QL,Bool.false_or,Nd];omega);simp only[ZI]at ih;refine⟨fun hh=>ih.1 ⟨by omega,hh.2.2⟩,fun hh=>ih.2 fun h2=>hh ⟨by omega,by omega,h2.2⟩⟩
   have e:=ht.2 hf;refine⟨fun hh=>absurd ⟨by omega,by omega⟩ hf,fun _=>X6f _ _ e⟩
def W5 (f:Fl):Bool:=((((decide (f.vars.length<=64)&&decide (f.hats.length<=8))&&decide (Xe f.body+XN f.hats<=1024))&&decide (sdL f.body<=12))&& !QT f.body)&&ZI f.hats
def mF (f:Fl):Int×Bool:=mH f.hats (mSs f.body 1 (0,false))
theorem X9i (f:Fl):W5 f=false↔64<f.vars.length\/8<f.hats.length\/QL (mF f)=true:=by
 have h1:=X42 f.body 1 (0,false) (by decide) (by decide) rfl;unfold mF W5;simp only[Nn,Nd,Bool.not_eq_false',Nat.not_le];by_cases hs:((0:Int),false).1+Xe f.body<=1024/\1+(sdL f.body:Int)<=13/\QT f.body=false
 .rw[h1.1 hs];have h2:=mH_fit f.hats (0+(Xe f.body:Int),false) (by simp only;omega) (by simp only[QL,Bool.false_or,Nd];have:=hs.1;simp only at this;omega);obtain⟨a1,a2,a3⟩:=hs;simp only at a1 h2;by_cases hh:0+(Xe f.body:Int)+XN f.hats<=1024/\ZI f.hats=true
  .have e:=h2.1 hh;have e3:=hh.2;simp only[show((0:Int),false).1=0 from rfl];rw[e,a3,e3];simp;omega
  have e:=h2.2 hh;simp only[show((0:Int),false).1=0 from rfl];rw[e,a3];constructor
  .intro _;exact .inr (.inr rfl)
  intro _;by_cases hd:ZI f.hats=true
  .left;left;left;right;by_cases hc:0+(Xe f.body:Int)+XN f.hats<=1024
   .exact absurd ⟨hc,hd⟩ hh
   omega
  right;simpa using hd
 have e:=X6f f.hats _ (h1.2 hs);rw[e];constructor
 .intro _;exact .inr (.inr rfl)
 intro _;simp only at hs;by_cases ht:QT f.body=true
 .left;right;exact ht
 have ht:QT f.body=false:=by simpa using ht
 by_cases hd:sdL f.body<=12
 .left;left;left;right;by_cases hc:0+(Xe f.body:Int)<=1024
  .exact absurd ⟨hc,by omega,ht⟩ hs
  omega
 left;left;right;omega
def X5U (l:List St):Bool:=decide (4096<(bdL CR l ⟨0,0,0⟩).s)||(decide (8<(bdL CR l ⟨0,0,0⟩).o)||decide (67108864<(bdL CR l ⟨0,0,0⟩).t))
def XU (f:Fl):Int:=
 if W5 f=false then 4 else if W8 f.vars=0 then
  (if hcs f.vars [] f.hats=0 then(if ssC f.vars f.hats.length f.body true=0 then(if X5U f.body=true then 4 else 0)else ssC f.vars f.hats.length f.body true)else hcs f.vars [] f.hats)
 else W8 f.vars
theorem Qz {vars:List Vr} (h:W8 vars=0):WM vars:=by
 unfold W8 at h;split at h
 .rename_i h0;exact X2i _ _ h0
 rename_i h0;exact absurd h h0
theorem XaA (f:Fl) (hv:f.vars.length<=1000000) (hh:f.hats.length<=1000000) (hn:Xe f.body+XN f.hats<=900000000) (d:Nat):
  Con prog 97 true [aF f] (.v (lb (W5 f))) none d:=by
 obtain⟨res,hres⟩:∃r,W5 f=r:=⟨_,rfl⟩;rw[hres];have cn:=Xbg f.body (by omega);have csd:=X8D f.body (by omega);have ctd:=XaW f.body (by omega);unfold W5 at hres;obtain⟨vars,hats,body⟩:=f;simp only at hv hh hn hres cn csd ctd;refine X2 Tryz.func97 ?_;simp only[Tryz.f97];simp only[aF,Fl.enc,Na,Nb];refine X4 ?_;refine X0<|(X8 (fun h2=>?_) fun h2=>?_)
 .have hz:(decide (vars.length<=64)&&decide (hats.length<=8))=false:=by
   simp only[Nn,Nd];omega
  rw[hz]at hres;simp only[NY]at hres;subst hres;exact X7
 have hz:(decide (vars.length<=64)&&decide (hats.length<=8))=true:=by
  simp only[N4,N7];omega
 rw[hz]at hres;simp only[NF]at hres;refine X0<|(Xa cn ?_);refine X0<|X0<|X1 ?_;refine X3<|(Xb [1] (fun(x:Nat×Nat)=>[(3,.v (li x.2)),(4,.v (li x.1))]) (fun(x:Nat×Nat)=>[(1,.box [.c (.sl 5 (Xr vars)),.c (.sl 6 (Xu hats)),.c (.sl 10 (Xf body))])]) (fun(x:Nat×Nat)=>x.1<=hats.length/\x.2+XN (hats.drop x.1)=Xe body+XN hats/\ZI (hats.drop x.1)=ZI hats) (fun(x:Nat×Nat)=>hats.length - x.1) (0,Xe body) ⟨Nc _,by simp,by simp⟩ ?_);rintro⟨k,n⟩ ⟨hk,hJ,hJ2⟩;simp only[LN,Nat.reduceBEq,Nat.reduceLT];simp only at hk hJ hJ2;refine X0<|(Xc (fun h9=>X6 ?_) fun h9=>?_)
 .have hlt:k<hats.length:=by omega
  obtain⟨h,he,hd⟩:=Xw hlt;have hw1:=Xz hlt (by omega);have hk1:k+1<=hats.length:=hlt;rw[hd]at hJ hJ2;simp only[XN]at hJ;have hJ2:(decide (tdT h.term<=12)&&ZI (hats.drop (k+1)))=ZI hats:=hJ2;have ctn:=X1I h.term (by omega);have ctd2:=X4B h.term (by omega);have hw2:IntKind.i64.wrap ((n:Int)+h.term.nodes)=((n+h.term.nodes:Nat):Int):=by rw[X5 (by omega) (by omega)];simp
  obtain⟨nm,lo,hi,⟨o,tn,ks⟩⟩:=h;simp only at hJ hJ2 ctn ctd2 hw2;simp only[aT,Tm.enc,Na,Nb]at ctn ctd2;obtain⟨N,hN⟩:∃x,(Tm.mk o tn ks).nodes=x:=⟨_,rfl⟩;obtain⟨D,hD⟩:∃x,tdT (Tm.mk o tn ks)=x:=⟨_,rfl⟩;rw[hN]at ctn hJ hw2;rw[hD]at ctd2 hJ2;clear hlt h9 hd hN hD;refine X0<|X3<|X0<|(Xa ctn ?_);refine X0<|(Xa ctd2 ?_);refine(XM (fun h12=>?_) fun h12=>?_)
  .have hz2:ZI hats=false:=by rw[<-hJ2];simp only[Nn,Nd];omega
   rw[hz2,Bool.and_false]at hres;subst hres;exact X7
  rw[Nw (by omega),NF]at hJ2;refine X1 ?_;exact Xj ((k+1,n+N)) (⟨hk1,by simp only;omega,hJ2⟩) (hm:=by simp only;omega)
 have hkl:k=hats.length:=by omega
 subst hkl;rw[Nj]at hJ hJ2;simp only[XN,Nat.add_zero]at hJ;have hJ2:ZI hats=true:=hJ2.symm;rw[hJ2,Bool.and_true,<-hJ]at hres;obtain⟨S,hS⟩:∃x,sdL body=x:=⟨_,rfl⟩;obtain⟨T,hT⟩:∃x,QT body=x:=⟨_,rfl⟩;rw[hS]at csd hres;rw[hT]at ctd hres;have e1:decide (n<=1024)=decide ((n:Int)<=1024):=by rw[D9,N7,N7];omega
 have e2:decide (S<=12)=decide ((S:Int)<=12):=by rw[D9,N7,N7];omega
 rw[e1,e2]at hres;clear e1 e2 hS hT hJ2 h9 hJ;refine(Xd ?_);refine X0<|(X7r csd ctd ?_);exact(Qd (he:=by subst hres;simp[Xl]))
theorem X1R (f:Fl) (hv:f.vars.length<=1000000) (hh:f.hats.length<=1000000) (hn:Xe f.body+XN f.hats<=900000000) (hb:Qm f.body=true) (d:Nat):
  Con prog 64 true [aF f] (.v (li (XU f))) none d:=by
 obtain⟨res,hres⟩:∃r,XU f=r:=⟨_,rfl⟩;rw[hres];have csz:=XaA f hv hh hn;have cvars:=Xax f.vars hv;have ct:=fun(hg:WM f.vars) (h:Ht) (hm:h∈f.hats)=>X62 f.vars true hg (by omega) h.term (by have:=Wz hm;omega);have cst:=fun hg=>X8Q f hg hv f.body (by omega) hb;have cup:=fun ho=>X3J f.body (by omega) ho;have hgood:W8 f.vars=0->WM f.vars:=Qz;have hok:ssC f.vars f.hats.length f.body true=0->okL f.body=true:=X1P _ _;unfold XU X5U at hres;obtain⟨SZ,hSZ⟩:∃x,W5 f=x:=⟨_,rfl⟩;rw[hSZ]at csz hres;obtain⟨vars,hats,body⟩:=f;simp only at hv hh hn hb hres csz cvars ct cst cup hgood hok;obtain⟨VC,hVC⟩:∃x,W8 vars=x:=⟨_,rfl⟩;obtain⟨HC,hHC⟩:∃x,hcs vars [] hats=x:=⟨_,rfl⟩;obtain⟨SC,hSC⟩:∃x,ssC vars hats.length body true=x:=⟨_,rfl⟩;rw[hVC]at cvars hres hgood;rw[hHC]at hres;rw[hSC]at hres hok;have cst:=fun hg=>cst hg true;rw[hSC]at cst;clear hVC hSC hSZ;refine X2 Tryz.func64 ?_;simp only[Tryz.f64];simp only[aF,Fl.enc,Na,Nb]at csz cst⊢;refine X4 ?_;refine X0<|X0<|(Xa csz ?_);refine(XM (fun h2=>?_) fun h2=>?_)
 .have hz:SZ=false:=by simpa using h2
  rw[N9 hz]at hres;subst hres;exact X7
 have hz:SZ=true:=by simpa using h2
 rw[N6 (by rw[hz];decide)]at hres;clear csz h2;subst hz;refine X0<|(Xa cvars ?_);refine X0<|(X8 (fun h7=>?_) fun h7=>?_)
 .rw[N6 h7]at hres;subst hres;exact X7
 have hv0:VC=0:=by simpa using h7
 have hg:=hgood hv0;have ct:=ct hg;have cst:=cst hg;rw[N9 hv0]at hres;clear cvars hgood h7;subst hv0;refine X0<|X0<|X1 ?_;refine X3<|(Xb [1] (fun(x:Nat)=>[(4,.v (li x))]) (fun(x:Nat)=>[(1,.box [.c (.sl 5 (Xr vars)),.c (.sl 6 (Xu hats)),.c (.sl 10 (Xf body))])]) (fun(x:Nat)=>x<=hats.length/\hcs vars (hats.take x) (hats.drop x)=HC) (fun(x:Nat)=>hats.length - x) (0:Nat) ⟨Nc _,hHC⟩ ?_);rintro k ⟨hk,hJ⟩;simp only[LN,Nat.reduceBEq,Nat.reduceLT];clear hHC;refine X0<|(Xc (fun h13=>X6 ?_) fun h13=>?_)
 .have hlt:k<hats.length:=by omega
  obtain⟨h,he,hd⟩:=Xw hlt;have hw1:=Xz hlt (by omega);have hk1:k+1<=hats.length:=hlt;have hkl:(hats.take k).length=k:=by rw[Ns];omega
  rw[hd]at hJ;simp only[hcs]at hJ;rw[<-Z2 he]at hJ;have ct:=ct h (N3 he);obtain⟨nm,lo,hi,⟨o,tn,ks⟩⟩:=h;obtain⟨C,hC⟩:∃x,Zf vars (hats.take k) ⟨nm,lo,hi,.mk o tn ks⟩=x:=⟨_,rfl⟩;rw[hC]at hJ;simp only[Zf]at hC;simp only[aT,Tm.enc,Na,Nb]at ct;obtain⟨TC,hTC⟩:∃x,QC vars true (.mk o tn ks)=x:=⟨_,rfl⟩;rw[hTC]at ct hC;clear hlt h13 hd cup hok cst hTC;refine X0<|X3<|X0<|X1 ?_;refine X0<|X0<|(Xa (X5D _) ?_);refine(XM (fun h16=>?_) fun h16=>?_)
  .rw[N9 h16]at hC;subst hC;rw[N6 (by decide)]at hJ;subst hJ;rw[N6 (by decide)]at hres;subst hres;exact X7
  rw[N6 (by simp[h16])]at hC;clear h16;refine X0<|X0<|X1 ?_;refine X3<|(Xb [1,4,5] (fun(x:Nat)=>[(6,.v (li x))]) (fun(x:Nat)=>[(1,.box [.c (.sl 5 (Xr vars)),.c (.sl 6 (Xu hats)),.c (.sl 10 (Xf body))]),(5,.box [.c (sC nm),.c (iC lo),.c (iC hi),.c (iC o),.c (iC tn),.c (.sl 3 (Xg ks))])]) (fun(x:Nat)=>x<=k/\∀j:Nat,j<x->∀w,hats[j]? =some w->w.name≠nm) (fun(x:Nat)=>k - x) (0:Nat) ⟨Nc _,fun j hj=>absurd hj (Dk j)⟩ ?_);rintro j ⟨hj,hno⟩;simp only[LN,Nat.reduceBEq,Nat.reduceLT];refine X0<|(Xc (fun h22=>X6 ?_) fun h22=>?_)
  .have hjk:j<k:=by omega
   obtain⟨w,hw⟩:∃w,hats[j]? =some w:=⟨hats[j],by simp[show j<hats.length by omega]⟩;have hwj:=Xz hjk (by omega);have hj1:j+1<=k:=hjk
   have hmemw:w∈hats.take k:=by
    have:(hats.take k)[j]? =some w:=by rw[List.getElem?_take_of_lt hjk];exact hw
    exact N3 this
   obtain⟨n2,l2,i2,⟨o2,t2,k2⟩⟩:=w;clear hjk h22;refine X0<|X3<|X0<|(N0 ?_);refine(XM (fun h24=>?_) fun h24=>?_)
   .have hany:((hats.take k).any fun w=>decide (w.name=nm))=true:=by
     rw[List.any_eq_true];exact⟨_,hmemw,by simpa using h24⟩
    rw[N9 hany]at hC;subst hC;rw[N6 (by decide)]at hJ;subst hJ;rw[N6 (by decide)]at hres;subst hres;exact X7
   refine X1 ?_
   exact Xj (j+1) (⟨hj1,fun i hi u hu=>by
    rcases Nat.lt_or_eq_of_le (Nat.le_of_lt_succ hi)with h|h
    .exact hno i h u hu
    subst h;rw[hw]at hu;cases hu
    simpa using h24⟩)
  have hjk:j=k:=by omega
  subst hjk
  have hany:((hats.take j).any fun w=>decide (w.name=nm))=false:=by
   rw[Du];intro w hw;obtain⟨i,hi⟩:=Nu.1 hw;have hij:i<j:=by have:=(N5.1 hi).1;omega
   rw[List.getElem?_take_of_lt hij]at hi;simpa using hno i hij w hi
  rw[N6 (by simp[hany])]at hC;clear hno hkl hany;refine(Xd ?_);refine X0<|X0<|(Xa (X2w _ _) ?_);refine(XM (fun h30=>?_) fun h30=>?_)
  .rw[N9 h30]at hC;subst hC;rw[N6 (by decide)]at hJ;subst hJ;rw[N6 (by decide)]at hres;subst hres;exact X7
  rw[N6 (by simp[h30])]at hC;subst hC;clear h30;refine X0<|(Xa ct ?_);refine(X8 (fun h35=>?_) fun h35=>?_)
  .rw[N6 h35]at hJ;subst hJ;rw[N6 h35]at hres;subst hres;exact X7
  rw[N9 (by simpa using h35)]at hJ;refine X1 ?_;exact Xj (j+1) (⟨hk1,hJ⟩)
 have hkl:k=hats.length:=by omega
 rw[hkl,Nj]at hJ;simp only[hcs]at hJ;rw[N9 hJ.symm]at hres;clear hJ hkl hk h13 ct;refine(Xd ?_);refine X0<|(Xa cst ?_);refine X0<|(X8 (fun h42=>?_) fun h42=>?_)
 .rw[N6 h42]at hres;subst hres;exact X7
 have hs0:SC=0:=by simpa using h42
 rw[N9 hs0]at hres;have hok:=hok hs0;have cup:=cup hok;obtain⟨Y,hY⟩:∃x,bdL CR body ⟨0,0,0⟩=x:=⟨_,rfl⟩;rw[hY]at hres cup;obtain⟨y1,y2,y3⟩:=Y;simp only[Ng,N7]at hres;simp only at cup;clear hY cst h42 hok;refine X0<|(Xa cup ?_);refine X0<|(X8 (fun h47=>?_) fun h47=>?_)
 .rw[N9 (by omega)]at hres;subst hres;exact X7
 rw[N6 (by omega)]at hres;subst hres;exact X7
theorem con_arg {P:Program} {f:FuncId} {fresh:Bool} {r:RV} {ob:Option Ob} {d n:Nat} {args:List TV} {xs ys:List CV} (h:Con P f fresh (args.set n (.agg ys)) r ob d) (hx:args[n]? =some (.agg xs)) (hw:LWk xs ys):Con P f fresh args r ob d:=by
 refine⟨h.1,fun F w vs hF hsz hargs=>h.2 F w vs hF (by simpa using hsz) fun j t u ht hu=>?_⟩;rw[D1]at ht;split at ht
 .rename_i e;subst e;split at ht
  .cases ht;obtain⟨ws,rfl,hc⟩:=hargs n _ u hx hu;exact⟨ws,rfl,hw.rel hc⟩
  cases ht
 exact hargs j t u ht hu
theorem X9X (i:Inp):∀(l:List Vr) (a b c:Nat) (vals:List Int) (fits:Bool),(stL i l a b c vals fits).2=0->(stL i l a b c vals fits).1.length=vals.length+l.length
 | [],a,b,c,vals,fits,h=>by
   simp only[stL]at h⊢;split
   .split
    .simp
    rename_i h1 h2;rw[N9 h1,N6 h2]at h;cases h
   rename_i h1;rw[N6 h1]at h;cases h
 | v::l,a,b,c,vals,fits,h=>by
   simp only[stL]at h⊢;split
   .rename_i h1;rw[N9 h1]at h;rw[X9X i l _ _ _ _ _ h];simp;omega
   rename_i h1;rw[N6 h1]at h;cases h
def st0:Sta:=⟨[],[],0⟩
def WP (f:Fl) (i:Inp):Sta×Int:=
 if XU f=0 then
  (if(stL i f.vars 0 0 0 [] true).2=0 then(XT f.vars (Qw (stL i f.vars 0 0 0 [] true).1 f.hats) f.body ⟨(stL i f.vars 0 0 0 [] true).1,[],0⟩,0)
  else(st0,(stL i f.vars 0 0 0 [] true).2))
 else(st0,XU f)
theorem play_con (f:Fl) (i:Inp) (hv:f.vars.length<=1000000) (hh:f.hats.length<=1000000) (hn:Xe f.body+XN f.hats<=1000000) (hb:Qm f.body=true)
  (hwf:XU f=0->wfL f.vars f.hats.length f.body=true/\oUL f.body<=2000000/\∀h∈f.hats,Xt f.vars true h.term=true) (d:Nat):
  Con prog 48 false [aF f,aI i] (.tup [aSt (WP f i).1,li (WP f i).2]) none d:=by
 have cc:=X1R f hv hh (by omega) hb;have cst:=Xb9 f.vars i hv;have hsl:=X9X i f.vars 0 0 0 [] true;have crun:=fun hvl h1 h2=>X6B f hvl hv h1 f.body (by omega) h2;have chv:=fun vs h1 h2=>Xba f vs h1 hh h2;obtain⟨⟨SV,SC⟩,hS⟩:∃x,stL i f.vars 0 0 0 [] true=x:=⟨_,rfl⟩;obtain⟨res,hres⟩:∃r,WP f i=r:=⟨_,rfl⟩;rw[hres];unfold WP at hres;obtain⟨C,hC⟩:∃x,XU f=x:=⟨_,rfl⟩;rw[hC]at cc hres hwf;rw[hS]at cst hsl hres;simp only at cst hsl hres;obtain⟨vars,hats,body⟩:=f;obtain⟨is,ip,ir⟩:=i;simp only at hv hh hn hb hwf cst hsl crun chv hres;clear hC hS;refine X2 Tryz.func48 ?_;simp only[Tryz.f48];simp only[aF,Fl.enc,aI,Na,Nb]at cc cst⊢;refine X4 ?_;refine X0<|(Xa cc ?_);refine X0<|(X8 (fun h3=>?_) fun h3=>?_)
 .rw[N6 h3]at hres;subst hres;refine X4 ?_;refine Q6 (Ww 4 [.c (.sl 1 []),.c (.sl 1 []),.c (iC 0)] rfl (by(repeat'(first|exact LWk.nil|apply LWk.cons|exact CWk.refl _|exact CWk.nil _)))) ?_;exact Xn ⟨.inr rfl,_,le_refl _,⟨⟨_,by simp;rfl,by simp[Xl,st0]⟩,by simp,fun h=>by cases h⟩⟩
 have hc0:C=0:=by simpa using h3
 rw[N9 hc0]at hres;obtain⟨hw,ho,hf⟩:=hwf hc0;clear hwf cc h3;refine X0<|(Xa cst ?_);refine X0<|(X8 (fun h8=>?_) fun h8=>?_)
 .rw[N6 h8]at hres;subst hres;refine X4 ?_;refine Q6 (Ww 4 [.c (.sl 1 []),.c (.sl 1 []),.c (iC 0)] rfl (by(repeat'(first|exact LWk.nil|apply LWk.cons|exact CWk.refl _|exact CWk.nil _)))) ?_;exact Xn ⟨.inr rfl,_,le_refl _,⟨⟨_,by simp;rfl,by simp[Xl,st0]⟩,by simp,fun h=>by cases h⟩⟩
 have hs0:SC=0:=by simpa using h8
 rw[N9 hs0]at hres;have hsl:=hsl hs0;simp only[List.length_nil,Nat.zero_add]at hsl;have ch:=chv SV hsl hf;have hhl:(Qw SV hats).length=hats.length:=by simp[Qw]
 obtain⟨HV,hHV⟩:∃x,Qw SV hats=x:=⟨_,rfl⟩;rw[hHV]at ch hres hhl;have cr:=crun HV hhl hw ⟨SV,[],0⟩ hsl (by simpa using ho);obtain⟨⟨rv,ro,rt⟩,hR⟩:∃x,XT vars HV body ⟨SV,[],0⟩=x:=⟨_,rfl⟩;rw[hR]at cr hres;subst hres;simp only[aF,Fl.enc,aSt,Na,Nb]at cr ch;have cr':=fun d=>con_arg (n:=3) (args:=[.agg [.c (.sl 5 (Xr vars)),.c (.sl 6 (Xu hats)),.c (.sl 10 (Xf body))],lI HV,lS body,.agg [.c (.sl 1 (Xk SV)),.c (.lit XR),.c (iC 0)]]) (cr d) rfl (by(repeat'(first|exact LWk.nil|apply LWk.cons|exact CWk.refl _|exact CWk.nil _)));clear cr crun chv cst hsl hw ho hf h8 hhl hHV hR;refine X0<|(Xx [⟨false,.v (lI HV),none⟩,⟨false,.v (.agg [.c (.sl 1 (Xk rv)),.c (.sl 1 (Xk ro)),.c (iC rt)]),none⟩] (by kernel_rfl) (by kernel_rfl) (by rfl) (by simp[*];first|exact⟨rfl,Iff.rfl⟩|exact⟨rfl,trivial⟩|rfl) ?_ ?_)
 .first|exact⟨ch _,cr' _⟩|exact trivial|(repeat' first|exact trivial|exact ch _|exact cr' _|apply And.intro)
 exact Xn ⟨.inr rfl,_,le_refl _,⟨⟨_,by simp;rfl,by simp[Xl]⟩,by simp,fun h=>by cases h⟩⟩
structure Obs where
 outs:List Int
 time:Int
abbrev aO (o:Obs):TV:=.agg [.c (.sl 1 (Xk o.outs)),.c (iC o.time)]
def ZO (f:Fl) (i:Inp):Obs×Int:=if(WP f i).2=0 then(⟨(WP f i).1.outs,(WP f i).1.time⟩,0)else(⟨[],0⟩,(WP f i).2)
theorem X69 (f:Fl) (i:Inp) (hv:f.vars.length<=1000000) (hh:f.hats.length<=1000000) (hn:Xe f.body+XN f.hats<=1000000) (hb:Qm f.body=true)
  (hwf:XU f=0->wfL f.vars f.hats.length f.body=true/\oUL f.body<=2000000/\∀h∈f.hats,Xt f.vars true h.term=true) (d:Nat):
  Con prog 15 false [aF f,aI i] (.tup [aO (ZO f i).1,li (ZO f i).2]) none d:=by
 have cp:=play_con f i hv hh hn hb hwf;obtain⟨res,hres⟩:∃r,ZO f i=r:=⟨_,rfl⟩;rw[hres];unfold ZO at hres;obtain⟨⟨⟨pv,po,pt⟩,pc⟩,hP⟩:∃x,WP f i=x:=⟨_,rfl⟩;rw[hP]at cp hres;simp only at cp hres;obtain⟨vars,hats,body⟩:=f;obtain⟨is,ip,ir⟩:=i;clear hP hwf;refine X2 Tryz.func15 ?_;simp only[Tryz.f15];simp only[aF,Fl.enc,aI,aSt,Na,Nb]at cp⊢;refine X4 ?_;refine X0<|(Xa cp ?_);refine X0<|(X8 (fun h3=>?_) fun h3=>?_)
 .rw[N6 h3]at hres;subst hres;refine X4 ?_;refine Q6 (Ww 4 [.c (.sl 1 []),.c (iC 0)] rfl (by(repeat'(first|exact LWk.nil|apply LWk.cons|exact CWk.refl _|exact CWk.nil _)))) ?_;exact Xn ⟨.inr rfl,_,le_refl _,⟨⟨_,by simp;rfl,by simp[Xl]⟩,by simp,fun h=>by cases h⟩⟩
 rw[N9 (by simpa using h3)]at hres;subst hres;refine X4 ?_;exact Xn ⟨.inr rfl,_,le_refl _,⟨⟨_,by simp;rfl,by simp[Xl]⟩,by simp,fun h=>by cases h⟩⟩
theorem QA {vars:List Vr} {inp:Bool} {t:Tm} (h:QC vars inp t=0):Xt vars inp t=true:=by
 unfold QC at h;split at h
 .assumption
 cases h
theorem X5d {vars:List Vr}:∀(l seen:List Ht),hcs vars seen l=0->∀h∈l,Xt vars true h.term=true
 |[],_,_,h,hm=>by cases hm
 | x ::l,seen,h0,h,hm=>by
   simp only[hcs]at h0;split at h0
   .rename_i hx;rcases Ni.1 hm with rfl|h1
    .unfold Zf at hx;split at hx
     .cases hx
     split at hx
     .cases hx
     split at hx
     .cases hx
     exact QA hx
    exact X5d l _ h0 h h1
   rename_i hx;exact absurd h0 hx
theorem X3j {vars:List Vr} {nh:Nat} {d c v n:Int} {t:Tm} {a b:List St} {bs:List Int} {l:List St} {top:Bool} (h:ssC vars nh (.mk d c v n t a b bs::l) top=0):
  shB vars nh d v n t a.length b.length bs (top&&l.isEmpty)=true/\X1V d c n bs=true/\QC vars false t=0/\ssC vars nh a false=0/\ssC vars nh b false=0/\ssC vars nh l top=0:=by
 simp only[ssC]at h;split at h
 .rename_i h0;split at h
  .rename_i ha;split at h
   .rename_i hb;unfold stC at h0;split at h0
    .cases h0
    rename_i hs;split at h0
    .cases h0
    rename_i hn;exact⟨by simpa using hs,by simpa using hn,h0,ha,hb,h⟩
   rename_i hb;exact absurd h hb
  rename_i ha;exact absurd h ha
 rename_i h0;exact absurd h h0
theorem X39 {vars:List Vr} {nh:Nat} {d v n:Int} {t:Tm} {la lb_:Nat} {bs:List Int} {last:Bool} (h:shB vars nh d v n t la lb_ bs last=true) (hd:d=0\/d=5):QE vars v=true/\(d=5->0<=n/\n<nh):=by
 unfold shB at h;rcases hd with rfl|rfl
 .simp only[NG,N4]at h;exact⟨h.1.1.2,fun h=>by cases h⟩
 simp only[show ¬(5:Int)=0 by decide,show ¬(5:Int)=1 by decide,show ¬(5:Int)=2 by decide,show ¬(5:Int)=3 by decide,show ¬(5:Int)=4 by decide,NG,NW,N4,N7]at h;exact⟨h.1.1.1.1.2,fun _=>⟨h.1.1.1.2,h.1.1.2⟩⟩
theorem numB_in {d c n:Int} {bs:List Int} (h:X1V d c n bs=true):0<=c/\(d=4->0<=n/\n<=4096):=by
 unfold X1V at h;simp only[N4,Nk,NH,Nn,Nd]at h;refine⟨by omega,fun h4=>?_⟩;rcases h.1.2 with h1|h1
 .exact absurd h4 h1
 omega
theorem X6b {vars:List Vr} {nh:Nat}:∀(l:List St) (top:Bool),ssC vars nh l top=0->Qm l=true->wfL vars nh l=true
 |[],_,_,_=>by simp[wfL]
 | .mk d c v n t a b bs::l,top,h,hb=>by
   obtain⟨hs,hn,ht,ha,hb',hl⟩:=X3j h;simp only[Qm,X01,N4,N7]at hb;have ia:=X6b a false ha hb.1.2.1;have ib:=X6b b false hb' hb.1.2.2;have il:=X6b l top hl hb.2;have hn4:=(numB_in hn).2;simp only[wfL,wfS,ia,ib,il,QA ht,Bool.and_true,NF,N4,Ng,N7];refine⟨?_,?_,?_,hb.1.1⟩
   .by_cases hd:d=0\/d=5
    .exact .inr (X39 hs hd).1
    exact .inl ⟨fun h=>hd (.inl h),fun h=>hd (.inr h)⟩
   .by_cases hd:d=5
    .exact .inr ((X39 hs (.inr hd)).2 hd)
    exact .inl hd
   by_cases hd:d=4
   .exact .inr (hn4 hd).2
   exact .inl hd
theorem X6E:∀(l:List St) (p:B3),okL l=true->0<=p.o->mn (bdL CR l p).o 9=mn (p.o+(oUL l:Int)) 9
 |[],p,_,_=>by simp[bdL,oUL]
 | .mk d c v n t a b bs::l,p,h,hp=>by
   simp only[okL,okS,N4,Ng,N7]at h;have ha:=X6E a ⟨0,0,0⟩ h.1.2.2.1 (NX 0);have hb:=X6E b ⟨0,0,0⟩ h.1.2.2.2 (NX 0);have na:=Z1 (Z3 X36 a _ h.1.2.2.1 (WB X36));have nb:=Z1 (Z3 X36 b _ h.1.2.2.2 (WB X36));simp only[bdL,bdS,oUL,oUS];generalize bdL CR a ⟨0,0,0⟩=A at*;generalize bdL CR b ⟨0,0,0⟩=B at*;simp only[Int.zero_add]at ha hb
   have key:0<=(bd1 d c n A B).o/\mn (bd1 d c n A B).o 9=mn (((if d=4 then n.toNat*oUL a else if d=3 then max (oUL a) (oUL b)else if d=1 then 1 else 0:Nat)):Int) 9:=by
    unfold nn3 at na nb;unfold bd1;by_cases h4:d=4
    .have hn:0<=n:=by omega
     rw[N9 h4,N9 h4];refine⟨Dr hn na.2.1,?_⟩;have e:=X3Y (C:=9) hn na.2.1 (Int.natCast_nonneg (oUL a)) (NX 0) (NX 0) ha;simp only[Int.zero_add]at e;rw[e,Int.natCast_mul,Int.toNat_of_nonneg hn]
    rw[N6 h4,N6 h4];by_cases h3:d=3
    .rw[N9 h3,N9 h3];simp only[mx,mn]at ha hb⊢;have e:((max (oUL a) (oUL b):Nat):Int)=max (oUL a:Int) (oUL b:Int):=by omega
     rw[e];refine⟨by split<;>omega,?_⟩
     (repeat' split at ha)<;>(repeat' split at hb)<;>(repeat' split)<;>omega
    rw[N6 h3,N6 h3];split<;>exact⟨by simp only;omega,rfl⟩
   obtain⟨k0,k1⟩:=key;generalize(bd1 d c n A B)=X at*;generalize(if d=4 then n.toNat*oUL a else if d=3 then max (oUL a) (oUL b)else if d=1 then 1 else 0:Nat)=K at*
   have e:0<=(Qe CR p X).o/\mn (Qe CR p X).o 9=mn (p.o+K) 9:=by
    simp only[Qe,CR];simp only[mn]at k1⊢;refine⟨by split<;>omega,?_⟩
    (repeat' split at k1)<;>(repeat' split)<;>omega
   have il:=X6E l (Qe CR p X) h.2 e.1;rw[il];have e2:=e.2;generalize(Qe CR p X).o=Y at*;simp only[mn]at e2⊢;rw[Int.natCast_add]
   (repeat' split at e2)<;>(repeat' split)<;>omega
theorem XA {f:Fl} (h:XU f=0):W5 f=true/\W8 f.vars=0/\hcs f.vars [] f.hats=0/\ssC f.vars f.hats.length f.body true=0/\X5U f.body=false:=by
 unfold XU at h;split at h
 .cases h
 rename_i hs;split at h
 .rename_i hv;split at h
  .rename_i hh;split at h
   .rename_i hb;split at h
    .cases h
    rename_i ho;exact⟨by simpa using hs,hv,hh,hb,by simpa using ho⟩
   rename_i hb;exact absurd h hb
  rename_i hh;exact absurd h hh
 rename_i hv;exact absurd h hv
theorem X9m {l:List St} (h:X5U l=false):(bdL CR l ⟨0,0,0⟩).s<=4096/\(bdL CR l ⟨0,0,0⟩).o<=8/\(bdL CR l ⟨0,0,0⟩).t<=67108864:=by
 unfold X5U at h;simp only[NH,Nd,Int.not_lt]at h;exact⟨h.1,h.2.1,h.2.2⟩
theorem X6H {f:Fl} (hb:Qm f.body=true) (h:XU f=0):wfL f.vars f.hats.length f.body=true/\oUL f.body<=2000000/\∀h∈f.hats,Xt f.vars true h.term=true:=by
 obtain⟨_,_,hh,hs,ho⟩:=XA h;have h8:=(X9m ho).2.1;have hc:=X6E f.body ⟨0,0,0⟩ (X1P _ _ hs) (NX 0);refine⟨X6b _ _ hs hb,?_,X5d _ _ hh⟩;simp only[Int.zero_add,mn]at hc
 (repeat' split at hc)<;>omega
theorem X7o (f:Fl) (i:Inp) (hv:f.vars.length<=1000000) (hh:f.hats.length<=1000000) (hn:Xe f.body+XN f.hats<=1000000) (hb:Qm f.body=true) (d:Nat):
  Con prog 15 false [aF f,aI i] (.tup [aO (ZO f i).1,li (ZO f i).2]) none d:=
 X69 f i hv hh hn hb (X6H hb) d
theorem X3l (l:List St):Xe l<=1000000->Qm l=true->∀d:Nat,Con prog 73 false [lS l] (.v (lS l)) none d:=by
 revert l
 apply St.lists;intro l ih hn hbn d;have hlen:=XB l;refine X2 Tryz.func73 ?_;simp only[Tryz.f73];refine X4 ?_;refine X4 ?_;refine X0<|X0<|X1 ?_;refine X3<|(Xb [6,7] (fun(x:Nat)=>[(3,.v (.one (.own 1003))),(8,.v (li x))]) (fun(x:Nat)=>[(1003,.row 63 10 (Xf (l.take x)))]) (fun(x:Nat)=>x<=l.length) (fun(x:Nat)=>l.length - x) (0:Nat) (Nc _) ?_);rintro k hk;simp only[LN,Nat.reduceBEq,Nat.reduceLT];refine(XS (fun h5=>X6 ?_) fun h5=>?_)
 .have hlt:k<l.length:=by omega
  obtain⟨s,he,hd⟩:=Xw hlt;have hw1:=Xz hlt (by omega);have hk1:k+1<=l.length:=hlt;have hmem:s∈l:=N3 he;have hnm:=Q2 hmem;have hbm:=X13 hbn hmem;have ca:=(ih s hmem).1 (by omega);have cb:=(ih s hmem).2 (by omega);have ct:=X0p s.term (by omega);have cc:=X4e s.bounds;have htl:(l.take k).length=k:=by rw[Ns];omega
  have hroom:QF (k+1) 144:=XO (by omega) (by omega)
  have hsn:Xf (l.take (k+1))=Xf (l.take k)++[s.enc]:=by
   rw[QZ,QZ,List.take_add_one,he,Option.toList_some,Ds];rfl
  have he':=Q7 he;obtain⟨sd,sc,sv,sn,⟨so,stn,sks⟩,sa,sb,sbs⟩:=s;simp only[St.then_,St.else_,St.term,St.bounds]at ca cb ct cc;simp only[X01,N4,N7]at hbm;have ca:=ca hbm.2.1;have cb:=cb hbm.2.2;have cc:=cc hbm.1;simp only[St.enc,Tm.enc,List.cons_append,List.nil_append]at he' hsn;simp only[aT,Tm.enc,Na,Nb]at ct;clear hlt h5 ih hmem hnm he hd hbm;refine X0<|X3<|X0<|X1 ?_;refine X0<|(Xa ct ?_);refine X0<|(Xx [⟨false,.v (lS sa),none⟩,⟨false,.v (lS sb),none⟩] (by kernel_rfl) (by kernel_rfl) (by rfl) (by simp[*];first|exact⟨rfl,Iff.rfl⟩|exact⟨rfl,trivial⟩|rfl) ?_ ?_)
  .first|exact⟨ca _,cb _⟩|exact trivial|(repeat' first|exact trivial|exact ca _|exact cb _|apply And.intro)
  refine X0<|(Xa cc ?_);refine X1 ?_;refine X1 ?_;exact Xj (k+1) (hk1)
 have hkl:k=l.length:=by omega
 subst hkl;simp only[List.take_length];refine(Xd ?_);refine X4 ?_;exact Xn ⟨.inr rfl,_,XL 1003 rfl,⟨⟨_,by simp;rfl,by simp[Xl]⟩,by simp,fun h=>by cases h⟩⟩
theorem X1W (f:Fl) (hv:f.vars.length<=1000000) (hh:f.hats.length<=1000000) (hn:Xe f.body+XN f.hats<=900000000) (hb:Qm f.body=true) (d:Nat):
  Con prog 26 true [aF f] (.v (li (XU f))) none d:=by
 obtain⟨res,hres⟩:∃r,XU f=r:=⟨_,rfl⟩;rw[hres];have hso:=X9i f;have cvars:=X5n f.vars hv;have chat:=fun hg=>XaB f hg hv hh (fun h hm=>by have:=Wz hm;omega);have cst:=fun hg=>X8H f hg hv f.body (by omega) hb;have cup:=fun ho=>Xap f.body (by omega) ho;have cms:=X97 f.body 1 0 false (by decide) (by decide) (by omega);have hms:=ZL f.body 1 (0,false);have hgood:W8 f.vars=0->WM f.vars:=Qz;have hok:ssC f.vars f.hats.length f.body true=0->okL f.body=true:=X1P _ _;have hcmp:=fun h=>@bd_cmp f.body h;unfold XU X5U at hres;unfold mF at hso;obtain⟨vars,hats,body⟩:=f;simp only at hv hh hn hb hres hso cvars chat cst cup cms hms hgood hok hcmp;obtain⟨m0,hm0⟩:∃m,mSs body 1 (0,false)=m:=⟨_,rfl⟩;rw[hm0]at cms hms hso;obtain⟨c0,b0⟩:=m0;simp only at cms hms;obtain⟨mE,hmE⟩:∃m,mH hats (c0,b0)=m:=⟨_,rfl⟩;rw[hmE]at hso;obtain⟨VC,hVC⟩:∃x,W8 vars=x:=⟨_,rfl⟩;obtain⟨HC,hHC⟩:∃x,hcs vars [] hats=x:=⟨_,rfl⟩;obtain⟨SC,hSC⟩:∃x,ssC vars hats.length body true=x:=⟨_,rfl⟩;rw[hVC]at cvars hres hgood;rw[hHC]at chat hres;rw[hSC]at hres hok;have cst:=fun hg=>cst hg true;rw[hSC]at cst;clear hVC hHC hSC hm0;refine X2 Tryz.func26 ?_;simp only[Tryz.f26];simp only[aF,Fl.enc,Na,Nb]at chat cst⊢;refine X4 ?_;refine X4 ?_;refine X0<|(X0r 2 (.tup []) ([iC c0,bC b0]) rfl (by simp[*];rfl) (by simp[ioOf, *];first|exact⟨rfl,rfl,rfl,rfl,rfl⟩|exact⟨rfl,rfl,rfl,rfl⟩|exact⟨rfl,rfl,rfl⟩|exact⟨rfl,rfl⟩|rfl) (cms) (by simp) (by simp[*];rfl) ?_);refine X0<|X0<|X1 ?_;refine X3<|(Xb [1,3,14,15] (fun(x:Nat×Int×Bool)=>[(16,.v (li x.1))]) (fun(x:Nat×Int×Bool)=>[(1,.box [.c (.sl 5 (Xr vars)),.c (.sl 6 (Xu hats)),.c (.sl 10 (Xf body))]),(3,.box [.c (iC x.2.1),.c (bC x.2.2)])]) (fun(x:Nat×Int×Bool)=>x.1<=hats.length/\mH (hats.drop x.1) x.2=mE/\0<=x.2.1/\x.2.1+XN (hats.drop x.1)<=1000000000) (fun(x:Nat×Int×Bool)=>hats.length - x.1) (0,c0,b0) ⟨Nc _,by simpa using hmE,by simp only;omega,by simp only[List.drop_zero];omega⟩ ?_);rintro⟨k,m,q⟩ ⟨hk,hJ,hm,hbb⟩;simp only[LN,Nat.reduceBEq,Nat.reduceLT];simp only at hk hJ hm hbb;clear hmE hms cms;refine(XS (fun h6=>X6 ?_) fun h6=>?_)
 .have hlt:k<hats.length:=by omega
  obtain⟨h,he,hd⟩:=Xw hlt;have hw1:=Xz hlt (by omega);have hk1:k+1<=hats.length:=hlt;rw[hd]at hJ hbb;simp only[mH,XN]at hJ hbb;have hle:=X0J h.term 1 (m,q);have cmt:=X5T h.term 1 m q (by decide) hm (by omega);obtain⟨nm,lo,hi,⟨o,tn,ks⟩⟩:=h;simp only at hle cmt hJ hbb;obtain⟨m1,hm1⟩:∃x,mTm (.mk o tn ks) 1 (m,q)=x:=⟨_,rfl⟩;rw[hm1]at cmt hle hJ;obtain⟨c1,b1⟩:=m1;simp only[aT,Tm.enc,Na,Nb]at cmt hle;clear hlt h6 hd hm1 hso hres chat cst cup hok hcmp;refine X0<|X3<|X0<|X1 ?_;refine X0<|(Xa (X1v _ _) ?_);refine(XM (fun h9=>?_) fun h9=>?_)
  .have hov:QL (m,q)=false:=by
    simp only[QL,NH,Nd]
    first|exact h9|simpa using h9
   rw[N6 (by rw[hov];decide)]at hJ;clear hov;refine(X0r 2 (.tup []) ([iC c1,bC b1]) rfl (by simp[*];rfl) (by simp[ioOf, *];first|exact⟨rfl,rfl,rfl,rfl,rfl⟩|exact⟨rfl,rfl,rfl,rfl⟩|exact⟨rfl,rfl,rfl⟩|exact⟨rfl,rfl⟩|rfl) (cmt) (by simp) (by simp[*];rfl) ?_);refine X1 ?_;exact Xj ((k+1,c1,b1)) (⟨hk1,hJ,by simp only;omega,by simp only;omega⟩) (hm:=by simp only;omega)
  have hov:QL (m,q)=true:=by
   simp only[QL,Ng,N7]
   first|exact h9|simpa using h9
  rw[N9 hov]at hJ;clear hov;refine X1 ?_;exact Xj ((k+1,m,q)) (⟨hk1,hJ,hm,by simp only;omega⟩) (hm:=by simp only;omega)
 have hkl:k=hats.length:=by omega
 subst hkl;rw[Nj]at hJ;simp only[mH]at hJ;subst hJ;simp only[QL,Ng,N7]at hso;refine(Xd ?_);refine X0<|X0<|(Xa (X1v _ _) ?_);refine(XM (fun h16=>?_) fun h16=>?_)
 .rw [N9 (hso.2 (by
      simp only[or_assoc]at h16;rcases h16 with h|h|h|h
      .exact .inl (by omega)
      .exact .inr (.inl (by omega))
      .exact .inr (.inr (.inl h))
      exact .inr (.inr (.inr h))))]at hres
  subst hres;exact X7
 rw [N6 (by
     rw[hso];rintro(h|h|h|h)
     .omega
     .omega
     .exact absurd h (by simp[h16])
     omega)]at hres
 refine X0<|X0<|(Xa cvars ?_);refine(X8 (fun h21=>?_) fun h21=>?_)
 .rw[N6 h21]at hres;subst hres;exact X7
 have hv0:VC=0:=by simpa using h21
 have hg:=hgood hv0;have chat:=chat hg;have cst:=cst hg;rw[N9 hv0]at hres;clear cvars hgood h21;refine X0<|X0<|(Xa chat ?_);refine(X8 (fun h26=>?_) fun h26=>?_)
 .rw[N6 h26]at hres;subst hres;exact X7
 have hh0:HC=0:=by simpa using h26
 rw[N9 hh0]at hres;clear chat h26;refine X0<|X0<|(Xa cst ?_);refine(X8 (fun h31=>?_) fun h31=>?_)
 .rw[N6 h31]at hres;subst hres;exact X7
 have hs0:SC=0:=by simpa using h31
 rw[N9 hs0]at hres;have hok:=hok hs0;have cup:=cup hok;have hcmp:=hcmp hok;obtain⟨X,hX⟩:∃x,bdL CP body ⟨0,0,0⟩=x:=⟨_,rfl⟩;obtain⟨Y,hY⟩:∃x,bdL CR body ⟨0,0,0⟩=x:=⟨_,rfl⟩;rw[hX]at cup hcmp;rw[hY]at hcmp hres;obtain⟨x1,x2,x3⟩:=X;obtain⟨y1,y2,y3⟩:=Y;simp only[Ng,N7]at hcmp hres;clear hX hY cst h31 hok;refine X0<|X0<|(Xa cup ?_);refine(X8 (fun h36=>?_) fun h36=>?_)
 .rw[N9 (by omega)]at hres;subst hres;exact X7
 rw[N6 (by omega)]at hres;subst hres;exact X7
end Go.Proofs.YtdccocolnaklkaaGreatDoor
