/- Contracts of functions and plain facts about what they compute. Conditions: as each theorem states. -/
import Derived.Test.YtdajceakaakdoaaGreatJ10
import Derived.Test.YtdajceakaakdoaaGreatJ9
import Derived.Test.YtdajceakaakdoaaGreatJ7
import Derived.Test.YtdajceakaakdoaaGreatJ3
set_option linter.unusedSimpArgs false
set_option linter.unusedVariables false
set_option linter.unnecessarySimpa false
set_option maxRecDepth 100000
set_option maxHeartbeats 2000000
namespace Go.Proofs.YtdajceakaakdoaaGreat
open Go Go.Hl
open Tryz(prog)
def W6 (l:List (Nat×Int)):N1:=l.map fun p=>[iC (p.1:Int),iC p.2]
@[simp] theorem encEv_len (l:List (Nat×Int)):(W6 l).length=l.length:=by simp[W6]
theorem XbN (l:List (Nat×Int)) (s:Nat) (x:Int):W6 l++[[iC (s:Int),iC x]]=W6 (l++[(s,x)]):=by simp[W6]
def plO (vars:List Vr) (hats:List Ht) (body:List St) (hv:List Int) (x:Sev):N2:=[(900001,.row 3 1 (X9 x.1.vals)),(900002,.row 150 2 (W6 x.2)),(1000001,.box [.c (.sl 5 (Xk vars)),.c (.sl 6 (Xn hats)),.c (.sl 10 (X7 body)),.c (.sl 1 (X9 hv)),.own 900001,.own 900002,.c (iC x.1.time)])]
theorem pl_pin {vars:List Vr} {hats:List Ht} {body:List St} {hv:List Int} {x:Sev}:∀n cs,lkp (plO vars hats body hv x) n=some (.box cs)->1000000<=n:=by
 intro n cs h;simp only[plO,lkp]at h
 repeat' split at h
 all_goals first|omega|cases h
theorem Xaw (vars:List Vr) (hats:List Ht) (body:List St) (hv:List Int) (x:Sev) (v:Nat) (n:Int) (w:Vr) (hw:vars[v]? =some w) (hl:x.1.vals.length=vars.length) (hlh:w.low<=w.high):
  X0V prog 134 none (plO vars hats body hv x) [.one (.at_ 1000001 0),li v,li n] (fun _:Unit=>True) (fun _=>.tup []) (fun _=>plO vars hats body hv (⟨X4t vars x.1.vals v n,x.1.outs,x.1.time⟩,x.2)):=by
 obtain⟨⟨vals,outs,time⟩,ev⟩:=x;simp only at hl;have hset:X4t vars vals v n=vals.set v (Qg n w.low w.high):=by unfold X4t;rw[Int.toNat_natCast,hw]
 have hst:=Xah vals v (Qg n w.low w.high)
 have hheld:(if w.low<(if n<w.high then n else w.high)then(if n<w.high then n else w.high)else w.low)=Qg n w.low w.high:=by
  unfold Qg
  repeat' split
  all_goals omega
 have hvl:v+1<=vals.length:=by rw[hl];exact(N6.1 hw).1
 obtain⟨y,hy,_⟩:=Xt (show v<vals.length by omega);obtain⟨H,hH⟩:∃z,Qg n w.low w.high=z:=⟨_,rfl⟩;simp only[plO];rw[hset];rw[hH]at hst hheld⊢;clear hset hH hlh;obtain⟨wn,wk,wl,wh,wi⟩:=w;simp only at hheld;refine Qn Tryz.func134 rfl (by kernel_rfl) (NL rfl) (by have:=@pl_pin vars hats body hv (⟨vals,outs,time⟩,ev);simpa only[plO]using this) (fun v h=>by cases h) ?_;simp only[Tryz.f134];refine(N0 ?_);exact⟨.inl rfl,(),trivial,⟨⟨33,none⟩,[],[(900001,.row 3 1 (X9 (vals.set v H))),(900002,.row 150 2 (W6 ev)),(1000001,.box [.c (.sl 5 (Xk vars)),.c (.sl 6 (Xn hats)),.c (.sl 10 (X7 body)),.c (.sl 1 (X9 hv)),.own 900001,.own 900002,.c (iC time)])]⟩,Xw (fun n=>n) [] rfl (by simp) (by simp[hst]) (by simp),⟨[],rfl,rfl⟩,fun n o h=>h⟩
def ofK (vars:List Vr) (kind:Int):List Vr:=vars.filter fun v=>decide (v.kind=kind)
theorem ofK_good {vars:List Vr} (h:X0j vars) (kind:Int):X0j (ofK vars kind):=fun v hv=>h v (NN.1 hv).1
theorem ofK_len (vars:List Vr) (kind:Int):(ofK vars kind).length<=vars.length:=Dh _ _
theorem of13_con (vars:List Vr) (kind:Int) (hl:vars.length<=1000000) (d:Nat):Con prog 130 false [lV vars,li kind] (.v (lV (ofK vars kind))) none d:=by
 obtain⟨S,hS⟩:∃S,ofK vars kind=S:=⟨_,rfl⟩;rw[hS];unfold ofK at hS;refine X5 Tryz.func130 ?_;simp only[Tryz.f130];refine X2 ?_;refine X2 ?_;refine X0<|X0<|X1 ?_;refine X3<|(Xg [0,1] (fun(x:Nat×List Vr)=>[(5,.v (.one (.own 1005))),(6,.v (li x.1))]) (fun x=>[(1005,.row 89 5 (Xk x.2))]) (fun x=>x.1<=vars.length/\x.2=(vars.take x.1).filter fun v=>decide (v.kind=kind)) (fun x=>vars.length - x.1) (0,[]) ⟨Nq _,by simp⟩ ?_ ?_)
 .exact X4 (fun n=>if n=1005 then 7 else n) []
 rintro⟨k,acc⟩ ⟨hk,hJ⟩;simp only[upS,X8,Xz]
 simp only[KN,Nat.reduceBEq,Nj,Nc,ins,Nat.reduceLT]
 simp only at hk hJ;replace hJ:=hJ.symm;refine X0<|X0<|X1 ?_;refine(X6 rfl (fun h5=>Xe ?_) (fun h5=>?_))
 ·simp only[BN]at h5;have hlt:k<vars.length:=by omega
  obtain⟨v,he,hd⟩:=Xt hlt;have hw1:=XD hlt (by omega);have hk1:k+1<=vars.length:=hlt;have ht:=ZP he;generalize hT:(vars.take k).filter (fun v=>decide (v.kind=kind))=T at hJ
  have hal:acc.length<=k:=by
   rw[<-hJ,<-hT];exact Dz (Dh _ _) (by rw[NF];omega)
  have hroom:W5 (acc.length+1) 48:=Qc (by omega) (by omega);clear hlt h5 hS;refine X0<|X3<|X0<|X1 ?_;refine(Xb rfl (fun h7=>?_) fun h7=>?_)
  ·simp only[BN]at h7;have hf:(vars.take (k+1)).filter (fun v=>decide (v.kind=kind))=acc++[v]:=by rw[ht,Da,hT,hJ,DF (by simpa using h7)];simp
   refine X1 ?_;refine X1 ?_;exact⟨(k+1,acc++[v]),⟨hk1,hf.symm⟩,by simp only;omega,X4 (fun n=>if n=1005 then 27 else n) []⟩
  simp only[BN]at h7;have hf:(vars.take (k+1)).filter (fun v=>decide (v.kind=kind))=acc:=by rw[ht,Da,hT,hJ,DE (by simpa using h7)];simp
  refine X1 ?_;exact⟨(k+1,acc),⟨hk1,hf.symm⟩,by simp only;omega,X4 (fun n=>n) []⟩
 simp only[BN]at h5;have hkl:k=vars.length:=by omega
 rw[hkl,List.take_length,hS]at hJ;subst hJ;clear hS;refine(Xi ?_);refine X2 ?_;exact XZ ⟨.inr rfl,_,Qy 1005 rfl,⟨⟨_,by simp;rfl,by simp[XG]⟩,by simp,fun h=>by cases h⟩⟩
theorem X9B (vars:List Vr) (kind:Int) (hkd:1<=kind/\kind<=3) (hv:X0j vars) (hl:vars.length<=1000000) (hs:spc vars kind<=4096) (d:Nat):
  Con prog 68 true [lV vars,li kind] (.tup [li (spc vars kind),li 0]) none d:=by
 have co:=of13_con vars kind hl;have hg:=ofK_good hv kind;have hn:=ofK_len vars kind;unfold spc at*;change prV (ofK vars kind) 1<=4096 at hs;change Con _ _ _ _ (.tup [li (prV (ofK vars kind) 1),li 0]) _ _;obtain⟨res,hres⟩:∃r,prV (ofK vars kind) 1=r:=⟨_,rfl⟩;rw[hres]at hs⊢;obtain⟨S,hS⟩:∃S,ofK vars kind=S:=⟨_,rfl⟩;rw[hS]at co hg hn hres;clear hS hv;refine X5 Tryz.func68 ?_;simp only[Tryz.f68];refine X2 ?_;refine X0<|X0<|X1 ?_;refine(Xb rfl (fun h2=>?_) fun h2=>?_)
 .exfalso;simp at h2;omega
 simp only[BN]at h2;refine Xh [⟨false,.v (lV S),none⟩] ?_ ?_
 .first|exact co _|exact trivial|simpa[*]using co _
 refine X0<|X0<|X1 ?_;refine X3<|(Xg [6] (fun(x:Nat)=>[(7,.v (li x))]) (fun x=>[]) (fun x=>x<=S.length) (fun x=>S.length - x) (0:Nat) (Nq _) ?_ ?_)
 .exact X4 (fun n=>n) []
 rintro k hk;simp only[upS,X8,Xz]
 simp only[KN,Nat.reduceBEq,Nj,Nc,ins,Nat.reduceLT]
 clear co;refine X0<|X0<|X1 ?_;refine(X6 rfl (fun h9=>Xe ?_) (fun h9=>?_))
 ·simp only[BN]at h9;have hlt:k<S.length:=by omega
  obtain⟨v,he,hd⟩:=Xt hlt;have hw1:=XD hlt (by omega);have hk1:k+1<=S.length:=hlt;have hb:=hg v (N4 he);clear hlt h9 hg hres;refine X0<|X3<|X0<|(N0 ?_);refine(Xb rfl (fun h11=>?_) fun h11=>?_)
  .exfalso;simp at h11;omega
  simp only[BN]at h11;refine X1 ?_;exact⟨k+1,hk1,by omega,X4 (fun n=>n) []⟩
 simp only[BN]at h9;clear h9 hk;refine(Xi ?_);refine X2 ?_;refine X0<|X0<|X1 ?_;refine X3<|(Xg [6] (fun(x:Nat×Int)=>[(8,.v (li x.2)),(9,.v (li x.1))]) (fun x=>[]) (fun x=>x.1<=S.length/\prV (S.drop x.1) x.2=res/\1<=x.2/\x.2<=4096) (fun x=>S.length - x.1) (0,1) ⟨Nq _,hres,by decide,by decide⟩ ?_ ?_)
 .exact X4 (fun n=>n) []
 rintro⟨k,n⟩ ⟨hk,hJ,hn1,hn2⟩;simp only[upS,X8,Xz]
 simp only[KN,Nat.reduceBEq,Nj,Nc,ins,Nat.reduceLT]
 simp only at hk hJ hn1 hn2;clear hres;refine X0<|X0<|X1 ?_;refine(X6 rfl (fun h20=>Xe ?_) (fun h20=>?_))
 ·simp only[BN]at h20;have hlt:k<S.length:=by omega
  obtain⟨v,he,hd⟩:=Xt hlt;have hw1:=XD hlt (by omega);have hk1:k+1<=S.length:=hlt;have hmem:v∈S:=N4 he;have hsz:=sz_in hg hmem;have hm:=X8D ⟨hn1,hn2⟩ hsz;have hb:=hg v hmem;have hw2:IntKind.i64.wrap (v.high - v.low)=v.high - v.low:=Xa;have hw3:IntKind.i64.wrap (v.high - v.low+1)=sz v:=by rw[Xa (by omega) (by omega)];rfl
  have hw4:IntKind.i64.wrap (n*sz v)=n*sz v:=Xa;rw[hd]at hJ;simp only[prV]at hJ;clear hlt h20 hg;refine X0<|X3<|X0<|(N0 ?_);refine X2 ?_;refine(Xb rfl (fun h23=>?_) fun h23=>?_)
  .exfalso;rw[N8 (by simpa using h23)]at hJ;omega
  simp only[BN]at h23;rw[N7 (by simpa using h23)]at hJ;refine X1 ?_;exact⟨(k+1,n*sz v),⟨hk1,hJ,hm.1,by simp only;omega⟩,by simp only;omega,X4 (fun n=>n) []⟩
 simp only[BN]at h20;have hkl:k=S.length:=by omega
 rw[hkl,Nw]at hJ;simp only[prV]at hJ;subst hJ;refine(Xi ?_);refine X2 ?_;exact Xc
mutual
def tL:Tm->Int->Int
 | .mk _ _ ks,left=>tLs ks (left - 1)
def tLs:List Tm->Int->Int
 |[],left=>left
 |t::l,left=>if 0<=left then tLs l (tL t left)else left
end
def lo1 (x:Int):Int:=if x<0 then x else -1
mutual
theorem X6T:∀(t:Tm) (left:Int),lo1 (left - 1)<=tL t left/\tL t left<=left - 1
 | .mk _ _ ks,left=>by
   simp only[tL];exact Xbl ks (left - 1)
theorem Xbl:∀(l:List Tm) (left:Int),lo1 left<=tLs l left/\tLs l left<=left
 | [],left=>by
   simp only[tLs,lo1];split<;>omega
 | t ::l,left=>by
   simp only[tLs];split
   .have h1:=X6T t left;have h2:=Xbl l (tL t left);unfold lo1 at*;refine⟨?_,by omega⟩;split
    .omega
    refine Int.le_trans ?_ h2.1;split<;>(try split at h1)<;>omega
   unfold lo1;split<;>omega
end
theorem tLs_neg (l:List Tm) (left:Int) (h:left<0):tLs l left=left:=by
 cases l with
 |nil=>rfl
 |cons t l=>simp only[tLs];rw[N7 (by omega)]
mutual
theorem XbT:∀(t:Tm) (left:Int),0<=tL t left->tL t left=left - t.nodes
 | .mk _ _ ks,left=>by
   simp only[tL,Tm.nodes];intro h;have:=XcI ks (left - 1) h;omega
theorem XcI:∀(l:List Tm) (left:Int),0<=tLs l left->tLs l left=left - Qm l
 |[],left=>by simp[tLs,Qm]
 | t::l,left=>by
   simp only[tLs,Qm];split
   .intro h;have h1:=XcI l (tL t left) h;have h2:=Xbl l (tL t left);have h3:=XbT t left (by omega);omega
   intro h;omega
end
def sL:List St->Int->Int
 |[],left=>left
 | .mk _ _ _ _ t a b bs::l,left=>
   if 0<=left then(if tL t (left - 1)<bs.length then -1 else sL l (sL b (sL a (tL t (left - 1) - bs.length))))else left
theorem sL_neg (l:List St) (left:Int) (h:left<0):sL l left=left:=by
 cases l with
 |nil=>simp[sL]
 |cons s l=>obtain⟨d,c,v,n,t,a,b,bs⟩:=s;simp only[sL];rw[N7 (by omega)]
theorem X3U:∀(l:List St) (left:Int),lo1 left<=sL l left/\sL l left<=left
 | [],left=>by
   simp only[sL,lo1];split<;>omega
 | .mk _ _ _ _ t a b bs::l,left=>by
   simp only[sL];by_cases h0:0<=left
   .rw[N8 h0];have e:lo1 left=-1:=by unfold lo1;rw[N7 (by omega)]
    rw[e];split
    .omega
    have h1:=X6T t (left - 1);have ha:=X3U a (tL t (left - 1) - bs.length);have hb:=X3U b (sL a (tL t (left - 1) - bs.length));have hl:=X3U l (sL b (sL a (tL t (left - 1) - bs.length)));refine⟨?_,by omega⟩;generalize sL l (sL b (sL a (tL t (left - 1) - bs.length)))=z at*;generalize sL b (sL a (tL t (left - 1) - bs.length))=y at*;generalize sL a (tL t (left - 1) - bs.length)=x at*;generalize tL t (left - 1)=w at*;unfold lo1 at ha hb hl
    (repeat' split at ha)<;>(repeat' split at hb)<;>(repeat' split at hl)<;>omega
   rw[N7 h0];unfold lo1;split<;>omega
theorem X8o:∀(l:List St) (left:Int),left<=1000000->0<=sL l left->sL l left<=left - Xl l/\Z9 l=true
 |[],left,_,_=>by simp[sL,Xl,Z9]
 | .mk _ _ _ _ t a b bs::l,left,hle,h=>by
   simp only[sL]at h⊢;by_cases h0:0<=left
   .rw[N8 h0]at h⊢;split at h
    .omega
    rename_i hbs;rw[N7 hbs];have i0:=X6T t (left - 1);have ia:=X3U a (tL t (left - 1) - bs.length);have ib:=X3U b (sL a (tL t (left - 1) - bs.length));have il:=X3U l (sL b (sL a (tL t (left - 1) - bs.length)));have p3:=X8o l (sL b (sL a (tL t (left - 1) - bs.length))) (by omega) h;have p2:=X8o b (sL a (tL t (left - 1) - bs.length)) (by omega) (by omega);have p1:=X8o a (tL t (left - 1) - bs.length) (by omega) (by omega);have p0:=XbT t (left - 1) (by omega);simp only[Xl,St.nodes,Z9,X4v,p1.2,p2.2,p3.2,Bool.and_true,N5];omega
   rw[N7 h0]at h;omega
def hL:List Ht->Int->Int
 |[],m=>m
 |h::l,m=>hL l (tL h.term m)
theorem hL_le:∀(l:List Ht) (m:Int),hL l m<=m
 |[],m=>by simp[hL]
 | h::l,m=>by
   have h1:=hL_le l (tL h.term m);have h2:=X6T h.term m;simp only[hL];omega
theorem hL_pos:∀(l:List Ht) (m:Int),0<=hL l m->hL l m=m - QD l
 |[],m,_=>by simp[hL,QD]
 | h::l,m,h0=>by
   simp only[hL,QD]at h0⊢;have h1:=hL_pos l _ h0;have h2:=hL_le l (tL h.term m);have h3:=XbT h.term m (by omega);omega
def X6Q (f:Fl) (vars nodes:Int):Bool:=if vars<f.vars.length\/vars<f.hats.length then false else decide (0<=hL f.hats (sL f.body nodes))
theorem Xcr {f:Fl} {vars nodes:Int} (hn:nodes<=1000000) (h:X6Q f vars nodes=true):f.vars.length<=vars/\f.hats.length<=vars/\Xl f.body+QD f.hats<=nodes/\Z9 f.body=true:=by
 unfold X6Q at h;split at h
 .cases h
 rename_i h1;simp only[N5]at h;have e1:=hL_pos _ _ h;have e2:=hL_le f.hats (sL f.body nodes);have e3:=X8o f.body nodes hn (by omega);exact⟨by omega,by omega,by omega,e3.2⟩
theorem X7p (t:Tm):∀left:Int,-1000000<=left->left<=1000000->∀d:Nat,Con prog 42 true [aT t,li left] (.v (li (tL t left))) none d:=by
 induction t using Tm.ind with
 |h o n ks ih=>
 intro left h1 h2 d;obtain⟨res,hres⟩:∃r,tL (.mk o n ks) left=r:=⟨_,rfl⟩;rw[hres];simp only[tL]at hres;have hw0:IntKind.i64.wrap (left - 1)=left - 1:=Xa;refine X5 Tryz.func42 ?_;simp only[Tryz.f42];simp only[aT,Tm.enc];refine X2 ?_;refine X2 ?_;refine X0<|X0<|X1 ?_;refine X3<|(Xg [2] (fun(x:Nat×Int)=>[(1,.v (li x.2)),(5,.v (li x.1))]) (fun x=>[(2,.box [.c (iC o),.c (iC n),.c (.sl 3 (Xx ks))])]) (fun x=>x.1<=ks.length/\tLs (ks.drop x.1) x.2=res∧-1000001<=x.2/\x.2+x.1<=1000000) (fun x=>ks.length - x.1) (0,left - 1) ⟨Nq _,by simpa using hres,by simp only;omega,by simp only;omega⟩ ?_ ?_)
 .exact X4 (fun n=>n) []
 rintro⟨k,m⟩ ⟨hk,hJ,hm,hm2⟩;simp only[upS,X8,Xz]
 simp only[KN,Nat.reduceBEq,Nj,Nc,ins,Nat.reduceLT]
 simp only at hk hJ hm hm2;refine X0<|X0<|X1 ?_;refine(X6 rfl (fun h5=>Xe ?_) (fun h5=>?_))
 ·simp only[BN]at h5;have hlt:k<ks.length:=by omega
  have hm0:0<=m:=by omega
  obtain⟨⟨eo,en,ek⟩,he,hd⟩:=Xt hlt;have he':=Wu he;simp only[Tm.enc]at he';have hw1:IntKind.i64.wrap ((k:Int)+1)=(k:Int)+1:=Xa;rw[hd]at hJ;simp only[tLs]at hJ;rw[N8 hm0]at hJ;have hk1:k+1<=ks.length:=hlt;have c:=ih _ (N4 he) m (by omega) (by omega);have hti:=X6T (.mk eo en ek) m;have hlo:-1<=lo1 (m - 1):=by unfold lo1;split<;>omega
  obtain⟨M,hM⟩:∃x,tL (.mk eo en ek) m=x:=⟨_,rfl⟩;rw[hM]at c hJ hti;clear hlt h5 hM ih hd;refine X0<|X3<|(Xo [⟨true,.v (li M),none⟩] ?_ ?_)
  .first|exact c _|exact trivial|simpa[*]using c _
  refine X1 ?_;exact⟨(k+1,M),⟨hk1,hJ,by simp only;omega,by simp only;omega⟩,by simp only;omega,X4 (fun n=>n) []⟩
 simp only[BN]at h5
 have hz:tLs (ks.drop k) m=m:=by
  by_cases hm0:m<0
  .exact tLs_neg _ _ hm0
  have hkl:k=ks.length:=by omega
  rw[hkl,Nw];rfl
 rw[hz]at hJ;subst hJ;refine(Xi ?_);refine X2 ?_;exact Xc
theorem Xd7 (l:List St):∀left:Int,-1000000<=left->left<=1000000->∀d:Nat,Con prog 41 true [lS l,li left] (.v (li (sL l left))) none d:=by
 revert l
 apply St.lists;intro l ih left h1 h2 d;obtain⟨res,hres⟩:∃r,sL l left=r:=⟨_,rfl⟩;rw[hres];refine X5 Tryz.func41 ?_;simp only[Tryz.f41];refine X2 ?_;refine X0<|X0<|X1 ?_;refine X3<|(Xg [0] (fun(x:Nat×Int)=>[(1,.v (li x.2)),(5,.v (li x.1))]) (fun x=>[]) (fun x=>x.1<=l.length/\sL (l.drop x.1) x.2=res∧-1000001<=x.2/\x.2+x.1<=1000000) (fun x=>l.length - x.1) (0,left) ⟨Nq _,hres,by simp only;omega,by simp only;omega⟩ ?_ ?_)
 .exact X4 (fun n=>n) []
 rintro⟨k,m⟩ ⟨hk,hJ,hm,hm2⟩;simp only[upS,X8,Xz]
 simp only[KN,Nat.reduceBEq,Nj,Nc,ins,Nat.reduceLT]
 simp only at hk hJ hm hm2;clear hres;refine X0<|X0<|X1 ?_;refine(X6 rfl (fun h4=>Xe ?_) (fun h4=>?_))
 ·simp only[BN]at h4;have hlt:k<l.length:=by omega
  have hm0:0<=m:=by omega
  obtain⟨s,he,hd⟩:=Xt hlt;have hmem:s∈l:=N4 he;have iha:=(ih s hmem).1;have ihb:=(ih s hmem).2;have hw1:IntKind.i64.wrap ((k:Int)+1)=(k:Int)+1:=Xa;have hk1:k+1<=l.length:=hlt;have he':=Q4 he;obtain⟨sd,sc,sv,sn,⟨so,stn,sks⟩,sa,sb,sbs⟩:=s;simp only[St.then_,St.else_]at iha ihb;simp only[St.enc,Tm.enc,List.cons_append,List.nil_append]at he';rw[hd]at hJ;simp only[sL]at hJ;rw[N8 hm0]at hJ;have hw2:IntKind.i64.wrap (m - 1)=m - 1:=Xa;have c:=X7p (.mk so stn sks) (m - 1) (by omega) (by omega);have hti:=X6T (.mk so stn sks) (m - 1);have hlo:-2<=lo1 (m - 1 - 1):=by unfold lo1;split<;>omega
  obtain⟨M,hM⟩:∃x,tL (.mk so stn sks) (m - 1)=x:=⟨_,rfl⟩;rw[hM]at c hJ hti;simp only[aT,Tm.enc,Nk,Nr]at c;clear hlt h4 hM ih hd hmem;refine X0<|X3<|X0<|(Xo [⟨true,.v (li M),none⟩] ?_ ?_)
  .first|exact c _|exact trivial|simpa[*]using c _
  refine X0<|X0<|X1 ?_;refine(Xb rfl (fun h7=>?_) fun h7=>?_)
  ·simp only[BN]at h7;rw[N8 h7]at hJ;subst hJ;refine X2 ?_;exact Xc
  simp only[BN]at h7;rw[N7 (by omega)]at hJ;have hw3:IntKind.i64.wrap (M - (sbs.length:Int))=M - (sbs.length:Int):=Xa;have c1:=iha (M - sbs.length) (by omega) (by omega);have s1:=X3U sa (M - sbs.length);have hl1:-1<=lo1 (M - sbs.length):=by unfold lo1;split<;>omega
  obtain⟨M1,hM1⟩:∃x,sL sa (M - sbs.length)=x:=⟨_,rfl⟩;rw[hM1]at c1 s1 hJ;have c2:=ihb M1 (by omega) (by omega);have s2:=X3U sb M1;have hl2:-1<=lo1 M1:=by unfold lo1;split<;>omega
  obtain⟨M2,hM2⟩:∃x,sL sb M1=x:=⟨_,rfl⟩;rw[hM2]at c2 s2 hJ;clear iha ihb hM1 hM2 h7 c;refine(XU [⟨true,.v (li M1),none⟩,⟨true,.v (li M2),none⟩] (by kernel_rfl) (by kernel_rfl) (by rfl) (by simp[*];first|exact⟨rfl,Iff.rfl⟩|exact⟨rfl,trivial⟩|rfl) ?_ ?_)
  .first|exact⟨c1 _,c2 _⟩|exact trivial|(repeat' first|exact trivial|exact c1 _|exact c2 _|apply And.intro)
  refine X1 ?_;exact⟨(k+1,M2),⟨hk1,hJ,by simp only;omega,by simp only;omega⟩,by simp only;omega,X4 (fun n=>n) []⟩
 simp only[BN]at h4
 have hz:sL (l.drop k) m=m:=by
  by_cases hm0:m<0
  .exact sL_neg _ _ hm0
  have hkl:k=l.length:=by omega
  rw[hkl,Nw];simp[sL]
 rw[hz]at hJ;subst hJ;refine(Xi ?_);refine X2 ?_;exact Xc
theorem few_con (f:Fl) (vars nodes:Int) (hv:0<=vars/\vars<=1000) (hn:0<=nodes/\nodes<=1000) (d:Nat):Con prog 13 true [aF f,li vars,li nodes] (.v (lb (X6Q f vars nodes))) none d:=by
 obtain⟨vs,hats,body⟩:=f;obtain⟨res,hres⟩:∃r,X6Q ⟨vs,hats,body⟩ vars nodes=r:=⟨_,rfl⟩;rw[hres];unfold X6Q at hres;simp only at hres;have cs:=Xd7 body nodes (by omega) (by omega);have hsi:=X3U body nodes;have hlo:-2<=lo1 nodes:=by unfold lo1;split<;>omega
 obtain⟨S,hS⟩:∃x,sL body nodes=x:=⟨_,rfl⟩;rw[hS]at hres cs hsi;clear hS;refine X5 Tryz.func13 ?_;simp only[Tryz.f13];simp only[aF,Fl.enc,Nk,Nr];refine X2 ?_;refine X0<|X0<|X1 ?_;refine(Xb rfl (fun h2=>?_) fun h2=>?_)
 ·simp only[BN]at h2;rw[N8 (by omega)]at hres;subst hres;refine X2 ?_;exact Xc
 simp only[BN]at h2;rw[N7 (by omega)]at hres;obtain⟨E,hE⟩:∃x,hL hats S=x:=⟨_,rfl⟩;rw[hE]at hres;refine Xh [⟨true,.v (li S),none⟩] ?_ ?_
 .first|exact cs _|exact trivial|simpa[*]using cs _
 refine X0<|X0<|X1 ?_;refine X3<|(Xg [27,28] (fun(x:Nat×Int)=>[(7,.v (li x.2)),(29,.v (li x.1))]) (fun x=>[]) (fun x=>x.1<=hats.length/\hL (hats.drop x.1) x.2=E∧-2 - (x.1:Int)<=x.2/\x.2<=1000) (fun x=>hats.length - x.1) (0,S) ⟨Nq _,hE,by simp only;omega,by simp only;omega⟩ ?_ ?_)
 .exact X4 (fun n=>n) []
 rintro⟨k,m⟩ ⟨hk,hJ,hm,hm2⟩;simp only[upS,X8,Xz]
 simp only[KN,Nat.reduceBEq,Nj,Nc,ins,Nat.reduceLT]
 simp only at hk hJ hm hm2;clear hE;refine X2 ?_;refine X0<|(X6 rfl (fun h9=>Xe ?_) (fun h9=>?_))
 ·simp only[BN]at h9;have hlt:k<hats.length:=by omega
  obtain⟨h,he,hd⟩:=Xt hlt;have hw1:IntKind.i64.wrap ((k:Int)+1)=(k:Int)+1:=Xa;have hk1:k+1<=hats.length:=hlt;have c:=X7p h.term m (by omega) (by omega);have hti:=X6T h.term m;have hl1:-3 - (k:Int)<=lo1 (m - 1):=by unfold lo1;split<;>omega
  rw[hd]at hJ;simp only[hL]at hJ;obtain⟨nm,lo,hi,⟨o,tn,ks⟩⟩:=h;simp only at c hti hJ;obtain⟨M,hM⟩:∃x,tL (.mk o tn ks) m=x:=⟨_,rfl⟩;rw[hM]at c hJ hti;simp only[aT,Tm.enc,Nk,Nr]at c;clear hlt h9 hM hd;refine X0<|X3<|X0<|X1 ?_;refine(Xo [⟨true,.v (li M),none⟩] ?_ ?_)
  .first|exact c _|exact trivial|simpa[*]using c _
  refine X1 ?_;exact⟨(k+1,M),⟨hk1,hJ,by simp only;omega,by simp only;omega⟩,by simp only;omega,X4 (fun n=>n) []⟩
 simp only[BN]at h9;have hkl:k=hats.length:=by omega
 rw[hkl,Nw]at hJ;simp only[hL]at hJ;subst hJ;subst hres;refine(Xi ?_);refine X2 ?_;exact Xc
end Go.Proofs.YtdajceakaakdoaaGreat
