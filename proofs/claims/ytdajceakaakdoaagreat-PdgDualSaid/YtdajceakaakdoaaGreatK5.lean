/- Part 5: contracts of functions of the program and of the reference, and plain facts about what they compute; used by the proof of the claimed statement. Conditions: as each theorem states. -/
import Derived.Test.YtdajceakaakdoaaGreatK2
import Derived.Test.YtdajceakaakdoaaGreatK4
import Derived.Test.YtdajceakaakdoaaGreatK1
set_option linter.unusedSimpArgs false
set_option linter.unusedVariables false
set_option linter.unnecessarySimpa false
set_option maxRecDepth 100000
set_option maxHeartbeats 2000000
namespace Go.Proofs.YtdajceakaakdoaaGreat
open Go Go.Hl
def ZY (v:Vr):Prop:=Wo v.low v.high=false∨(v.kind≠0∧v.init≠0)∨(v.kind=0∧(v.init<v.low∨v.high<v.init))
instance (v:Vr):Decidable (ZY v):=by unfold ZY;exact inferInstance
def X1c (seen:List Vr) (v:Vr):Int:=
 if X12 v.name=false then 7 else if(seen.any fun w=>decide (w.name=v.name))=true then 8 else if v.kind<0∨3<v.kind then 1 else if ZY v then 3 else 0
def vcs:List Vr→List Vr→Int
 |_,[]=>0
 |seen,v::l=>if X1c seen v=0 then vcs (seen++[v]) l else X1c seen v
def badK (vars:List Vr) (kind:Int):Bool:=decide (4096<spc vars kind)||(decide (kind=3)&&decide (256<spc vars kind))
def X1Q (vars:List Vr):Int:=if vcs [] vars=0 then(if([1,2,3].any (badK vars))=true then 4 else 0)else vcs [] vars
theorem X51:∀(l seen:List Vr),vcs seen l=0→X1K l
 |[],_,_,v,hv=>by cases hv
 | w :: l,seen,h,v,hv=>by
   simp only[vcs]at h;split at h
   · rename_i h0;rcases List.mem_cons.1 hv with rfl|hv
     · unfold X1c at h0;split at h0
       · cases h0
       split at h0
       · cases h0
       split at h0
       · cases h0
       split at h0
       · cases h0
       rename_i hk;unfold ZY at hk
       have hb:Wo v.low v.high=true:=by
        cases hb:Wo v.low v.high with
        |true=>rfl
        |false=>exact absurd (.inl hb) hk
       simp only[Wo,Bool.and_eq_true,decide_eq_true_eq]at hb;omega
     exact X51 l _ h v hv
   rename_i h0;exact absurd h h0
def X5c (vars:List Vr):List Int→Int
 |[]=>0
 |k::l=>if badK vars k=true then 4 else X5c vars l
theorem X62 (vars:List Vr):∀l:List Int,X5c vars l=if l.any (badK vars)=true then 4 else 0
 |[]=>by simp[X5c]
 | k::l=>by
   simp only[X5c,List.any_cons,X62 vars l];by_cases hb:badK vars k=true
   · simp[hb]
   simp only[Bool.not_eq_true]at hb;simp[hb]
theorem Xbh (vars:List Vr) (hl:vars.length≤1000000) (d:Nat):Con Tryz.prog 115 true [lV vars] (.v (li (X1Q vars))) none d:=by
 obtain⟨res,hres⟩:∃r,X1Q vars=r:=⟨_,rfl⟩;rw[hres];obtain⟨cd,hcd⟩:∃r,vcs [] vars=r:=⟨_,rfl⟩;have hgood:cd=0→X3a vars:=fun h=>X51 vars [] (hcd.trans h);unfold X1Q at hres;rw[hcd]at hres;refine X4 Tryz.func115 ?_;simp only[Tryz.f115];refine X2 ?_;refine X0<|X0<|X1 ?_;refine X3<|(Xe [0,10,11] (fun(x:Nat)=>[(12,.v (li x))]) (fun x=>[]) (fun x=>x≤vars.length∧vcs (vars.take x) (vars.drop x)=cd) (fun x=>vars.length - x) (0:Nat) ⟨Nat.zero_le _,hcd⟩ ?_ ?_)
 · exact X5 (fun n=>n) []
 rintro k ⟨hk,hJ⟩;simp only[upS,X6,XL]
 try simp only[X6,KN,Nat.reduceBEq,if_true,if_false,ins,Nat.reduceLT]
 clear hcd;refine X2 ?_;refine X0<|(X9 rfl (fun h4=>Xd ?_) (fun h4=>?_))
 · (try simp only[BN]at h4);have hlt:k<vars.length:=by omega
   obtain⟨v,he,hd⟩:=Xr hlt;have hw1:=XN hlt (by omega);have hk1:k+1≤vars.length:=hlt;have hkl:(vars.take k).length≤1000000000:=by rw[List.length_take];omega
   rw[hd]at hJ;simp only[vcs]at hJ;rw[←X3J he]at hJ;clear hlt h4 hgood;refine X0<|X3<|X0<|X1 ?_;refine X2 ?_;refine X3<|X0<|(Xm [⟨true,.v (lb (X12 v.name)),none⟩] ?_ ?_)
   · first|exact X1y _ _|exact trivial|simpa[*]using X1y _ _
   refine(X9 rfl (fun h8=>?_) (fun h8=>?_))
   · (try simp only[BN]at h8);have hc:X1c (vars.take k) v=7:=by unfold X1c;rw[if_pos h8]
     rw[hc,if_neg (by decide)]at hJ;subst hJ;rw[if_neg (by decide)]at hres;subst hres;refine X2 ?_;exact Xf
   (try simp only[BN]at h8);refine Xp [⟨true,.v (lb ((vars.take k).any fun w=>decide (w.name=v.name))),none⟩] ?_ ?_
   · first|exact X7r (vars.take k) 178 [.ptr v.enc] (fun w=>decide (w.name=v.name)) hkl (fun w _ d=>X5F w v d) _|exact trivial|simpa[*]using X7r (vars.take k) 178 [.ptr v.enc] (fun w=>decide (w.name=v.name)) hkl (fun w _ d=>X5F w v d) _
   refine(X9 rfl (fun h12=>?_) (fun h12=>?_))
   · (try simp only[BN]at h12);have hc:X1c (vars.take k) v=8:=by unfold X1c;rw[if_neg (by simp[h8]),if_pos h12]
     rw[hc,if_neg (by decide)]at hJ;subst hJ;rw[if_neg (by decide)]at hres;subst hres;refine X2 ?_;exact Xf
   (try simp only[BN]at h12);refine X2 ?_;refine(X9 rfl (fun h16=>?_) (fun h16=>?_))
   · (try simp only[BN]at h16);have hc:X1c (vars.take k) v=1:=by unfold X1c;rw[if_neg (by simp[h8]),if_neg (by simp[h12]),if_pos h16]
     rw[hc,if_neg (by decide)]at hJ;subst hJ;rw[if_neg (by decide)]at hres;subst hres;refine X2 ?_;exact Xf
   (try simp only[BN]at h16);have hc:X1c (vars.take k) v=if ZY v then 3 else 0:=by unfold X1c;rw[if_neg (by simp[h8]),if_neg (by simp[h12]),if_neg (by omega)]
   refine(Qe [0,10,11,12] (fun(z:Bool)=>[(38,.v (lb z))]) (fun(z:Bool)=>[]) (fun(z:Bool)=>z=decide (ZY v)) ?_ ?_)
   ·
    refine Xp [⟨true,.v (lb (Wo v.low v.high)),none⟩] ?_ ?_
    · first|exact Zx _ _ _|exact trivial|simpa[*]using Zx _ _ _
    refine(X9 rfl (fun h21=>Xd ?_) (fun h21=>?_))
    · (try simp only[BN]at h21);exact⟨true,(decide_eq_true (.inl (by simpa using h21))).symm,X5 (fun n=>n) []⟩
    (try simp only[BN]at h21);refine X2 ?_;refine(X9 rfl (fun h24=>Xd ?_) (fun h24=>?_))
    · (try simp only[BN]at h24);exact⟨true,(decide_eq_true (.inr (.inl (by simpa using h24)))).symm,X5 (fun n=>n) []⟩
    try simp only[BN]at h24
    have hz:decide (ZY v)=(decide (v.kind=0)&&(decide (v.init<v.low)||decide (v.high<v.init))):=by
     rw[Bool.eq_iff_iff,decide_eq_true_eq];unfold ZY;simp only[decide_eq_true_eq,Bool.and_eq_true,Bool.or_eq_true];have h21':Wo v.low v.high=true:=by simpa using h21
     rw[h21'];constructor
     · rintro(h|h|h)
       · cases h
       · exfalso;omega
       exact h
     exact fun h=>.inr (.inr h)
    clear h21 h24;refine X1 ?_;exact⟨(decide (v.kind=0)&&(decide (v.init<v.low)||decide (v.high<v.init))),hz.symm,X5 (fun n=>n) []⟩
   rintro _ rfl;simp only[upS,X6,XL]
   try simp only[X6,KN,Nat.reduceBEq,if_true,if_false,ins,Nat.reduceLT]
   refine(Xb rfl (fun h28=>?_) fun h28=>?_)
   · (try simp only[BN]at h28);rw[if_pos h28]at hc;rw[hc,if_neg (by decide)]at hJ;subst hJ;rw[if_neg (by decide)]at hres;subst hres;refine X2 ?_;exact Xf
   (try simp only[BN]at h28);rw[if_neg h28]at hc;rw[hc,if_pos rfl]at hJ;refine X1 ?_;exact⟨k+1,⟨hk1,hJ⟩,by omega,X5 (fun n=>n) []⟩
 (try simp only[BN]at h4);have hkl:k=vars.length:=by omega
 rw[hkl,List.drop_length]at hJ;simp only[vcs]at hJ;have hv:=hgood hJ.symm;rw[if_pos hJ.symm,←X62]at hres;clear hgood hJ hkl hk h4;obtain⟨L,hL⟩:∃L:List Int,L=[1,2,3]:=⟨_,rfl⟩;have hL3:L.length=3:=by rw[hL];rfl
 have hLi:∀k∈L,1≤k∧k≤3:=by rw[hL];decide
 rw[←hL]at hres;refine(Xi ?_);refine X0<|X0<|X1 ?_;refine X3<|(Xe [0,71,72] (fun(x:Nat)=>[(73,.v (li x))]) (fun x=>[(71,.row 87 1 (Xg L))]) (fun x=>x≤3∧X5c vars (L.drop x)=res) (fun x=>3 - x) (0:Nat) ⟨Nat.zero_le _,hres⟩ ?_ ?_)
 · exact Xy (fun n=>n) [] rfl (by simp[*,upS,X6]) (by simp[upS,Xg,hL]) (by simp[upS])
 rintro k2 ⟨hk2,hJ2⟩;simp only[upS,X6,XL]
 try simp only[X6,KN,Nat.reduceBEq,if_true,if_false,ins,Nat.reduceLT]
 clear hres hL;refine X2 ?_;refine X0<|(X9 rfl (fun h36=>Xd ?_) (fun h36=>?_))
 · (try simp only[BN]at h36);have hlt:k2<L.length:=by omega
   obtain⟨kd,he,hd⟩:=Xr hlt;have hw1:=XN hlt (by omega);have hk1:k2+1≤3:=by omega
   have hkd:=hLi kd (List.mem_of_getElem? he);have hsp:=prV_in hv (vars.filter fun v=>decide (v.kind=kd)) 1 (fun v h=>(List.mem_filter.1 h).1) (by decide);have hsp':1≤spc vars kd∧spc vars kd≤4097:=hsp;have c:=X9l vars kd hkd hv hl;rw[hd]at hJ2;simp only[X5c]at hJ2;obtain⟨sv,hsv⟩:∃s,spc vars kd=s:=⟨_,rfl⟩;have hbk:badK vars kd=(decide (4096<sv)||(decide (kd=3)&&decide (256<sv))):=by unfold badK;rw[hsv]
   rw[hsv]at c hsp';clear hlt h36 hsp hsv hLi hv;refine X0<|X3<|X0<|X1 ?_;refine Xp [⟨true,.tup [li (if sv≤4096 then sv else 0),li (if sv≤4096 then 0 else 4)],none⟩] ?_ ?_
   · first|exact c _|exact trivial|simpa[*]using c _
   refine X2 ?_;refine(Xb rfl (fun h40=>?_) fun h40=>?_)
   · try simp only[BN]at h40
     have hb:badK vars kd=true:=by
      rw[hbk];by_cases h:sv≤4096
      · simp[h]at h40;simp[h40]
      simp;omega
     rw[if_pos hb]at hJ2;subst hJ2;refine X2 ?_;exact Xf
   try simp only[BN]at h40
   have hb:badK vars kd=false:=by
    rw[hbk];by_cases h:sv≤4096
    · simp[h]at h40;simp;omega
    simp[h]at h40
   rw[hb,if_neg (by decide)]at hJ2;refine X1 ?_;exact⟨k2+1,⟨hk1,hJ2⟩,by omega,X5 (fun n=>n) []⟩
 (try simp only[BN]at h36);have hkl:k2=L.length:=by omega
 rw[hkl,List.drop_length]at hJ2;simp only[X5c]at hJ2;subst hJ2;refine(Xi ?_);refine X2 ?_;exact Xf
end Go.Proofs.YtdajceakaakdoaaGreat

namespace Go.Proofs.YtdajceakaakdoaaGreat
open Go Go.Hl
end Go.Proofs.YtdajceakaakdoaaGreat

namespace Go.Proofs.YtdajceakaakdoaaGreat
open Go Go.Hl
@[simp] theorem take_encH (l:List Ht) (i:Nat):(Xx l).take i=Xx (l.take i):=by simp[Xx]
theorem idxH_con (l:List Ht) (g:FuncId) (cap:List CD) (p:Ht→Bool) (hl:l.length≤1000000000) (hp:∀v∈l,∀d,Con Tryz.prog g true (aH v::cap.map fun c=>.one (.c c)) (.v (lb (p v))) none d) (d:Nat):
  ∃r:Int,(∀d,Con Tryz.prog 141 true [.one (.c (.sl 6 (Xx l))),.one (.c (.fn g cap))] (.v (li r)) none d)∧(0≤r↔l.any p=true):=by
 refine⟨(match l.findIdx? p with|some i=>(i:Int)|none=>-1),fun d=>?_,?_⟩
 · have hstep:∀k:Nat,(∀j:Nat,j<k→∀v,l[j]? =some v→p v=false)→∀v,l[k]? =some v→p v=true→l.findIdx? p=some k:=by
    intro k hno v hv hpv;rw[List.findIdx?_eq_some_iff_getElem];have hk:k<l.length:=(List.getElem?_eq_some_iff.1 hv).1;refine⟨hk,?_,fun j hj=>?_⟩
    · simp only[List.getElem?_eq_getElem hk,Option.some.injEq]at hv;rw[hv];exact hpv
    have:=hno j hj l[j] (by simp);simp[this]
   have hnone:(∀j:Nat,j<l.length→∀v,l[j]? =some v→p v=false)→l.findIdx? p=none:=by
    intro hno;rw[List.findIdx?_eq_none_iff];intro v hv;obtain⟨j,hj⟩:=List.mem_iff_getElem?.1 hv;exact hno j (List.getElem?_eq_some_iff.1 hj).1 v hj
   refine X4 Tryz.func141 ?_;simp only[Tryz.f141];refine X2 ?_;refine X0<|X0<|X1 ?_;refine X3<|(Xe [0,1,7] (fun(x:Nat)=>[(8,.v (li x))]) (fun x=>[]) (fun x=>x≤l.length∧∀j:Nat,j<x→∀v,l[j]? =some v→p v=false) (fun x=>l.length - x) (0:Nat) ⟨Nat.zero_le _,fun j hj=>absurd hj (Nat.not_lt_zero j)⟩ ?_ ?_)
   · exact X5 (fun n=>n) []
   rintro k ⟨hk,hJ⟩;simp only[upS,X6,XL]
   try simp only[X6,KN,Nat.reduceBEq,if_true,if_false,ins,Nat.reduceLT]
   refine X2 ?_;refine X0<|(X9 rfl (fun h4=>Xd ?_) (fun h4=>?_))
   · (try simp only[BN]at h4);have hlt:k<l.length:=by omega
     obtain⟨⟨nm,lo,hi,⟨o,tn,ks⟩⟩,he,hd⟩:=Xr hlt;have hw1:=XN hlt (by omega);have hk1:k+1≤l.length:=hlt;have hpv:=hp _ (List.mem_of_getElem? he);have hs:=hstep k hJ _ he;clear hlt h4 hstep hnone hp;refine X0<|X3<|X0<|X1 ?_;refine Xp [⟨true,.v (lb (p ⟨nm,lo,hi,.mk o tn ks⟩)),none⟩] ?_ ?_
     · first|exact hpv _|exact trivial|simpa[*]using hpv _
     refine(Xb rfl (fun h7=>?_) fun h7=>?_)
     · (try simp only[BN]at h7);rw[hs h7];refine X2 ?_;exact Xf
     (try simp only[BN]at h7);refine X1 ?_;exact⟨k+1,⟨hk1,fun j hj w hw=>(Nat.lt_succ_iff_lt_or_eq.1 hj).elim (fun h=>hJ j h w hw) (fun e=>by subst e;rw[he]at hw;cases hw;exact h7)⟩,by omega,X5 (fun n=>n) []⟩
   (try simp only[BN]at h4);rw[hnone fun j hj=>hJ j (by omega)];refine(Xi ?_);refine X2 ?_;exact Xf
 rw[List.any_eq];cases h:l.findIdx? p with
 | none=>
   rw[List.findIdx?_eq_none_iff]at h;simp only[decide_eq_true_eq];constructor
   · intro h;omega
   rintro⟨v,hv,hpv⟩;have:=h v hv;rw[hpv]at this;cases this
 | some i=>
   rw[List.findIdx?_eq_some_iff_getElem]at h;obtain⟨hi,hpi,_⟩:=h;simp only[decide_eq_true_eq];exact⟨fun _=>⟨l[i],List.getElem_mem _,hpi⟩,fun _=>by omega⟩
theorem conH_con (l:List Ht) (g:FuncId) (cap:List CD) (p:Ht→Bool) (hl:l.length≤1000000000) (hp:∀v∈l,∀d,Con Tryz.prog g true (aH v::cap.map fun c=>.one (.c c)) (.v (lb (p v))) none d) (d:Nat):
  Con Tryz.prog 184 true [.one (.c (.sl 6 (Xx l))),.one (.c (.fn g cap))] (.v (lb (l.any p))) none d:=by
 obtain⟨r,hr,hi⟩:=idxH_con l g cap p hl hp 0;have hd:decide (0≤r)=l.any p:=by rw[Bool.eq_iff_iff,decide_eq_true_eq];exact hi
 clear hi hp;refine X4 Tryz.func184 ?_;simp only[Tryz.f184];refine X2 ?_;refine Xp [⟨true,.v (li r),none⟩] ?_ ?_
 · first|exact hr _|exact trivial|simpa[*]using hr _
 exact Xf
theorem XaB (w v:Ht) (d:Nat):Con Tryz.prog 183 true [aH w,.one (.c (.ptr v.enc))] (.v (lb (decide (w.name=v.name)))) none d:=by
 obtain⟨n1,l1,h1,⟨o1,t1,k1⟩⟩:=w;obtain⟨n2,l2,h2,⟨o2,t2,k2⟩⟩:=v;refine X4 Tryz.func183 ?_;simp only[Tryz.f183];simp only[aH,Ht.enc,Tm.enc,List.cons_append,List.nil_append];refine X2 ?_;refine X2 ?_;exact Xf
def X8e (vars:List Vr) (seen:List Ht) (h:Ht):Int:=
 if X12 h.name=false then 7 else if(seen.any fun w=>decide (w.name=h.name))=true then 8 else if Wo h.low h.high=false then 3 else X2X vars true h.term
def hcs (vars:List Vr):List Ht→List Ht→Int
 |_,[]=>0
 |seen,h::l=>if X8e vars seen h=0 then hcs vars (seen++[h]) l else X8e vars seen h
theorem Xb3 (f:Fl) (hv:X1K f.vars) (hl:f.vars.length≤1000000) (hh:f.hats.length≤1000000) (hn:∀h∈f.hats,h.term.nodes≤1000000000) (d:Nat):
  Con Tryz.prog 116 true [aF f] (.v (li (hcs f.vars [] f.hats))) none d:=by
 obtain⟨vars,hats,body⟩:=f;simp only at hv hl hh hn⊢;obtain⟨res,hres⟩:∃r,hcs vars [] hats=r:=⟨_,rfl⟩;rw[hres];refine X4 Tryz.func116 ?_;simp only[Tryz.f116];simp only[aF,Fl.enc,List.map_cons,List.map_nil];refine X2 ?_;refine X0<|X0<|X1 ?_;refine X3<|(Xe [1,8,9] (fun(x:Nat)=>[(10,.v (li x))]) (fun x=>[(1,.box [.c (.sl 5 (Xt vars)),.c (.sl 6 (Xx hats)),.c (.sl 10 (X7 body))])]) (fun x=>x≤hats.length∧hcs vars (hats.take x) (hats.drop x)=res) (fun x=>hats.length - x) (0:Nat) ⟨Nat.zero_le _,hres⟩ ?_ ?_)
 · exact X5 (fun n=>n) []
 rintro k ⟨hk,hJ⟩;simp only[upS,X6,XL]
 try simp only[X6,KN,Nat.reduceBEq,if_true,if_false,ins,Nat.reduceLT]
 clear hres;refine X2 ?_;refine X0<|(X9 rfl (fun h4=>Xd ?_) (fun h4=>?_))
 · (try simp only[BN]at h4);have hlt:k<hats.length:=by omega
   obtain⟨h,he,hd⟩:=Xr hlt;have hw1:=XN hlt (by omega);have hk1:k+1≤hats.length:=hlt;have hkl:(hats.take k).length≤1000000000:=by rw[List.length_take];omega
   rw[hd]at hJ;simp only[hcs]at hJ;rw[←X3J he]at hJ;have ct:=X5I vars true hv (by omega) h.term (hn h (List.mem_of_getElem? he));have cc:=conH_con (hats.take k) 183 [.ptr h.enc] (fun w=>decide (w.name=h.name)) hkl (fun w _ d=>XaB w h d);obtain⟨nm,lo,hi,⟨o,tn,ks⟩⟩:=h;obtain⟨HC,hHC⟩:∃x,X8e vars (hats.take k) ⟨nm,lo,hi,.mk o tn ks⟩=x:=⟨_,rfl⟩;rw[hHC]at hJ;simp only[X8e]at hHC;simp only[Ht.enc,Tm.enc,List.cons_append,List.nil_append]at cc;simp only at ct;obtain⟨TC,hTC⟩:∃r,X2X vars true (.mk o tn ks)=r:=⟨_,rfl⟩;rw[hTC]at ct hHC;clear hlt h4 hd hn hTC;refine X0<|X3<|X0<|X1 ?_;refine X2 ?_;refine X0<|X3<|X0<|(Xm [⟨true,.v (lb (X12 nm)),none⟩] ?_ ?_)
   · first|exact X1y _ _|exact trivial|simpa[*]using X1y _ _
   refine(X9 rfl (fun h8=>?_) (fun h8=>?_))
   · (try simp only[BN]at h8);rw[if_pos h8]at hHC;subst hHC;rw[if_neg (by decide)]at hJ;subst hJ;refine X2 ?_;exact Xf
   (try simp only[BN]at h8);refine Xp [⟨true,.v (lb ((hats.take k).any fun w=>decide (w.name=nm))),none⟩] ?_ ?_
   · first|exact cc _|exact trivial|simpa[*]using cc _
   refine(X9 rfl (fun h12=>?_) (fun h12=>?_))
   · (try simp only[BN]at h12);rw[if_neg (by simp[h8]),if_pos h12]at hHC;subst hHC;rw[if_neg (by decide)]at hJ;subst hJ;refine X2 ?_;exact Xf
   (try simp only[BN]at h12);refine Xp [⟨true,.v (lb (Wo lo hi)),none⟩] ?_ ?_
   · first|exact Zx _ _ _|exact trivial|simpa[*]using Zx _ _ _
   refine(Xb rfl (fun h16=>?_) fun h16=>?_)
   · (try simp only[BN]at h16);rw[if_neg (by simp[h8]),if_neg (by simp[h12]),if_pos h16]at hHC;subst hHC;rw[if_neg (by decide)]at hJ;subst hJ;refine X2 ?_;exact Xf
   (try simp only[BN]at h16);rw[if_neg (by simp[h8]),if_neg (by simp[h12]),if_neg (by simp[h16])]at hHC;subst hHC;refine Xp [⟨true,.v (li TC),none⟩] ?_ ?_
   · first|exact ct _|exact trivial|simpa[*]using ct _
   refine X2 ?_;refine(Xb rfl (fun h21=>?_) fun h21=>?_)
   · (try simp only[BN]at h21);rw[if_neg h21]at hJ;subst hJ;refine X2 ?_;exact Xf
   (try simp only[BN]at h21);rw[if_pos (by simpa using h21)]at hJ;refine X1 ?_;exact⟨k+1,⟨hk1,hJ⟩,by omega,X5 (fun n=>n) []⟩
 (try simp only[BN]at h4);have hkl:k=hats.length:=by omega
 rw[hkl,List.drop_length]at hJ;simp only[hcs]at hJ;subst hJ;refine(Xi ?_);refine X2 ?_;exact Xf
end Go.Proofs.YtdajceakaakdoaaGreat

namespace Go.Proofs.YtdajceakaakdoaaGreat
open Go Go.Hl
def mSs:List St→Int→Int×Bool→Int×Bool
 |[],_,s=>s
 | .mk _ _ _ _ t a b _::l,dep,s=>
   if((s.2||decide (12<dep))||decide (1024<s.1+1))=true then(s.1+1,s.2||decide (12<dep))
   else mSs l dep (mSs b (dep+1) (mSs a (dep+1) (mTm t 1 (s.1+1,s.2||decide (12<dep)))))
theorem ZI:∀(l:List St) (dep:Int) (s:Int×Bool),s.1≤(mSs l dep s).1∧(mSs l dep s).1≤s.1+Xs l
 |[],dep,s=>by simp[mSs,Xs]
 | .mk d c v n t a b bs::l,dep,s=>by
   simp only[mSs,Xs,St.nodes];have h1:=X0L t 1 (s.1+1,s.2||decide (12<dep));have h2:=ZI a (dep+1) (mTm t 1 (s.1+1,s.2||decide (12<dep)));have h3:=ZI b (dep+1) (mSs a (dep+1) (mTm t 1 (s.1+1,s.2||decide (12<dep))));have h4:=ZI l dep (mSs b (dep+1) (mSs a (dep+1) (mTm t 1 (s.1+1,s.2||decide (12<dep)))));split
   · simp only;omega
   simp only at h1;omega
theorem X94 (l:List St):∀(dep c:Int) (b:Bool),0≤dep→0≤c→c+Xs l≤1000000000→
  X7J Tryz.prog 112 [iC c,bC b] [lS l,li dep] (.tup []) [iC (mSs l dep (c,b)).1,bC (mSs l dep (c,b)).2]:=by
 revert l
 apply St.lists;intro l ih dep c b hdep hc hn;have hlen:=WP l;obtain⟨res,hres⟩:∃r,mSs l dep (c,b)=r:=⟨_,rfl⟩;rw[hres];refine X2y Tryz.func112 rfl (by kernel_rfl) (Nat.le_of_ble_eq_true rfl) ?_;simp only[Tryz.f112];refine X2 ?_;refine X3<|(Xe [0,2,8,9] (fun(x:Nat×Int×Bool)=>[(10,.v (li x.1))]) (fun x=>[(1000000,.box [.c (iC x.2.1),.c (bC x.2.2)])]) (fun x=>x.1≤l.length∧mSs (l.drop x.1) dep x.2=res∧0≤x.2.1∧x.2.1+Xs (l.drop x.1)≤1000000000) (fun x=>l.length - x.1) (0,c,b) ⟨Nat.zero_le _,hres,hc,by simpa using hn⟩ ?_ ?_)
 · exact X5 (fun n=>n) []
 rintro⟨k,m,q⟩ ⟨hk,hJ,hm,hb⟩;simp only[upS,X6,XL]
 try simp only[X6,KN,Nat.reduceBEq,if_true,if_false,ins,Nat.reduceLT]
 simp only at hk hJ hm hb;clear hres;refine X2 ?_;refine X0<|(X9 rfl (fun h3=>Xd ?_) (fun h3=>?_))
 · (try simp only[BN]at h3);have hlt:k<l.length:=by omega
   obtain⟨s,he,hd⟩:=Xr hlt;have hmem:s∈l:=List.mem_of_getElem? he;have iha:=(ih s hmem).1;have ihb:=(ih s hmem).2;have hw1:=XN hlt (by omega);have hk1:k+1≤l.length:=hlt;rw[hd]at hJ hb;obtain⟨sd,sc,sv,sn,⟨so,stn,sks⟩,sa,sb,sbs⟩:=s;simp only[St.then_,St.else_]at iha ihb;simp only[mSs]at hJ;simp only[Xs,St.nodes]at hb;have he':=Qy he;simp only[St.enc,Tm.enc,List.cons_append,List.nil_append]at he';have hw2:IntKind.i64.wrap (m+1)=m+1:=Xc (by omega) (by omega);clear hlt h3 ih hmem hd he;refine X0<|X3<|X0<|X1 ?_;refine X2 ?_;refine X2 ?_;refine X0<|X0<|(Xm [⟨true,.v (lb ((q||decide (12<dep))||decide (1024<m+1))),none⟩] ?_ ?_)
   · first|exact WR _ _ _|exact trivial|simpa[*]using WR _ _ _
   refine(Xb rfl (fun h8=>?_) fun h8=>?_)
   · (try simp only[BN]at h8);rw[if_pos (by simpa using h8)]at hJ;subst hJ;exact Qf (⟨.inr rfl,_,le_refl _,⟨_,by simp[*];rfl,by simp[XY]⟩,by simp[*]⟩)
   (try simp only[BN]at h8);rw[if_neg (by simpa using h8)]at hJ;have hq0:q=false:=h8.1.1;have hdep2:dep≤12:=by omega
   have hwd:IntKind.i64.wrap (dep+1)=dep+1:=Xc (by omega) (by omega);have hqd:(q||decide (12<dep))=false:=by rw[hq0];simp;omega
   rw[hqd]at hJ;have e1:=X0L (.mk so stn sks) 1 (m+1,false);obtain⟨p1,hp1⟩:∃p,mTm (.mk so stn sks) 1 (m+1,false)=p:=⟨_,rfl⟩;have cio1:=X66 (.mk so stn sks) 1 (m+1) false (by omega) (by omega) (by omega);rw[hp1]at cio1 e1 hJ;obtain⟨c1,b1⟩:=p1;simp only at cio1 e1;have e2:=ZI sa (dep+1) (c1,b1);have cio2:=iha (dep+1) c1 b1 (by omega) (by omega) (by omega);obtain⟨p2,hp2⟩:∃p,mSs sa (dep+1) (c1,b1)=p:=⟨_,rfl⟩;rw[hp2]at cio2 e2 hJ;obtain⟨c2,b2⟩:=p2;simp only at cio2 e2;have e3:=ZI sb (dep+1) (c2,b2);have cio3:=ihb (dep+1) c2 b2 (by omega) (by omega) (by omega);obtain⟨p3,hp3⟩:∃p,mSs sb (dep+1) (c2,b2)=p:=⟨_,rfl⟩;rw[hp3]at cio3 e3 hJ;obtain⟨c3,b3⟩:=p3;simp only at cio3 e3;clear iha ihb hp1 hp2 hp3 h8 hqd;refine X0<|(X0t 3 (.tup []) ([iC c1,bC b1]) rfl (by simp[*];rfl) (by simp[ioOf, *];first|exact⟨rfl,rfl,rfl,rfl,rfl⟩|exact⟨rfl,rfl,rfl,rfl⟩|exact⟨rfl,rfl,rfl⟩|exact⟨rfl,rfl⟩|rfl) (cio1) (by simp) (by simp[*];rfl) ?_);refine X0<|(X0t 5 (.tup []) ([iC c2,bC b2]) rfl (by simp[*];rfl) (by simp[ioOf, *];first|exact⟨rfl,rfl,rfl,rfl,rfl⟩|exact⟨rfl,rfl,rfl,rfl⟩|exact⟨rfl,rfl,rfl⟩|exact⟨rfl,rfl⟩|rfl) (cio2) (by simp) (by simp[*];rfl) ?_);refine(X0t 5 (.tup []) ([iC c3,bC b3]) rfl (by simp[*];rfl) (by simp[ioOf, *];first|exact⟨rfl,rfl,rfl,rfl,rfl⟩|exact⟨rfl,rfl,rfl,rfl⟩|exact⟨rfl,rfl,rfl⟩|exact⟨rfl,rfl⟩|rfl) (cio3) (by simp) (by simp[*];rfl) ?_);refine X1 ?_;exact⟨(k+1,c3,b3),⟨hk1,hJ,by simp only;omega,by simp only;omega⟩,by simp only;omega,X5 (fun n=>n) []⟩
 (try simp only[BN]at h3);have hkl:k=l.length:=by omega
 subst hkl;rw[List.drop_length]at hJ;simp only[mSs]at hJ;subst hJ;refine(Xi ?_);exact(⟨.inl rfl,_,le_refl _,⟨_,by simp[*];rfl,by simp[XY]⟩,by simp[*]⟩)
def QU (s:Int×Bool):Bool:=s.2||decide (1024<s.1)
theorem X3n {s:Int×Bool} (h:QU s=false):s.2=false∧s.1≤1024:=by
 simp only[QU,Bool.or_eq_false_iff,decide_eq_false_iff_not]at h;exact⟨h.1,by omega⟩
mutual
theorem mTm_over:∀(t:Tm) (dep:Int) (s:Int×Bool),0≤s.1→QU s=true→QU (mTm t dep s)=true
 | .mk o n ks,dep,s,h0,h=>by
   have h1:QU (s.1+1,s.2||decide (12<dep))=true:=by
    simp only[QU,Bool.or_eq_true,decide_eq_true_eq]at h⊢;rcases h with h|h
    · exact .inl (.inl h)
    exact .inr (by omega)
   simp only[mTm];split
   · exact h1
   exact X3w ks (dep+1) _ (by simp only;omega) h1
theorem X3w:∀(l:List Tm) (dep:Int) (s:Int×Bool),0≤s.1→QU s=true→QU (X2U l dep s)=true
 |[],dep,s,_,h=>h
 |t::l,dep,s,h0,h=>X3w l dep _ (Int.le_trans h0 (X0L t dep s).1) (mTm_over t dep s h0 h)
end
mutual
theorem X6V:∀(t:Tm) (dep:Int) (s:Int×Bool),0≤s.1→dep≤13→QU s=false→
  (s.1+t.nodes≤1024∧dep+tdT t≤13→mTm t dep s=(s.1+t.nodes,false))∧(¬(s.1+t.nodes≤1024∧dep+tdT t≤13)→QU (mTm t dep s)=true)
 | .mk o n ks,dep,s,h0,hd,h=>by
   obtain⟨h1,h2⟩:=X3n h;simp only[mTm,Tm.nodes,tdT,h1,Bool.false_or];by_cases hc:(decide (12<dep)||decide (1024<s.1+1))=true
   · rw[if_pos hc];simp only[Bool.or_eq_true,decide_eq_true_eq]at hc;refine⟨fun hf=>by omega,fun _=>?_⟩;simp only[QU,Bool.or_eq_true,decide_eq_true_eq];omega
   rw[if_neg hc];simp only[Bool.or_eq_true,decide_eq_true_eq,not_or]at hc;have hdd:decide (12<dep)=false:=decide_eq_false hc.1;rw[hdd];have hov:QU (s.1+1,false)=false:=by simp only[QU,Bool.false_or,decide_eq_false_iff_not];omega
   have:=X8m ks (dep+1) (s.1+1,false) (by simp only;omega) (by omega) hov;simp only at this;refine⟨fun hf=>?_,fun hf=>this.2 (by omega)⟩;rw[this.1 (by omega)];simp only[Prod.mk.injEq,and_true];omega
theorem X8m:∀(l:List Tm) (dep:Int) (s:Int×Bool),0≤s.1→dep≤13→QU s=false→
  (s.1+QA l≤1024∧dep+tdTs l≤13→X2U l dep s=(s.1+QA l,false))∧(¬(s.1+QA l≤1024∧dep+tdTs l≤13)→QU (X2U l dep s)=true)
 | [],dep,s,h0,hd,h=>by
   obtain⟨h1,h2⟩:=X3n h;obtain⟨c,b⟩:=s;simp only at h1 h2;subst h1;simp only[X2U,QA,tdTs];refine⟨fun _=>by simp,fun hf=>by omega⟩
 | t ::l,dep,s,h0,hd,h=>by
   simp only[X2U,QA,tdTs];have ht:=X6V t dep s h0 hd h;by_cases hf:s.1+t.nodes≤1024∧dep+tdT t≤13
   · rw[ht.1 hf];have hov:QU (s.1+t.nodes,false)=false:=by simp only[QU,Bool.false_or,decide_eq_false_iff_not];omega
     have hl:=X8m l dep (s.1+t.nodes,false) (by simp only;omega) hd hov;simp only at hl;refine⟨fun h2=>?_,fun h2=>hl.2 (by omega)⟩;rw[hl.1 (by omega)];simp only[Prod.mk.injEq,and_true];omega
   refine⟨fun h2=>by omega,fun _=>X3w l dep _ (Int.le_trans h0 (X0L t dep s).1) (ht.2 hf)⟩
end
theorem X0p:∀(l:List St) (dep:Int) (s:Int×Bool),0≤s.1→QU s=true→QU (mSs l dep s)=true
 |[],dep,s,_,h=>by simp only[mSs];exact h
 | .mk d c v n t a b bs::l,dep,s,h0,h=>by
   have h1:QU (s.1+1,s.2||decide (12<dep))=true:=by
    simp only[QU,Bool.or_eq_true,decide_eq_true_eq]at h⊢;rcases h with h|h
    · exact .inl (.inl h)
    exact .inr (by omega)
   simp only[mSs];split
   · exact h1
   rename_i hc;exact absurd h1 hc
theorem X4f:∀(l:List St) (dep:Int) (s:Int×Bool),0≤s.1→dep≤13→QU s=false→
  (s.1+Xs l≤1024∧dep+sdL l≤13∧ZX l=false→mSs l dep s=(s.1+Xs l,false))∧(¬(s.1+Xs l≤1024∧dep+sdL l≤13∧ZX l=false)→QU (mSs l dep s)=true)
 | [],dep,s,h0,hd,h=>by
   obtain⟨h1,h2⟩:=X3n h;obtain⟨c,b⟩:=s;simp only at h1 h2;subst h1;simp only[mSs,Xs,sdL,ZX];refine⟨fun _=>by simp,fun hf=>absurd ⟨by omega,by omega,trivial⟩ hf⟩
 | .mk d c v n t a b bs::l,dep,s,h0,hd,h=>by
   obtain⟨h1,h2⟩:=X3n h;simp only[mSs,Xs,St.nodes,sdL,ZX,h1,Bool.false_or,Bool.or_eq_false_iff,decide_eq_false_iff_not];by_cases hc:(decide (12<dep)||decide (1024<s.1+1))=true
   · rw[if_pos hc];simp only[Bool.or_eq_true,decide_eq_true_eq]at hc;refine⟨fun hf=>by omega,fun _=>?_⟩;simp only[QU,Bool.or_eq_true,decide_eq_true_eq];omega
   rw[if_neg hc];simp only[Bool.or_eq_true,decide_eq_true_eq,not_or]at hc;have hdd:decide (12<dep)=false:=decide_eq_false hc.1;rw[hdd]
   have ov:∀x:Int,x≤1024→QU (x,false)=false:=by
    intro x hx;simp only[QU,Bool.false_or,decide_eq_false_iff_not];omega
   have ht:=X6V t 1 (s.1+1,false) (by simp only;omega) (by omega) (ov _ (by omega));have g1:=(X0L t 1 (s.1+1,false)).1;have g2:=(ZI a (dep+1) (mTm t 1 (s.1+1,false))).1;have g3:=(ZI b (dep+1) (mSs a (dep+1) (mTm t 1 (s.1+1,false)))).1;simp only at ht g1;by_cases f1:s.1+1+t.nodes≤1024∧1+(tdT t:Int)≤13
   · rw[ht.1 f1];have ha:=X4f a (dep+1) (s.1+1+t.nodes,false) (by simp only;omega) (by omega) (ov _ (by omega));simp only at ha;by_cases f2:s.1+1+t.nodes+Xs a≤1024∧dep+1+sdL a≤13∧ZX a=false
     · rw[ha.1 f2];have hb:=X4f b (dep+1) (s.1+1+t.nodes+Xs a,false) (by simp only;omega) (by omega) (ov _ (by omega));simp only at hb;by_cases f3:s.1+1+t.nodes+Xs a+Xs b≤1024∧dep+1+sdL b≤13∧ZX b=false
       · rw[hb.1 f3];have hl:=X4f l dep (s.1+1+t.nodes+Xs a+Xs b,false) (by simp only;omega) hd (ov _ (by omega));simp only at hl;refine⟨fun hf=>?_,fun hf=>hl.2 fun h4=>hf ⟨by omega,by omega,⟨⟨by omega,f2.2.2⟩,f3.2.2⟩,h4.2.2⟩⟩;rw[hl.1 ⟨by omega,by omega,hf.2.2.2⟩];simp only[Prod.mk.injEq,and_true];omega
       refine⟨fun hf=>absurd ⟨by omega,by omega,hf.2.2.1.2⟩ f3,fun _=>X0p l dep _ ?_ (hb.2 f3)⟩;have:=(ZI b (dep+1) (s.1+1+t.nodes+Xs a,false)).1;simp only at this;omega
     refine⟨fun hf=>absurd ⟨by omega,by omega,hf.2.2.1.1.2⟩ f2,fun _=>?_⟩;have q1:=(ZI a (dep+1) (s.1+1+t.nodes,false)).1;have q2:=(ZI b (dep+1) (mSs a (dep+1) (s.1+1+t.nodes,false))).1;simp only at q1;exact X0p l dep _ (by omega) (X0p b (dep+1) _ (by omega) (ha.2 f2))
   refine⟨fun hf=>absurd ⟨by omega,by omega⟩ f1,fun _=>?_⟩;exact X0p l dep _ (by omega) (X0p b (dep+1) _ (by omega) (X0p a (dep+1) _ (by omega) (ht.2 f1)))
end Go.Proofs.YtdajceakaakdoaaGreat
