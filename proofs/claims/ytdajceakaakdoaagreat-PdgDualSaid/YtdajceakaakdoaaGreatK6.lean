/- Part 6: contracts of functions of the program and of the reference, and plain facts about what they compute; used by the proof of the claimed statement. Conditions: as each theorem states. -/
import Derived.Test.YtdajceakaakdoaaGreatK2
import Derived.Test.YtdajceakaakdoaaGreatK1
import Derived.Test.YtdajceakaakdoaaGreatK4
import Derived.Test.YtdajceakaakdoaaGreatHmZD
set_option linter.unusedSimpArgs false
set_option linter.unusedVariables false
set_option linter.unnecessarySimpa false
set_option maxRecDepth 100000
set_option maxHeartbeats 2000000
namespace Go.Proofs.YtdajceakaakdoaaGreat
open Go Go.Hl
def stC (vars:List Vr) (nh:Nat) (d c v n:Int) (t:Tm) (la lc:Nat) (bs:List Int) (last:Bool):Int:=
 if shB vars nh d v n t la lc bs last=false then 1 else if X44 d c n bs=false then 3 else X2X vars false t
def ssC (vars:List Vr) (nh:Nat):List St→Bool→Int
 |[],_=>0
 | .mk d c v n t a b bs::l,top=>
   if stC vars nh d c v n t a.length b.length bs (top&&l.isEmpty)=0 then
    (if ssC vars nh a false=0 then(if ssC vars nh b false=0 then ssC vars nh l top else ssC vars nh b false)else ssC vars nh a false)
   else stC vars nh d c v n t a.length b.length bs (top&&l.isEmpty)
mutual
def X4c:St→Bool
 | .mk _ _ _ _ _ a b bs=>decide (bs.length≤1000000000)&&(Zv a&&Zv b)
def Zv:List St→Bool
 |[]=>true
 |s::l=>X4c s&&Zv l
end
theorem X7U {l:List St} (h:Zv l=true) {s:St} (hs:s∈l):X4c s=true:=by
 induction l with
 |nil=>cases hs
 | cons x l ih=>
   simp only[Zv,Bool.and_eq_true]at h;rcases List.mem_cons.1 hs with rfl|h1
   · exact h.1
   exact ih h.2 h1
theorem Xau {vars:List Vr} {nh:Nat} {d v n:Int} {t:Tm} {la lc:Nat} {bs:List Int} {last:Bool} (h:shB vars nh d v n t la lc bs last=true):(d=6→bs≠[])∧(d≠6→bs=[])∧(n<0→d=4):=by
 have hr:X1P bs=true→1≤bs.length:=by
  intro h;unfold X1P at h;simp only[Bool.and_eq_true,decide_eq_true_eq]at h;omega
 have hb:bs≠[]↔1≤bs.length:=by cases bs<;>simp
 have hb2:bs=[]↔bs.length=0:=by cases bs<;>simp
 rw[hb,hb2];unfold shB at h;generalize X1P bs=R at*;generalize bs.length=nb at*
 (repeat' split at h)<;>(try simp only[Bool.and_eq_true,decide_eq_true_eq]at h)<;>(try have:=hr h.2)<;>(try cases h)<;>refine⟨fun h=>?_,fun h=>?_,fun h=>?_⟩<;>omega
theorem Xar {l:List St} {k:Nat} (h:k+1≤l.length):(l.drop (k+1)).isEmpty=decide ((k:Int)=(l.length:Int) - 1):=by
 rw[Bool.eq_iff_iff,List.isEmpty_iff,List.drop_eq_nil_iff,decide_eq_true_eq];omega
def fnz (vars:List Vr) (nh:Nat):List (List St)→Int
 |[]=>0
 |x::r=>if ssC vars nh x false=0 then fnz vars nh r else ssC vars nh x false
theorem X99 (f:Fl) (hv:X1K f.vars) (hl:f.vars.length≤1000000) (l:List St):Xs l≤1000000000→Zv l=true→∀(top:Bool) (d:Nat),
  Con Tryz.prog 117 true [aF f,lS l,lb top] (.v (li (ssC f.vars f.hats.length l top))) none d:=by
 revert l
 apply St.lists;intro l ih hn hbn top d;have hlen:=WP l;obtain⟨res,hres⟩:∃r,ssC f.vars f.hats.length l top=r:=⟨_,rfl⟩;rw[hres];have csh:=fun s last hb=>X81 f s last (by omega) hb;obtain⟨vars,hats,body⟩:=f;simp only at hv hl hres ih csh;refine X4 Tryz.func117 ?_;simp only[Tryz.f117];simp only[aF,Fl.enc,List.map_cons,List.map_nil];refine X2 ?_;refine X0<|X0<|X1 ?_;refine X3<|(Xe [1,2,3,13,14] (fun(x:Nat)=>[(15,.v (li x))]) (fun x=>[(3,.box [.c (.sl 5 (Xt vars)),.c (.sl 6 (Xx hats)),.c (.sl 10 (X7 body))])]) (fun x=>x≤l.length∧ssC vars hats.length (l.drop x) top=res) (fun x=>l.length - x) (0:Nat) ⟨Nat.zero_le _,hres⟩ ?_ ?_)
 · exact X5 (fun n=>n) []
 rintro k ⟨hk,hJ⟩;simp only[upS,X6,XL]
 try simp only[X6,KN,Nat.reduceBEq,if_true,if_false,ins,Nat.reduceLT]
 clear hres;refine X2 ?_;refine X0<|(X9 rfl (fun h4=>Xd ?_) (fun h4=>?_))
 · (try simp only[BN]at h4);have hlt:k<l.length:=by omega
   obtain⟨s,he,hd⟩:=Xr hlt;have hmem:s∈l:=List.mem_of_getElem? he;have hnm:=ZF hmem;have hbm:=X7U hbn hmem;have iha:=fun h h2=>(ih s hmem).1 h h2;have ihb:=fun h h2=>(ih s hmem).2 h h2;have hw1:=XN hlt (by omega);have hw2:IntKind.i64.wrap ((l.length:Int) - 1)=(l.length:Int) - 1:=Xc (by omega) (by omega);have hk1:k+1≤l.length:=hlt;have hla:=Xar hk1;rw[hd]at hJ;have ct:=X5I vars false hv (by omega) s.term;have csh1:=csh s (top&&decide ((k:Int)=(l.length:Int) - 1));have cnu:=numP_con s;obtain⟨sd,sc,sv,sn,⟨so,stn,sks⟩,sa,sb,sbs⟩:=s;simp only[St.then_,St.else_,St.term,St.bounds,St.do_,St.var,St.n,St.cost]at iha ihb hnm ct csh1 cnu;simp only[X4c,Bool.and_eq_true,decide_eq_true_eq]at hbm;simp only[ssC,hla]at hJ;have ca:=iha (by omega) hbm.2.1;have cb:=ihb (by omega) hbm.2.2;have ct:=ct (by omega);have csh1:=csh1 hbm.1;have cnu:=cnu hbm.1;have he':=Qy he;simp only[St.enc,Tm.enc,List.cons_append,List.nil_append]at he';simp only[aF,Fl.enc,aS,St.enc,Tm.enc,List.map_cons,List.map_nil,List.cons_append,List.nil_append]at csh1 ca cb cnu;have hshb:=@Xau vars hats.length sd sv sn (.mk so stn sks) sa.length sb.length sbs (top&&decide ((k:Int)=(l.length:Int) - 1));obtain⟨SH,hSH⟩:∃x,shB vars hats.length sd sv sn (.mk so stn sks) sa.length sb.length sbs (top&&decide ((k:Int)=(l.length:Int) - 1))=x:=⟨_,rfl⟩;obtain⟨NU,hNU⟩:∃x,X44 sd sc sn sbs=x:=⟨_,rfl⟩;obtain⟨TC,hTC⟩:∃x,X2X vars false (.mk so stn sks)=x:=⟨_,rfl⟩;obtain⟨SC,hSC⟩:∃x,stC vars hats.length sd sc sv sn (.mk so stn sks) sa.length sb.length sbs (top&&decide ((k:Int)=(l.length:Int) - 1))=x:=⟨_,rfl⟩;rw[hSC]at hJ;unfold stC at hSC;rw[hSH]at csh1 hshb hSC;rw[hNU]at cnu hSC;rw[hTC]at ct hSC
   have hlc2:∀x∈[sa,sb],∀d,Con Tryz.prog 117 true [.agg [.c (.sl 5 (Xt vars)),.c (.sl 6 (Xx hats)),.c (.sl 10 (X7 body))],lS x,lb false] (.v (li (ssC vars hats.length x false))) none d:=by
    intro x hx;simp only[List.mem_cons,List.not_mem_nil,or_false]at hx;rcases hx with rfl|rfl
    · exact ca false
    exact cb false
   have hfn:(if ssC vars hats.length sa false=0 then(if ssC vars hats.length sb false=0 then ssC vars hats.length (l.drop (k+1)) top else ssC vars hats.length sb false)else ssC vars hats.length sa false)=(if fnz vars hats.length [sa,sb]=0 then ssC vars hats.length (l.drop (k+1)) top else fnz vars hats.length [sa,sb]):=by
    simp only[fnz];by_cases h1:ssC vars hats.length sa false=0<;>by_cases h2:ssC vars hats.length sb false=0<;>simp[h1,h2]
   rw[hfn]at hJ;obtain⟨LL,hLL⟩:∃x,x=[sa,sb]:=⟨_,rfl⟩;rw[←hLL]at hJ hlc2;obtain⟨FN,hFN⟩:∃x,fnz vars hats.length LL=x:=⟨_,rfl⟩;rw[hFN]at hJ;have hrows:LL.map (fun x=>[CD.sl 10 (X7 x)])=[[.sl 10 (X7 sa)],[.sl 10 (X7 sb)]]:=by rw[hLL];rfl
   have hL2:LL.length=2:=by rw[hLL];rfl
   clear hlt h4 iha ihb ih hmem hnm hd he hbm hSH hNU hTC ca cb hfn hLL csh hla;refine X0<|X3<|X0<|X1 ?_;refine X0<|X0<|(Xm [⟨true,.v (lb SH),none⟩] ?_ ?_)
   · first|exact csh1 _|exact trivial|simpa[*]using csh1 _
   refine(Xb rfl (fun h7=>?_) fun h7=>?_)
   · (try simp only[BN]at h7);rw[if_pos h7]at hSC;subst hSC;rw[if_neg (by decide)]at hJ;subst hJ;refine X2 ?_;exact Xf
   (try simp only[BN]at h7);rw[if_neg (by simp[h7])]at hSC;have hsb:=hshb h7;have cnu2:=cnu hsb.1 hsb.2.1;clear cnu hshb csh1;refine X0<|X0<|(Xm [⟨true,.v (lb NU),none⟩] ?_ ?_)
   · first|exact cnu2 _|exact trivial|simpa[*]using cnu2 _
   refine(Xb rfl (fun h11=>?_) fun h11=>?_)
   · (try simp only[BN]at h11);rw[if_pos h11]at hSC;subst hSC;rw[if_neg (by decide)]at hJ;subst hJ;refine X2 ?_;exact Xf
   (try simp only[BN]at h11);rw[if_neg (by simp[h11])]at hSC;subst hSC;clear cnu2 hsb;refine X0<|X0<|(Xm [⟨true,.v (li TC),none⟩] ?_ ?_)
   · first|exact ct _|exact trivial|simpa[*]using ct _
   refine X2 ?_;refine(Xb rfl (fun h16=>?_) fun h16=>?_)
   · (try simp only[BN]at h16);rw[if_neg h16]at hJ;subst hJ;refine X2 ?_;exact Xf
   (try simp only[BN]at h16);rw[if_pos (by simpa using h16)]at hJ;clear ct;refine X2 ?_;refine X3<|(Xe [1,2,3,13,14,15,47,48] (fun(x:Nat)=>[(49,.v (li x))]) (fun x=>[(3,.box [.c (.sl 5 (Xt vars)),.c (.sl 6 (Xx hats)),.c (.sl 10 (X7 body))]),(47,.row 24 1 (LL.map fun x=>[CD.sl 10 (X7 x)]))]) (fun x=>x≤2∧fnz vars hats.length (LL.drop x)=FN) (fun x=>2 - x) (0:Nat) ⟨Nat.zero_le _,hFN⟩ ?_ ?_)
   · exact X5 (fun n=>n) []
   rintro q ⟨hq,hJ2⟩;simp only[upS,X6,XL]
   try simp only[X6,KN,Nat.reduceBEq,if_true,if_false,ins,Nat.reduceLT]
   clear hFN hrows;refine X2 ?_;refine X0<|(X9 rfl (fun h22=>Xd ?_) (fun h22=>?_))
   · (try simp only[BN]at h22);have hlt2:q<LL.length:=by omega
     obtain⟨y,hy,hdy⟩:=Xr hlt2;have hwq:=XN hlt2 (by omega);have hq1:q+1≤2:=by omega
     have cy:=hlc2 y (List.mem_of_getElem? hy);rw[hdy]at hJ2;simp only[fnz]at hJ2;generalize ssC vars hats.length y false=SY at*;clear hlt2 h22 hdy hlc2;refine X0<|X3<|X0<|X1 ?_;refine Xp [⟨true,.v (li SY),none⟩] ?_ ?_
     · first|exact cy _|exact trivial|simpa[*]using cy _
     refine X2 ?_;refine(Xb rfl (fun h26=>?_) fun h26=>?_)
     · (try simp only[BN]at h26);rw[if_neg h26]at hJ2;subst hJ2;rw[if_neg h26]at hJ;subst hJ;refine X2 ?_;exact Xf
     (try simp only[BN]at h26);rw[if_pos (by simpa using h26)]at hJ2;refine X1 ?_;exact⟨q+1,⟨hq1,hJ2⟩,by omega,X5 (fun n=>n) []⟩
   (try simp only[BN]at h22);have hq2:q=LL.length:=by omega
   rw[hq2,List.drop_length]at hJ2;simp only[fnz]at hJ2;rw[if_pos hJ2.symm]at hJ;refine(Xi ?_);refine X1 ?_;exact⟨k+1,⟨hk1,hJ⟩,by omega,X5 (fun n=>n) []⟩
 (try simp only[BN]at h4);have hkl:k=l.length:=by omega
 rw[hkl,List.drop_length]at hJ;simp only[ssC]at hJ;subst hJ;refine(Xi ?_);refine X2 ?_;exact Xf
end Go.Proofs.YtdajceakaakdoaaGreat

namespace Go.Proofs.YtdajceakaakdoaaGreat
open Go Go.Hl
end Go.Proofs.YtdajceakaakdoaaGreat

namespace Go.Proofs.YtdajceakaakdoaaGreat
open Go Go.Hl
def X7Y (vs:List Int) (l:List Ht):List Int:=l.map fun h=>QO (vT vs h.term) h.low h.high
end Go.Proofs.YtdajceakaakdoaaGreat

namespace Go.Proofs.YtdajceakaakdoaaGreat
open Go Go.Hl
@[simp] theorem encI_app (a b:List Int):Xg (a++b)=Xg a++Xg b:=by simp[Xg]
@[simp] theorem encI_one (x:Int):Xg [x]=[[iC x]]:=rfl
structure Inp where
 s:List Int
 p:List Int
 r:List Int
structure Pk where
 n:Int
 is_:Bool
 a:Nat
 b:Nat
 c:Nat
end Go.Proofs.YtdajceakaakdoaaGreat

namespace Go.Proofs.YtdajceakaakdoaaGreat
open Go Go.Hl
structure Sta where
 vals:List Int
 outs:List Int
 time:Int
def tick (s:Sta) (c:Int):Sta:=⟨s.vals,s.outs,wr (s.time+c)⟩
mutual
def wfS (vars:List Vr) (nh:Nat):St→Bool
 | .mk d _ v n t a b bs=>Wq vars false t&&((decide (d≠0∧d≠5)||Wy vars v)&&((decide (d≠5)||(decide (0≤n)&&decide (n<nh)))&&((decide (d≠4)||decide (n≤4096))&&(decide (bs.length≤1000000000)&&(wfL vars nh a&&wfL vars nh b)))))
def wfL (vars:List Vr) (nh:Nat):List St→Bool
 |[]=>true
 |s::l=>wfS vars nh s&&wfL vars nh l
end
mutual
def oUS:St→Nat
 | .mk d _ _ n _ a b _=>if d=4 then n.toNat*oUL a else if d=3 then max (oUL a) (oUL b)else if d=1 then 1 else 0
def oUL:List St→Nat
 |[]=>0
 |s::l=>oUS s+oUL l
end
end Go.Proofs.YtdajceakaakdoaaGreat

namespace Go.Proofs.YtdajceakaakdoaaGreat
open Go Go.Hl
theorem X5A {vars:List Vr} {v:Int} (h:Wy vars v=true):0≤v∧∃w,vars[v.toNat]? =some w:=by
 unfold Wy at h;simp only[Bool.and_eq_true,decide_eq_true_eq]at h;refine⟨h.1,?_⟩;have h2:=h.2;split at h2
 · exact⟨_,by assumption⟩
 cases h2
end Go.Proofs.YtdajceakaakdoaaGreat

namespace Go.Proofs.YtdajceakaakdoaaGreat
open Go Go.Hl
end Go.Proofs.YtdajceakaakdoaaGreat

namespace Go.Proofs.YtdajceakaakdoaaGreat
open Go Go.Hl
attribute [simp] Ob.flat
end Go.Proofs.YtdajceakaakdoaaGreat

namespace Go.Proofs.YtdajceakaakdoaaGreat
open Go Go.Hl
def waitL (n:Int):List St:=if n=0 then [] else [.mk 2 n 0 0 (.mk 0 0 []) [] [] []]
def posI (n:Int):Int:=if 0<n then n else 0
def balS:St→St
 | .mk d c v n t a b bs=>
   if d=3 then .mk d c v n t (a++waitL (posI ((spL b (0,0)).1 - (spL a (0,0)).1))) (b++waitL (posI ((spL a (0,0)).1 - (spL b (0,0)).1))) bs
   else if d=4∧t.op≠0 then .mk d c v n (.mk 0 1 []) [.mk 3 0 0 0 t a (waitL (spL a (0,0)).1) []] b bs
   else .mk d c v n t a b bs
end Go.Proofs.YtdajceakaakdoaaGreat

namespace Go.Hl
open Go Go.RowKit
theorem pin_mk {objs:List (Nat×Ob)} (h:(objs.all fun p=>match p.2 with| .box _=>decide (1000000≤p.1)|_=>true)=true) (n:Nat) (cs:List CV) (hl:lkp objs n=some (.box cs)):1000000≤n:=by
 rw[List.all_eq_true]at h;have:=h _ (Xv hl);simpa using this
theorem HT_endS {P:Program} {rs:List ResultVar} {s:HS} {r:RV} {objs':List (Nat×Ob)} {ts:List TV} (hr:X2Y P s rs=some ts) (he:r=XY ts) (ho:∀p∈objs',lkp s.objs p.1=some p.2):
  ∃s2,le s s2∧(∃ts,X2Y P s2 rs=some ts∧r=XY ts)∧∀n o,lkp objs' n=some o→lkp s2.objs n=some o:=
 ⟨s,le_refl s,⟨ts,hr,he⟩,fun n o h=>ho _ (Xv h)⟩
attribute [simp] Q7 okTV X33 QB WI rbB
end Go.Hl
namespace Go.Proofs.YtdajceakaakdoaaGreat
open Go Go.Hl
end Go.Proofs.YtdajceakaakdoaaGreat

namespace Go.Proofs.YtdajceakaakdoaaGreat
open Go Go.Hl
theorem eqG2 (a b:List Int) (h:a.length=b.length) (hall:∀k:Nat,k<a.length→a[k]? =b[k]?):a=b:=by
 apply List.ext_getElem?;intro k;by_cases hk:k<a.length
 · exact hall k hk
 rw[List.getElem?_eq_none (by omega),List.getElem?_eq_none (by omega)]
theorem eqSl_con (a b:List Int) (ha:a.length≤1000000000) (hb:b.length≤1000000000) (d:Nat):Con Tryz.prog 19 true [lI a,lI b] (.v (lb (decide (a=b)))) none d:=by
 obtain⟨res,hres⟩:∃r,decide (a=b)=r:=⟨_,rfl⟩;rw[hres];refine X4 Tryz.func19 ?_;simp only[Tryz.f19];refine X2 ?_;refine X0<|X0<|X1 ?_;refine(Xb rfl (fun h2=>?_) fun h2=>?_)
 · try simp only[BN]at h2
   have hz:res=false:=by
    rw[←hres,decide_eq_false_iff_not];intro h;subst h;simp at h2
   subst hz;refine X2 ?_;exact Xf
 (try simp only[BN]at h2);have hle:a.length=b.length:=by omega
 clear h2;refine X0<|X0<|X1 ?_;refine X3<|(Xe [0,1,12] (fun(z:Nat)=>[(13,.v (li z))]) (fun z=>[]) (fun z=>z≤a.length∧∀k:Nat,k<z→a[k]? =b[k]?) (fun z=>a.length - z) (0:Nat) ⟨Nat.zero_le _,fun k hk=>absurd hk (Nat.not_lt_zero k)⟩ ?_ ?_)
 · exact X5 (fun n=>n) []
 rintro k ⟨hk,hall⟩;simp only[upS,X6,XL]
 try simp only[X6,KN,Nat.reduceBEq,if_true,if_false,ins,Nat.reduceLT]
 refine X2 ?_;refine X0<|(X9 rfl (fun h8=>Xd ?_) (fun h8=>?_))
 · (try simp only[BN]at h8);have hlt:k<a.length:=by omega
   obtain⟨x,he,_⟩:=Xr hlt;obtain⟨y,hey,_⟩:=Xr (show k<b.length by omega);have hw1:=XN hlt (by omega);have hk1:k+1≤a.length:=hlt;clear hlt h8;refine X0<|X3<|X0<|X1 ?_;refine X0<|(QH (by kernel_rfl) (by kernel_rfl) (by rfl) (by simp[*];rfl) ?_);refine(Xb rfl (fun h11=>?_) fun h11=>?_)
   · try simp only[BN]at h11
     have hz:res=false:=by
      rw[←hres,decide_eq_false_iff_not];intro h;subst h;rw[he]at hey;cases hey;simp at h11
     subst hz;refine X2 ?_;exact Xf
   (try simp only[BN]at h11);refine X1 ?_
   exact⟨k+1,⟨hk1,fun j hj=>by
    rcases Nat.lt_or_eq_of_le (Nat.le_of_lt_succ hj)with h|h
    · exact hall j h
    rw[h,he,hey];have:x=y:=by simpa using h11
    rw[this]⟩,by omega,X5 (fun n=>n) []⟩
 try simp only[BN]at h8
 have hz:res=true:=by
  rw[←hres,decide_eq_true_eq];exact eqG2 a b hle fun j hj=>hall j (by omega)
 subst hz;refine(Xi ?_);refine X2 ?_;exact Xf
end Go.Proofs.YtdajceakaakdoaaGreat
