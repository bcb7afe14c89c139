/- Part 8: contracts of functions of the program and of the reference, and plain facts about what they compute; used by the proof of the claimed statement. Conditions: as each theorem states. -/
import Derived.Test.YtppjennamodfdaaGreatK7
import Derived.Lib.SlicesCompact
import Derived.Shelf.Slices.CompactI
import Derived.Shelf.Sort.Plain
import Derived.Shelf.Slices.In.SortNone
set_option linter.unusedSimpArgs false
set_option linter.unusedVariables false
set_option linter.unnecessarySimpa false
set_option maxRecDepth 100000
set_option maxHeartbeats 2000000
namespace Go.Proofs.YtppjennamodfdaaGreat
open Go Go.Hl
mutual
def flS:St→List St
 | .mk d c v n t a b bs=>.mk d c v n t a b bs::(flL a++flL b)
def flL:List St→List St
 |[]=>[]
 |s::l=>flS s++flL l
end
theorem Xay (s:St):flS s=s::(flL s.then_++flL s.else_):=by cases s;rfl
mutual
theorem X5o:∀s:St,(flS s).length=szS s
 | .mk _ _ _ _ _ a b _=>by simp only[flS,szS,List.length_cons,List.length_append,XO a,XO b];omega
theorem XO:∀l:List St,(flL l).length=szL l
 |[]=>rfl
 |s::l=>by simp only[flL,szL,List.length_append,X5o s,XO l]
end
theorem Qo (a b:List St):X9 (a++b)=X9 a++X9 b:=by rw[W0,W0,W0,List.map_append]
theorem X90 (l:List St):szL l≤1000→∀d:Nat,Con Tryz.prog 148 false [lS l] (.v (lS (flL l))) none d:=by
 revert l
 apply St.lists;intro l ih hn d;have hlen:=X5n l;obtain⟨res,hres⟩:∃r,flL l=r:=⟨_,rfl⟩;rw[hres];refine X5 Tryz.func148 ?_;simp only[Tryz.f148];refine X1<|(Xq (by simp[*,Qo,X9];rfl) ?_);refine X1<|(Xq (by simp[*,Qo,X9];rfl) ?_);refine X1<|X1<|(Xq (by simp[*,Qo,X9];rfl) ?_);refine X4<|(Xf [6,7] (fun(x:Nat×List St)=>[(3,.v (.one (.own 1003))),(8,.v (li x.1))]) (fun x=>[(1003,.row 76 10 (X9 x.2))]) (fun x=>x.1≤l.length∧x.2++flL (l.drop x.1)=res∧x.2.length+szL (l.drop x.1)≤1000) (fun x=>l.length - x.1) (0,[]) ⟨Nat.zero_le _,by simpa using hres,by simpa using hn⟩ ?_ ?_)
 · exact Xx (fun n=>n) [1003] rfl (by simp[*,upS,X8,Qo,X9]) (by simp[*,upS]) (by simp[upS])
 rintro⟨k,acc⟩ ⟨hk,hJ,hal⟩;simp only[upS,X8,Xw]
 try simp only[X8,KN,Nat.reduceBEq,if_true,if_false,ins,Nat.reduceLT]
 simp only at hk hJ hal;clear hres;refine X1<|(Xq (by simp[*,Qo,X9];rfl) ?_);refine X1<|(X7 rfl (fun h5=>Xb ?_) (fun h5=>?_))
 · (try simp only[BN]at h5);have hlt:k<l.length:=by omega
   obtain⟨s,he,hd⟩:=Xs hlt;have hw1:=XA hlt (by omega);have hk1:k+1≤l.length:=hlt;have hmem:s∈l:=List.mem_of_getElem? he;rw[hd]at hJ hal;simp only[flL,Xay]at hJ;simp only[szL]at hal;have he':=Q1 he;have iha:=(ih s hmem).1;have ihb:=(ih s hmem).2;obtain⟨so,sc,sv,sn,⟨to,tn,tk⟩,sa,sb,sbs⟩:=s;simp only[St.then_,St.else_]at iha ihb hJ;simp only[szS]at hal;have iha:=iha (by omega);have ihb:=ihb (by omega);have la:=XO sa;have lb:=XO sb;obtain⟨A,hA⟩:∃x,flL sa=x:=⟨_,rfl⟩;obtain⟨B,hB⟩:∃x,flL sb=x:=⟨_,rfl⟩;rw[hA]at iha hJ la;rw[hB]at ihb hJ lb;have r1:Qq (acc.length+1) 144:=XB (by omega) (by decide);have r2:Qq (acc.length+1+A.length) 144:=XB (by omega) (by decide);have r3:Qq (acc.length+(A.length+1)+B.length) 144:=XB (by omega) (by decide);rw[la]at r2 r3;rw[lb]at r3;simp only[St.enc,Tm.enc,List.cons_append,List.nil_append]at he';clear hlt h5 ih hmem he hd hA hB;refine X1<|X4<|X1<|(Xq (by simp[*,Qo,X9];rfl) ?_);refine X1<|(Xq (by simp[*,Qo,X9,XI,Qp,XX];rfl) ?_);refine X1<|(QU [⟨false,.v (lS A),none⟩] (by simp[*,Qo,X9];first|exact⟨rfl,Iff.rfl⟩|exact⟨rfl,trivial⟩|rfl) ?_ ?_)
   · first|exact iha _|exact trivial|simpa[*,Qo,X9]using iha _
   refine(QU [⟨false,.v (lS B),none⟩] (by simp[*,Qo,X9];first|exact⟨rfl,Iff.rfl⟩|exact⟨rfl,trivial⟩|rfl) ?_ ?_)
   · first|exact ihb _|exact trivial|simpa[*,Qo,X9]using ihb _
   refine(Xq (by simp[*,Qo,X9];rfl) ?_);exact⟨(k+1,acc++(.mk so sc sv sn (.mk to tn tk) sa sb sbs::(A++B))),⟨hk1,by simpa using hJ,by simp only[List.length_append,List.length_cons];omega⟩,by simp only;omega,Xx (fun n=>if n=1003 then 25 else n) [] rfl (by simp[upS,X8, *,Qo,X9]) (by simp[*,upS,Qo,X9]) (by simp[upS])⟩
 (try simp only[BN]at h5);have hkl:k=l.length:=by omega
 subst hkl;simp only[List.drop_length,flL,List.append_nil]at hJ;subst hJ;clear h5 ih;refine(Xi ?_);refine XC (XJ 1003 rfl) ?_;refine X1<|(Xq (by simp[*,Qo,X9];rfl) ?_);exact XF ⟨.inr rfl,_,le_refl _,⟨⟨_,by simp;rfl,by simp[XD]⟩,by simp,fun h=>by cases h⟩⟩
end Go.Proofs.YtppjennamodfdaaGreat

namespace Go.Proofs.YtppjennamodfdaaGreat
open Go Go.Hl
def QS (steps:List St) (d:Nat):Int:=match steps[d]? with
 |some s=>s.var
 |none=>(d:Int) - steps.length
def XW (l:List Nat):List (List CD):=l.map fun d:Nat=>[iC d]
@[simp] theorem len_encD (l:List Nat):(XW l).length=l.length:=by simp[XW]
@[simp] theorem X5F (a b:List Nat):XW (a++b)=XW a++XW b:=by simp[XW]
@[simp] theorem X5P:XW []=[]:=rfl
@[simp] theorem encD_one (a:Nat):XW [a]=[[iC a]]:=rfl
def mpI (l:List Nat):List (Value×CD):=l.map fun d:Nat=>(.int .i64 d,bC true)
@[simp] theorem X5c (l:List Nat):(mpI l).length=l.length:=by simp[mpI]
theorem X5m {l:List Nat} {j:Nat} {k:Value} {v:CD} (h:(mpI l)[j]? =some (k,v)):∃d:Nat,l[j]? =some d∧k=.int .i64 d∧v=bC true:=by
 simp only[mpI,List.getElem?_map,Option.map_eq_some_iff]at h;obtain⟨d,hd,he⟩:=h;cases he;exact⟨d,hd,rfl,rfl⟩
def setsC (S:List (List Nat)):CD:=.sl 1 (S.map fun l=>[.mp (mpI l)])
theorem X9d {steps:List St} {d:Nat} (s:St) (h:steps[d]? =some s):QS steps d=s.var:=by simp[QS,h]
theorem Xad {steps:List St} {d:Nat} (h:steps.length≤d):QS steps d=(d:Int) - steps.length:=by simp[QS,List.getElem?_eq_none h]
theorem X8q (steps:List St) (n:Nat) (hn:n≤1000000) (hl:steps.length≤1000000) (d:Nat):Con Tryz.prog 149 true [li n,.one (.c (.ptr [.sl 10 (X9 steps)]))] (.v (li (QS steps n))) none d:=by
 obtain⟨res,hres⟩:∃x,QS steps n=x:=⟨_,rfl⟩;rw[hres];refine X5 Tryz.func149 ?_;simp only[Tryz.f149];refine X3 ?_;refine X1<|X1<|X2 ?_;refine(Xa rfl (fun h2=>?_) fun h2=>?_)
 · (try simp only[BN]at h2);have hge:steps.length≤n:=by simpa using h2
   rw[Xad hge]at hres;have hw:IntKind.i64.wrap ((n:Int) - steps.length)=(n:Int) - steps.length:=Xd (by omega) (by omega);clear h2;refine X3 ?_;exact Xc
 (try simp only[BN]at h2);have hlt:n<steps.length:=by simpa using h2
 obtain⟨s,he,_⟩:=Xs hlt;have he':=Q1 he;rw[X9d s he]at hres;obtain⟨so,sc,sv,sn,⟨to,tn,tk⟩,sa,sb,sbs⟩:=s;simp only[St.enc,Tm.enc,List.cons_append,List.nil_append]at he';simp only[St.var]at hres;clear h2 he hlt;refine X3 ?_;exact Xc
def WJ (steps:List St) (x:Nd):Bool:=decide (x.k=2)&&(match steps[x.a.toNat]? with
 |some s=>decide (s.do_=0)||decide (s.do_=5)
 |none=>false)
def X6D (steps:List St) (x:Nd):Int:=match steps[x.a.toNat]? with
 |some s=>s.var
 |none=>0
def X59 (steps:List St) (nv:Nat) (Si:List Nat) (x:Nd):List Nat:=
 if x.k=0 then(List.range nv).map fun v=>steps.length+v
 else Si.filter (fun d=> !WJ steps x||decide (QS steps d≠X6D steps x))++if WJ steps x=true then [x.a.toNat] else []
def aftΦ (steps:List St) (nv:Nat) (Si:List Nat) (x:Nd) (l:List Nat):Prop:=(∀d,d∈l↔d∈X59 steps nv Si x)∧l.length≤5000
theorem QR {seen:List Nat} {n:Nat} (h:seen.Nodup) (hl:∀j∈seen,j<n):seen.length≤n:=by
 induction n generalizing seen with
 | zero=>
   cases seen with
   |nil=>simp
   |cons x l=>exact absurd (hl x (by simp)) (by omega)
 | succ n ih=>
   have h1:=ih (h.erase n) fun j hj=>by
    have h2:=(h.mem_erase_iff).1 hj;have:=hl j h2.2;omega
   have:=List.length_erase_of_mem (a:=n) (l:=seen);by_cases hm:n∈seen
   · rw[this hm]at h1;omega
   rw[List.erase_of_not_mem hm]at h1;omega
abbrev kC (steps:List St):CD:=.fn 149 [.ptr [.sl 10 (X9 steps)]]
theorem out_all {Si seen out:List Nat} {p:Nat→Bool} (hall:∀j:Nat,j<(mpI Si).length→j∈seen) (h:∀d,d∈out↔∃j∈seen,Si[j]? =some d∧p d=true) (d:Nat):d∈out↔d∈Si.filter p:=by
 rw[h,List.mem_filter];constructor
 · rintro⟨j,_,h1,h2⟩;exact⟨List.mem_of_getElem? h1,h2⟩
 rintro⟨h1,h2⟩;obtain⟨j,hj⟩:=List.mem_iff_getElem?.1 h1;exact⟨j,hall j (by rw[X5c];exact(List.getElem?_eq_some_iff.1 hj).1),hj,h2⟩
theorem X4u (l:List Nat):(Ob.row 3 1 (XW l)).lits:=by
 intro r hr c hc;simp only[XW,List.mem_map]at hr;obtain⟨_,_,rfl⟩:=hr;rw[List.mem_singleton.1 hc];exact⟨_,rfl⟩
def X0k (l:List Nat) (n:Nat):Prop:=∀j∈l,j<n
set_option maxHeartbeats 4000000 in
theorem Xdf (f:Fl) (N:List Nd) (steps:List St) (S:List (List Nat)) (i:Nat) (x:Nd) (Si:List Nat) (hx:N[i]? =some x) (hS:S[i]? =some Si) (hs:steps.length≤1000) (hv:f.vars.length≤1000) (hSi:Si.length≤2000) (hSb:∀d∈Si,d≤1000000) (ha:(x.k≠2∧x.a=-1)∨∃m:Nat,x.a=m∧m<steps.length) (dd:Nat) (hdd:dd<1000000):
  ConF (X:=List Nat) Tryz.prog 150 true [li i,.one (.c (.ptr [.sl 4 (QT N)])),.one (.c (.ptr f.enc)),.one (.c (.ptr [.sl 10 (X9 steps)])),.one (.c (.ptr [setsC S])),.one (.c (.ptr [kC steps]))] (aftΦ steps f.vars.length Si x) (fun _=>.v (.one (.own dd))) (fun l=>some (.row 3 1 (XW l))) dd:=by
 have hx':=X34 hx;have hSr:(S.map fun l=>[CD.mp (mpI l)])[i]? =some [CD.mp (mpI Si)]:=by simp[hS]
 obtain⟨vars,hats,body⟩:=f;obtain⟨xk,xa,xn,xo⟩:=x;simp only at hv;simp only[Nd.enc]at hx';clear hx hS;refine X9T Tryz.func150 rfl (by kernel_rfl) (Nat.le_of_ble_eq_true rfl) ?_;simp only[Tryz.f150];simp only[Fl.enc,setsC];refine X3 ?_;refine X3 ?_;refine X3 ?_;refine X1<|X1<|X2 ?_;refine(Xa rfl (fun h4=>?_) fun h4=>?_)
 · (try simp only[BN]at h4);have hk:xk=0:=by simpa using h4
   clear h4 ha;refine X1<|X1<|X2 ?_;refine X4<|(Xf [3,23] (fun(y:Nat)=>[(9,.v (.one (.own 900001))),(24,.v (li y))]) (fun y=>[(900001,.row 3 1 (XW ((List.range y).map fun v=>steps.length+v)))]) (fun y=>y≤vars.length) (fun y=>vars.length - y) (0:Nat) (Nat.zero_le _) ?_ ?_)
   · exact X6 (fun n=>n) [900001]
   rintro y hy;simp only[upS,X8,Xw]
   try simp only[X8,KN,Nat.reduceBEq,if_true,if_false,ins,Nat.reduceLT]
   refine X3 ?_;refine X1<|(X7 rfl (fun h8=>Xb ?_) (fun h8=>?_))
   · (try simp only[BN]at h8);have hlt:y<vars.length:=by omega
     have hw1:=XA hlt (by omega);have hk1:y+1≤vars.length:=hlt;have hw2:IntKind.i64.wrap ((steps.length:Int)+y)=steps.length+y:=Xd (by omega) (by omega);have hroom:Qq (y+1) 8:=XB (by omega) (by decide)
     have hsn:XW ((List.range (y+1)).map fun v=>steps.length+v)=XW ((List.range y).map fun v=>steps.length+v)++[[iC ((steps.length:Int)+y)]]:=by
      rw[List.range_succ,List.map_append,X5F];simp
     clear hlt h8 hx' hSr;refine X1<|X4<|X1<|X2 ?_;refine X2 ?_;refine X2 ?_;exact⟨y+1,hk1,by omega,X6 (fun n=>if n=900001 then 33 else n) []⟩
   (try simp only[BN]at h8);have hkl:y=vars.length:=by omega
   subst hkl;refine(Xi ?_);refine X3 ?_;exact XF ⟨.inr rfl,(List.range vars.length).map fun v=>steps.length+v,⟨fun d=>by simp only[X59,if_pos hk],by simp;omega⟩,_,X33 7 900001 dd (by simp) rfl hdd,⟨⟨_,by simp;rfl,by simp[XD]⟩,by simp,fun _=>⟨rfl,fun o ho=>by cases ho;exact X4u _⟩⟩⟩
 (try simp only[BN]at h4);have hk:¬xk=0:=by simpa using h4
 clear h4;refine XV [0,3,4,5,8,9] (fun(z:Bool)=>[(11,.v (lb z))]) (fun(z:Bool)=>[(8,.box [.c (iC xk),.c (iC xa),.c (iC xn),.c (iC xo)])]) (fun(z:Bool)=>z=WJ steps ⟨xk,xa,xn,xo⟩) ?_ ?_
 · rcases ha with⟨h2,rfl⟩|⟨m,rfl,hm⟩
   · simp only at h2;refine XR ?_;refine RunsN.cutE 7 [] (by simp[*];rfl) trivial (le_refl _) ?_;refine RunsN.skip (.bool false) (by simp[QJ]) (by rfl) ?_;refine RunsN.skip (.bool false) (by simp[QJ]) (by rfl) ?_;refine RunsN.skip (.bool false) (by simp[QJ]) (by rfl) ?_;refine RunsN.skip (.bool false) (by simp[QJ]) (by rfl) ?_;refine RunsN.skip (.bool false) (by simp[QJ]) (by rfl) ?_;refine RunsN.cutE 3 [] (by simp[*];rfl) trivial (le_refl _) ?_;refine RunsN.skip (.bool false) (by simp[QJ]) (by rfl) ?_;refine RunsN.skip (.bool false) (by simp[QJ]) (by rfl) ?_;refine RunsN.skip (.bool false) (by simp[QJ]) (by rfl) ?_;refine RunsN.skip (.bool false) (by simp[QJ]) (by rfl) ?_;refine RunsN.doneE [] (by simp[*];rfl) trivial ?_;refine⟨_,rfl,Xx (fun n=>n) [] rfl (by simp[upS,X8,WJ,h2]) (by simp[upS]) (by simp[upS])⟩
   obtain⟨q,he,_⟩:=Xs hm;have he':=Q1 he;obtain⟨so,sc,sv,sn,⟨to,tn,tk⟩,sa,sb,sbs⟩:=q;simp only[St.enc,Tm.enc,List.cons_append,List.nil_append]at he';clear hm;by_cases h2:xk=2
   · refine Xq (by simp[*];rfl) ?_;refine⟨_,rfl,Xx (fun n=>n) [] rfl (by simp[upS,X8,WJ,h2,he,St.do_]<;>rfl) (by simp[upS,h2]) (by simp[upS])⟩
   refine Xq (by simp[*];rfl) ?_;refine⟨_,rfl,Xx (fun n=>n) [] rfl (by simp[upS,X8,WJ,h2]) (by simp[upS]) (by simp[upS])⟩
 rintro z hz;simp only[upS,X8,Xw]
 try simp only[X8,KN,Nat.reduceBEq,if_true,if_false,ins,Nat.reduceLT]
 have hz2:(xa=-1∧z=false)∨∃(m:Nat) (o c v n t1 t2:Int) (tk:List Tm) (sa sb:List St) (sbs:List Int),xa=m∧(X9 steps)[m]? =some [iC o,iC c,iC v,iC n,iC t1,iC t2,.sl 3 (Xo tk),.sl 10 (X9 sa),.sl 10 (X9 sb),.sl 1 (Xe sbs)]∧X6D steps ⟨xk,xa,xn,xo⟩=v:=by
  rcases ha with⟨h2,rfl⟩|⟨m,rfl,hm⟩
  · refine .inl ⟨rfl,?_⟩;simp only at h2;rw[hz];simp[WJ,h2]
  obtain⟨q,he,_⟩:=Xs hm;have he':=Q1 he;obtain⟨so,sc,sv,sn,⟨to,tn,tk⟩,sa,sb,sbs⟩:=q;exact .inr ⟨m,so,sc,sv,sn,to,tn,tk,sa,sb,sbs,rfl,he',by simp[X6D,he,St.var]⟩
 obtain⟨V,hV⟩:∃x,X6D steps ⟨xk,xa,xn,xo⟩=x:=⟨_,rfl⟩
 have haft:∀d,d∈X59 steps vars.length Si ⟨xk,xa,xn,xo⟩↔d∈Si.filter (fun d=> !z||decide (QS steps d≠V))++if z=true then [xa.toNat] else []:=by
  intro d;simp only[X59,if_neg hk,←hz,hV]
 rw[hV]at hz2;clear hz hV ha;refine X1<|X1<|X2 ?_;refine X4<|(Xf [3,5,8,11,61] (fun(y:List Nat×List Nat)=>[(9,.v (.one (.own 900001)))]) (fun y=>[(8,.box [.c (iC xk),.c (iC xa),.c (iC xn),.c (iC xo)]),(61,.it (mpI Si) y.1),(900001,.row 3 1 (XW y.2))]) (fun y=>y.1.Nodup∧X0k y.1 Si.length∧(∀d,d∈y.2↔∃j∈y.1,Si[j]? =some d∧(!z||decide (QS steps d≠V))=true)∧y.2.length≤y.1.length) (fun y=>Si.length - y.1.length) ([],[]) ⟨List.nodup_nil,by simp[X0k],by simp,Nat.le_refl _⟩ ?_ ?_)
 · exact X6 (fun n=>n) [900001]
 rintro⟨seen,out⟩ ⟨j1,j2,j3,j4⟩;simp only[upS,X8,Xw]
 try simp only[X8,KN,Nat.reduceBEq,if_true,if_false,ins,Nat.reduceLT]
 simp only at j1 j2 j3 j4;refine X1N (fun j k v hj hn=>?_) (fun hall=>?_)
 skip
 · (try simp only[BN]at h19);obtain⟨d,hd,rfl,rfl⟩:=X5m hj;have hjl:j<Si.length:=(List.getElem?_eq_some_iff.1 hd).1
   have hnd:(seen++[j]).Nodup:=by
    rw[List.nodup_append];exact⟨j1,by simp,fun a ha b hb=>by rw[List.mem_singleton.1 hb];exact fun e=>hn (e▸ha)⟩
   have hin:X0k (seen++[j]) Si.length:=fun i hi=>by
    rcases List.mem_append.1 hi with h|h
    · exact j2 i h
    rw[List.mem_singleton.1 h];exact hjl
   have hle:=QR hnd hin;simp only[List.length_append,List.length_singleton]at hle;have hroom:Qq (out.length+1) 8:=XB (by omega) (by decide);have hdb:=hSb d (List.mem_of_getElem? hd);clear hjl;have cv:=X8q steps d hdb (by omega);refine X4<|X1<|X2 ?_;refine XV [3,5,8,9,11,12,61] (fun(q:Bool)=>[(79,.v (lb q))]) (fun(q:Bool)=>[(8,.box [.c (iC xk),.c (iC xa),.c (iC xn),.c (iC xo)]),(61,.it (mpI Si) (seen++[j])),(900001,.row 3 1 (XW out))]) (fun(q:Bool)=>q=(!z||decide (QS steps d≠V))) ?_ ?_
   · rcases hz2 with⟨rfl,rfl⟩|⟨m,po,pc,pv,pn,p1,p2,pk,pa,pb,pbs,rfl,he',rfl⟩
     · refine X6O [none] (by kernel_rfl) (by kernel_rfl) (by rfl) (by simp[*];first|exact⟨rfl,Iff.rfl⟩|exact⟨rfl,trivial⟩|rfl) ?_ ?_
       · trivial
       exact⟨_,rfl,Xx (fun n=>n) [] rfl (by simp[upS,X8]) (by simp[upS]) (by simp[upS])⟩
     cases z with
     | false=>
       refine X6O [none] (by kernel_rfl) (by kernel_rfl) (by rfl) (by simp[*];first|exact⟨rfl,Iff.rfl⟩|exact⟨rfl,trivial⟩|rfl) ?_ ?_
       · trivial
       exact⟨_,rfl,Xx (fun n=>n) [] rfl (by simp[upS,X8]) (by simp[upS]) (by simp[upS])⟩
     | true=>
       refine XS [⟨true,.v (li (QS steps d)),none⟩] (by kernel_rfl) (by kernel_rfl) (by rfl) (by simp[*];first|exact⟨rfl,Iff.rfl⟩|exact⟨rfl,trivial⟩|rfl) ?_ ?_
       · first|exact cv _|simpa using cv _
       exact⟨_,rfl,Xx (fun n=>n) [] rfl (by simp[upS,X8]) (by simp[upS]) (by simp[upS])⟩
   rintro q hq;simp only[upS,X8,Xw]
   try simp only[X8,KN,Nat.reduceBEq,if_true,if_false,ins,Nat.reduceLT]
   refine(Xa rfl (fun h22=>?_) fun h22=>?_)
   · (try simp only[BN]at h22);have hp:(!z||decide (QS steps d≠V))=true:=by rw[←hq];simpa using h22
     have hmem:∀x,x∈out++[d]↔∃i∈seen++[j],Si[i]? =some x∧(!z||decide (QS steps x≠V))=true:=by
      intro x;rw[List.mem_append,j3,List.mem_singleton];constructor
      · rintro(⟨i,h1,h2⟩|rfl)
        · exact⟨i,List.mem_append_left _ h1,h2⟩
        exact⟨j,by simp,hd,hp⟩
      rintro⟨i,h1,h2,h3⟩;rcases List.mem_append.1 h1 with h1|h1
      · exact .inl ⟨i,h1,h2,h3⟩
      rw[List.mem_singleton.1 h1,hd]at h2;exact .inr (Option.some.inj h2).symm
     refine X2 ?_;exact⟨(seen++[j],out++[d]),⟨hnd,hin,hmem,by simp only[List.length_append,List.length_singleton];omega⟩,by simp only[List.length_append,List.length_singleton];omega,X6 (fun n=>if n=900001 then 83 else n) []⟩
   (try simp only[BN]at h22);have hp:(!z||decide (QS steps d≠V))=false:=by rw[←hq];simpa using h22
   have hmem:∀x,x∈out↔∃i∈seen++[j],Si[i]? =some x∧(!z||decide (QS steps x≠V))=true:=by
    intro x;rw[j3];constructor
    · rintro⟨i,h1,h2⟩;exact⟨i,List.mem_append_left _ h1,h2⟩
    rintro⟨i,h1,h2,h3⟩;rcases List.mem_append.1 h1 with h1|h1
    · exact⟨i,h1,h2,h3⟩
    rw[List.mem_singleton.1 h1,hd]at h2;rw[←Option.some.inj h2,hp]at h3;cases h3
   exact⟨(seen++[j],out),⟨hnd,hin,hmem,by simp only[List.length_append,List.length_singleton];omega⟩,by simp only[List.length_append,List.length_singleton];omega,X6 (fun n=>n) []⟩
 (try simp only[BN]at h19);have hout:=out_all hall j3;have hle:=QR j1 j2;have hroom:Qq (out.length+1) 8:=XB (by omega) (by decide);clear hall j1 j2 j3;refine(Xi ?_);refine X1<|X1<|X2 ?_;refine(Xa rfl (fun h27=>?_) fun h27=>?_)
 · (try simp only[BN]at h27);have hz':z=true:=by simpa using h27
   subst hz';obtain⟨m,po,pc,pv,pn,p1,p2,pk,pa,pb,pbs,rfl,_,_⟩:=hz2.resolve_left fun e=>Bool.noConfusion e.2;clear hz2;refine X2 ?_;refine X3 ?_;exact XF ⟨.inr rfl,out++[m],⟨fun d=>by rw[haft,List.mem_append,List.mem_append,hout];simp,by simp;omega⟩,_,X33 (e:=3) (sz:=1) (rows:=XW (out++[m])) 7 89 dd (by simp) (by simp[X5F]) hdd,⟨⟨_,by simp;rfl,by simp[XD]⟩,by simp[X5F],fun _=>⟨rfl,fun o ho=>by cases ho;exact X4u _⟩⟩⟩
 (try simp only[BN]at h27);have hz':z=false:=by simpa using h27
 subst hz';clear hz2;refine X3 ?_;exact XF ⟨.inr rfl,out,⟨fun d=>by rw[haft,hout];simp,by omega⟩,_,X33 7 900001 dd (by simp) rfl hdd,⟨⟨_,by simp;rfl,by simp[XD]⟩,by simp,fun _=>⟨rfl,fun o ho=>by cases ho;exact X4u _⟩⟩⟩
end Go.Proofs.YtppjennamodfdaaGreat

namespace Go.Proofs.YtppjennamodfdaaGreat
open Go Go.Hl
def ZG (x:Nd) (to:Nat):Prop:=x.n=to∨x.o=to
instance (x:Nd) (to:Nat):Decidable (ZG x to):=by unfold ZG;exact inferInstance
inductive Rc (N:List Nd) (steps:List St) (nv:Nat):Nat→Nat→Prop
 |entry {i to v:Nat} {x:Nd}:N[i]? =some x→x.k=0→ZG x to→v<nv→Rc N steps nv to (steps.length+v)
 |pass {i to d:Nat} {x:Nd}:N[i]? =some x→x.k≠0→ZG x to→Rc N steps nv i d→(!WJ steps x||decide (QS steps d≠X6D steps x))=true→Rc N steps nv to d
 |gen {i to:Nat} {x:Nd}:N[i]? =some x→x.k≠0→ZG x to→WJ steps x=true→Rc N steps nv to x.a.toNat
open Classical in
noncomputable def rcL (N:List Nd) (steps:List St) (nv:Nat):List (List Nat):=(List.range N.length).map fun to=>(List.range (steps.length+nv)).filter fun d=>decide (Rc N steps nv to d)
structure Gs (N:List Nd) (steps:List St) (nv:Nat) (S:List (List Nat)):Prop where
 len:S.length=N.length
 nod:∀l∈S,l.Nodup
 lt:∀l∈S,∀d∈l,d<steps.length+nv
 snd:∀(to:Nat) l d,S[to]? =some l→d∈l→Rc N steps nv to d
def clo (N:List Nd) (steps:List St) (nv:Nat) (S:List (List Nat)) (i:Nat):Prop:=
 ∀x Si,N[i]? =some x→S[i]? =some Si→∀d∈X59 steps nv Si x,∀to l,ZG x to→S[to]? =some l→d∈l
theorem Xaq {N:List Nd} {steps:List St} {nv i:Nat} {S:List (List Nat)} {x:Nd} {Si:List Nat} (g:Gs N steps nv S) (hx:N[i]? =some x) (hS:S[i]? =some Si) {d:Nat} (hd:d∈X59 steps nv Si x) {to:Nat} (ht:ZG x to):Rc N steps nv to d:=by
 unfold X59 at hd;split at hd
 · rename_i h0;obtain⟨v,hv,rfl⟩:=List.mem_map.1 hd;exact .entry hx h0 ht (by simpa using hv)
 rename_i h0;rcases List.mem_append.1 hd with h|h
 · obtain⟨h1,h2⟩:=List.mem_filter.1 h;exact .pass hx h0 ht (g.snd i Si d hS h1) h2
 split at h
 · rename_i ha;rw[List.mem_singleton.1 h];exact .gen hx h0 ht ha
 cases h
theorem rc_lt {N:List Nd} {steps:List St} {nv:Nat} {to d:Nat} (ha:∀x∈N,WJ steps x=true→x.a.toNat<steps.length) (h:Rc N steps nv to d):d<steps.length+nv:=by
 induction h with
 |entry _ _ _ hv=>omega
 |pass _ _ _ _ _ ih=>exact ih
 |gen hx _ _ h=>have:=ha _ (List.mem_of_getElem? hx) h;omega
theorem XaN {N:List Nd} {steps:List St} {nv:Nat} {S:List (List Nat)} (g:Gs N steps nv S) (hc:∀i,i<N.length→clo N steps nv S i) {to d:Nat} {l:List Nat} (hl:S[to]? =some l) (h:Rc N steps nv to d):d∈l:=by
 induction h generalizing l with
 | entry hx h0 ht hv=>
   rename_i i to v x;have hi:=(List.getElem?_eq_some_iff.1 hx).1;obtain⟨Si,hS,_⟩:=Xs (show i<S.length by rw[g.len];exact hi);refine hc i hi x Si hx hS _ ?_ to l ht hl;unfold X59;rw[if_pos h0];exact List.mem_map.2 ⟨v,by simpa using hv,rfl⟩
 | pass hx h0 ht _ hk ih=>
   rename_i i to d x _;have hi:=(List.getElem?_eq_some_iff.1 hx).1;obtain⟨Si,hS,_⟩:=Xs (show i<S.length by rw[g.len];exact hi);refine hc i hi x Si hx hS _ ?_ to l ht hl;unfold X59;rw[if_neg h0];exact List.mem_append_left _ (List.mem_filter.2 ⟨ih hS,hk⟩)
 | gen hx h0 ht h=>
   rename_i i to x;have hi:=(List.getElem?_eq_some_iff.1 hx).1;obtain⟨Si,hS,_⟩:=Xs (show i<S.length by rw[g.len];exact hi);refine hc i hi x Si hx hS _ ?_ to l ht hl;unfold X59;rw[if_neg h0,if_pos h];simp
def srtN (l:List Nat):List Int:=(l.map Int.ofNat).mergeSort fun x y=>decide (x≤y)
theorem XbN:∀{l m:List Nat},l.Pairwise (· < ·)→m.Pairwise (· < ·)→(∀x,x∈l↔x∈m)→l=m
 |[],[],_,_,_=>rfl
 |[],b::m,_,_,h=>absurd ((h b).2 (by simp)) (by simp)
 |a::l,[],_,_,h=>absurd ((h a).1 (by simp)) (by simp)
 | a ::l,b::m,hl,hm,h=>by
   rw[List.pairwise_cons]at hl hm
   have hab:a=b:=by
    rcases List.mem_cons.1 ((h a).1 (by simp))with e|e
    · exact e
    rcases List.mem_cons.1 ((h b).2 (by simp))with e2|e2
    · exact e2.symm
    have:=hm.1 a e;have:=hl.1 b e2;omega
   subst hab;congr 1;refine XbN hl.2 hm.2 fun x=>?_;constructor
   · intro hx;rcases List.mem_cons.1 ((h x).1 (by simp[hx]))with e|e
     · subst e;exact absurd (hl.1 x hx) (Nat.lt_irrefl _)
     exact e
   intro hx;rcases List.mem_cons.1 ((h x).2 (by simp[hx]))with e|e
   · subst e;exact absurd (hm.1 x hx) (Nat.lt_irrefl _)
   exact e
theorem XcH (n:Nat):(List.range n).Pairwise (· < ·):=List.pairwise_lt_range
theorem srt_eq {l:List Nat} {n:Nat} (hn:l.Nodup) {p:Nat→Bool} (h:∀x,x∈l↔x<n∧p x=true):Xe (srtN l)=XW ((List.range n).filter p):=by
 have h2:(l.mergeSort fun x y=>decide (x≤y))=(List.range n).filter p:=by
  refine XbN ?_ ((XcH n).filter _) fun x=>by rw[List.mem_mergeSort,h];simp
  have h3:=List.pairwise_mergeSort (le:=fun x y:Nat=>decide (x≤y)) (fun a b c h1 h2=>by simp at*;omega) (fun a b=>by simp;omega) l;have h4:(l.mergeSort fun x y=>decide (x≤y)).Nodup:=(List.mergeSort_perm l _).nodup_iff.2 hn;refine(List.pairwise_and_iff.2 ⟨h3,h4⟩).imp fun {a b} ⟨h5,h6⟩=>?_;have h5:a≤b:=by simpa using h5
  have h6:a≠b:=h6;omega
 rw[←h2];unfold srtN Xe XW
 have:(l.map Int.ofNat).mergeSort (fun x y=>decide (x≤y))=(l.mergeSort fun x y=>decide (x≤y)).map Int.ofNat:=by
  rw[List.map_mergeSort];intro a _ b _;simp
 rw[this,List.map_map];rfl
def QB (rows:List (List Nat)):List (List CD):=rows.map fun l=>[.sl 1 (XW l)]
@[simp] theorem len_encDD (l:List (List Nat)):(QB l).length=l.length:=by simp[QB]
theorem X23 (d:Nat):∀l:List Nat,X2s (.int .i64) (.int .i64 d) (mpI l)=some (if d∈l then some (bC true)else none)
 |[]=>rfl
 | k ::l=>by
   have e:mpI (k::l)=(.int .i64 k,bC true)::mpI l:=rfl;rw[e];unfold X2s
   have h1:Instr.sameNow (.int .i64) (.int .i64 (d:Int)) (.int .i64 (k:Int))=some (decide (d=k)):=by
    have h2:((d:Int)==(k:Int))=decide (d=k):=by
     rw[Bool.eq_iff_iff];simp only[beq_iff_eq,decide_eq_true_eq];omega
    simp[Instr.sameNow,h2]
   rw[h1];by_cases hk:d=k
   · subst hk;simp
   simp only[hk,decide_false,List.mem_cons,false_or];exact X23 d l
def Z2 (S:List (List Nat)):Nat:=(S.map List.length).sum
theorem XcX {S:List (List Nat)} {to:Nat} {l:List Nat} (h:S[to]? =some l) (d:Nat):Z2 (S.set to (l++[d]))=Z2 S+1:=by
 induction S generalizing to with
 |nil=>cases h
 | cons a S ih=>
   cases to with
   |zero=>cases h;simp[Z2];omega
   | succ to=>
     have:=ih (to:=to) h;simp only[Z2,List.set_cons_succ,List.map_cons,List.sum_cons]at this⊢;omega
theorem X8Z {N:List Nd} {steps:List St} {nv:Nat} {S:List (List Nat)} (g:Gs N steps nv S):Z2 S≤N.length*(steps.length+nv):=by
 have key:∀S:List (List Nat),(∀l∈S,l.length≤steps.length+nv)→Z2 S≤S.length*(steps.length+nv):=by
  intro S
  induction S with
  |nil=>simp[Z2]
  | cons a S ih=>
    intro h;have h1:=h a (by simp);have h2:=ih fun l hl=>h l (by simp[hl]);simp only[Z2,List.map_cons,List.sum_cons,List.length_cons,Nat.add_mul,Nat.one_mul]at h2⊢;omega
 have:=key S fun l hl=>QR (g.nod l hl) (g.lt l hl)
 rwa [g.len]at this
theorem Gs.add {N:List Nd} {steps:List St} {nv to d:Nat} {S:List (List Nat)} {l:List Nat} (g:Gs N steps nv S) (hl:S[to]? =some l) (hd:d∉l) (hlt:d<steps.length+nv) (hr:Rc N steps nv to d):Gs N steps nv (S.set to (l++[d])):=by
 have hm:∀q∈S.set to (l++[d]),q∈S∨q=l++[d]:=fun q hq=>List.mem_or_eq_of_mem_set hq;refine⟨by rw[List.length_set];exact g.len,fun q hq=>?_,fun q hq x hx=>?_,fun i q x hq hx=>?_⟩
 · rcases hm q hq with h|rfl
   · exact g.nod q h
   rw[List.nodup_append];exact⟨g.nod l (List.mem_of_getElem? hl),by simp,fun a ha b hb=>by rw[List.mem_singleton.1 hb];exact fun e=>hd (e▸ha)⟩
 · rcases hm q hq with h|rfl
   · exact g.lt q h x hx
   rcases List.mem_append.1 hx with h|h
   · exact g.lt l (List.mem_of_getElem? hl) x h
   rw[List.mem_singleton.1 h];exact hlt
 rw[List.getElem?_set]at hq;split at hq
 · rename_i e;subst e;split at hq
   · cases hq;rcases List.mem_append.1 hx with h|h
     · exact g.snd to l x hl h
     rw[List.mem_singleton.1 h];exact hr
   cases hq
 exact g.snd i q x hq hx
end Go.Proofs.YtppjennamodfdaaGreat

namespace Go.Proofs.YtppjennamodfdaaGreat
open Go Go.Hl
def X55 (m:Nat) (t:Int):Prop:=t=-1∨∃k:Nat,t=k∧k<m
structure ndOK (m n:Nat) (x:Nd):Prop where
 hn:X55 m x.n
 ho:X55 m x.o
 ha:(x.k≠2∧x.a=-1)∨∃t:Nat,x.a=t∧t<n
theorem X55.nat {m t:Nat} (h:t<m):X55 m (t:Int):=.inr ⟨t,rfl,h⟩
theorem XbA (s:St):1≤wdS s:=by cases s;simp only[wdS];split<;>omega
theorem X5j {l:List St} (h:l≠[]):1≤wdL l:=by
 cases l with
 |nil=>exact absurd rfl h
 |cons s l=>have:=XbA s;simp only[wdL];omega
theorem X55.ite {m:Nat} {t e:Int} {l:List St} (h1:X55 m t) (h2:l≠[]→X55 m e):X55 m (if l=[] then t else e):=by
 split
 · exact h1
 rename_i h;exact h2 h
theorem X55.mk {m:Nat} {t:Int} (k:Nat) (h:t=k) (hk:k<m):X55 m t:=.inr ⟨k,h,hk⟩
mutual
theorem layS_ok {m n:Nat}:∀(s:St) (p k after:Nat),gS s=true→p+szS s≤n→k+wdS s≤m→after<m→∀x∈X3d s p k after,ndOK m n x
 | .mk o c v q t a b bs,p,k,after,hg,hp,hk,haf,x,hx=>by
   simp only[gS,Bool.and_eq_true]at hg;simp only[szS]at hp;simp only[wdS]at hk;unfold X3d at hx;split at hx
   · rename_i h3;rw[if_neg (by omega)]at hk;rcases List.mem_cons.1 hx with rfl|hx
     · refine⟨.ite (.nat haf) fun h=>.mk (k+1) (by simp) (by have:=X5j h;omega),.ite (.nat haf) fun h=>.mk (k+1+wdL a) (by simp) (by have:=X5j h;omega),.inr ⟨p,rfl,(show p<n by omega)⟩⟩
     rcases List.mem_append.1 hx with hx|hx
     · exact X3P a (p+1) (k+1) after hg.2.1 (by omega) (by omega) haf x (by simpa using hx)
     exact X3P b (p+1+szL a) (k+1+wdL a) after hg.2.2 (by omega) (by omega) haf x (by simpa using hx)
   split at hx
   · rename_i h3 h4;rw[if_pos h4]at hk;rcases List.mem_cons.1 hx with rfl|hx
     · exact⟨.mk (k+1) (by simp) (by omega),.inl rfl,.inr ⟨p,rfl,(show p<n by omega)⟩⟩
     rcases List.mem_cons.1 hx with rfl|hx
     · exact⟨.ite (.mk (k+1) (by simp) (by omega)) fun h=>.mk (k+2) (by simp) (by have:=X5j h;omega),.nat haf,.inr ⟨p,rfl,(show p<n by omega)⟩⟩
     exact X3P a (p+1) (k+2) (k+1) hg.2.1 (by omega) (by omega) (by omega) x (by simpa using hx)
   rw[List.mem_singleton.1 hx];have:1≤wdS (St.mk o c v q t a b bs):=XbA _;exact⟨X55.nat haf,.inl rfl,.inr ⟨p,rfl,(show p<n by omega)⟩⟩
theorem X3P {m n:Nat}:∀(l:List St) (p k after:Nat),gL l=true→p+szL l≤n→k+wdL l≤m→after<m→∀x∈X1j l p k after,ndOK m n x
 |[],_,_,_,_,_,_,_,x,hx=>by simp[X1j]at hx
 | s ::l,p,k,after,hg,hp,hk,haf,x,hx=>by
   simp only[gL,Bool.and_eq_true]at hg;simp only[szL]at hp;simp only[wdL]at hk;unfold X1j at hx;rcases List.mem_append.1 hx with hx|hx
   · refine layS_ok s p k _ hg.1 (by omega) (by omega) ?_ x hx;split
     · exact haf
     rename_i h;have:=X5j h;omega
   exact X3P l (p+szS s) (k+wdS s) after hg.2 (by omega) (by omega) haf x (by simpa using hx)
end
theorem XaZ {l:List St} (hg:gL l=true):∀x∈grN l,ndOK (grN l).length (szL l) x:=by
 rw[X5s hg];intro x hx;unfold grN at hx;rcases List.mem_cons.1 hx with rfl|hx
 · refine⟨.ite (.mk (1+wdL l) (by simp) (by omega)) fun h=>.mk 1 rfl (by omega),.inl rfl,.inl ⟨by simp,rfl⟩⟩
 rcases List.mem_append.1 hx with hx|hx
 · exact X3P l 0 1 (1+wdL l) hg (by omega) (by omega) (by omega) x (by simpa using hx)
 rw[List.mem_singleton.1 hx];exact⟨.inl rfl,.inl rfl,.inl ⟨by simp,rfl⟩⟩
structure Inv (N:List Nd) (steps:List St) (nv:Nat) (S0 S:List (List Nat)) (c:Bool) (P:Prop):Prop where
 g:Gs N steps nv S
 tot:Z2 S0≤Z2 S
 up:c=true→Z2 S0<Z2 S
 same:c=false→S=S0∧P
theorem Inv.mono {N:List Nd} {steps:List St} {nv:Nat} {S0 S:List (List Nat)} {c:Bool} {P Q:Prop} (h:Inv N steps nv S0 S c P) (hpq:S=S0→P→Q):Inv N steps nv S0 S c Q:=
 ⟨h.g,h.tot,h.up,fun hc=>⟨(h.same hc).1,hpq (h.same hc).1 (h.same hc).2⟩⟩
theorem Inv.add {N:List Nd} {steps:List St} {nv:Nat} {S0 S:List (List Nat)} {c:Bool} {P Q:Prop} (h:Inv N steps nv S0 S c P) {to d:Nat} {l:List Nat} (hl:S[to]? =some l) (hd:d∉l) (hlt:d<steps.length+nv) (hr:Rc N steps nv to d):Inv N steps nv S0 (S.set to (l++[d])) true Q:=by
 have:=XcX hl d;exact⟨h.g.add hl hd hlt hr,by have:=h.tot;omega,fun _=>by have:=h.tot;omega,fun hc=>by cases hc⟩
def inS (S:List (List Nat)) (to:Int) (d:Nat):Prop:=∀(m:Nat) l,to=(m:Int)→S[m]? =some l→d∈l
def msS (S:List (List Nat)):List (Option (List (Value×CD))):=S.map fun l=>some (mpI l)
@[simp] theorem len_msS (S:List (List Nat)):(msS S).length=S.length:=by simp[msS]
@[simp] theorem map_msS (S:List (List Nat)):(msS S).map (fun r=>[mpC r])=S.map fun l=>[CD.mp (mpI l)]:=by simp[msS,mpC]
theorem Xbz {S:List (List Nat)} {i:Nat} {l:List Nat} (h:S[i]? =some l):(msS S)[i]? =some (some (mpI l)):=by simp[msS,h]
theorem set_msS (S:List (List Nat)) (i:Nat) (l:List Nat) (d:Nat):(msS S).set i (some (mpI l++[(.int .i64 d,bC true)]))=msS (S.set i (l++[d])):=by
 simp[msS,List.map_set,mpI]
def msI (y n:Nat):List (Option (List (Value×CD))):=List.replicate y (some [])++List.replicate (n - y) none
theorem msI_len {y n:Nat} (h:y≤n):(msI y n).length=n:=by simp[msI];omega
theorem msI_free {y n:Nat} (h:y<n):X0x (msI y n) y=true:=by
 obtain⟨k,hk⟩:∃k,n - y=k+1:=⟨n - y - 1,by omega⟩;simp[X0x,msI,hk,List.replicate_succ]
theorem msI_set {y n:Nat} (h:y<n):(msI y n).set y (some [])=msI (y+1) n:=by
 obtain⟨k,hk⟩:∃k,n - y=k+1:=⟨n - y - 1,by omega⟩;have e:n - (y+1)=k:=by omega
 have e2:List.replicate (y+1) (some ([]:List (Value×CD)))=List.replicate y (some [])++[some []]:=List.replicate_succ';simp only[msI,hk,e,e2];rw[List.set_append,if_neg (by simp)];simp[List.replicate_succ]
theorem msI_zero (n:Nat):msI 0 n=List.replicate n none:=by simp[msI]
theorem msI_end (n:Nat):msI n n=msS (List.replicate n []):=by simp[msI,msS,mpI]
theorem Gs.empty (N:List Nd) (steps:List St) (nv:Nat):Gs N steps nv (List.replicate N.length []):=by
 refine⟨by simp,fun l hl=>?_,fun l hl=>?_,fun to l d h hd=>?_⟩
 · rw[(List.mem_replicate.1 hl).2];exact List.nodup_nil
 · rw[(List.mem_replicate.1 hl).2];simp
 have:=List.mem_of_getElem? h;rw[(List.mem_replicate.1 this).2]at hd;cases hd
def ZS (l:List Nat):Option (List (List CD)):=if l=[] then none else some (XW l)
def rwI (L:List (List Nat)) (y n:Nat):List (Option (List (List CD))):=(L.take y).map ZS++List.replicate (n - y) none
theorem XbJ {L:List (List Nat)} {y n:Nat} (h:y≤n) (hL:L.length=n):(rwI L y n).length=n:=by simp[rwI,hL];omega
theorem XbV {L:List (List Nat)} {y n:Nat} (h:y<n) (hL:L.length=n):(rwI L y n)[y]? =some none:=by
 have ht:((L.take y).map ZS).length=y:=by rw[List.length_map,List.length_take];omega
 unfold rwI;rw[List.getElem?_append_right (by rw[ht];exact Nat.le_refl _),ht,Nat.sub_self];obtain⟨k,hk⟩:∃k,n - y=k+1:=⟨n - y - 1,by omega⟩;rw[hk];rfl
theorem Xbp {L:List (List Nat)} {y n:Nat} {l:List Nat} (hl:L[y]? =some l) (h:y<n) (hL:L.length=n):(rwI L y n).set y (ZS l)=rwI L (y+1) n:=by
 have ht:((L.take y).map ZS).length=y:=by rw[List.length_map,List.length_take];omega
 obtain⟨k,hk⟩:∃k,n - y=k+1:=⟨n - y - 1,by omega⟩;have e:n - (y+1)=k:=by omega
 unfold rwI;rw[List.set_append,if_neg (by rw[ht];omega),ht,Nat.sub_self,List.take_add_one,hl,hk,e];simp[List.replicate_succ]
theorem X9Q (L:List (List Nat)) (n:Nat):rwI L 0 n=List.replicate n none:=by simp[rwI]
theorem Xbv {L:List (List Nat)} {n:Nat} (hL:L.length=n):(rwI L n n).map (fun r=>[CD.sl 1 (r.getD [])])=QB L:=by
 unfold rwI QB;rw[←hL,List.take_length,Nat.sub_self];simp only[List.replicate_zero,List.append_nil,List.map_map];refine List.map_congr_left fun l _=>?_;unfold ZS;simp only[Function.comp];split
 · rename_i h;subst h;rfl
 rfl
theorem Xao (l:List Nat):XW l=Xe (l.map Int.ofNat):=by simp[XW,Xe]
end Go.Proofs.YtppjennamodfdaaGreat

namespace Go.Proofs.YtppjennamodfdaaGreat
open Go Go.Hl Go.Shelf Go.Sort
def sortR:Ren:=⟨fun f=>if f=125 then 74 else if f=128 then 119 else if f=129 then 120 else if f=189 then 35 else if f=215 then 144 else if f=216 then 116 else if f=257 then 73 else if f=294 then 110 else if f=295 then 111 else if f=296 then 112 else if f=297 then 113 else if f=298 then 114 else if f=299 then 115 else if f=300 then 117 else if f=301 then 118 else if f=328 then 139 else if f=329 then 140 else if f=330 then 141 else if f=331 then 142 else if f=332 then 143 else if f=343 then 160 else f,fun t=>if t=0 then 0 else if t=3 then 3 else if t=4 then 4 else if t=5 then 5 else if t=9 then 9 else if t=28 then 27 else if t=46 then 125 else if t=51 then 168 else if t=53 then 170 else if t=131 then 117 else if t=182 then 161 else if t=183 then 162 else if t=218 then 187 else if t=222 then 191 else if t=228 then 201 else if t=229 then 180 else t,fun g=>g⟩
theorem sortL:Lays.n189 Tryz.prog sortR where
 mixed:=by kernel_rfl
 f125:=by kernel_rfl
 f128:=by kernel_rfl
 f129:=by kernel_rfl
 f189:=by kernel_rfl
 f215:=by kernel_rfl
 f216:=by kernel_rfl
 f257:=by kernel_rfl
 f294:=by kernel_rfl
 f295:=by kernel_rfl
 f296:=by kernel_rfl
 f297:=by kernel_rfl
 f298:=by kernel_rfl
 f299:=by kernel_rfl
 f300:=by kernel_rfl
 f301:=by kernel_rfl
 f328:=by kernel_rfl
 f329:=by kernel_rfl
 f330:=by kernel_rfl
 f331:=by kernel_rfl
 f332:=by kernel_rfl
 f343:=by kernel_rfl
 t0:=by kernel_rfl
 a0:=fun w=>rfl
 z0:=fun w=>rfl
 v0:=fun w=>rfl
 t3:=by kernel_rfl
 a3:=fun w=>rfl
 z3:=fun w=>rfl
 v3:=fun w=>rfl
 t4:=by kernel_rfl
 a4:=fun w=>rfl
 z4:=fun w=>rfl
 v4:=fun w=>rfl
 t5:=by kernel_rfl
 a5:=fun w=>rfl
 z5:=fun w=>rfl
 v5:=fun w=>rfl
 t9:=by kernel_rfl
 a9:=fun w=>rfl
 z9:=fun w=>rfl
 v9:=fun w=>rfl
 t28:=by kernel_rfl
 a28:=fun w=>rfl
 z28:=fun w=>rfl
 v28:=fun w=>rfl
 t46:=by kernel_rfl
 a46:=fun w=>rfl
 z46:=fun w=>rfl
 v46:=fun w=>rfl
 t51:=by kernel_rfl
 a51:=fun w=>rfl
 z51:=fun w=>rfl
 v51:=fun w=>rfl
 t53:=by kernel_rfl
 a53:=fun w=>rfl
 z53:=fun w=>rfl
 v53:=fun w=>rfl
 t131:=by kernel_rfl
 a131:=fun w=>rfl
 z131:=fun w=>rfl
 v131:=fun w=>rfl
 t182:=by kernel_rfl
 a182:=fun w=>rfl
 z182:=fun w=>rfl
 v182:=fun w=>rfl
 t183:=by kernel_rfl
 a183:=fun w=>rfl
 z183:=fun w=>rfl
 v183:=fun w=>rfl
 t218:=by kernel_rfl
 a218:=fun w=>rfl
 z218:=fun w=>rfl
 v218:=fun w=>rfl
 t222:=by kernel_rfl
 a222:=fun w=>rfl
 z222:=fun w=>rfl
 v222:=fun w=>rfl
 t228:=by kernel_rfl
 a228:=fun w=>rfl
 z228:=fun w=>rfl
 v228:=fun w=>rfl
 t229:=by kernel_rfl
 a229:=fun w=>rfl
 z229:=fun w=>rfl
 v229:=fun w=>rfl
def compR:Ren:=⟨fun f=>if f=20 then 36 else f,fun t=>if t=0 then 0 else if t=3 then 3 else if t=4 then 4 else if t=22 then 27 else t,fun g=>g⟩
theorem compL:Lays2.n20 Tryz.prog compR where
 mixed:=by kernel_rfl
 f20:=by kernel_rfl
 t0:=by kernel_rfl
 a0:=fun w=>rfl
 z0:=fun w=>rfl
 v0:=fun w=>rfl
 t3:=by kernel_rfl
 a3:=fun w=>rfl
 z3:=fun w=>rfl
 v3:=fun w=>rfl
 t4:=by kernel_rfl
 a4:=fun w=>rfl
 z4:=fun w=>rfl
 v4:=fun w=>rfl
 t22:=by kernel_rfl
 a22:=fun w=>rfl
 z22:=fun w=>rfl
 v22:=fun w=>rfl
 i3:=by kernel_rfl
structure RowOut (w w':World) (g:Nat) (ys:List Int):Prop where
 os:w'.os=w.os
 tape:w'.tape=w.tape
 output:w'.output=w.output
 size:w.heap.size≤w'.heap.size
 other:∀k,k<w.heap.size→k≠g→w'.heap[k]? =w.heap[k]?
 cells:∀cur t x,w.heap[g]? =some (.cells cur t x)→∃cur':Array Value,w'.heap[g]? =some (.cells cur' t x)∧cur'.size=cur.size∧∀k (hk:k<ys.length),k<cur.size→cur'[k]? =some (.int .i64 ys[k])
theorem X5O (w:World) (q g:Nat) (os:Array Obj) (ys:List Int) (m:Nat) (hg:g<w.heap.size):RowOut w (grow (putRow (Value.int .i64) (Sort.ahead w q) g 0 (ys++List.replicate m 0).toArray) os) g ys:=by
 have hsz:(putRow (Value.int .i64) (Sort.ahead w q) g 0 (ys++List.replicate m 0).toArray).heap.size=w.heap.size:=by simp[putRow,mapBlock]
 refine⟨rfl,rfl,rfl,by simp only[grow,Array.size_append,hsz];omega,fun k hk hne=>?_,fun cur t x hc=>?_⟩
 · rw[heap_grow_old _ _ (by rw[hsz];exact hk)];simp only[putRow,mapBlock,heap_ahead,Array.getElem?_modify];rw[if_neg fun h=>hne h.symm]
 refine⟨putCells (Value.int .i64) 0 (ys++List.replicate m 0).toArray cur,?_,by simp[putCells],fun k hk hkc=>?_⟩
 · rw[heap_grow_old _ _ (by rw[hsz];exact hg)];simp only[putRow,mapBlock,heap_ahead,Array.getElem?_modify,if_true,hc];rfl
 simp only[putCells,Array.getElem?_mapIdx,Array.getElem?_eq_getElem hkc,Option.map_some,Nat.zero_add,Nat.sub_zero];rw[if_pos ⟨Nat.zero_le _,by simp;omega⟩];congr 2;rw[getElem!_pos _ k (by simp;omega)];simp[hk]
theorem X9b {zs:List Int} {a b:Nat} {d:CD} (h:XU (Xe zs) a b=some d):b=0∧∃n,zs[a]? =some n∧d=iC n:=by
 unfold XU at h;rw[X5Q]at h;cases hz:zs[a]? with
 |none=>rw[hz]at h;cases h
 | some n=>
   rw[hz]at h;cases b with
   |zero=>cases h;exact⟨rfl,n,rfl,rfl⟩
   |succ b=>cases h
theorem row_con {f:FuncId} (hcall:Ql Tryz.prog f=true) (zs ys:List Int) (hz:0<zs.length) (hle:ys.length≤zs.length) (r:RV) (rv:Nat→Nat→Value) (hr:∀(F:Nat→Prop) (γ:Nat→Value) (w:World) (g cap:Nat),γ 900001=.slice (some ⟨g,0,none⟩) ys.length cap→Xg F γ w r (rv g cap))
  (key:∀(g cap:Nat) (w:World),Holds (Value.int .i64) w g 0 zs.toArray→g<w.heap.size→zs.length≤cap→cap≤maxLen→Calls Tryz.prog f #[.slice (some ⟨g,0,none⟩) zs.length cap] w fun e w'=>e=.returned (rv g cap)∧RowOut w w' g ys):
  ConS Tryz.prog f [(900001,.row 3 1 (Xe zs))] [.one (.own 900001)] r [(900001,.row 3 1 (Xe ys))]:=by
 refine⟨hcall,fun F γ w vs hh hsz hargs=>?_⟩;have hob:=hh.ob 900001 _ rfl;have hap:=hh.apart 900001 _ rfl;obtain⟨h0,hrs,xs,⟨hxl,hown⟩,hx1,hc⟩:=hob;rcases hown with⟨_,hn⟩|⟨g,cap,cur,hv,hB,hg,hcap,hmax,hcs,htake⟩
 · rw[WO]at hn;omega
 rw[WO]at hxl hcap htake hv;rw[Nat.mul_one]at hxl htake hcs;obtain⟨l⟩:=vs
 match l,hsz with
 | [v0],_=>
   have a0:Xp F γ w (.own 900001) v0:=hargs 0 _ v0 rfl rfl;have e0:v0=.slice (some ⟨g,0,none⟩) zs.length cap:=by rw[a0.1,hv];rfl
   subst e0
   have hcur:∀k (hk:k<zs.length),cur[k]? =some (.int .i64 zs[k]):=by
    intro k hk;obtain⟨u,hu,hr⟩:=hc k 0 (iC zs[k]) (by unfold XU;rw[X5Q];simp[hk]);cases hr;have:xs[k]? =cur[k]? :=by rw[←htake,List.getElem?_take,if_pos hk,Array.getElem?_toList]
    rw[←this];simpa using hu
   have hH:Holds (Value.int .i64) w g 0 zs.toArray:=by
    intro k hk;have hk':k<zs.length:=by simpa using hk
    refine⟨?_,?_⟩
    · have:w.cell? ⟨g,0+k,none⟩=cur[k]? :=by simp[World.cell?,hg]
      rw[this,hcur k hk'];simp[hk']
    simp[World.frozen?,hg]
   have hgs:g<w.heap.size:=(Array.getElem?_eq_some_iff.1 hg).1;refine(key g cap w hH hgs hcap hmax).mono ?_;rintro e w' ⟨rfl,hout⟩;obtain⟨cur',hg',hcs',hcell⟩:=hout.cells cur _ _ hg
   have hkept:Kept (ownB γ [(900001,.row 3 1 (Xe zs))] w) w w':=
    ⟨hout.os,hout.tape,hout.output,hout.size,fun k hk=>hout.other k hk.1 fun e=>by subst e;exact hB hk⟩
   have hnF:¬F g:=hap g (by rw[hv];rfl)
   let γ':Nat→Value:=fun n=>if n=900001 then .slice (some ⟨g,0,none⟩) ys.length cap else γ n
   have hγ:γ' 900001=.slice (some ⟨g,0,none⟩) ys.length cap:=rfl
   have hrow:Xy (fun c=>F c∨False) w' (ownB γ [(900001,.row 3 1 (Xe zs))] w) 3 1 (γ' 900001) (Xe ys):=by
    refine⟨by decide,?_,ys.map (Value.int .i64),⟨by simp,.inr ⟨g,cap,cur',?_,hB,hg',by rw[WO];omega,hmax,?_,?_⟩⟩,?_,?_⟩
    · intro r hr;simp only[Xe,List.mem_map]at hr;obtain⟨n,_,rfl⟩:=hr;rfl
    · rw[hγ,WO]
    · rw[hcs',Nat.mul_one,hcs]
    · rw[WO,Nat.mul_one];apply List.ext_getElem?;intro k;rw[List.getElem?_take,List.getElem?_map];by_cases hk:k<ys.length
      · rw[if_pos hk,Array.getElem?_toList,hcell k hk (by omega)];simp[hk]
      rw[if_neg hk,List.getElem?_eq_none (by omega)];rfl
    · intro u hu;obtain⟨n,_,rfl⟩:=List.mem_map.1 hu;rfl
    intro a b d hd;obtain⟨rfl,n,hn,rfl⟩:=X9b hd;exact⟨.int .i64 n,by simp[hn],CRel.lit _⟩
   have hblk:∀b,Blk (γ' 900001) b↔b=g:=by
    intro b;rw[hγ];exact⟨fun h=>by cases h;rfl,fun h=>by subst h;rfl⟩
   have hlook:∀n o,lkp [(900001,Ob.row 3 1 (Xe ys))] n=some o→n=900001∧o=.row 3 1 (Xe ys):=by
    intro n o hl;simp only[lkp]at hl;split at hl
    · rename_i e;cases hl;exact⟨e.symm,rfl⟩
    cases hl
   refine⟨_,fun _=>False,γ',rfl,hkept,fun c hc=>hc.elim,hr _ γ' w' g cap hγ,?_,fun n cs hl=>?_⟩
   · exact {
      below:=hkept
      hB:=fun b hb=>Nat.lt_of_lt_of_le hb.1 hout.size
      fsz:=fun c hc=>Nat.lt_of_lt_of_le (hh.fsz c (hc.resolve_right id)) hout.size
      ob:=fun n o hl=>by
       obtain⟨rfl,rfl⟩:=hlook n o hl;exact hrow
      apart:=fun n o hl b hb hFb=>by
       obtain⟨rfl,rfl⟩:=hlook n o hl;rw[hblk]at hb;subst hb;exact hnF (hFb.resolve_right id)
      sep:=fun n m on om hn hm hne=>by
       obtain⟨rfl,_⟩:=hlook n on hn;obtain⟨rfl,_⟩:=hlook m om hm;exact absurd rfl hne
      pin:=fun n v hv=>by cases hv}
   simp only[lkp]at hl;split at hl
   · cases hl
   cases hl
theorem X8L (zs:List Int) (hz:0<zs.length) (hl:zs.length≤17592186044416):
  ConS Tryz.prog 36 [(900001,.row 3 1 (Xe zs))] [.one (.own 900001)] (.v (.one (.own 900001))) [(900001,.row 3 1 (Xe (Lib.compact zs)))]:=by
 have hle:(Lib.compact zs).length≤zs.length:=by
  unfold Lib.compact Lib.compactUpTo;rw[List.length_map];exact Nat.le_trans (List.length_filter_le _ _) (by simp)
 refine row_con (by kernel_rfl) zs _ hz hle _ (fun g cap=>.slice (some ⟨g,0,none⟩) (Lib.compact zs).length cap) (fun F γ w g cap h=>⟨by rw[h];rfl,rfl⟩) fun g cap w hH hg hcap hmax=>?_;have h:=Any.slices_Compact_int compL g 0 cap zs w hH (by omega) hcap;refine h.mono ?_;rintro e w' ⟨rfl,q,rfl⟩;refine⟨rfl,?_⟩;have:=X5O w q g #[] (Lib.compact zs) (zs.length - (Lib.compact zs).length) hg;have hgr:∀v:World,grow v #[]=v:=fun v=>by simp[grow]
 rwa [hgr]at this
theorem rowR_con {f:FuncId} (hcall:Ql Tryz.prog f=true) (zs ys:List Int) (hz:0<zs.length) (hle:ys.length=zs.length)
  (key:∀(g cap:Nat) (w:World),Holds (Value.int .i64) w g 0 zs.toArray→g<w.heap.size→zs.length≤cap→cap≤maxLen→Calls Tryz.prog f #[.slice (some ⟨g,0,none⟩) zs.length cap] w fun e w'=>e=.returned (.tuple #[])∧RowOut w w' g ys):
  ConR Tryz.prog f 3 1 (Xe zs) (Xe ys):=by
 refine⟨hcall,fun F B w v hro hF hvF=>?_⟩;obtain⟨h0,hrs,xs,⟨hxl,hown⟩,hx1,hc⟩:=hro;rcases hown with⟨_,hn⟩|⟨g,cap,cur,rfl,hB,hg,hcap,hmax,hcs,htake⟩
 · rw[WO]at hn;omega
 rw[WO]at hxl hcap htake⊢;rw[Nat.mul_one]at hxl htake hcs
 have hcur:∀k (hk:k<zs.length),cur[k]? =some (.int .i64 zs[k]):=by
  intro k hk;obtain⟨u,hu,hr⟩:=hc k 0 (iC zs[k]) (by unfold XU;rw[X5Q];simp[hk]);cases hr;have:xs[k]? =cur[k]? :=by rw[←htake,List.getElem?_take,if_pos hk,Array.getElem?_toList]
  rw[←this];simpa using hu
 have hH:Holds (Value.int .i64) w g 0 zs.toArray:=by
  intro k hk;have hk':k<zs.length:=by simpa using hk
  refine⟨?_,?_⟩
  · have:w.cell? ⟨g,0+k,none⟩=cur[k]? :=by simp[World.cell?,hg]
    rw[this,hcur k hk'];simp[hk']
  simp[World.frozen?,hg]
 have hgs:g<w.heap.size:=(Array.getElem?_eq_some_iff.1 hg).1;refine(key g cap w hH hgs hcap hmax).mono ?_;rintro e w' ⟨rfl,hout⟩;obtain⟨cur',hg',hcs',hcell⟩:=hout.cells cur _ _ hg;refine⟨rfl,hout.os,hout.tape,hout.output,hout.size,fun k hk hne=>hout.other k hk fun e=>hne (by rw[e];rfl),by decide,?_,ys.map (Value.int .i64),⟨by simp,.inr ⟨g,cap,cur',?_,hB,hg',by rw[WO];omega,hmax,?_,?_⟩⟩,?_,?_⟩
 · intro r hr;simp only[Xe,List.mem_map]at hr;obtain⟨n,_,rfl⟩:=hr;rfl
 · rw[WO,hle]
 · rw[hcs',Nat.mul_one,hcs]
 · rw[WO,Nat.mul_one];apply List.ext_getElem?;intro k;rw[List.getElem?_take,List.getElem?_map];by_cases hk:k<ys.length
   · rw[if_pos hk,Array.getElem?_toList,hcell k hk (by omega)];simp[hk]
   rw[if_neg hk,List.getElem?_eq_none (by omega)];rfl
 · intro u hu;obtain⟨n,_,rfl⟩:=List.mem_map.1 hu;rfl
 intro a b d hd;obtain⟨rfl,n,hn,rfl⟩:=X9b hd;exact⟨.int .i64 n,by simp[hn],CRel.lit _⟩
theorem X40 (zs:List Int) (hz:0<zs.length) (hl:zs.length≤17592186044416):ConR Tryz.prog 35 3 1 (Xe zs) (Xe (zs.mergeSort fun x y=>decide (x≤y))):=by
 refine rowR_con (by kernel_rfl) zs _ hz (List.length_mergeSort _) fun g cap w hH hg hcap hmax=>?_;have h:=Any.slices_Sort_int sortL g 0 cap zs w hH hg (by omega);refine h.mono ?_;rintro e w' ⟨rfl,q,os,rfl⟩;refine⟨rfl,?_⟩;have:=X5O w q g os (zs.mergeSort fun x y=>decide (x≤y)) 0 hg;simpa using this
theorem X0X (d:Nat):Con Tryz.prog 35 true [lI []] (.tup []) none d:=by
 refine⟨by kernel_rfl,fun F w vs hF hsz hargs=>?_⟩;obtain⟨l⟩:=vs
 match l,hsz with
 | [v0],_=>
   have a0:CRel F w (.sl 1 []) v0:=hargs 0 _ v0 rfl rfl
   have key:∃p cap,v0=.slice p 0 cap:=by
    cases a0 with
    |nil=>exact⟨_,_,rfl⟩
    |emp a cap=>exact⟨_,_,rfl⟩
    |sl rows b o cap cells=>exact⟨_,_,rfl⟩
   obtain⟨p,cap,rfl⟩:=key;refine(Any.slices_Sort_int_none sortL p cap w).mono ?_;rintro e w' ⟨rfl,rfl⟩;exact⟨_,fun _=>False,noγ,rfl,⟨rfl,rfl,rfl,Nat.le_refl _,fun _ _=>rfl⟩,fun b hb=>hb.elim,⟨#[],rfl,rfl,fun j t u h1 h2=>by simp at h1⟩,fun o ho=>by cases ho⟩
end Go.Proofs.YtppjennamodfdaaGreat
