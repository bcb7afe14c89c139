/- Part 7: contracts of functions of the program and of the reference, and plain facts about what they compute; used by the proof of the claimed statement. Conditions: as each theorem states. -/
import Derived.Test.YtppjennamodfdaaGreatK5
import Derived.Test.YtppjennamodfdaaGreatK3
import Derived.Test.YtppjennamodfdaaGreatK6
set_option linter.unusedSimpArgs false
set_option linter.unusedVariables false
set_option linter.unnecessarySimpa false
set_option maxRecDepth 100000
set_option maxHeartbeats 2000000
namespace Go.Proofs.YtppjennamodfdaaGreat
open Go Go.Hl
theorem X6g (l:List Vr) (hl:l.length≤1000000) (d:Nat):Con Tryz.prog 102 false [lV l] (.v (lV l)) none d:=by
 have hroom:Qq l.length 48:=XB (by omega) (by omega);cases l with
 | nil=>
   refine X81 ?_ ?_
   · refine X5 Tryz.func102 ?_;simp only[Tryz.f102];refine X3 ?_;refine X1<|X1<|X2 ?_;refine(Xa rfl (fun h2=>?_) fun h2=>?_)
     · (try simp only[BN]at h2);refine X3 ?_;exact XF ⟨.inr rfl,_,X5w 2 5 rfl,⟨⟨_,by simp;rfl,by simp[XD]⟩,by simp,fun h=>by cases h⟩⟩
     exact absurd h2 (by simp)
   intro a cap;refine X5 Tryz.func102 ?_;simp only[Tryz.f102];refine X3 ?_;refine X1<|X1<|X2 ?_;refine(Xa rfl (fun h2=>?_) fun h2=>?_)
   · exact absurd h2 (by simp)
   (try simp only[BN]at h2);refine XC (Xax 0 5 rfl) ?_;refine X3 ?_;exact XF ⟨.inr rfl,_,XJ 7 rfl,⟨⟨_,by simp;rfl,by simp[XD]⟩,by simp,fun h=>by cases h⟩⟩
 | cons v r=>
   refine X5 Tryz.func102 ?_;simp only[Tryz.f102];rw[List.length_cons]at hroom;refine X3 ?_;refine X1<|X1<|X2 ?_;refine(Xa rfl (fun h2=>?_) fun h2=>?_)
   · exact absurd h2 (by simp)
   (try simp only[BN]at h2);refine X3 ?_;exact XF ⟨.inr rfl,_,XJ 7 rfl,⟨⟨_,by simp;rfl,by simp[XD]⟩,by simp,fun h=>by cases h⟩⟩
theorem X6G (l:List Int) (hl:l.length≤1000000000) (d:Nat):Con Tryz.prog 34 false [lI l] (.v (lI l)) none d:=by
 have hroom:Qq l.length 8:=⟨by unfold maxLen;omega,by omega⟩;cases l with
 | nil=>
   refine X81 ?_ ?_
   · refine X5 Tryz.func34 ?_;simp only[Tryz.f34];refine X3 ?_;refine X1<|X1<|X2 ?_;refine(Xa rfl (fun h2=>?_) fun h2=>?_)
     · (try simp only[BN]at h2);refine X3 ?_;exact XF ⟨.inr rfl,_,X5w 2 1 rfl,⟨⟨_,by simp;rfl,by simp[XD]⟩,by simp,fun h=>by cases h⟩⟩
     exact absurd h2 (by simp)
   intro a cap;refine X5 Tryz.func34 ?_;simp only[Tryz.f34];refine X3 ?_;refine X1<|X1<|X2 ?_;refine(Xa rfl (fun h2=>?_) fun h2=>?_)
   · exact absurd h2 (by simp)
   (try simp only[BN]at h2);refine XC (Xax 0 1 rfl) ?_;refine X3 ?_;exact XF ⟨.inr rfl,_,XJ 7 rfl,⟨⟨_,by simp;rfl,by simp[XD]⟩,by simp,fun h=>by cases h⟩⟩
 | cons v r=>
   refine X5 Tryz.func34 ?_;simp only[Tryz.f34];rw[List.length_cons]at hroom;refine X3 ?_;refine X1<|X1<|X2 ?_;refine(Xa rfl (fun h2=>?_) fun h2=>?_)
   · exact absurd h2 (by simp)
   (try simp only[BN]at h2);refine X3 ?_;exact XF ⟨.inr rfl,_,XJ 7 rfl,⟨⟨_,by simp;rfl,by simp[XD]⟩,by simp,fun h=>by cases h⟩⟩
end Go.Proofs.YtppjennamodfdaaGreat

namespace Go.Proofs.YtppjennamodfdaaGreat
open Go Go.Hl
@[simp] theorem encI_app (a b:List Int):Xe (a++b)=Xe a++Xe b:=by simp[Xe]
@[simp] theorem encI_one (x:Int):Xe [x]=[[iC x]]:=rfl
structure Inp where
 s:List Int
 p:List Int
 r:List Int
abbrev aI (i:Inp):TV:=.agg [.c (.sl 1 (Xe i.s)),.c (.sl 1 (Xe i.p)),.c (.sl 1 (Xe i.r))]
structure Pk where
 n:Int
 is_:Bool
 a:Nat
 b:Nat
 c:Nat
def X3U (v:Vr) (i:Inp) (a b c:Nat):Pk:=
 if v.kind=1 then⟨(i.s[a]?).getD 0,decide (a<i.s.length),a+1,b,c⟩
 else if v.kind=2 then⟨(i.p[b]?).getD 0,decide (b<i.p.length),a,b+1,c⟩
 else if v.kind=3 then⟨(i.r[c]?).getD 0,decide (c<i.r.length),a,b,c+1⟩
 else⟨v.init,true,a,b,c⟩
def stL (i:Inp):List Vr→Nat→Nat→Nat→List Int→Bool→List Int×Int
 |[],a,b,c,vals,fits=>if a=i.s.length∧b=i.p.length∧c=i.r.length then(if fits=true then(vals,0)else([],3))else([],1)
 | v::l,a,b,c,vals,fits=>
   if(X3U v i a b c).is_=true then stL i l (X3U v i a b c).a (X3U v i a b c).b (X3U v i a b c).c (vals++[(X3U v i a b c).n]) (fits&&(decide (v.low≤(X3U v i a b c).n)&&decide ((X3U v i a b c).n≤v.high)))
   else([],1)
theorem X7I (vars:List Vr) (i:Inp) (hl:vars.length≤1000000) (d:Nat):Con Tryz.prog 30 false [lV vars,aI i] (.tup [lI (stL i vars 0 0 0 [] true).1,li (stL i vars 0 0 0 [] true).2]) none d:=by
 obtain⟨res,hres⟩:∃r,stL i vars 0 0 0 [] true=r:=⟨_,rfl⟩;rw[hres];obtain⟨is,ip,ir⟩:=i;refine X5 Tryz.func30 ?_;simp only[Tryz.f30];simp only[aI];refine X3 ?_;refine X3 ?_;refine X3 ?_;refine X3 ?_;refine X1<|X1<|X2 ?_;refine X4<|(Xf [0,3] (fun(x:Nat×Nat×Nat×Nat×List Int×Bool)=>[(6,.v (li x.2.1)),(7,.v (li x.2.2.1)),(8,.v (li x.2.2.2.1)),(9,.v (.one (.own 1009))),(10,.v (lb x.2.2.2.2.2)),(11,.v (li x.1))]) (fun x=>[(3,.box [.c (.sl 1 (Xe is)),.c (.sl 1 (Xe ip)),.c (.sl 1 (Xe ir))]),(1009,.row 3 1 (Xe x.2.2.2.2.1))]) (fun x=>x.1≤vars.length∧stL ⟨is,ip,ir⟩ (vars.drop x.1) x.2.1 x.2.2.1 x.2.2.2.1 x.2.2.2.2.1 x.2.2.2.2.2=res∧x.2.2.2.2.1.length=x.1∧x.2.1≤x.1∧x.2.2.1≤x.1∧x.2.2.2.1≤x.1) (fun x=>vars.length - x.1) (0,0,0,0,[],true) ⟨Nat.zero_le _,hres,rfl,Nat.le_refl _,Nat.le_refl _,Nat.le_refl _⟩ ?_ ?_)
 · exact X6 (fun n=>if n=1009 then 15 else n) []
 rintro⟨k,a,b,c,vals,fits⟩ ⟨hk,hJ,hvl,ha,hb,hc⟩;simp only[upS,X8,Xw]
 try simp only[X8,KN,Nat.reduceBEq,if_true,if_false,ins,Nat.reduceLT]
 simp only at hk hJ hvl ha hb hc;clear hres;refine X1<|X1<|X2 ?_;refine(X7 rfl (fun h7=>Xb ?_) (fun h7=>?_))
 · (try simp only[BN]at h7);have hlt:k<vars.length:=by omega
   obtain⟨v,he,hd⟩:=Xs hlt;have hw1:=XA hlt (by omega);have hwa:IntKind.i64.wrap ((a:Int)+1)=(a:Int)+1:=Xd (by omega) (by omega);have hwb:IntKind.i64.wrap ((b:Int)+1)=(b:Int)+1:=Xd (by omega) (by omega);have hwc:IntKind.i64.wrap ((c:Int)+1)=(c:Int)+1:=Xd (by omega) (by omega);have hk1:k+1≤vars.length:=hlt;have hroom:Qq (k+1) 8:=XB (by omega) (by omega);rw[hd]at hJ;simp only[stL]at hJ;obtain⟨nm,kd,lo,hi,ini⟩:=v;obtain⟨Q,hQ⟩:∃q,X3U ⟨nm,kd,lo,hi,ini⟩ ⟨is,ip,ir⟩ a b c=q:=⟨_,rfl⟩;rw[hQ]at hJ;unfold X3U at hQ;simp only at hQ;clear hlt h7 hd;refine X1<|X4<|X1<|X2 ?_;refine X3 ?_;refine(XV [0,3,9,10,11,12] (fun(z:Pk)=>[(6,.v (li z.a)),(7,.v (li z.b)),(8,.v (li z.c)),(13,.v (li z.n)),(14,.v (lb z.is_))]) (fun(z:Pk)=>[(3,.box [.c (.sl 1 (Xe is)),.c (.sl 1 (Xe ip)),.c (.sl 1 (Xe ir))]),(12,.box [.c (sC nm),.c (iC kd),.c (iC lo),.c (iC hi),.c (iC ini)]),(1009,.row 3 1 (Xe vals))]) (fun(z:Pk)=>z=Q∧z.a≤k+1∧z.b≤k+1∧z.c≤k+1) ?_ ?_)
   ·
    refine X3 ?_;refine X4<|X1<|X2 ?_;refine(X7 rfl (fun h13=>?_) (fun h13=>?_))
    · (try simp only[BN]at h13);rw[if_pos h13]at hQ;refine Xj [⟨true,.tup [li ((is[a]?).getD 0),lb (decide (a<is.length))],none⟩] ?_ ?_
      · first|exact X47 _ _ _|exact trivial|simpa[*]using X47 _ _ _
      refine X2 ?_;exact⟨⟨(is[a]?).getD 0,decide (a<is.length),a+1,b,c⟩,⟨hQ,by simp only;omega,by simp only;omega,by simp only;omega⟩,X6 (fun n=>n) []⟩
    (try simp only[BN]at h13);rw[if_neg h13]at hQ;refine X3 ?_;refine(X7 rfl (fun h18=>?_) (fun h18=>?_))
    · (try simp only[BN]at h18);rw[if_pos h18]at hQ;refine Xj [⟨true,.tup [li ((ip[b]?).getD 0),lb (decide (b<ip.length))],none⟩] ?_ ?_
      · first|exact X47 _ _ _|exact trivial|simpa[*]using X47 _ _ _
      refine X2 ?_;exact⟨⟨(ip[b]?).getD 0,decide (b<ip.length),a,b+1,c⟩,⟨hQ,by simp only;omega,by simp only;omega,by simp only;omega⟩,X6 (fun n=>n) []⟩
    (try simp only[BN]at h18);rw[if_neg h18]at hQ;refine X3 ?_;refine(Xa rfl (fun h23=>?_) fun h23=>?_)
    · (try simp only[BN]at h23);rw[if_pos h23]at hQ;refine Xj [⟨true,.tup [li ((ir[c]?).getD 0),lb (decide (c<ir.length))],none⟩] ?_ ?_
      · first|exact X47 _ _ _|exact trivial|simpa[*]using X47 _ _ _
      refine X2 ?_;exact⟨⟨(ir[c]?).getD 0,decide (c<ir.length),a,b,c+1⟩,⟨hQ,by simp only;omega,by simp only;omega,by simp only;omega⟩,X6 (fun n=>n) []⟩
    (try simp only[BN]at h23);rw[if_neg h23]at hQ;exact⟨⟨ini,true,a,b,c⟩,⟨hQ,by simp only;omega,by simp only;omega,by simp only;omega⟩,X6 (fun n=>n) []⟩
   rintro⟨zn,zi,za,zb,zc⟩ ⟨hz,h1,h2,h3⟩;simp only[upS,X8,Xw]
   try simp only[X8,KN,Nat.reduceBEq,if_true,if_false,ins,Nat.reduceLT]
   clear hQ;subst hz;simp only at h1 h2 h3 hJ;refine X1<|X1<|X2 ?_;refine(Xa rfl (fun h29=>?_) fun h29=>?_)
   · (try simp only[BN]at h29);rw[if_neg (by simp[h29])]at hJ;subst hJ;refine X3 ?_;exact XF ⟨.inr rfl,_,X5w 4 1 rfl,⟨⟨_,by simp;rfl,by simp[XD]⟩,by simp,fun h=>by cases h⟩⟩
   (try simp only[BN]at h29);rw[if_pos (by simpa using h29)]at hJ;refine X1<|X1<|X2 ?_;refine(Xa rfl (fun h33=>?_) fun h33=>?_)
   · try simp only[BN]at h33
     have hz:(decide (lo≤zn)&&decide (zn≤hi))=false:=by
      simp only[Bool.and_eq_false_iff,decide_eq_false_iff_not];omega
     rw[hz,Bool.and_false]at hJ;refine X2 ?_;refine X2 ?_;refine X2 ?_;exact⟨(k+1,za,zb,zc,vals++[zn],false),⟨hk1,hJ,by simp[hvl],h1,h2,h3⟩,by simp only;omega,X6 (fun n=>if n=1009 then 78 else n) []⟩
   try simp only[BN]at h33
   have hz:(decide (lo≤zn)&&decide (zn≤hi))=true:=by
    simp only[Bool.and_eq_true,decide_eq_true_eq];omega
   rw[hz,Bool.and_true]at hJ;refine X2 ?_;refine X2 ?_;exact⟨(k+1,za,zb,zc,vals++[zn],fits),⟨hk1,hJ,by simp[hvl],h1,h2,h3⟩,by simp only;omega,X6 (fun n=>if n=1009 then 78 else n) []⟩
 (try simp only[BN]at h7);have hkl:k=vars.length:=by omega
 rw[hkl,List.drop_length]at hJ;simp only[stL]at hJ;refine(Xi ?_);refine X1<|X1<|X2 ?_;refine(Xa rfl (fun h42=>?_) fun h42=>?_)
 · (try simp only[BN]at h42);rw[if_neg (by omega)]at hJ;subst hJ;refine X3 ?_;exact XF ⟨.inr rfl,_,X5w 4 1 rfl,⟨⟨_,by simp;rfl,by simp[XD]⟩,by simp,fun h=>by cases h⟩⟩
 (try simp only[BN]at h42);rw[if_pos (by omega)]at hJ;refine X1<|X1<|X2 ?_;refine(Xa rfl (fun h46=>?_) fun h46=>?_)
 · (try simp only[BN]at h46);rw[if_neg (by simp[h46])]at hJ;subst hJ;refine X3 ?_;exact XF ⟨.inr rfl,_,X5w 4 1 rfl,⟨⟨_,by simp;rfl,by simp[XD]⟩,by simp,fun h=>by cases h⟩⟩
 (try simp only[BN]at h46);rw[if_pos (by simpa using h46)]at hJ;subst hJ;refine X3 ?_;exact XF ⟨.inr rfl,_,XJ 1009 rfl,⟨⟨_,by simp;rfl,by simp[XD]⟩,by simp,fun h=>by cases h⟩⟩
end Go.Proofs.YtppjennamodfdaaGreat

namespace Go.Proofs.YtppjennamodfdaaGreat
open Go Go.Hl
structure Sta where
 vals:List Int
 outs:List Int
 time:Int
abbrev aSt (s:Sta):TV:=.agg [.c (.sl 1 (Xe s.vals)),.c (.sl 1 (Xe s.outs)),.c (iC s.time)]
def tick (s:Sta) (c:Int):Sta:=⟨s.vals,s.outs,wr (s.time+c)⟩
def X1y (c:Int) (t:Tm) (body:Sta→Sta):Nat→Sta→Sta
 |0,s=>s
 |k+1,s=>if vT s.vals t=0 then tick s c else X1y c t body k (body (tick s c))
def X6b (vars:List Vr) (vs:List Int) (v n:Int):List Int:=
 match vars[v.toNat]? with
 |some w=>vs.set v.toNat (WX n w.low w.high)
 |none=>vs
def Zz (vars:List Vr) (hv:List Int) (d v n:Int) (t:Tm) (bs:List Int) (s:Sta):Sta:=
 if d=0 then⟨X6b vars s.vals v (vT s.vals t),s.outs,s.time⟩
 else if d=1 then⟨s.vals,s.outs++[vT s.vals t],s.time⟩
 else if d=5 then⟨X6b vars s.vals v ((hv[n.toNat]?).getD 0),s.outs,s.time⟩
 else if d=6 then⟨s.vals,s.outs,stlL bs s.time s.time false⟩ else s
def Qa (vars:List Vr) (hv:List Int):List St→Sta→Sta
 |[]=>fun s=>s
 | .mk d c v n t a b bs::l=>fun s=>
   Qa vars hv l (if d=4 then X1y c t (Qa vars hv a) n.toNat s
    else if d=3 then(if vT s.vals t=0 then Qa vars hv b (tick s c)else Qa vars hv a (tick s c))
    else Zz vars hv d v n t bs (tick s c))
mutual
def wfS (vars:List Vr) (nh:Nat):St→Bool
 | .mk d _ v n t a b bs=>QL vars false t&&((decide (d≠0∧d≠5)||W5 vars v)&&((decide (d≠5)||(decide (0≤n)&&decide (n<nh)))&&((decide (d≠4)||decide (n≤4096))&&(decide (bs.length≤1000000000)&&(wfL vars nh a&&wfL vars nh b)))))
def wfL (vars:List Vr) (nh:Nat):List St→Bool
 |[]=>true
 |s::l=>wfS vars nh s&&wfL vars nh l
end
mutual
def oUS:St→Nat
 | .mk d _ _ n _ a b _=>if d=4 then n.toNat*oUL a else if d=3 then max (oUL a) (oUL b)else if d=1 then 1 else 0
def oUL:List St→Nat
 |[]=>0
 |s::l=>oUS s+oUL l
end
theorem X3r (vars:List Vr) (vs:List Int) (v n:Int):(X6b vars vs v n).length=vs.length:=by
 unfold X6b;split<;>simp
theorem X3H (vars:List Vr) (hv:List Int) (d v n:Int) (t:Tm) (bs:List Int) (s:Sta):(Zz vars hv d v n t bs s).vals.length=s.vals.length∧(Zz vars hv d v n t bs s).outs.length≤s.outs.length+(if d=1 then 1 else 0):=by
 unfold Zz;split
 · rename_i h;subst h;simp[X3r]
 split
 · rename_i h;subst h;simp
 split
 · simp[X3r]
 split<;>simp
theorem X7K {c:Int} {t:Tm} {body:Sta→Sta} {O:Nat} (hb:∀s,(body s).vals.length=s.vals.length∧(body s).outs.length≤s.outs.length+O):∀(k:Nat) (s:Sta),(X1y c t body k s).vals.length=s.vals.length∧(X1y c t body k s).outs.length≤s.outs.length+k*O
 |0,s=>by simp[X1y]
 | k+1,s=>by
   simp only[X1y];split
   · simp[tick]
   have h1:=X7K (c:=c) (t:=t) hb k (body (tick s c));have h2:=hb (tick s c);simp only[tick]at h2⊢;rw[Nat.succ_mul];simp only[tick]at h1;omega
theorem Wo (vars:List Vr) (hv:List Int):∀(l:List St) (s:Sta),(Qa vars hv l s).vals.length=s.vals.length∧(Qa vars hv l s).outs.length≤s.outs.length+oUL l
 |[],s=>by simp[Qa]
 | .mk d c v n t a b bs::l,s=>by
   simp only[Qa,oUL,oUS];have ha:=Wo vars hv a;have hb:=Wo vars hv b;by_cases h4:d=4
   · rw[if_pos h4,if_pos h4];have h1:=X7K (c:=c) (t:=t) ha n.toNat s;have h2:=Wo vars hv l (X1y c t (Qa vars hv a) n.toNat s);omega
   rw[if_neg h4,if_neg h4];by_cases h3:d=3
   · rw[if_pos h3,if_pos h3];have h1:=ha (tick s c);have h2:=hb (tick s c);have e:(tick s c).vals.length=s.vals.length∧(tick s c).outs.length=s.outs.length:=⟨rfl,rfl⟩;split
     · have h5:=Wo vars hv l (Qa vars hv b (tick s c));omega
     have h5:=Wo vars hv l (Qa vars hv a (tick s c));omega
   rw[if_neg h3,if_neg h3];have h1:=X3H vars hv d v n t bs (tick s c);have h5:=Wo vars hv l (Zz vars hv d v n t bs (tick s c));have e:(tick s c).vals.length=s.vals.length∧(tick s c).outs.length=s.outs.length:=⟨rfl,rfl⟩;omega
theorem wfL_mem {vars:List Vr} {nh:Nat} {l:List St} (h:wfL vars nh l=true) {s:St} (hs:s∈l):wfS vars nh s=true:=by
 induction l with
 |nil=>cases hs
 | cons x l ih=>
   simp only[wfL,Bool.and_eq_true]at h;rcases List.mem_cons.1 hs with rfl|h1
   · exact h.1
   exact ih h.2 h1
theorem Xb8 (f:Fl) (hv:List Int) (d0 c v n:Int) (t:Tm) (a b:List St) (bs:List Int) (hf:QL f.vars false t=true) (hn:n≤4096)
  (hst:∀s:Sta,s.vals.length=f.vars.length→s.outs.length+oUL a≤2000000→∀d:Nat,Con Tryz.prog 108 false [aF f,lI hv,lS a,aSt s] (.v (aSt (Qa f.vars hv a s))) none d)
  (s:Sta) (hs:s.vals.length=f.vars.length) (ho:s.outs.length+n.toNat*oUL a≤2000000) (d:Nat):
  Con Tryz.prog 134 false [aF f,lI hv,aS (.mk d0 c v n t a b bs),aSt s] (.v (aSt (X1y c t (Qa f.vars hv a) n.toNat s))) none d:=by
 obtain⟨vars,hats,body⟩:=f;simp only at hf hst hs;have hlen:=Wo vars hv a;obtain⟨B,hB⟩:∃x,Qa vars hv a=x:=⟨_,rfl⟩;simp only[hB]at hst hlen⊢;obtain⟨O,hO⟩:∃x,oUL a=x:=⟨_,rfl⟩;rw[hO]at ho;simp only[hO]at hst hlen;obtain⟨res,hres⟩:∃r,X1y c t B n.toNat s=r:=⟨_,rfl⟩;rw[hres];have cval:=fun(vs:List Int) (h:vs.length=vars.length)=>X4r vars false vs h t hf;obtain⟨to,tn,tk⟩:=t;obtain⟨sv,so,stm⟩:=s;clear hB hO hf;refine X5 Tryz.func134 ?_;simp only[Tryz.f134];simp only[aF,Fl.enc,aS,St.enc,Tm.enc,aSt,aT,List.map_cons,List.map_nil,List.cons_append,List.nil_append]at hst cval⊢;refine X3 ?_;refine X1<|X1<|X2 ?_;refine X4<|(Xf [1,4,6,7,8] (fun(x:Nat×Sta)=>[(9,.v (li x.1))]) (fun x=>[(4,.box [.c (.sl 5 (Xv vars)),.c (.sl 6 (Xu hats)),.c (.sl 10 (X9 body))]),(6,.box [.c (iC d0),.c (iC c),.c (iC v),.c (iC n),.c (iC to),.c (iC tn),.c (.sl 3 (Xo tk)),.c (.sl 10 (X9 a)),.c (.sl 10 (X9 b)),.c (.sl 1 (Xe bs))]),(7,.box [.c (.sl 1 (Xe x.2.vals)),.c (.sl 1 (Xe x.2.outs)),.c (iC x.2.time)]),(8,.box [.c (.lit XP),.c (.lit XP),.c (iC 0)])]) (fun x=>x.1≤n.toNat∧X1y c (.mk to tn tk) B (n.toNat - x.1) x.2=res∧x.2.vals.length=vars.length∧x.2.outs.length+(n.toNat - x.1)*O≤2000000) (fun x=>n.toNat - x.1) (0,⟨sv,so,stm⟩) ⟨Nat.zero_le _,hres,hs,ho⟩ ?_ ?_)
 · exact X6 (fun n=>n) []
 rintro⟨k,⟨xv,xo,xt⟩⟩ ⟨hk,hJ,hxl,hxo⟩;simp only[upS,X8,Xw]
 try simp only[X8,KN,Nat.reduceBEq,if_true,if_false,ins,Nat.reduceLT]
 simp only at hk hJ hxl hxo;clear hres hs ho;refine X1<|X1<|X2 ?_;refine(X7 rfl (fun h4=>Xb ?_) (fun h4=>?_))
 · (try simp only[BN]at h4);have hm:n.toNat - k=(n.toNat - (k+1))+1:=by omega
   have hk1:k+1≤n.toNat:=by omega
   have hw1:IntKind.i64.wrap ((k:Int)+1)=(k:Int)+1:=Xd (by omega) (by omega);rw[hm]at hJ hxo;rw[Nat.succ_mul]at hxo;simp only[X1y,tick,wr]at hJ;obtain⟨T,hT⟩:∃x,IntKind.i64.wrap (xt+c)=x:=⟨_,rfl⟩;rw[hT]at hJ;have cv:=cval xv hxl;have cs:=hst ⟨xv,xo,T⟩ hxl (by simp only;omega);have hbl:=hlen ⟨xv,xo,T⟩;obtain⟨A,hA⟩:∃x,vT xv (.mk to tn tk)=x:=⟨_,rfl⟩;rw[hA]at cv hJ;obtain⟨⟨bv,bo,bt⟩,hBs⟩:∃x,B ⟨xv,xo,T⟩=x:=⟨_,rfl⟩;rw[hBs]at cs hbl hJ;simp only at cs hbl;clear h4 hst cval hlen hm hA hBs;refine X1<|X4<|X1<|X2 ?_;refine X1<|X1<|(Xm [⟨true,.v (li A),none⟩] ?_ ?_)
   · first|exact cv _|exact trivial|simpa[*]using cv _
   refine(Xa rfl (fun h7=>?_) fun h7=>?_)
   · (try simp only[BN]at h7);rw[if_pos h7]at hJ;subst hJ;refine X3 ?_;exact XF ⟨.inr rfl,_,le_refl _,⟨⟨_,by simp;rfl,by simp[XD]⟩,by simp,fun h=>by cases h⟩⟩
   (try simp only[BN]at h7);rw[if_neg h7]at hJ;refine(Xm [⟨false,.v (.agg [.c (.sl 1 (Xe bv)),.c (.sl 1 (Xe bo)),.c (iC bt)]),none⟩] ?_ ?_)
   · first|exact cs _|exact trivial|simpa[*]using cs _
   refine X2 ?_;exact⟨(k+1,⟨bv,bo,bt⟩),⟨hk1,hJ,by simp only;omega,by simp only;omega⟩,by simp only;omega,X6 (fun n=>n) []⟩
 (try simp only[BN]at h4);have hkl:n.toNat - k=0:=by omega
 rw[hkl]at hJ;simp only[X1y]at hJ;subst hJ;refine(Xi ?_);refine X3 ?_;exact XF ⟨.inr rfl,_,le_refl _,⟨⟨_,by simp;rfl,by simp[XD]⟩,by simp,fun h=>by cases h⟩⟩
end Go.Proofs.YtppjennamodfdaaGreat

namespace Go.Proofs.YtppjennamodfdaaGreat
open Go Go.Hl
theorem X4b {vars:List Vr} {v:Int} (h:W5 vars v=true):0≤v∧∃w,vars[v.toNat]? =some w:=by
 unfold W5 at h;simp only[Bool.and_eq_true,decide_eq_true_eq]at h;refine⟨h.1,?_⟩;have h2:=h.2;split at h2
 · exact⟨_,by assumption⟩
 cases h2
theorem X8v (f:Fl) (hv:List Int) (hl:f.vars.length≤1000000) (hhv:hv.length=f.hats.length) (l:List St):Xk l≤1000000→wfL f.vars f.hats.length l=true→∀s:Sta,s.vals.length=f.vars.length→s.outs.length+oUL l≤2000000→∀d:Nat,
  Con Tryz.prog 108 false [aF f,lI hv,lS l,aSt s] (.v (aSt (Qa f.vars hv l s))) none d:=by
 revert l
 apply St.lists;intro l ih hn hwf s hs ho d;have hlen:=Qg l;have crnd:=Xb8 f hv;have cset:=fun vs v n w h1 h2 h3=>set_con f vs v n w h1 hl h2 h3;obtain⟨res,hres⟩:∃r,Qa f.vars hv l s=r:=⟨_,rfl⟩;rw[hres];have hval:=fun(t:Tm) (vs:List Int) (h:vs.length=f.vars.length) (hf:QL f.vars false t=true)=>X4r f.vars false vs h t hf;obtain⟨vars,hats,body⟩:=f;simp only at hl hhv hwf hs ih crnd cset hres hval;obtain⟨sv,so,stm⟩:=s;simp only at hs ho;refine X5 Tryz.func108 ?_;simp only[Tryz.f108];simp only[aF,Fl.enc,aSt,List.map_cons,List.map_nil];refine X3 ?_;refine X1<|X1<|X2 ?_;refine X4<|(Xf [1,2,4,7,8] (fun(x:Nat×Sta)=>[(9,.v (li x.1))]) (fun x=>[(4,.box [.c (.sl 5 (Xv vars)),.c (.sl 6 (Xu hats)),.c (.sl 10 (X9 body))]),(7,.box [.c (.sl 1 (Xe x.2.vals)),.c (.sl 1 (Xe x.2.outs)),.c (iC x.2.time)]),(8,.box [.c (.lit XP),.c (.lit XP),.c (iC 0)])]) (fun x=>x.1≤l.length∧Qa vars hv (l.drop x.1) x.2=res∧x.2.vals.length=vars.length∧x.2.outs.length+oUL (l.drop x.1)≤2000000) (fun x=>l.length - x.1) (0,⟨sv,so,stm⟩) ⟨Nat.zero_le _,hres,hs,by simpa using ho⟩ ?_ ?_)
 · exact X6 (fun n=>n) []
 rintro⟨k,⟨xv,xo,xt⟩⟩ ⟨hk,hJ,hxl,hxo⟩;simp only[upS,X8,Xw]
 try simp only[X8,KN,Nat.reduceBEq,if_true,if_false,ins,Nat.reduceLT]
 simp only at hk hJ hxl hxo;clear hres hs ho;refine X1<|X1<|X2 ?_;refine(X7 rfl (fun h4=>Xb ?_) (fun h4=>?_))
 · (try simp only[BN]at h4);have hlt:k<l.length:=by omega
   obtain⟨s,he,hd⟩:=Xs hlt;have hw1:=XA hlt (by omega);have hk1:k+1≤l.length:=hlt;have hmem:s∈l:=List.mem_of_getElem? he;have hnm:=Qj hmem;have hwm:=wfL_mem hwf hmem;have iha:=(ih s hmem).1 (by omega);have ihb:=(ih s hmem).2 (by omega);have he':=Q1 he;rw[hd]at hJ hxo;obtain⟨sd,sc,sv,sn,t,sa,sb,sbs⟩:=s;simp only[St.then_,St.else_]at iha ihb;simp only[wfS,Bool.and_eq_true,Bool.or_eq_true,decide_eq_true_eq]at hwm;obtain⟨wt,wl,wn,w4,wb,wa,wbb⟩:=hwm;have iha:=iha wa;have ihb:=ihb wbb;simp only[oUL,oUS]at hxo;simp only[Qa]at hJ;have hval:=fun vs h=>hval t vs h wt;obtain⟨so,stn,sks⟩:=t;simp only[St.enc,Tm.enc,List.cons_append,List.nil_append]at he';simp only[aF,Fl.enc,aT,Tm.enc,aSt,List.map_cons,List.map_nil]at iha ihb hval cset;have hla:=Wo vars hv sa;have hlb:=Wo vars hv sb;clear hlt h4 ih hmem hnm hd he;refine X1<|X4<|X1<|X2 ?_;refine X1<|X1<|X2 ?_;refine(Xa rfl (fun h7=>?_) fun h7=>?_)
   · (try simp only[BN]at h7);have hd4:sd=4:=by simpa using h7
     subst hd4;rw[if_pos rfl]at hxo hJ;have iha':=fun(s:Sta) (h1:s.vals.length=vars.length) (h2:s.outs.length+oUL sa≤2000000)=>iha s h1 h2;have cr:=crnd 4 sc sv sn (.mk so stn sks) sa sb sbs wt (by omega) iha' ⟨xv,xo,xt⟩ hxl (by simp only;omega);have hrl:=X7K (c:=sc) (t:=.mk so stn sks) hla sn.toNat ⟨xv,xo,xt⟩;simp only at hrl;obtain⟨⟨rv,ro,rt⟩,hR⟩:∃x,X1y sc (.mk so stn sks) (Qa vars hv sa) sn.toNat ⟨xv,xo,xt⟩=x:=⟨_,rfl⟩;rw[hR]at cr hrl hJ;simp only at cr hrl;simp only[aF,Fl.enc,aS,St.enc,Tm.enc,aSt,List.map_cons,List.map_nil,List.cons_append,List.nil_append]at cr;clear iha ihb iha' hval cset crnd hla hlb hR;refine Xj [⟨false,.v (.agg [.c (.sl 1 (Xe rv)),.c (.sl 1 (Xe ro)),.c (iC rt)]),none⟩] ?_ ?_
     · first|exact cr _|exact trivial|simpa[*]using cr _
     refine(Xi ?_);refine X2 ?_;exact⟨(k+1,⟨rv,ro,rt⟩),⟨hk1,hJ,by simp only;omega,by simp only;omega⟩,by simp only;omega,X6 (fun n=>n) []⟩
   (try simp only[BN]at h7);have hd4:¬sd=4:=by simpa using h7
   rw[if_neg hd4]at hxo hJ;simp only[tick,wr]at hJ;obtain⟨T,hT⟩:∃x,IntKind.i64.wrap (xt+sc)=x:=⟨_,rfl⟩;rw[hT]at hJ;have hval:=hval xv hxl;obtain⟨A,hA⟩:∃x,vT xv (.mk so stn sks)=x:=⟨_,rfl⟩;unfold Zz at hJ;simp only at hJ;rw[hA]at hval hJ;have hxo1:xo.length≤2000000:=by omega
   have hroom0:Qq xo.length 8:=XB (by omega) (by omega);have hroom1:Qq (xo.length+1) 8:=XB (by omega) (by omega);have hroom2:Qq 1 8:=XB (by decide) (by decide);clear h7 crnd hA;refine X3 ?_;refine X3 ?_;refine X4<|X1<|X2 ?_;refine(X7 rfl (fun h14=>?_) (fun h14=>?_))
   · (try simp only[BN]at h14);have hd0:sd=0:=by simpa using h14
     subst hd0;rw[if_neg (by decide),if_pos rfl]at hJ;have wl:=wl.resolve_left (by decide);obtain⟨hv0,w,hw⟩:=X4b wl;have cs:=cset xv sv A w hxl hv0 hw;have hsl:=X3r vars xv sv A;unfold X6b at hJ hsl;rw[hw]at hJ hsl;simp only at hJ hsl;obtain⟨R,hR⟩:∃x,xv.set sv.toNat (WX A w.low w.high)=x:=⟨_,rfl⟩;rw[hR]at cs hJ hsl;clear cset hR hw iha ihb hla hlb;refine(XS [⟨true,.v (li A),none⟩,⟨false,.v (lI R),none⟩] (by kernel_rfl) (by kernel_rfl) (by rfl) (by simp[*];first|exact⟨rfl,Iff.rfl⟩|exact⟨rfl,trivial⟩|rfl) ?_ ?_)
     · first|exact⟨hval _,cs _⟩|exact trivial|(repeat' first|exact trivial|exact hval _|exact cs _|apply And.intro)
     refine X2 ?_;exact⟨(k+1,⟨R,xo,T⟩),⟨hk1,hJ,by simp only;omega,by simp only;omega⟩,by simp only;omega,X6 (fun n=>n) []⟩
   (try simp only[BN]at h14);have hd0:¬sd=0:=by simpa using h14
   rw[if_neg hd0]at hJ;refine X3 ?_;refine(X7 rfl (fun h19=>?_) (fun h19=>?_))
   · (try simp only[BN]at h19);have hd1:sd=1:=by simpa using h19
     subst hd1;rw[if_neg (by decide),if_pos rfl]at hJ;rw[if_neg (by decide),if_pos rfl]at hxo;clear cset iha ihb hla hlb;refine(X4q [(54,7),(57,7),(59,10),(64,7)] [⟨true,.v (li A),none⟩] (by kernel_rfl) (by kernel_rfl) (by rfl) (by simp[X4d,X5a,Qy, *];first|exact⟨rfl,Iff.rfl⟩|exact⟨rfl,trivial⟩|rfl) ?_ ?_)
     · first|exact hval _|exact trivial|simpa[*]using hval _
     refine XC (XJ 63 rfl) ?_;refine X2 ?_;exact⟨(k+1,⟨xv,xo++[A],T⟩),⟨hk1,hJ,hxl,by simp only[List.length_append,List.length_singleton];omega⟩,by simp only;omega,X6 (fun n=>n) []⟩
   (try simp only[BN]at h19);have hd1:¬sd=1:=by simpa using h19
   rw[if_neg hd1]at hJ;refine X3 ?_;refine(X7 rfl (fun h24=>?_) (fun h24=>?_))
   · (try simp only[BN]at h24);have hd5:sd=5:=by simpa using h24
     subst hd5;rw[if_neg (by decide),if_pos rfl]at hJ;have wl:=wl.resolve_left (by decide);have wn:=wn.resolve_left (by decide);obtain⟨hv0,w,hw⟩:=X4b wl;have hnlt:sn.toNat<hv.length:=by omega
     have hn0:0≤sn:=wn.1;obtain⟨y,hy⟩:=X4Z hnlt;rw[hy]at hJ;simp only[Option.getD_some]at hJ;have cs:=cset xv sv y w hxl hv0 hw;have hsl:=X3r vars xv sv y;unfold X6b at hJ hsl;rw[hw]at hJ hsl;simp only at hJ hsl;obtain⟨R,hR⟩:∃x,xv.set sv.toNat (WX y w.low w.high)=x:=⟨_,rfl⟩;rw[hR]at cs hJ hsl;clear cset hR hw hnlt hhv iha ihb hla hlb;refine(XS [⟨false,.v (lI R),none⟩] (by kernel_rfl) (by kernel_rfl) (by rfl) (by simp[*];first|exact⟨rfl,Iff.rfl⟩|exact⟨rfl,trivial⟩|rfl) ?_ ?_)
     · first|exact cs _|exact trivial|simpa[*]using cs _
     refine X2 ?_;exact⟨(k+1,⟨R,xo,T⟩),⟨hk1,hJ,by simp only;omega,by simp only;omega⟩,by simp only;omega,X6 (fun n=>n) []⟩
   (try simp only[BN]at h24);have hd5:¬sd=5:=by simpa using h24
   rw[if_neg hd5]at hJ;refine X3 ?_;refine(X7 rfl (fun h29=>?_) (fun h29=>?_))
   · (try simp only[BN]at h29);have hd3:sd=3:=by simpa using h29
     subst hd3;rw[if_pos rfl]at hJ hxo;have ca:=iha ⟨xv,xo,T⟩ hxl (by simp only;omega);have cb:=ihb ⟨xv,xo,T⟩ hxl (by simp only;omega);have hla:=hla ⟨xv,xo,T⟩;have hlb:=hlb ⟨xv,xo,T⟩;obtain⟨⟨av,ao,at_⟩,hAA⟩:∃x,Qa vars hv sa ⟨xv,xo,T⟩=x:=⟨_,rfl⟩;obtain⟨⟨bv,bo,bt⟩,hBB⟩:∃x,Qa vars hv sb ⟨xv,xo,T⟩=x:=⟨_,rfl⟩;rw[hAA]at ca hla hJ;rw[hBB]at cb hlb hJ;simp only at ca cb hla hlb;clear iha ihb hAA hBB cset;refine Xj [⟨true,.v (li A),none⟩] ?_ ?_
     · first|exact hval _|exact trivial|simpa[*]using hval _
     refine(X7 rfl (fun h31=>?_) (fun h31=>?_))
     · (try simp only[BN]at h31);rw[if_neg (by simpa using h31)]at hJ;refine(Xm [⟨false,.v (.agg [.c (.sl 1 (Xe av)),.c (.sl 1 (Xe ao)),.c (iC at_)]),none⟩] ?_ ?_)
       · first|exact ca _|exact trivial|simpa[*]using ca _
       refine X2 ?_;exact⟨(k+1,⟨av,ao,at_⟩),⟨hk1,hJ,by simp only;omega,by simp only;omega⟩,by simp only;omega,X6 (fun n=>n) []⟩
     (try simp only[BN]at h31);rw[if_pos (by simpa using h31)]at hJ;refine(Xm [⟨false,.v (.agg [.c (.sl 1 (Xe bv)),.c (.sl 1 (Xe bo)),.c (iC bt)]),none⟩] ?_ ?_)
     · first|exact cb _|exact trivial|simpa[*]using cb _
     refine X2 ?_;exact⟨(k+1,⟨bv,bo,bt⟩),⟨hk1,hJ,by simp only;omega,by simp only;omega⟩,by simp only;omega,X6 (fun n=>n) []⟩
   (try simp only[BN]at h29);have hd3:¬sd=3:=by simpa using h29
   rw[if_neg hd3]at hJ;clear iha ihb cset hla hlb;refine X3 ?_;refine(Xa rfl (fun h39=>?_) fun h39=>?_)
   · (try simp only[BN]at h39);have hd6:sd=6:=by simpa using h39
     subst hd6;rw[if_pos rfl]at hJ;have cse:=X9v sbs T wb;obtain⟨R,hR⟩:∃x,stlL sbs T T false=x:=⟨_,rfl⟩;rw[hR]at cse hJ;clear hR;refine(Xm [⟨true,.v (li R),none⟩] ?_ ?_)
     · first|exact cse _|exact trivial|simpa[*]using cse _
     refine X2 ?_;exact⟨(k+1,⟨xv,xo,R⟩),⟨hk1,hJ,hxl,by simp only;omega⟩,by simp only;omega,X6 (fun n=>n) []⟩
   (try simp only[BN]at h39);have hd6:¬sd=6:=by simpa using h39
   rw[if_neg hd6]at hJ;refine X2 ?_;exact⟨(k+1,⟨xv,xo,T⟩),⟨hk1,hJ,hxl,by simp only;omega⟩,by simp only;omega,X6 (fun n=>n) []⟩
 (try simp only[BN]at h4);have hkl:k=l.length:=by omega
 rw[hkl,List.drop_length]at hJ;simp only[Qa]at hJ;subst hJ;refine(Xi ?_);refine X3 ?_;exact XF ⟨.inr rfl,_,le_refl _,⟨⟨_,by simp;rfl,by simp[XD]⟩,by simp,fun h=>by cases h⟩⟩
end Go.Proofs.YtppjennamodfdaaGreat

namespace Go.Proofs.YtppjennamodfdaaGreat
open Go Go.Hl
theorem Xd8 (f:Fl) (hv:f.vars.length≤1000000) (hh:f.hats.length≤1000000) (hn:Xk f.body+Qw f.hats≤900000000) (d:Nat):
  Con Tryz.prog 60 true [aF f] (.v (lb (ZL f))) none d:=by
 obtain⟨res,hres⟩:∃r,ZL f=r:=⟨_,rfl⟩;rw[hres];have cn:=XcZ f.body (by omega);have csd:=Xb4 f.body (by omega);have ctd:=Xdm f.body (by omega);unfold ZL at hres;obtain⟨vars,hats,body⟩:=f;simp only at hv hh hn hres cn csd ctd;refine X5 Tryz.func60 ?_;simp only[Tryz.f60];simp only[aF,Fl.enc,List.map_cons,List.map_nil];refine X3 ?_;refine X1<|X1<|X2 ?_;refine(Xa rfl (fun h2=>?_) fun h2=>?_)
 · try simp only[BN]at h2
   have hz:(decide (vars.length≤64)&&decide (hats.length≤8))=false:=by
    simp only[Bool.and_eq_false_iff,decide_eq_false_iff_not];omega
   rw[hz]at hres;simp only[Bool.false_and]at hres;subst hres;refine X3 ?_;exact Xc
 try simp only[BN]at h2
 have hz:(decide (vars.length≤64)&&decide (hats.length≤8))=true:=by
  simp only[Bool.and_eq_true,decide_eq_true_eq];omega
 rw[hz]at hres;simp only[Bool.true_and]at hres;refine Xj [⟨true,.v (li (Xk body)),none⟩] ?_ ?_
 · first|exact cn _|exact trivial|simpa[*]using cn _
 refine X1<|X1<|X2 ?_;refine X4<|(Xf [1] (fun(x:Nat×Nat)=>[(3,.v (li x.2)),(4,.v (li x.1))]) (fun x=>[(1,.box [.c (.sl 5 (Xv vars)),.c (.sl 6 (Xu hats)),.c (.sl 10 (X9 body))])]) (fun x=>x.1≤hats.length∧x.2+Qw (hats.drop x.1)=Xk body+Qw hats∧X0q (hats.drop x.1)=X0q hats) (fun x=>hats.length - x.1) (0,Xk body) ⟨Nat.zero_le _,by simp,by simp⟩ ?_ ?_)
 · exact X6 (fun n=>n) []
 rintro⟨k,n⟩ ⟨hk,hJ,hJ2⟩;simp only[upS,X8,Xw]
 try simp only[X8,KN,Nat.reduceBEq,if_true,if_false,ins,Nat.reduceLT]
 simp only at hk hJ hJ2;refine X1<|X1<|X2 ?_;refine(X7 rfl (fun h9=>Xb ?_) (fun h9=>?_))
 · (try simp only[BN]at h9);have hlt:k<hats.length:=by omega
   obtain⟨h,he,hd⟩:=Xs hlt;have hw1:=XA hlt (by omega);have hk1:k+1≤hats.length:=hlt;rw[hd]at hJ hJ2;simp only[Qw]at hJ;have hJ2:(decide (tdT h.term≤12)&&X0q (hats.drop (k+1)))=X0q hats:=hJ2;have ctn:=X6l h.term (by omega);have ctd2:=X62 h.term (by omega);have hw2:IntKind.i64.wrap ((n:Int)+h.term.nodes)=((n+h.term.nodes:Nat):Int):=by rw[Xd (by omega) (by omega)];simp
   obtain⟨nm,lo,hi,⟨o,tn,ks⟩⟩:=h;simp only at hJ hJ2 ctn ctd2 hw2;simp only[aT,Tm.enc,List.map_cons,List.map_nil]at ctn ctd2;obtain⟨N,hN⟩:∃x,(Tm.mk o tn ks).nodes=x:=⟨_,rfl⟩;obtain⟨D,hD⟩:∃x,tdT (Tm.mk o tn ks)=x:=⟨_,rfl⟩;rw[hN]at ctn hJ hw2;rw[hD]at ctd2 hJ2;clear hlt h9 hd hN hD;refine X1<|X4<|X1<|(Xm [⟨true,.v (li N),none⟩] ?_ ?_)
   · first|exact ctn _|exact trivial|simpa[*]using ctn _
   refine Xj [⟨true,.v (li D),none⟩] ?_ ?_
   · first|exact ctd2 _|exact trivial|simpa[*]using ctd2 _
   refine(Xa rfl (fun h12=>?_) fun h12=>?_)
   · (try simp only[BN]at h12);have hz2:X0q hats=false:=by rw[←hJ2];simp only[Bool.and_eq_false_iff,decide_eq_false_iff_not];omega
     rw[hz2,Bool.and_false]at hres;subst hres;refine X3 ?_;exact Xc
   (try simp only[BN]at h12);rw[decide_eq_true (by omega),Bool.true_and]at hJ2;refine X2 ?_;exact⟨(k+1,n+N),⟨hk1,by simp only;omega,hJ2⟩,by simp only;omega,X6 (fun n=>n) []⟩
 (try simp only[BN]at h9);have hkl:k=hats.length:=by omega
 subst hkl;rw[List.drop_length]at hJ hJ2;simp only[Qw,Nat.add_zero]at hJ;have hJ2:X0q hats=true:=hJ2.symm;rw[hJ2,Bool.and_true,←hJ]at hres;obtain⟨S,hS⟩:∃x,sdL body=x:=⟨_,rfl⟩;obtain⟨T,hT⟩:∃x,Wa body=x:=⟨_,rfl⟩;rw[hS]at csd hres;rw[hT]at ctd hres;have e1:decide (n≤1024)=decide ((n:Int)≤1024):=by rw[Bool.eq_iff_iff,decide_eq_true_eq,decide_eq_true_eq];omega
 have e2:decide (S≤12)=decide ((S:Int)≤12):=by rw[Bool.eq_iff_iff,decide_eq_true_eq,decide_eq_true_eq];omega
 rw[e1,e2]at hres;clear e1 e2 hS hT hJ2 h9 hJ;refine(Xi ?_);refine Xj [⟨true,.v (li S),none⟩,⟨true,.v (lb T),none⟩] ?_ ?_
 · first|exact⟨csd _,ctd _⟩|exact trivial|(repeat' first|exact trivial|exact csd _|exact ctd _|apply And.intro)
 exact(Xl (fun h=>⟨.inr rfl,h⟩) _ (by simp[*];rfl) (by subst hres;simp[XD]) (by simp))
end Go.Proofs.YtppjennamodfdaaGreat

namespace Go.Proofs.YtppjennamodfdaaGreat
open Go Go.Hl
theorem Zl (f:Fl) (hv:f.vars.length≤1000000) (hh:f.hats.length≤1000000) (hn:Xk f.body+Qw f.hats≤900000000) (hb:QX f.body=true) (d:Nat):
  Con Tryz.prog 25 true [aF f] (.v (li (Q0 f))) none d:=by
 obtain⟨res,hres⟩:∃r,Q0 f=r:=⟨_,rfl⟩;rw[hres];have csz:=Xd8 f hv hh hn;have cvars:=Xcw f.vars hv;have ct:=fun(hg:X0g f.vars) (h:Ht) (hm:h∈f.hats)=>X6N f.vars true hg (by omega) h.term (by have:=X0l hm;omega);have cst:=fun hg=>Xbh f hg hv f.body (by omega) hb;have cup:=fun ho=>X4T f.body (by omega) ho;have hgood:Zy f.vars=0→X0g f.vars:=X2B;have hok:ssC f.vars f.hats.length f.body true=0→okL f.body=true:=X1M _ _;unfold Q0 X3R at hres;obtain⟨SZ,hSZ⟩:∃x,ZL f=x:=⟨_,rfl⟩;rw[hSZ]at csz hres;obtain⟨vars,hats,body⟩:=f;simp only at hv hh hn hb hres csz cvars ct cst cup hgood hok;obtain⟨VC,hVC⟩:∃x,Zy vars=x:=⟨_,rfl⟩;obtain⟨HC,hHC⟩:∃x,hcs vars [] hats=x:=⟨_,rfl⟩;obtain⟨SC,hSC⟩:∃x,ssC vars hats.length body true=x:=⟨_,rfl⟩;rw[hVC]at cvars hres hgood;rw[hHC]at hres;rw[hSC]at hres hok;have cst:=fun hg=>cst hg true;rw[hSC]at cst;clear hVC hSC hSZ;refine X5 Tryz.func25 ?_;simp only[Tryz.f25];simp only[aF,Fl.enc,List.map_cons,List.map_nil]at csz cst⊢;refine X3 ?_;refine X1<|X1<|(Xm [⟨true,.v (lb SZ),none⟩] ?_ ?_)
 · first|exact csz _|exact trivial|simpa[*]using csz _
 refine(Xa rfl (fun h2=>?_) fun h2=>?_)
 · (try simp only[BN]at h2);have hz:SZ=false:=by simpa using h2
   rw[if_pos hz]at hres;subst hres;refine X3 ?_;exact Xc
 (try simp only[BN]at h2);have hz:SZ=true:=by simpa using h2
 rw[if_neg (by rw[hz];decide)]at hres;clear csz h2;subst hz;refine Xj [⟨true,.v (li VC),none⟩] ?_ ?_
 · first|exact cvars _|exact trivial|simpa[*]using cvars _
 refine X1<|X1<|X2 ?_;refine(Xa rfl (fun h7=>?_) fun h7=>?_)
 · (try simp only[BN]at h7);rw[if_neg h7]at hres;subst hres;refine X3 ?_;exact Xc
 (try simp only[BN]at h7);have hv0:VC=0:=by simpa using h7
 have hg:=hgood hv0;have ct:=ct hg;have cst:=cst hg;rw[if_pos hv0]at hres;clear cvars hgood h7;subst hv0;refine X1<|X1<|X2 ?_;refine X4<|(Xf [1] (fun(x:Nat)=>[(4,.v (li x))]) (fun x=>[(1,.box [.c (.sl 5 (Xv vars)),.c (.sl 6 (Xu hats)),.c (.sl 10 (X9 body))])]) (fun x=>x≤hats.length∧hcs vars (hats.take x) (hats.drop x)=HC) (fun x=>hats.length - x) (0:Nat) ⟨Nat.zero_le _,hHC⟩ ?_ ?_)
 · exact X6 (fun n=>n) []
 rintro k ⟨hk,hJ⟩;simp only[upS,X8,Xw]
 try simp only[X8,KN,Nat.reduceBEq,if_true,if_false,ins,Nat.reduceLT]
 clear hHC;refine X1<|X1<|X2 ?_;refine(X7 rfl (fun h13=>Xb ?_) (fun h13=>?_))
 · (try simp only[BN]at h13);have hlt:k<hats.length:=by omega
   obtain⟨h,he,hd⟩:=Xs hlt;have hw1:=XA hlt (by omega);have hk1:k+1≤hats.length:=hlt;have hkl:(hats.take k).length=k:=by rw[List.length_take];omega
   rw[hd]at hJ;simp only[hcs]at hJ;rw[←Zq he]at hJ;have ct:=ct h (List.mem_of_getElem? he);obtain⟨nm,lo,hi,⟨o,tn,ks⟩⟩:=h;obtain⟨C,hC⟩:∃x,X5X vars (hats.take k) ⟨nm,lo,hi,.mk o tn ks⟩=x:=⟨_,rfl⟩;rw[hC]at hJ;simp only[X5X]at hC;simp only[aT,Tm.enc,List.map_cons,List.map_nil]at ct;obtain⟨TC,hTC⟩:∃x,X0v vars true (.mk o tn ks)=x:=⟨_,rfl⟩;rw[hTC]at ct hC;clear hlt h13 hd cup hok cst hTC;refine X1<|X4<|X1<|X2 ?_;refine X1<|X1<|(Xm [⟨true,.v (lb (ZN nm)),none⟩] ?_ ?_)
   · first|exact X2f _ _|exact trivial|simpa[*]using X2f _ _
   refine(Xa rfl (fun h16=>?_) fun h16=>?_)
   · (try simp only[BN]at h16);rw[if_pos h16]at hC;subst hC;rw[if_neg (by decide)]at hJ;subst hJ;rw[if_neg (by decide)]at hres;subst hres;refine X3 ?_;exact Xc
   (try simp only[BN]at h16);rw[if_neg (by simp[h16])]at hC;clear h16;refine X1<|X1<|X2 ?_;refine X4<|(Xf [1,4,5] (fun(x:Nat)=>[(6,.v (li x))]) (fun x=>[(1,.box [.c (.sl 5 (Xv vars)),.c (.sl 6 (Xu hats)),.c (.sl 10 (X9 body))]),(5,.box [.c (sC nm),.c (iC lo),.c (iC hi),.c (iC o),.c (iC tn),.c (.sl 3 (Xo ks))])]) (fun x=>x≤k∧∀j:Nat,j<x→∀w,hats[j]? =some w→w.name≠nm) (fun x=>k - x) (0:Nat) ⟨Nat.zero_le _,fun j hj=>absurd hj (Nat.not_lt_zero j)⟩ ?_ ?_)
   · exact X6 (fun n=>n) []
   rintro j ⟨hj,hno⟩;simp only[upS,X8,Xw]
   try simp only[X8,KN,Nat.reduceBEq,if_true,if_false,ins,Nat.reduceLT]
   refine X1<|X1<|X2 ?_;refine(X7 rfl (fun h22=>Xb ?_) (fun h22=>?_))
   · (try simp only[BN]at h22);have hjk:j<k:=by omega
     obtain⟨w,hw⟩:∃w,hats[j]? =some w:=⟨hats[j],by simp[show j<hats.length by omega]⟩;have hwj:=XA hjk (by omega);have hj1:j+1≤k:=hjk
     have hmemw:w∈hats.take k:=by
      have:(hats.take k)[j]? =some w:=by rw[List.getElem?_take_of_lt hjk];exact hw
      exact List.mem_of_getElem? this
     obtain⟨n2,l2,i2,⟨o2,t2,k2⟩⟩:=w;clear hjk h22;refine X1<|X4<|X1<|(Qc (by kernel_rfl) (by kernel_rfl) (by rfl) (by simp[*];rfl) ?_);refine(Xa rfl (fun h24=>?_) fun h24=>?_)
     · try simp only[BN]at h24
       have hany:((hats.take k).any fun w=>decide (w.name=nm))=true:=by
        rw[List.any_eq_true];exact⟨_,hmemw,by simpa using h24⟩
       rw[if_pos hany]at hC;subst hC;rw[if_neg (by decide)]at hJ;subst hJ;rw[if_neg (by decide)]at hres;subst hres;refine X3 ?_;exact Xc
     (try simp only[BN]at h24);refine X2 ?_
     exact⟨j+1,⟨hj1,fun i hi u hu=>by
      rcases Nat.lt_or_eq_of_le (Nat.le_of_lt_succ hi)with h|h
      · exact hno i h u hu
      subst h;rw[hw]at hu;cases hu
      simpa using h24⟩,by omega,X6 (fun n=>n) []⟩
   (try simp only[BN]at h22);have hjk:j=k:=by omega
   subst hjk
   have hany:((hats.take j).any fun w=>decide (w.name=nm))=false:=by
    rw[List.any_eq_false];intro w hw;obtain⟨i,hi⟩:=List.mem_iff_getElem?.1 hw;have hij:i<j:=by have:=(List.getElem?_eq_some_iff.1 hi).1;omega
    rw[List.getElem?_take_of_lt hij]at hi;simpa using hno i hij w hi
   rw[if_neg (by simp[hany])]at hC;clear hno hkl hany;refine(Xi ?_);refine X1<|X1<|(Xm [⟨true,.v (lb (QM lo hi)),none⟩] ?_ ?_)
   · first|exact ZT _ _ _|exact trivial|simpa[*]using ZT _ _ _
   refine(Xa rfl (fun h30=>?_) fun h30=>?_)
   · (try simp only[BN]at h30);rw[if_pos h30]at hC;subst hC;rw[if_neg (by decide)]at hJ;subst hJ;rw[if_neg (by decide)]at hres;subst hres;refine X3 ?_;exact Xc
   (try simp only[BN]at h30);rw[if_neg (by simp[h30])]at hC;subst hC;clear h30;refine Xj [⟨true,.v (li TC),none⟩] ?_ ?_
   · first|exact ct _|exact trivial|simpa[*]using ct _
   refine X3 ?_;refine(Xa rfl (fun h35=>?_) fun h35=>?_)
   · (try simp only[BN]at h35);rw[if_neg h35]at hJ;subst hJ;rw[if_neg h35]at hres;subst hres;refine X3 ?_;exact Xc
   (try simp only[BN]at h35);rw[if_pos (by simpa using h35)]at hJ;refine X2 ?_;exact⟨j+1,⟨hk1,hJ⟩,by omega,X6 (fun n=>n) []⟩
 (try simp only[BN]at h13);have hkl:k=hats.length:=by omega
 rw[hkl,List.drop_length]at hJ;simp only[hcs]at hJ;rw[if_pos hJ.symm]at hres;clear hJ hkl hk h13 ct;refine(Xi ?_);refine Xj [⟨true,.v (li SC),none⟩] ?_ ?_
 · first|exact cst _|exact trivial|simpa[*]using cst _
 refine X1<|X1<|X2 ?_;refine(Xa rfl (fun h42=>?_) fun h42=>?_)
 · (try simp only[BN]at h42);rw[if_neg h42]at hres;subst hres;refine X3 ?_;exact Xc
 (try simp only[BN]at h42);have hs0:SC=0:=by simpa using h42
 rw[if_pos hs0]at hres;have hok:=hok hs0;have cup:=cup hok;obtain⟨Y,hY⟩:∃x,bdL CR body ⟨0,0,0⟩=x:=⟨_,rfl⟩;rw[hY]at hres cup;obtain⟨y1,y2,y3⟩:=Y;simp only[Bool.or_eq_true,decide_eq_true_eq]at hres;simp only at cup;clear hY cst h42 hok;refine Xj [⟨true,.tup [li y1,li y2,li y3],none⟩] ?_ ?_
 · first|exact cup _|exact trivial|simpa[*]using cup _
 refine X1<|X1<|X2 ?_;refine(Xa rfl (fun h47=>?_) fun h47=>?_)
 · (try simp only[BN]at h47);rw[if_pos (by omega)]at hres;subst hres;refine X3 ?_;exact Xc
 (try simp only[BN]at h47);rw[if_neg (by omega)]at hres;subst hres;refine X3 ?_;exact Xc
end Go.Proofs.YtppjennamodfdaaGreat

namespace Go.Proofs.YtppjennamodfdaaGreat
open Go Go.Hl
theorem con_arg {P:Program} {f:FuncId} {fresh:Bool} {r:RV} {ob:Option Ob} {d n:Nat} {args:List TV} {xs ys:List CV} (h:Con P f fresh (args.set n (.agg ys)) r ob d) (hx:args[n]? =some (.agg xs)) (hw:LWk xs ys):Con P f fresh args r ob d:=by
 refine⟨h.1,fun F w vs hF hsz hargs=>h.2 F w vs hF (by simpa using hsz) fun j t u ht hu=>?_⟩;rw[List.getElem?_set]at ht;split at ht
 · rename_i e;subst e;split at ht
   · cases ht;obtain⟨ws,rfl,hc⟩:=hargs n _ u hx hu;exact⟨ws,rfl,hw.rel hc⟩
   cases ht
 exact hargs j t u ht hu
theorem X7Y (i:Inp):∀(l:List Vr) (a b c:Nat) (vals:List Int) (fits:Bool),(stL i l a b c vals fits).2=0→(stL i l a b c vals fits).1.length=vals.length+l.length
 | [],a,b,c,vals,fits,h=>by
   simp only[stL]at h⊢;split
   · split
     · simp
     rename_i h1 h2;rw[if_pos h1,if_neg h2]at h;cases h
   rename_i h1;rw[if_neg h1]at h;cases h
 | v::l,a,b,c,vals,fits,h=>by
   simp only[stL]at h⊢;split
   · rename_i h1;rw[if_pos h1]at h;rw[X7Y i l _ _ _ _ _ h];simp;omega
   rename_i h1;rw[if_neg h1]at h;cases h
def st0:Sta:=⟨[],[],0⟩
def X1t (f:Fl) (i:Inp):Sta×Int:=
 if Q0 f=0 then
  (if(stL i f.vars 0 0 0 [] true).2=0 then(Qa f.vars (Wh (stL i f.vars 0 0 0 [] true).1 f.hats) f.body ⟨(stL i f.vars 0 0 0 [] true).1,[],0⟩,0)
  else(st0,(stL i f.vars 0 0 0 [] true).2))
 else(st0,Q0 f)
theorem play_con (f:Fl) (i:Inp) (hv:f.vars.length≤1000000) (hh:f.hats.length≤1000000) (hn:Xk f.body+Qw f.hats≤1000000) (hb:QX f.body=true)
  (hwf:Q0 f=0→wfL f.vars f.hats.length f.body=true∧oUL f.body≤2000000∧∀h∈f.hats,QL f.vars true h.term=true) (d:Nat):
  Con Tryz.prog 72 false [aF f,aI i] (.tup [aSt (X1t f i).1,li (X1t f i).2]) none d:=by
 have cc:=Zl f hv hh (by omega) hb;have cst:=X7I f.vars i hv;have hsl:=X7Y i f.vars 0 0 0 [] true;have crun:=fun hvl h1 h2=>X8v f hvl hv h1 f.body (by omega) h2;have chv:=fun vs h1 h2=>XcO f vs h1 hh h2;obtain⟨⟨SV,SC⟩,hS⟩:∃x,stL i f.vars 0 0 0 [] true=x:=⟨_,rfl⟩;obtain⟨res,hres⟩:∃r,X1t f i=r:=⟨_,rfl⟩;rw[hres];unfold X1t at hres;obtain⟨C,hC⟩:∃x,Q0 f=x:=⟨_,rfl⟩;rw[hC]at cc hres hwf;rw[hS]at cst hsl hres;simp only at cst hsl hres;obtain⟨vars,hats,body⟩:=f;obtain⟨is,ip,ir⟩:=i;simp only at hv hh hn hb hwf cst hsl crun chv hres;clear hC hS;refine X5 Tryz.func72 ?_;simp only[Tryz.f72];simp only[aF,Fl.enc,aI,List.map_cons,List.map_nil]at cc cst⊢;refine X3 ?_;refine Xj [⟨true,.v (li C),none⟩] ?_ ?_
 · first|exact cc _|exact trivial|simpa[*]using cc _
 refine X1<|X1<|X2 ?_;refine(Xa rfl (fun h3=>?_) fun h3=>?_)
 · (try simp only[BN]at h3);rw[if_neg h3]at hres;subst hres;refine X3 ?_;refine XC (Xb6 4 [.c (.sl 1 []),.c (.sl 1 []),.c (iC 0)] rfl (by(repeat'(first|exact LWk.nil|apply LWk.cons|exact CWk.refl _|exact CWk.nil _)))) ?_;exact XF ⟨.inr rfl,_,le_refl _,⟨⟨_,by simp;rfl,by simp[XD,st0]⟩,by simp,fun h=>by cases h⟩⟩
 (try simp only[BN]at h3);have hc0:C=0:=by simpa using h3
 rw[if_pos hc0]at hres;obtain⟨hw,ho,hf⟩:=hwf hc0;clear hwf cc h3;refine Xj [⟨false,.tup [lI SV,li SC],none⟩] ?_ ?_
 · first|exact cst _|exact trivial|simpa[*]using cst _
 refine X1<|X1<|X2 ?_;refine(Xa rfl (fun h8=>?_) fun h8=>?_)
 · (try simp only[BN]at h8);rw[if_neg h8]at hres;subst hres;refine X3 ?_;refine XC (Xb6 4 [.c (.sl 1 []),.c (.sl 1 []),.c (iC 0)] rfl (by(repeat'(first|exact LWk.nil|apply LWk.cons|exact CWk.refl _|exact CWk.nil _)))) ?_;exact XF ⟨.inr rfl,_,le_refl _,⟨⟨_,by simp;rfl,by simp[XD,st0]⟩,by simp,fun h=>by cases h⟩⟩
 (try simp only[BN]at h8);have hs0:SC=0:=by simpa using h8
 rw[if_pos hs0]at hres;have hsl:=hsl hs0;simp only[List.length_nil,Nat.zero_add]at hsl;have ch:=chv SV hsl hf;have hhl:(Wh SV hats).length=hats.length:=by simp[Wh]
 obtain⟨HV,hHV⟩:∃x,Wh SV hats=x:=⟨_,rfl⟩;rw[hHV]at ch hres hhl;have cr:=crun HV hhl hw ⟨SV,[],0⟩ hsl (by simpa using ho);obtain⟨⟨rv,ro,rt⟩,hR⟩:∃x,Qa vars HV body ⟨SV,[],0⟩=x:=⟨_,rfl⟩;rw[hR]at cr hres;subst hres;simp only[aF,Fl.enc,aSt,List.map_cons,List.map_nil]at cr ch;have cr':=fun d=>con_arg (n:=3) (args:=[.agg [.c (.sl 5 (Xv vars)),.c (.sl 6 (Xu hats)),.c (.sl 10 (X9 body))],lI HV,lS body,.agg [.c (.sl 1 (Xe SV)),.c (.lit XP),.c (iC 0)]]) (cr d) rfl (by(repeat'(first|exact LWk.nil|apply LWk.cons|exact CWk.refl _|exact CWk.nil _)));clear cr crun chv cst hsl hw ho hf h8 hhl hHV hR;refine X1<|(XS [⟨false,.v (lI HV),none⟩,⟨false,.v (.agg [.c (.sl 1 (Xe rv)),.c (.sl 1 (Xe ro)),.c (iC rt)]),none⟩] (by kernel_rfl) (by kernel_rfl) (by rfl) (by simp[*];first|exact⟨rfl,Iff.rfl⟩|exact⟨rfl,trivial⟩|rfl) ?_ ?_)
 · first|exact⟨ch _,cr' _⟩|exact trivial|(repeat' first|exact trivial|exact ch _|exact cr' _|apply And.intro)
 exact XF ⟨.inr rfl,_,le_refl _,⟨⟨_,by simp;rfl,by simp[XD]⟩,by simp,fun h=>by cases h⟩⟩
structure Obs where
 outs:List Int
 time:Int
abbrev aO (o:Obs):TV:=.agg [.c (.sl 1 (Xe o.outs)),.c (iC o.time)]
def X2S (f:Fl) (i:Inp):Obs×Int:=if(X1t f i).2=0 then(⟨(X1t f i).1.outs,(X1t f i).1.time⟩,0)else(⟨[],0⟩,(X1t f i).2)
theorem run_con (f:Fl) (i:Inp) (hv:f.vars.length≤1000000) (hh:f.hats.length≤1000000) (hn:Xk f.body+Qw f.hats≤1000000) (hb:QX f.body=true)
  (hwf:Q0 f=0→wfL f.vars f.hats.length f.body=true∧oUL f.body≤2000000∧∀h∈f.hats,QL f.vars true h.term=true) (d:Nat):
  Con Tryz.prog 32 false [aF f,aI i] (.tup [aO (X2S f i).1,li (X2S f i).2]) none d:=by
 have cp:=play_con f i hv hh hn hb hwf;obtain⟨res,hres⟩:∃r,X2S f i=r:=⟨_,rfl⟩;rw[hres];unfold X2S at hres;obtain⟨⟨⟨pv,po,pt⟩,pc⟩,hP⟩:∃x,X1t f i=x:=⟨_,rfl⟩;rw[hP]at cp hres;simp only at cp hres;obtain⟨vars,hats,body⟩:=f;obtain⟨is,ip,ir⟩:=i;clear hP hwf;refine X5 Tryz.func32 ?_;simp only[Tryz.f32];simp only[aF,Fl.enc,aI,aSt,List.map_cons,List.map_nil]at cp⊢;refine X3 ?_;refine Xj [⟨false,.tup [.agg [.c (.sl 1 (Xe pv)),.c (.sl 1 (Xe po)),.c (iC pt)],li pc],none⟩] ?_ ?_
 · first|exact cp _|exact trivial|simpa[*]using cp _
 refine X1<|X1<|X2 ?_;refine(Xa rfl (fun h3=>?_) fun h3=>?_)
 · (try simp only[BN]at h3);rw[if_neg h3]at hres;subst hres;refine X3 ?_;refine XC (Xb6 4 [.c (.sl 1 []),.c (iC 0)] rfl (by(repeat'(first|exact LWk.nil|apply LWk.cons|exact CWk.refl _|exact CWk.nil _)))) ?_;exact XF ⟨.inr rfl,_,le_refl _,⟨⟨_,by simp;rfl,by simp[XD]⟩,by simp,fun h=>by cases h⟩⟩
 (try simp only[BN]at h3);rw[if_pos (by simpa using h3)]at hres;subst hres;refine X3 ?_;exact XF ⟨.inr rfl,_,le_refl _,⟨⟨_,by simp;rfl,by simp[XD]⟩,by simp,fun h=>by cases h⟩⟩
end Go.Proofs.YtppjennamodfdaaGreat

namespace Go.Proofs.YtppjennamodfdaaGreat
open Go Go.Hl
theorem X5Z {vars:List Vr} {inp:Bool} {t:Tm} (h:X0v vars inp t=0):QL vars inp t=true:=by
 unfold X0v at h;split at h
 · assumption
 cases h
theorem Xal {vars:List Vr}:∀(l seen:List Ht),hcs vars seen l=0→∀h∈l,QL vars true h.term=true
 |[],_,_,h,hm=>by cases hm
 | x ::l,seen,h0,h,hm=>by
   simp only[hcs]at h0;split at h0
   · rename_i hx;rcases List.mem_cons.1 hm with rfl|h1
     · unfold X5X at hx;split at hx
       · cases hx
       split at hx
       · cases hx
       split at hx
       · cases hx
       exact X5Z hx
     exact Xal l _ h0 h h1
   rename_i hx;exact absurd h0 hx
theorem XcR {vars:List Vr} {nh:Nat} {d c v n:Int} {t:Tm} {a b:List St} {bs:List Int} {l:List St} {top:Bool} (h:ssC vars nh (.mk d c v n t a b bs::l) top=0):
  shB vars nh d v n t a.length b.length bs (top&&l.isEmpty)=true∧X1D d c n bs=true∧X0v vars false t=0∧ssC vars nh a false=0∧ssC vars nh b false=0∧ssC vars nh l top=0:=by
 simp only[ssC]at h;split at h
 · rename_i h0;split at h
   · rename_i ha;split at h
     · rename_i hb;unfold stC at h0;split at h0
       · cases h0
       rename_i hs;split at h0
       · cases h0
       rename_i hn;exact⟨by simpa using hs,by simpa using hn,h0,ha,hb,h⟩
     rename_i hb;exact absurd h hb
   rename_i ha;exact absurd h ha
 rename_i h0;exact absurd h h0
theorem X7B {vars:List Vr} {nh:Nat} {d v n:Int} {t:Tm} {la lb_:Nat} {bs:List Int} {last:Bool} (h:shB vars nh d v n t la lb_ bs last=true) (hd:d=0∨d=5):W5 vars v=true∧(d=5→0≤n∧n<nh):=by
 unfold shB at h;rcases hd with rfl|rfl
 · simp only[if_true,Bool.and_eq_true]at h;exact⟨h.1.1.2,fun h=>by cases h⟩
 simp only[show ¬(5:Int)=0 by decide,show ¬(5:Int)=1 by decide,show ¬(5:Int)=2 by decide,show ¬(5:Int)=3 by decide,show ¬(5:Int)=4 by decide,if_true,if_false,Bool.and_eq_true,decide_eq_true_eq]at h;exact⟨h.1.1.1.1.2,fun _=>⟨h.1.1.1.2,h.1.1.2⟩⟩
theorem numB_in {d c n:Int} {bs:List Int} (h:X1D d c n bs=true):0≤c∧(d=4→0≤n∧n≤4096):=by
 unfold X1D at h;simp only[Bool.and_eq_true,Bool.not_eq_true',Bool.or_eq_false_iff,Bool.and_eq_false_iff,decide_eq_false_iff_not]at h;refine⟨by omega,fun h4=>?_⟩;rcases h.1.2 with h1|h1
 · exact absurd h4 h1
 omega
theorem X8n {vars:List Vr} {nh:Nat}:∀(l:List St) (top:Bool),ssC vars nh l top=0→QX l=true→wfL vars nh l=true
 |[],_,_,_=>by simp[wfL]
 | .mk d c v n t a b bs::l,top,h,hb=>by
   obtain⟨hs,hn,ht,ha,hb',hl⟩:=XcR h;simp only[QX,X0o,Bool.and_eq_true,decide_eq_true_eq]at hb;have ia:=X8n a false ha hb.1.2.1;have ib:=X8n b false hb' hb.1.2.2;have il:=X8n l top hl hb.2;have hn4:=(numB_in hn).2;simp only[wfL,wfS,ia,ib,il,X5Z ht,Bool.and_true,Bool.true_and,Bool.and_eq_true,Bool.or_eq_true,decide_eq_true_eq];refine⟨?_,?_,?_,hb.1.1⟩
   · by_cases hd:d=0∨d=5
     · exact .inr (X7B hs hd).1
     exact .inl ⟨fun h=>hd (.inl h),fun h=>hd (.inr h)⟩
   · by_cases hd:d=5
     · exact .inr ((X7B hs (.inr hd)).2 hd)
     exact .inl hd
   by_cases hd:d=4
   · exact .inr (hn4 hd).2
   exact .inl hd
theorem X7R:∀(l:List St) (p:B3),okL l=true→0≤p.o→mn (bdL CR l p).o 9=mn (p.o+(oUL l:Int)) 9
 |[],p,_,_=>by simp[bdL,oUL]
 | .mk d c v n t a b bs::l,p,h,hp=>by
   simp only[okL,okS,Bool.and_eq_true,Bool.or_eq_true,decide_eq_true_eq]at h;have ha:=X7R a ⟨0,0,0⟩ h.1.2.2.1 (Int.le_refl 0);have hb:=X7R b ⟨0,0,0⟩ h.1.2.2.2 (Int.le_refl 0);have na:=Z9 (Zk X4g a _ h.1.2.2.1 (Wv X4g));have nb:=Z9 (Zk X4g b _ h.1.2.2.2 (Wv X4g));simp only[bdL,bdS,oUL,oUS];generalize bdL CR a ⟨0,0,0⟩=A at*;generalize bdL CR b ⟨0,0,0⟩=B at*;simp only[Int.zero_add]at ha hb
   have key:0≤(bd1 d c n A B).o∧mn (bd1 d c n A B).o 9=mn (((if d=4 then n.toNat*oUL a else if d=3 then max (oUL a) (oUL b)else if d=1 then 1 else 0:Nat)):Int) 9:=by
    unfold nn3 at na nb;unfold bd1;by_cases h4:d=4
    · have hn:0≤n:=by omega
      rw[if_pos h4,if_pos h4];refine⟨Int.mul_nonneg hn na.2.1,?_⟩;have e:=X5d (C:=9) hn na.2.1 (Int.natCast_nonneg (oUL a)) (Int.le_refl 0) (Int.le_refl 0) ha;simp only[Int.zero_add]at e;rw[e,Int.natCast_mul,Int.toNat_of_nonneg hn]
    rw[if_neg h4,if_neg h4];by_cases h3:d=3
    · rw[if_pos h3,if_pos h3];simp only[mx,mn]at ha hb⊢;have e:((max (oUL a) (oUL b):Nat):Int)=max (oUL a:Int) (oUL b:Int):=by omega
      rw[e];refine⟨by split<;>omega,?_⟩
      (repeat' split at ha)<;>(repeat' split at hb)<;>(repeat' split)<;>omega
    rw[if_neg h3,if_neg h3];split<;>exact⟨by simp only;omega,rfl⟩
   obtain⟨k0,k1⟩:=key;generalize(bd1 d c n A B)=X at*;generalize(if d=4 then n.toNat*oUL a else if d=3 then max (oUL a) (oUL b)else if d=1 then 1 else 0:Nat)=K at*
   have e:0≤(Qe CR p X).o∧mn (Qe CR p X).o 9=mn (p.o+K) 9:=by
    simp only[Qe,CR];simp only[mn]at k1⊢;refine⟨by split<;>omega,?_⟩
    (repeat' split at k1)<;>(repeat' split)<;>omega
   have il:=X7R l (Qe CR p X) h.2 e.1;rw[il];have e2:=e.2;generalize(Qe CR p X).o=Y at*;simp only[mn]at e2⊢;rw[Int.natCast_add]
   (repeat' split at e2)<;>(repeat' split)<;>omega
theorem WV {f:Fl} (h:Q0 f=0):ZL f=true∧Zy f.vars=0∧hcs f.vars [] f.hats=0∧ssC f.vars f.hats.length f.body true=0∧X3R f.body=false:=by
 unfold Q0 at h;split at h
 · cases h
 rename_i hs;split at h
 · rename_i hv;split at h
   · rename_i hh;split at h
     · rename_i hb;split at h
       · cases h
       rename_i ho;exact⟨by simpa using hs,hv,hh,hb,by simpa using ho⟩
     rename_i hb;exact absurd h hb
   rename_i hh;exact absurd h hh
 rename_i hv;exact absurd h hv
theorem Xaw {l:List St} (h:X3R l=false):(bdL CR l ⟨0,0,0⟩).s≤4096∧(bdL CR l ⟨0,0,0⟩).o≤8∧(bdL CR l ⟨0,0,0⟩).t≤67108864:=by
 unfold X3R at h;simp only[Bool.or_eq_false_iff,decide_eq_false_iff_not,Int.not_lt]at h;exact⟨h.1,h.2.1,h.2.2⟩
theorem X8f {f:Fl} (hb:QX f.body=true) (h:Q0 f=0):wfL f.vars f.hats.length f.body=true∧oUL f.body≤2000000∧∀h∈f.hats,QL f.vars true h.term=true:=by
 obtain⟨_,_,hh,hs,ho⟩:=WV h;have h8:=(Xaw ho).2.1;have hc:=X7R f.body ⟨0,0,0⟩ (X1M _ _ hs) (Int.le_refl 0);refine⟨X8n _ _ hs hb,?_,Xal _ _ hh⟩;simp only[Int.zero_add,mn]at hc
 (repeat' split at hc)<;>omega
theorem X9O (f:Fl) (i:Inp) (hv:f.vars.length≤1000000) (hh:f.hats.length≤1000000) (hn:Xk f.body+Qw f.hats≤1000000) (hb:QX f.body=true) (d:Nat):
  Con Tryz.prog 32 false [aF f,aI i] (.tup [aO (X2S f i).1,li (X2S f i).2]) none d:=
 run_con f i hv hh hn hb (X8f hb) d
end Go.Proofs.YtppjennamodfdaaGreat

namespace Go.Proofs.YtppjennamodfdaaGreat
open Go Go.Hl
structure Sm (f:Fl):Prop where
 vars:f.vars.length≤1000
 hats:f.hats.length≤1000
 nodes:Xk f.body+Qw f.hats≤1000
 bnd:QX f.body=true
mutual
theorem szN_le:∀s:St,szN s≤2*szS s
 | .mk _ _ _ _ _ a b _=>by have:=X32 a;have:=X32 b;simp only[szN,szS];omega
theorem X32:∀l:List St,X01 l≤2*szL l
 |[]=>by simp[X01]
 |s::l=>by have:=szN_le s;have:=X32 l;simp only[X01,szL];omega
end
theorem Sm.sz {f:Fl} (h:Sm f):szL f.body≤1000:=Nat.le_trans (QV f.body) (by have:=h.nodes;omega)
theorem X45 {f:Fl} (h:Q0 f=0):gL f.body=true:=X9e f.body true (WV h).2.2.2.1
mutual
theorem wdS_le:∀s:St,wdS s≤2*szS s
 | .mk o _ _ _ _ a b _=>by have:=X4f a;have:=X4f b;simp only[wdS,szS];split<;>omega
theorem X4f:∀l:List St,wdL l≤2*szL l
 |[]=>by simp[wdL]
 |s::l=>by have:=wdS_le s;have:=X4f l;simp only[wdL,szL];omega
end
theorem X5s {l:List St} (h:gL l=true):(grN l).length=2+wdL l:=by
 simp only[grN,List.length_cons,List.length_append,ZJ l _ _ _ h,List.length_nil];omega
abbrev grC (l:List St):CD:=.sl 4 (QT (grN l))
theorem X7O (f:Fl) (h:Sm f) (d:Nat):Con Tryz.prog 122 false [aF f] (.tup [.agg [.c (if Q0 f=0 then grC f.body else .lit XP)],li (Q0 f)]) none d:=by
 have cc:=X6s f (by have:=h.vars;omega) (by have:=h.hats;omega) (by have:=h.nodes;omega) h.bnd;have cb:=X7q f (by have:=h.sz;have:=X32 f.body;omega);have hg:=@X45 f;have he:=Xbq f.body;obtain⟨vars,hats,body⟩:=f;simp only at he hg;obtain⟨C,hC⟩:∃x,Q0 ⟨vars,hats,body⟩=x:=⟨_,rfl⟩;rw[hC]at cc hg⊢;refine X5 Tryz.func122 ?_;simp only[Tryz.f122];simp only[aF,Fl.enc,List.map_cons,List.map_nil]at cc cb⊢;refine X3 ?_;refine X1<|X1<|(Xm [⟨true,.v (li C),none⟩] ?_ ?_)
 · first|exact cc _|exact trivial|simpa[*]using cc _
 refine X3 ?_;refine(Xa rfl (fun h3=>?_) fun h3=>?_)
 · (try simp only[BN]at h3);have hz:¬C=0:=by simpa using h3
   clear h3 he hg cb;refine X1<|(Xq (by simp[*,XI,Qp,XX,cellsOf,Qv];rfl) ?_);exact XF ⟨.inr rfl,_,le_refl _,⟨_,by simp;rfl,by simp[XD,hz,XP,li]⟩,by simp,fun h=>by cases h⟩
 (try simp only[BN]at h3);have hz:C=0:=by simpa using h3
 have he:=he (hg hz);rw[he]at cb;clear h3 he hg;refine X1<|(QU [⟨false,.v (.agg [.c (.sl 4 (QT (grN body)))]),none⟩] (by simp[*,cellsOf,Qv];first|exact⟨rfl,Iff.rfl⟩|exact⟨rfl,trivial⟩|rfl) ?_ ?_)
 · first|exact cb _|exact trivial|simpa[*,cellsOf,Qv]using cb _
 exact XF ⟨.inr rfl,_,le_refl _,⟨_,by simp;rfl,by simp[XD,hz,li]⟩,by simp,fun h=>by cases h⟩
@[simp] theorem fsN:flatS Tryz.prog 143=some [true,true,true,true]:=by kernel_rfl
@[simp] theorem arN:arrI Tryz.prog 143=none:=by kernel_rfl
theorem eqN_con (a:List Nd) (ha:a.length≤1000000000) (d:Nat):Con Tryz.prog 170 true [.one (.c (.sl 4 (QT a))),.one (.c (.sl 4 (QT a)))] (.v (lb true)) none d:=by
 refine X5 Tryz.func170 ?_;simp only[Tryz.f170];refine X3 ?_;refine X1<|X1<|X2 ?_;refine(Xa rfl (fun h2=>?_) fun h2=>?_)
 · cases h2
 (try simp only[BN]at h2);refine X1<|X1<|X2 ?_;refine X4<|(Xf [0,1,12] (fun(z:Nat)=>[(13,.v (li z))]) (fun z=>[]) (fun z=>z≤a.length) (fun z=>a.length - z) (0:Nat) (Nat.zero_le _) ?_ ?_)
 · exact X6 (fun n=>n) []
 rintro k hk;simp only[upS,X8,Xw]
 try simp only[X8,KN,Nat.reduceBEq,if_true,if_false,ins,Nat.reduceLT]
 refine X3 ?_;refine X1<|(X7 rfl (fun h8=>Xb ?_) (fun h8=>?_))
 · (try simp only[BN]at h8);have hlt:k<a.length:=by omega
   obtain⟨x,he,_⟩:=Xs hlt;have hw1:=XA hlt (by omega);have hk1:k+1≤a.length:=hlt;have he':=X34 he;simp only[Nd.enc]at he';clear hlt h8 he;refine X1<|X4<|X1<|X2 ?_;refine X1<|(Qc (by kernel_rfl) (by kernel_rfl) (by rfl) (by simp[*];rfl) ?_);refine(Xa rfl (fun h11=>?_) fun h11=>?_)
   · cases h11
   (try simp only[BN]at h11);refine X2 ?_;exact⟨k+1,hk1,by omega,X6 (fun n=>n) []⟩
 (try simp only[BN]at h8);refine(Xi ?_);refine X3 ?_;exact Xc
theorem X8k (f:Fl) (h:Sm f) (h0:Q0 f=0) (d:Nat):Con Tryz.prog 147 true [aF f,.agg [.c (grC f.body)]] (.v (li 0)) none d:=by
 have cc:=X6s f (by have:=h.vars;omega) (by have:=h.hats;omega) (by have:=h.nodes;omega) h.bnd;have cb:=X7q f (by have:=h.sz;have:=X32 f.body;omega);rw[Xbq f.body (X45 h0)]at cb;have hlen:=X5s (X45 h0);have ce:=eqN_con (grN f.body) (by have:=h.sz;have:=X4f f.body;omega);obtain⟨vars,hats,body⟩:=f;rw[h0]at cc;clear h h0 hlen;simp only at ce cb;refine X5 Tryz.func147 ?_;simp only[Tryz.f147];simp only[aF,Fl.enc,List.map_cons,List.map_nil]at cc cb⊢;refine X3 ?_;refine X1<|X1<|(Xm [⟨true,.v (li 0),none⟩] ?_ ?_)
 · first|exact cc _|exact trivial|simpa[*]using cc _
 refine X3 ?_;refine(Xa rfl (fun h3=>?_) fun h3=>?_)
 · exact Bool.noConfusion h3
 (try simp only[BN]at h3);refine X1<|X1<|(XS [⟨false,.v (.agg [.c (.sl 4 (QT (grN body)))]),none⟩,⟨true,.v (lb true),none⟩] (by kernel_rfl) (by kernel_rfl) (by rfl) (by simp[*];first|exact⟨rfl,Iff.rfl⟩|exact⟨rfl,trivial⟩|rfl) ?_ ?_)
 · first|exact⟨cb _,ce _⟩|exact trivial|(repeat' first|exact trivial|exact cb _|exact ce _|apply And.intro)
 refine(Xa rfl (fun h7=>?_) fun h7=>?_)
 · exact Bool.noConfusion h7
 (try simp only[BN]at h7);refine X3 ?_;exact Xc
end Go.Proofs.YtppjennamodfdaaGreat
