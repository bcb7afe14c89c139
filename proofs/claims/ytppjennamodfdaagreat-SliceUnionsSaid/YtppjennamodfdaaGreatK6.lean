/- Part 6: contracts of functions of the program and of the reference, and plain facts about what they compute; used by the proof of the claimed statement. Conditions: as each theorem states. -/
import Derived.Test.YtppjennamodfdaaGreatK3
import Derived.Test.YtppjennamodfdaaGreatK4
import Derived.Test.YtppjennamodfdaaGreatK5
import Derived.Test.YtppjennamodfdaaGreatK1
import Derived.Test.YtppjennamodfdaaGreatHmZK
import Derived.Test.YtppjennamodfdaaGreatK2
set_option linter.unusedSimpArgs false
set_option linter.unusedVariables false
set_option linter.unnecessarySimpa false
set_option maxRecDepth 100000
set_option maxHeartbeats 2000000
namespace Go.Proofs.YtppjennamodfdaaGreat
open Go Go.Hl
theorem X9X {vars:List Vr} {nh:Nat} {d v n:Int} {t:Tm} {la lb:Nat} {bs:List Int} {last:Bool} (h:shB vars nh d v n t la lb bs last=true):d=3∨d=4∨(la=0∧lb=0):=by
 by_cases h3:d=3
 · exact .inl h3
 by_cases h4:d=4
 · exact .inr (.inl h4)
 refine .inr (.inr ?_);unfold shB at h;simp only[if_neg h3,if_neg h4]at h;split at h
 · simp only[Bool.and_eq_true,decide_eq_true_eq]at h;exact h.1.1.1
 split at h
 · simp only[Bool.and_eq_true,decide_eq_true_eq]at h;exact h.1.1.1
 split at h
 · simp only[Bool.and_eq_true,decide_eq_true_eq]at h;exact h.1.1.1.1
 split at h
 · simp only[Bool.and_eq_true,decide_eq_true_eq]at h;exact h.1.1.1.1.1
 split at h
 · simp only[Bool.and_eq_true,decide_eq_true_eq]at h;exact h.1.1.1.1.1
 cases h
theorem X1M {vars:List Vr} {nh:Nat}:∀(l:List St) (top:Bool),ssC vars nh l top=0→okL l=true
 |[],_,_=>by simp[okL]
 | .mk d c v n t a b bs::l,top,h=>by
   simp only[ssC]at h;split at h
   · rename_i h0;split at h
     · rename_i ha;split at h
       · rename_i hb;have ia:=X1M a false ha;have ib:=X1M b false hb;have il:=X1M l top h;unfold stC at h0;split at h0
         · cases h0
         rename_i hs;split at h0
         · cases h0
         rename_i hn;have hs:shB vars nh d v n t a.length b.length bs (top&&l.isEmpty)=true:=by simpa using hs
         have hn:X1D d c n bs=true:=by simpa using hn
         have hf:=X9X hs;unfold X1D at hn;simp only[Bool.and_eq_true,Bool.not_eq_true',Bool.or_eq_false_iff,Bool.and_eq_false_iff,decide_eq_false_iff_not]at hn;have hm:X3j d≤67108864:=by unfold X3j;split<;>omega
         simp only[okL,okS,Bool.and_eq_true,Bool.or_eq_true,decide_eq_true_eq,List.isEmpty_iff,ia,ib,il];have hla:a.length=0→a=[]:=List.eq_nil_of_length_eq_zero;have hlb:b.length=0→b=[]:=List.eq_nil_of_length_eq_zero;refine⟨⟨⟨by omega,by omega,by omega⟩,?_,by simp⟩,by simp⟩;rcases hf with hf|hf|hf
         · exact .inl hf
         · exact .inr (.inl hf)
         exact .inr (.inr ⟨hla hf.1,hlb hf.2⟩)
       rename_i hb;exact absurd h hb
     rename_i ha;exact absurd h ha
   rename_i h0;exact absurd h h0
def Qw:List Ht→Nat
 |[]=>0
 |h::l=>h.term.nodes+Qw l
def mH:List Ht→Int×Bool→Int×Bool
 |[],s=>s
 |h::l,s=>mH l (if W7 s=true then s else mTm h.term 1 s)
theorem X0l {l:List Ht} {h:Ht} (hm:h∈l):h.term.nodes≤Qw l:=by
 induction l with
 |nil=>cases hm
 | cons x l ih=>
   simp only[Qw];rcases List.mem_cons.1 hm with rfl|h1
   · omega
   have:=ih h1;omega
theorem X8h:∀(l:List Ht) (s:Int×Bool),W7 s=true→W7 (mH l s)=true
 |[],s,h=>h
 | x::l,s,h=>by
   simp only[mH,if_pos h];exact X8h l s h
def X0q (l:List Ht):Bool:=l.all fun h=>decide (tdT h.term≤12)
theorem mH_fit:∀(l:List Ht) (s:Int×Bool),0≤s.1→W7 s=false→
  (s.1+Qw l≤1024∧X0q l=true→W7 (mH l s)=false)∧(¬(s.1+Qw l≤1024∧X0q l=true)→W7 (mH l s)=true)
 | [],s,h0,h=>by
   have:=X4c h;simp only[mH,Qw,X0q,List.all_nil];exact⟨fun _=>h,fun hn=>absurd ⟨by omega,trivial⟩ hn⟩
 | x::l,s,h0,h=>by
   have ho:=X4c h;have ht:=X8t x.term 1 s h0 (by omega) h;have hle:=X10 x.term 1 s;simp only[mH,h,Qw,X0q,List.all_cons,Bool.and_eq_true,decide_eq_true_eq,Bool.false_eq_true,if_false];by_cases hf:s.1+x.term.nodes≤1024∧1+(tdT x.term:Int)≤13
   · have e:=ht.1 hf;rw[e];have ih:=mH_fit l (s.1+x.term.nodes,false) (by simp only;omega) (by simp only[W7,Bool.false_or,decide_eq_false_iff_not];omega);simp only[X0q]at ih;refine⟨fun hh=>ih.1 ⟨by omega,hh.2.2⟩,fun hh=>ih.2 fun h2=>hh ⟨by omega,by omega,h2.2⟩⟩
   have e:=ht.2 hf;refine⟨fun hh=>absurd ⟨by omega,by omega⟩ hf,fun _=>X8h _ _ e⟩
def ZL (f:Fl):Bool:=((((decide (f.vars.length≤64)&&decide (f.hats.length≤8))&&decide (Xk f.body+Qw f.hats≤1024))&&decide (sdL f.body≤12))&& !Wa f.body)&&X0q f.hats
def mF (f:Fl):Int×Bool:=mH f.hats (mSs f.body 1 (0,false))
theorem Xb1 (f:Fl):ZL f=false↔64<f.vars.length∨8<f.hats.length∨W7 (mF f)=true:=by
 have h1:=X5h f.body 1 (0,false) (by decide) (by decide) rfl;unfold mF ZL;simp only[Bool.and_eq_false_iff,decide_eq_false_iff_not,Bool.not_eq_false',Nat.not_le];by_cases hs:((0:Int),false).1+Xk f.body≤1024∧1+(sdL f.body:Int)≤13∧Wa f.body=false
 · rw[h1.1 hs];have h2:=mH_fit f.hats (0+(Xk f.body:Int),false) (by simp only;omega) (by simp only[W7,Bool.false_or,decide_eq_false_iff_not];have:=hs.1;simp only at this;omega);obtain⟨a1,a2,a3⟩:=hs;simp only at a1 h2;by_cases hh:0+(Xk f.body:Int)+Qw f.hats≤1024∧X0q f.hats=true
   · have e:=h2.1 hh;have e3:=hh.2;simp only[show((0:Int),false).1=0 from rfl];rw[e,a3,e3];simp;omega
   have e:=h2.2 hh;simp only[show((0:Int),false).1=0 from rfl];rw[e,a3];constructor
   · intro _;exact .inr (.inr rfl)
   intro _;by_cases hd:X0q f.hats=true
   · left;left;left;right;by_cases hc:0+(Xk f.body:Int)+Qw f.hats≤1024
     · exact absurd ⟨hc,hd⟩ hh
     omega
   right;simpa using hd
 have e:=X8h f.hats _ (h1.2 hs);rw[e];constructor
 · intro _;exact .inr (.inr rfl)
 intro _;simp only at hs;by_cases ht:Wa f.body=true
 · left;right;exact ht
 have ht:Wa f.body=false:=by simpa using ht
 by_cases hd:sdL f.body≤12
 · left;left;left;right;by_cases hc:0+(Xk f.body:Int)≤1024
   · exact absurd ⟨hc,by omega,ht⟩ hs
   omega
 left;left;right;omega
def X3R (l:List St):Bool:=decide (4096<(bdL CR l ⟨0,0,0⟩).s)||(decide (8<(bdL CR l ⟨0,0,0⟩).o)||decide (67108864<(bdL CR l ⟨0,0,0⟩).t))
def Q0 (f:Fl):Int:=
 if ZL f=false then 4 else if Zy f.vars=0 then
  (if hcs f.vars [] f.hats=0 then(if ssC f.vars f.hats.length f.body true=0 then(if X3R f.body=true then 4 else 0)else ssC f.vars f.hats.length f.body true)else hcs f.vars [] f.hats)
 else Zy f.vars
theorem X2B {vars:List Vr} (h:Zy vars=0):X0g vars:=by
 unfold Zy at h;split at h
 · rename_i h0;exact X31 _ _ h0
 rename_i h0;exact absurd h h0
end Go.Proofs.YtppjennamodfdaaGreat

namespace Go.Proofs.YtppjennamodfdaaGreat
open Go Go.Hl
theorem one_all (b:Nat):∀s:St,oneC b s:=by
 have key:∀l:List St,∀s∈l,oneC b s:=by
  apply St.lists;intro l ih s hs;obtain⟨o,c,v,n,⟨to,tn,tk⟩,sa,sb,bs⟩:=s;exact one_con b o c v n to tn tk sa sb bs (X2Q (ih _ hs).1) (X2Q (ih _ hs).2)
 exact fun s=>key [s] s (by simp)
theorem lst_all (b:Nat) (l:List St):lstC b l:=X2Q fun s _=>one_all b s
def bldF (l:List St):List (List CD):=
 let x:=Qd l [(false,0)] ([[iC 0,iC (-1),iC (-1),iC (-1)]],0)
 XE x.1.1.length x.2 x.1.1++[[iC 1,iC (-1),iC (-1),iC (-1)]]
def msG:List (Nat×List Nat):=[(511,[0,1,3,8]),(510,[1,3,8]),(509,[0,2,3,8]),(503,[0,1,4,8]),(255,[0,1,3]),(508,[2,3,8]),(502,[1,4,8]),(254,[1,3]),(505,[0,3,8]),(501,[0,2,4,8]),(253,[0,2,3]),(487,[0,1,5,8]),(247,[0,1,4]),(504,[3,8]),(500,[2,4,8]),(252,[2,3]),(486,[1,5,8]),(246,[1,4]),(497,[0,4,8]),(249,[0,3]),(485,[0,2,5,8]),(245,[0,2,4]),(455,[0,1,8]),(231,[0,1,5]),(496,[4,8]),(248,[3]),(484,[2,5,8]),(244,[2,4]),(454,[1,8]),(230,[1,5]),(481,[0,5,8]),(241,[0,4]),(453,[0,2,8]),(229,[0,2,5]),(199,[0,1]),(480,[5,8]),(240,[4]),(452,[2,8]),(228,[2,5]),(198,[1]),(449,[0,8]),(225,[0,5]),(197,[0,2]),(448,[6,8]),(224,[5]),(196,[2]),(193,[0]),(384,[7,8]),(192,[6]),(256,[8]),(128,[7])]
def nxG (b:Nat) (F:Ob) (l:List St) (nl:Nat) (x y:List (Nat×Ob)) (R:List Nat):HS:=
 {trS ⟨⟨38,some (pV b)⟩,[(1,.v (.one (.at_ 1 0))),(2,.v (.one (.at_ 2 0))),(3,.v (.one (.c (.lit (pV b)))))],[]⟩ [(0,10,.v (.one (.c (.lit (pV b))))),(1,11,.v (.one (.at_ 1 2))),(2,12,.v (lS l)),(3,13,.v (.one (.c (.lit (pV b))))),(4,14,.v (.one (.c (nxC b 0)))),(5,15,.v (.one (.own 15))),(6,16,.v (.one (.own 16))),(7,17,lit (.int .i64 nl)),(8,18,lit (.int .i64 0))] R with
  objs:=(1,F)::(2,.box [.c (.lit XP)])::if R.contains 5 then x else if R.contains 6 then(15,.row 100 1 [[nxC b 0]])::x else y}
attribute [simp] nxG
set_option maxHeartbeats 4000000 in
theorem X7q (f:Fl) (hn:1+X01 f.body≤1000000) (d:Nat):Con Tryz.prog 146 false [aF f] (.v (.agg [.c (.sl 4 (bldF f.body))])) none d:=by
 obtain⟨vars,hats,body⟩:=f;simp only at hn;obtain⟨G,hG⟩:∃x,bldF body=x:=⟨_,rfl⟩;rw[hG];unfold bldF at hG;refine X5 Tryz.func146 ?_;simp only[Tryz.f146];simp only[aF,Fl.enc,List.map_cons,List.map_nil];refine X3 ?_;refine X1<|(Xq (by simp[*,XI,Qp,XX,cellsOf,We,ZC,Qv];rfl) ?_);refine HT_pin 9 (cs:=[.own 7,.c (iC 0)]) [(1,.v (.one (.at_ 1 0))),(2,.v (.one (.at_ 2 0))),(3,.v (.one (.at_ 1000000 0)))] [(1,.box [.c (.sl 5 (Xv vars)),.c (.sl 6 (Xu hats)),.c (.sl 10 (X9 body))]),(2,.box [.c (.lit XP)]),(7,.row 143 4 [[iC 0,iC (-1),iC (-1),iC (-1)]]),(1000000,.box [.own 7,.c (iC 0)])] rfl rfl ?_ ?_ rfl fun b=>?_
 · simp[Z3,RV.okNil,TV.okNil,CV.okNil,RV.ren,TV.ren,CV.ren,lkp]
 · simp[Z3,Ob.okNil,CV.okNil,Ob.ren,CV.ren,lkp]
 have k0:okB [(false,0)] [[iC 0,iC (-1),iC (-1),iC (-1)]]:=⟨by simp,by simp⟩;have cA:=lst_all b body [(false,0)] [[iC 0,iC (-1),iC (-1),iC (-1)]] 0 k0 (by simp;omega) (by omega) (by omega) (by simp);have k1:=Wj body [(false,0)] ([[iC 0,iC (-1),iC (-1),iC (-1)]],0) k0;have l1:=Zn body [(false,0)] ([[iC 0,iC (-1),iC (-1),iC (-1)]],0);obtain⟨⟨⟨rows3,d3⟩,sl3⟩,hx⟩:∃x,Qd body [(false,0)] ([[iC 0,iC (-1),iC (-1),iC (-1)]],0)=x:=⟨_,rfl⟩;simp only[hx,List.length_singleton]at hG cA k1 l1;obtain⟨a1,a2,a3,a4,a5⟩:=k1;clear hx k0;refine XC (X4m (v:=pV b) 3 rfl rfl rfl) ?_;simp only[ins,Nat.reduceLT,Nat.reduceEqDiff,if_true,if_false];refine XC (s':=nxG b (.box [.c (.sl 5 (Xv vars)),.c (.sl 6 (Xu hats)),.c (.sl 10 (X9 body))]) body sl3.length (Wl [[iC 0,iC (-1),iC (-1),iC (-1)]] 0) [] (Zc 9 511)) ?_ ?_
 · refine Xx (fun n=>if n=900001 then 7 else n) [] rfl ?_ ?_ ?_
   · simp[trS, *]
   · simp[*]
   simp
 refine X1<|X1<|(QZ (nxG b (.box [.c (.sl 5 (Xv vars)),.c (.sl 6 (Xu hats)),.c (.sl 10 (X9 body))]) body sl3.length (Wl [[iC 0,iC (-1),iC (-1),iC (-1)]] 0) ((16,.row 100 1 (QK b sl3))::(102,.row 143 4 rows3)::[(1000000,.box [.own 102,.c (iC d3)])])) 9 511 msG rfl (by kernel_rfl) (by kernel_rfl) (by kernel_rfl) (by kernel_rfl) (by simp[trS]) ?_ ?_)
 · simp only[msG,X19]
   repeat' apply And.intro
   all_goals first
    |(refine XT.evE rfl ?_;simp[trS,ins,W3];done)
    | (refine XT.ev [⟨false,.v (.one (.c (nxC b 0))),none⟩] rfl (by simp[trS,ins,W3];first|exact⟨rfl,Iff.rfl⟩|exact⟨rfl,trivial⟩|rfl) ?_ ?_
       · simpa using X1W b 0 14
       simp[trS,ins])
    | (refine XT.callA (fun n=>if n=1 then 15 else n) (fun n=>if n=1 then 16 else if n=900001 then 102 else n) cA rfl fun _ _=>?_
       simp[trS,ins,Qi,QW,del,CV.ren,Ob.ren])
 refine X4<|(Xf [] (fun(x:Nat×List (List CD))=>[(2,.v (.one (.at_ 2 0))),(3,.v (.one (.c (.lit (pV b))))),(16,.v (.one (.own 16))),(17,lit (.int .i64 sl3.length)),(18,lit (.int .i64 x.1))]) (fun(x:Nat×List (List CD))=>(2,.box [.c (.lit XP)])::(16,.row 100 1 (QK b sl3))::Wl x.2 d3) (fun(x:Nat×List (List CD))=>x.1≤sl3.length∧XE rows3.length (sl3.drop x.1) x.2=XE rows3.length sl3 rows3∧(∀r∈x.2,r.length=4)∧x.2.length=rows3.length) (fun(x:Nat×List (List CD))=>sl3.length - x.1) (0,rows3) ⟨Nat.zero_le _,rfl,a1.four,rfl⟩ ?_ ?_)
 · exact Xx (fun n=>if n=900001 then 102 else n) [] rfl (by simp[upS,X8,trS]) (by simp[upS]) (by simp[upS])
 rintro⟨i,rows2⟩ ⟨g1,g2,g3,g4⟩;simp only[upS,X8,Xw]
 try simp only[X8,KN,Nat.reduceBEq,if_true,if_false,ins,Nat.reduceLT]
 simp only at g1 g2 g3 g4;simp only[nxG,trS];refine X3 ?_;refine X1<|(X7 rfl (fun h5=>Xb ?_) (fun h5=>?_))
 · (try simp only[BN]at h5);have hi:i<sl3.length:=by simpa using h5
   obtain⟨q,hq,hqd⟩:=Xs hi;have hqe:=X4e (b:=b) hq;rw[hqd]at g2;simp only[XE]at g2;have cq:=X65 b rows2 d3 rows2.length q g3 (by have:=a1.lt q (List.mem_of_getElem? hq);omega);have hw:=XA hi (by omega:sl3.length≤1000000000);have hin2:i+1≤sl3.length:=hi;rw[←g4]at g2;clear hi hq h5 hqd;refine X1<|X4<|X1<|X2 ?_;refine XC (X4y (v:=pV b) 3 rfl rfl rfl) ?_;simp only[ins,Nat.reduceLT,Nat.reduceEqDiff,if_true,if_false];refine(XR ?_);refine RunsN.cutE 6 [] (by simp;rfl) trivial (le_refl _) ?_;refine RunsN.callA (fun n=>n) (fun n=>if n=900001 then 101 else n) cq fun _ _=>?_;refine RunsN.doneE [] (by simp[Qi,CV.ren,Ob.ren];rfl) trivial ?_;refine XC (X4m (v:=pV b) 3 rfl rfl rfl) ?_;simp only[ins,Nat.reduceLT,Nat.reduceEqDiff,if_true,if_false];refine X2 ?_;exact⟨(i+1,X0B rows2 q rows2.length),⟨hin2,by rw[←g4];exact g2,ZZ g3,(X1R ..).trans g4⟩,by simp only;omega,X6 (fun n=>if n=900001 then 101 else n) []⟩
 try simp only[BN]at h5
 have hi:i=sl3.length:=by
  have:¬i<sl3.length:=by simpa using h5
  omega
 subst hi;rw[List.drop_length]at g2;simp only[XE]at g2;rw[←g2]at hG;have hroom:Qq (rows3.length+1) 32:=XB (by omega) (by decide);clear h5 g2;refine XC (X4y (v:=pV b) 3 rfl rfl rfl) ?_;simp only[ins,Nat.reduceLT,Nat.reduceEqDiff,if_true,if_false];refine(Xi ?_);refine X1<|(Xq (by simp[*,XI,Qp,XX,cellsOf,We,ZC,Qv,Ws,Wz,Wy];rfl) ?_);refine XC (XJ 36 rfl) ?_;exact XF ⟨⟨⟨38,some (pV b)⟩,[(2,.v (.one (.at_ 2 0)))],[(2,.box [.c (.sl 4 G)])]⟩,Xx (fun n=>n) [] rfl (by simp) (by simp[*]) (by simp),by rfl,.inr rfl,_,le_refl _,⟨_,by simp;rfl,by simp[XD]⟩,by simp,fun h=>by cases h⟩
end Go.Proofs.YtppjennamodfdaaGreat

namespace Go.Proofs.YtppjennamodfdaaGreat
open Go Go.Hl
theorem X6s (f:Fl) (hv:f.vars.length≤1000000) (hh:f.hats.length≤1000000) (hn:Xk f.body+Qw f.hats≤900000000) (hb:QX f.body=true) (d:Nat):
  Con Tryz.prog 145 true [aF f] (.v (li (Q0 f))) none d:=by
 obtain⟨res,hres⟩:∃r,Q0 f=r:=⟨_,rfl⟩;rw[hres];have hso:=Xb1 f;have cvars:=Xd1 f.vars hv;have chat:=fun hg=>XcL f hg hv hh (fun h hm=>by have:=X0l hm;omega);have cst:=fun hg=>Xbi f hg hv f.body (by omega) hb;have cup:=fun ho=>Xcf f.body (by omega) ho;have cms:=Xbc f.body 1 0 false (by decide) (by decide) (by omega);have hms:=X07 f.body 1 (0,false);have hgood:Zy f.vars=0→X0g f.vars:=X2B;have hok:ssC f.vars f.hats.length f.body true=0→okL f.body=true:=X1M _ _;have hcmp:=fun h=>@bd_cmp f.body h;unfold Q0 X3R at hres;unfold mF at hso;obtain⟨vars,hats,body⟩:=f;simp only at hv hh hn hb hres hso cvars chat cst cup cms hms hgood hok hcmp;obtain⟨m0,hm0⟩:∃m,mSs body 1 (0,false)=m:=⟨_,rfl⟩;rw[hm0]at cms hms hso;obtain⟨c0,b0⟩:=m0;simp only at cms hms;obtain⟨mE,hmE⟩:∃m,mH hats (c0,b0)=m:=⟨_,rfl⟩;rw[hmE]at hso;obtain⟨VC,hVC⟩:∃x,Zy vars=x:=⟨_,rfl⟩;obtain⟨HC,hHC⟩:∃x,hcs vars [] hats=x:=⟨_,rfl⟩;obtain⟨SC,hSC⟩:∃x,ssC vars hats.length body true=x:=⟨_,rfl⟩;rw[hVC]at cvars hres hgood;rw[hHC]at chat hres;rw[hSC]at hres hok;have cst:=fun hg=>cst hg true;rw[hSC]at cst;clear hVC hHC hSC hm0;refine X5 Tryz.func145 ?_;simp only[Tryz.f145];simp only[aF,Fl.enc,List.map_cons,List.map_nil]at chat cst⊢;refine X3 ?_;refine X3 ?_;refine X1<|(X0M 2 (.tup []) ([iC c0,bC b0]) rfl (by simp[*];rfl) (by simp[ioOf, *];first|exact⟨rfl,rfl,rfl,rfl,rfl⟩|exact⟨rfl,rfl,rfl,rfl⟩|exact⟨rfl,rfl,rfl⟩|exact⟨rfl,rfl⟩|rfl) (cms) (by simp) (by simp[*];rfl) ?_);refine X1<|X1<|X2 ?_;refine X4<|(Xf [1,3,14,15] (fun(x:Nat×Int×Bool)=>[(16,.v (li x.1))]) (fun x=>[(1,.box [.c (.sl 5 (Xv vars)),.c (.sl 6 (Xu hats)),.c (.sl 10 (X9 body))]),(3,.box [.c (iC x.2.1),.c (bC x.2.2)])]) (fun x=>x.1≤hats.length∧mH (hats.drop x.1) x.2=mE∧0≤x.2.1∧x.2.1+Qw (hats.drop x.1)≤1000000000) (fun x=>hats.length - x.1) (0,c0,b0) ⟨Nat.zero_le _,by simpa using hmE,by simp only;omega,by simp only[List.drop_zero];omega⟩ ?_ ?_)
 · exact X6 (fun n=>n) []
 rintro⟨k,m,q⟩ ⟨hk,hJ,hm,hbb⟩;simp only[upS,X8,Xw]
 try simp only[X8,KN,Nat.reduceBEq,if_true,if_false,ins,Nat.reduceLT]
 simp only at hk hJ hm hbb;clear hmE hms cms;refine X3 ?_;refine X1<|(X7 rfl (fun h6=>Xb ?_) (fun h6=>?_))
 · (try simp only[BN]at h6);have hlt:k<hats.length:=by omega
   obtain⟨h,he,hd⟩:=Xs hlt;have hw1:=XA hlt (by omega);have hk1:k+1≤hats.length:=hlt;rw[hd]at hJ hbb;simp only[mH,Qw]at hJ hbb;have hle:=X10 h.term 1 (m,q);have cmt:=X7p h.term 1 m q (by decide) hm (by omega);obtain⟨nm,lo,hi,⟨o,tn,ks⟩⟩:=h;simp only at hle cmt hJ hbb;obtain⟨m1,hm1⟩:∃x,mTm (.mk o tn ks) 1 (m,q)=x:=⟨_,rfl⟩;rw[hm1]at cmt hle hJ;obtain⟨c1,b1⟩:=m1;simp only[aT,Tm.enc,List.map_cons,List.map_nil]at cmt hle;clear hlt h6 hd hm1 hso hres chat cst cup hok hcmp;refine X1<|X4<|X1<|X2 ?_;refine Xj [⟨true,.v (lb (q||decide (1024<m))),none⟩] ?_ ?_
   · first|exact Z1 _ _ _|exact trivial|simpa[*]using Z1 _ _ _
   refine(Xa rfl (fun h9=>?_) fun h9=>?_)
   · try simp only[BN]at h9
     have hov:W7 (m,q)=false:=by
      simp only[W7,Bool.or_eq_false_iff,decide_eq_false_iff_not]
      first|exact h9|simpa using h9
     rw[if_neg (by rw[hov];decide)]at hJ;clear hov;refine(X0M 2 (.tup []) ([iC c1,bC b1]) rfl (by simp[*];rfl) (by simp[ioOf, *];first|exact⟨rfl,rfl,rfl,rfl,rfl⟩|exact⟨rfl,rfl,rfl,rfl⟩|exact⟨rfl,rfl,rfl⟩|exact⟨rfl,rfl⟩|rfl) (cmt) (by simp) (by simp[*];rfl) ?_);refine X2 ?_;exact⟨(k+1,c1,b1),⟨hk1,hJ,by simp only;omega,by simp only;omega⟩,by simp only;omega,X6 (fun n=>n) []⟩
   try simp only[BN]at h9
   have hov:W7 (m,q)=true:=by
    simp only[W7,Bool.or_eq_true,decide_eq_true_eq]
    first|exact h9|simpa using h9
   rw[if_pos hov]at hJ;clear hov;refine X2 ?_;exact⟨(k+1,m,q),⟨hk1,hJ,hm,by simp only;omega⟩,by simp only;omega,X6 (fun n=>n) []⟩
 (try simp only[BN]at h6);have hkl:k=hats.length:=by omega
 subst hkl;rw[List.drop_length]at hJ;simp only[mH]at hJ;subst hJ;simp only[W7,Bool.or_eq_true,decide_eq_true_eq]at hso;refine(Xi ?_);refine X1<|X1<|(Xm [⟨true,.v (lb (q||decide (1024<m))),none⟩] ?_ ?_)
 · first|exact Z1 _ _ _|exact trivial|simpa[*]using Z1 _ _ _
 refine(Xa rfl (fun h16=>?_) fun h16=>?_)
 · try simp only[BN]at h16
   rw [if_pos (hso.2 (by
       simp only[or_assoc]at h16;rcases h16 with h|h|h|h
       · exact .inl (by omega)
       · exact .inr (.inl (by omega))
       · exact .inr (.inr (.inl h))
       exact .inr (.inr (.inr h))))]at hres
   subst hres;refine X3 ?_;exact Xc
 try simp only[BN]at h16
 rw [if_neg (by
     rw[hso];rintro(h|h|h|h)
     · omega
     · omega
     · exact absurd h (by simp[h16])
     omega)]at hres
 refine X1<|X1<|(Xm [⟨true,.v (li VC),none⟩] ?_ ?_)
 · first|exact cvars _|exact trivial|simpa[*]using cvars _
 refine X3 ?_;refine(Xa rfl (fun h21=>?_) fun h21=>?_)
 · (try simp only[BN]at h21);rw[if_neg h21]at hres;subst hres;refine X3 ?_;exact Xc
 (try simp only[BN]at h21);have hv0:VC=0:=by simpa using h21
 have hg:=hgood hv0;have chat:=chat hg;have cst:=cst hg;rw[if_pos hv0]at hres;clear cvars hgood h21;refine X1<|X1<|(Xm [⟨true,.v (li HC),none⟩] ?_ ?_)
 · first|exact chat _|exact trivial|simpa[*]using chat _
 refine X3 ?_;refine(Xa rfl (fun h26=>?_) fun h26=>?_)
 · (try simp only[BN]at h26);rw[if_neg h26]at hres;subst hres;refine X3 ?_;exact Xc
 (try simp only[BN]at h26);have hh0:HC=0:=by simpa using h26
 rw[if_pos hh0]at hres;clear chat h26;refine X1<|X1<|(Xm [⟨true,.v (li SC),none⟩] ?_ ?_)
 · first|exact cst _|exact trivial|simpa[*]using cst _
 refine X3 ?_;refine(Xa rfl (fun h31=>?_) fun h31=>?_)
 · (try simp only[BN]at h31);rw[if_neg h31]at hres;subst hres;refine X3 ?_;exact Xc
 (try simp only[BN]at h31);have hs0:SC=0:=by simpa using h31
 rw[if_pos hs0]at hres;have hok:=hok hs0;have cup:=cup hok;have hcmp:=hcmp hok;obtain⟨X,hX⟩:∃x,bdL CP body ⟨0,0,0⟩=x:=⟨_,rfl⟩;obtain⟨Y,hY⟩:∃x,bdL CR body ⟨0,0,0⟩=x:=⟨_,rfl⟩;rw[hX]at cup hcmp;rw[hY]at hcmp hres;obtain⟨x1,x2,x3⟩:=X;obtain⟨y1,y2,y3⟩:=Y;simp only[Bool.or_eq_true,decide_eq_true_eq]at hcmp hres;clear hX hY cst h31 hok;refine X1<|X1<|(Xm [⟨true,.v (aB ⟨x1,x2,x3⟩),none⟩] ?_ ?_)
 · first|exact cup _|exact trivial|simpa[*]using cup _
 refine X3 ?_;refine(Xa rfl (fun h36=>?_) fun h36=>?_)
 · (try simp only[BN]at h36);rw[if_pos (by omega)]at hres;subst hres;refine X3 ?_;exact Xc
 (try simp only[BN]at h36);rw[if_neg (by omega)]at hres;subst hres;refine X3 ?_;exact Xc
end Go.Proofs.YtppjennamodfdaaGreat

namespace Go.Proofs.YtppjennamodfdaaGreat
open Go Go.Hl
mutual
def szS:St→Nat
 | .mk _ _ _ _ _ a b _=>1+szL a+szL b
def szL:List St→Nat
 |[]=>0
 |s::l=>szS s+szL l
end
mutual
theorem szS_le:∀s:St,szS s≤s.nodes
 | .mk _ _ _ _ t a b _=>by have:=QV a;have:=QV b;simp only[szS,St.nodes];omega
theorem QV:∀l:List St,szL l≤Xk l
 |[]=>by simp[szL]
 |s::l=>by have:=szS_le s;have:=QV l;simp only[szL,Xk];omega
end
theorem X0t (s:St):1≤szS s:=by cases s;simp only[szS];omega
theorem X5n:∀l:List St,l.length≤szL l
 |[]=>by simp
 |s::l=>by have:=X5n l;have:=X0t s;simp only[szL,List.length_cons];omega
end Go.Proofs.YtppjennamodfdaaGreat

namespace Go.Proofs.YtppjennamodfdaaGreat
open Go Go.Hl
structure Nd where
 k:Int
 a:Int
 n:Int
 o:Int
 deriving DecidableEq
def Nd.enc (x:Nd):List CD:=[iC x.k,iC x.a,iC x.n,iC x.o]
attribute [simp] Nd.enc
def QT (l:List Nd):List (List CD):=l.map Nd.enc
@[simp] theorem X6J (l:List Nd):(QT l).length=l.length:=by simp[QT]
theorem X34 {l:List Nd} {i:Nat} {x:Nd} (h:l[i]? =some x):(QT l)[i]? =some x.enc:=by simp[QT,h]
mutual
def wdS:St→Nat
 | .mk o _ _ _ _ a b _=>(if o=4 then 2 else 1)+wdL a+wdL b
def wdL:List St→Nat
 |[]=>0
 |s::l=>wdS s+wdL l
end
mutual
def X3d:St→Int→Nat→Nat→List Nd
 | .mk o _ _ _ _ a b _,at_,k,after=>
   if o=3 then⟨3,at_,if a=[] then after else k+1,if b=[] then after else k+1+wdL a⟩::(X1j a (at_+1) (k+1) after++X1j b (at_+1+szL a) (k+1+wdL a) after)
   else if o=4 then⟨4,at_,k+1,-1⟩::⟨5,at_,if a=[] then k+1 else k+2,after⟩::X1j a (at_+1) (k+2) (k+1)
   else [⟨2,at_,after,-1⟩]
def X1j:List St→Int→Nat→Nat→List Nd
 |[],_,_,_=>[]
 |s::l,at_,k,after=>X3d s at_ k (if l=[] then after else k+wdS s)++X1j l (at_+szS s) (k+wdS s) after
end
def grN (l:List St):List Nd:=⟨0,-1,if l=[] then 1+wdL l else 1,-1⟩::(X1j l 0 1 (1+wdL l)++[⟨1,-1,-1,-1⟩])
theorem X6H {A B:List (List CD)} {s:Wk} {k:Nat} (h:s.2<A.length):X0B (A++B) s k=X0B A s k++B:=by
 unfold X0B setRow;rw[List.getElem?_append_left h];split
 · rw[List.set_append,if_pos h]
 rfl
theorem X6x {k:Nat}:∀(sl:List Wk) {A B:List (List CD)},(∀s∈sl,s.2<A.length)→XE k sl (A++B)=XE k sl A++B
 |[],_,_,_=>rfl
 | s::sl,A,B,h=>by
   simp only[XE];rw[X6H (h s (by simp)),X6x sl fun x hx=>by rw[X1R];exact h x (by simp[hx])]
theorem X6m {k:Nat}:∀(x y:List Wk) (rows:List (List CD)),XE k (x++y) rows=XE k y (XE k x rows)
 |[],_,_=>rfl
 |s::x,y,rows=>by simp only[List.cons_append,XE];exact X6m x y _
theorem Xam {rows:List (List CD)} {i j f g:Nat} {u v:CD} (h4:∀r∈rows,r.length=4) (hf:f<4) (hg:g<4) (h:(i,f)≠(j,g)∨u=v):setRow (setRow rows i f [u]) j g [v]=setRow (setRow rows j g [v]) i f [u]:=by
 by_cases hij:i=j
 · subst hij;cases hr:rows[i]? with
   |none=>simp[setRow,hr]
   | some r=>
     have hi:i<rows.length:=(List.getElem?_eq_some_iff.1 hr).1;have hl:=h4 r (List.mem_of_getElem? hr);simp only[setRow,hr,List.getElem?_set_self hi,List.set_set];congr 1
     match r,hl with
     | [a,b,c,d],_=>
       match f,g,hf,hg with
       |0,0,_,_|1,1,_,_|2,2,_,_|3,3,_,_=>rcases h with h|h<;>simp_all
       |0,1,_,_|0,2,_,_|0,3,_,_|1,0,_,_|1,2,_,_|1,3,_,_|2,0,_,_|2,1,_,_|2,3,_,_|3,0,_,_|3,1,_,_|3,2,_,_=>rfl
 cases hi:rows[i]? with
 |none=>simp only[setRow,hi];cases hj:rows[j]? <;>simp[hi,hij,List.getElem?_set,Ne.symm hij]
 | some r=>
   cases hj:rows[j]? with
   |none=>simp[setRow,hi,hj,List.getElem?_set,hij]
   | some q=>
     simp only[setRow,hi,hj,List.getElem?_set_ne hij,List.getElem?_set_ne (Ne.symm hij)];exact List.set_comm _ _ hij
theorem XcU {rows:List (List CD)} {s t:Wk} {j k:Nat} (h4:∀r∈rows,r.length=4) (h:s≠t∨j=k):X0B (X0B rows s j) t k=X0B (X0B rows t k) s j:=by
 unfold X0B;refine Xam h4 (by split<;>omega) (by split<;>omega) ?_;obtain⟨s1,s2⟩:=s;obtain⟨t1,t2⟩:=t;rcases h with h|h
 · refine .inl fun e=>h ?_;simp only[Prod.mk.injEq]at e⊢;refine⟨?_,e.1⟩;cases s1<;>cases t1<;>simp_all
 exact .inr (by rw[h])
theorem X2F {j k:Nat} {t:Wk}:∀(sl:List Wk) (rows:List (List CD)),(∀r∈rows,r.length=4)→((∀s∈sl,s≠t)∨j=k)→XE j sl (X0B rows t k)=X0B (XE j sl rows) t k
 |[],_,_,_=>rfl
 | s::sl,rows,h4,h=>by
   simp only[XE];rw[XcU h4 (h.imp (fun h=>Ne.symm (h s (by simp))) Eq.symm),X2F sl _ (ZZ h4) (h.imp (fun h x hx=>h x (by simp[hx])) id)]
theorem X4N {k:Nat}:∀(x y:List Wk) (rows:List (List CD)),(∀r∈rows,r.length=4)→XE k x (XE k y rows)=XE k y (XE k x rows)
 |x,[],rows,_=>rfl
 | x,t::y,rows,h4=>by
   simp only[XE];rw[X4N x y _ (ZZ h4),X2F x rows h4 (.inr rfl)]
theorem X9G:∀(l:List St) (sl:List Wk) (st:Bst),okB sl st.1→∀s∈(Qd l sl st).2,(l=[]∧s∈sl)∨st.1.length≤s.2:=by
 have one:∀(s:St),(∀l,l=s.then_∨l=s.else_→∀(sl:List Wk) (st:Bst),okB sl st.1→∀s∈(Qd l sl st).2,(l=[]∧s∈sl)∨st.1.length≤s.2)→
   ∀(k:Nat) (st:Bst),(∀r∈st.1,r.length=4)→k=st.1.length→∀q∈(WU s k st).2,k≤q.2:=by
  intro s ih k st h4 hk q hq;obtain⟨o,c,v,n,t,a,b,bs⟩:=s;simp only[St.then_,St.else_]at ih;unfold WU at hq;split at hq
  · have k1:okB [(false,k)] (st.1++[XY 3 st.2]):=⟨Wm h4,by simp[hk]⟩;have ok:=Wj a [(false,k)] (st.1++[XY 3 st.2],st.2+1) k1;have ia:=ih a (.inl rfl) [(false,k)] (st.1++[XY 3 st.2],st.2+1) k1;obtain⟨x,hx⟩:∃x,Qd a [(false,k)] (st.1++[XY 3 st.2],st.2+1)=x:=⟨_,rfl⟩;simp only[hx,List.length_append,List.length_singleton]at hq ok ia;have ib:=ih b (.inr rfl) [(true,k)] x.1 ⟨ok.1.four,by simp;omega⟩;rcases List.mem_append.1 hq with hq|hq
    · rcases ia q hq with⟨_,h⟩|h
      · rw[List.mem_singleton.1 h];exact Nat.le_refl _
      omega
    rcases ib q hq with⟨_,h⟩|h
    · rw[List.mem_singleton.1 h];exact Nat.le_refl _
    omega
  split at hq
  · rw[List.mem_singleton.1 hq];exact Nat.le_succ _
  rw[List.mem_singleton.1 hq];exact Nat.le_refl _
 apply St.lists;intro l ih sl st hok q hq
 have key:∀(l:List St),(∀s∈l,∀l',l'=s.then_∨l'=s.else_→∀(sl:List Wk) (st:Bst),okB sl st.1→∀s∈(Qd l' sl st).2,(l'=[]∧s∈sl)∨st.1.length≤s.2)→∀(sl:List Wk) (st:Bst),okB sl st.1→∀q∈(Qd l sl st).2,(l=[]∧q∈sl)∨st.1.length≤q.2:=by
  intro l
  induction l with
  |nil=>intro _ sl st _ q hq;exact .inl ⟨rfl,hq⟩
  | cons s l il=>
    intro ih sl st hok q hq;unfold Qd at hq;have h4:∀r∈XE st.1.length sl st.1,r.length=4:=ZD _ _ _ hok.four;have o1:=X5i s st.1.length (XE st.1.length sl st.1,st.2) h4 (Qb ..).symm;have o2:=one s (ih s (by simp)) st.1.length (XE st.1.length sl st.1,st.2) h4 (Qb ..).symm;obtain⟨x,hx⟩:∃x,WU s st.1.length (XE st.1.length sl st.1,st.2)=x:=⟨_,rfl⟩;simp only[hx,Qb]at hq o1 o2;rcases il (fun s hs=>ih s (by simp[hs])) x.2 x.1 o1.1 q hq with⟨_,h⟩|h
    · exact .inr (o2 q h)
    exact .inr (Nat.le_trans o1.2.1 h)
 exact key l (fun s hs l' h=>by
  rcases h with rfl|rfl
  · exact(ih s hs).1
  exact(ih s hs).2) sl st hok q hq
mutual
def gS:St→Bool
 | .mk o _ _ _ _ a b _=>(decide (o=3)||(decide (o=4)&&b.isEmpty)||(a.isEmpty&&b.isEmpty))&&(gL a&&gL b)
def gL:List St→Bool
 |[]=>true
 |s::l=>gS s&&gL l
end
theorem X9e {vars:List Vr} {nh:Nat}:∀(l:List St) (top:Bool),ssC vars nh l top=0→gL l=true
 |[],_,_=>rfl
 | .mk d c v n t a b bs::l,top,h=>by
   have hs:shB vars nh d v n t a.length b.length bs (top&&l.isEmpty)=true:=by
    simp only[ssC]at h;split at h
    · rename_i h0;unfold stC at h0;split at h0
      · cases h0
      rename_i hs;simpa using hs
    rename_i h0;exact absurd h h0
   have hr:ssC vars nh a false=0∧ssC vars nh b false=0∧ssC vars nh l top=0:=by
    simp only[ssC]at h;split at h
    · split at h
      · split at h
        · rename_i ha hb;exact⟨ha,hb,h⟩
        rename_i hb;exact absurd h hb
      rename_i ha;exact absurd h ha
    rename_i h0;exact absurd h h0
   simp only[gL,gS,Bool.and_eq_true,Bool.or_eq_true,decide_eq_true_eq,List.isEmpty_iff];refine⟨⟨?_,X9e a false hr.1,X9e b false hr.2.1⟩,X9e l top hr.2.2⟩;rcases X9X hs with h1|h1|⟨h1,h2⟩
   · exact .inl (.inl h1)
   · refine .inl (.inr ⟨h1,?_⟩);subst h1;unfold shB at hs;simp at hs;exact hs.1.2
   exact .inr ⟨List.eq_nil_of_length_eq_zero h1,List.eq_nil_of_length_eq_zero h2⟩
mutual
theorem X6i:∀(s:St) (d:Int) (k after:Nat),gS s=true→(X3d s d k after).length=wdS s
 | .mk o c v n t a b bs,d,k,after,h=>by
   simp only[gS,Bool.and_eq_true,Bool.or_eq_true,decide_eq_true_eq,List.isEmpty_iff]at h;obtain⟨h,ha,hb⟩:=h;unfold X3d wdS;by_cases h3:o=3
   · have h4:¬o=4:=by omega
     rw[if_pos h3,if_neg h4];simp only[List.length_cons,List.length_append,ZJ a _ _ _ ha,ZJ b _ _ _ hb];omega
   rw[if_neg h3];by_cases h4:o=4
   · rw[if_pos h4,if_pos h4]
     have hb0:b=[]:=by
      rcases h with(h|h)|h
      · exact absurd h h3
      · exact h.2
      exact h.2
     subst hb0;simp only[List.length_cons,ZJ a _ _ _ ha,wdL];omega
   rw[if_neg h4,if_neg h4]
   have h0:a=[]∧b=[]:=by
    rcases h with(h|h)|h
    · exact absurd h h3
    · exact absurd h.1 h4
    exact h
   rw[h0.1,h0.2];rfl
theorem ZJ:∀(l:List St) (d:Int) (k after:Nat),gL l=true→(X1j l d k after).length=wdL l
 |[],_,_,_,_=>rfl
 | s::l,d,k,after,h=>by
   simp only[gL,Bool.and_eq_true]at h;unfold X1j wdL;rw[List.length_append,X6i s _ _ _ h.1,ZJ l _ _ _ h.2]
end
def layOK (l:List St):Prop:=gL l=true→∀(sl:List Wk) (st:Bst) (d:Int),okB sl st.1→st.2=d→
 (∀after:Nat,XE after (Qd l sl st).2 (Qd l sl st).1.1=XE (if l=[] then after else st.1.length) sl st.1++QT (X1j l d st.1.length after))∧(Qd l sl st).1.2=d+szL l
def layOne (s:St):Prop:=gS s=true→∀(k:Nat) (st:Bst) (d:Int),(∀r∈st.1,r.length=4)→k=st.1.length→st.2=d→
 (∀after:Nat,XE after (WU s k st).2 (WU s k st).1.1=st.1++QT (X3d s d k after))∧(WU s k st).1.2=d+szS s
theorem Xdd (a b:List Nd):QT (a++b)=QT a++QT b:=by simp[QT]
theorem X0R {A:List (List CD)} {x:List CD} {o:Bool} {k v:Nat} (hk:k=A.length):X0B (A++[x]) (o,k) v=A++[if o=true then x.take 3++[iC v]++x.drop 4 else x.take 2++[iC v]++x.drop 3]:=by
 subst hk;unfold X0B setRow;simp;cases o<;>simp
theorem Xd4 (s:St) (ha:layOK s.then_) (hb:layOK s.else_):layOne s:=by
 obtain⟨o,c,v,n,t,a,b,bs⟩:=s;simp only[St.then_,St.else_]at ha hb;intro hg k st d h4 hk hd;simp only[gS,Bool.and_eq_true,Bool.or_eq_true,decide_eq_true_eq,List.isEmpty_iff]at hg;obtain⟨hg,hga,hgb⟩:=hg;have ha:=ha hga;have hb:=hb hgb;subst hd;unfold WU X3d szS;by_cases h3:o=3
 · simp only[if_pos h3];have k1:okB [(false,k)] (st.1++[XY 3 st.2]):=⟨Wm h4,by simp[hk]⟩;have ok:=Wj a [(false,k)] (st.1++[XY 3 st.2],st.2+1) k1;have sa:=X9G a [(false,k)] (st.1++[XY 3 st.2],st.2+1) k1;obtain⟨ia,ida⟩:=ha [(false,k)] (st.1++[XY 3 st.2],st.2+1) _ k1 rfl;obtain⟨x,hx⟩:∃x,Qd a [(false,k)] (st.1++[XY 3 st.2],st.2+1)=x:=⟨_,rfl⟩;simp only[hx,List.length_append,List.length_singleton]at ok sa ia ida⊢;have k2:okB [(true,k)] x.1.1:=⟨ok.1.four,by simp;omega⟩;have ok2:=Wj b [(true,k)] x.1 k2;obtain⟨ib,idb⟩:=hb [(true,k)] x.1 _ k2 rfl;obtain⟨y,hy⟩:∃y,Qd b [(true,k)] x.1=y:=⟨_,rfl⟩;simp only[hy]at ok2 ib idb⊢
   have hlen:x.1.1.length=k+1+wdL a:=by
    have:=congrArg List.length (ia 0);rw[Qb,List.length_append,Qb,List.length_append,List.length_singleton,X6J,ZJ a _ _ _ hga]at this;omega
   refine⟨fun after=>?_,by omega⟩;rw[X6m,X4N _ _ _ ok2.1.four,ib after,X6x x.2 (fun s hs=>by rw[Qb];exact ok.1.lt s hs)];simp only[XE]
   rw[X2F x.2 _ ok.1.four (.inl fun s hs=>by
    rcases sa s hs with⟨_,h⟩|h
    · rw[List.mem_singleton.1 h];simp
    intro e;rw[e]at h;simp at h;omega),ia after]
   simp only[XE];rw[X0R hk,X6H (by simp[hk]),X0R hk,hlen,ida,hk];simp only[XY,Bool.false_eq_true,if_false,if_true,List.take,List.drop,List.nil_append,List.cons_append,List.append_nil,QT,List.map_cons,List.map_append,Nd.enc,List.append_assoc];refine congrArg (st.1++ ·) ?_;congr 2;by_cases h1:a=[]<;>by_cases h2:b=[]<;>simp[h1,h2]
 by_cases h4':o=4
 · simp only[if_neg h3,if_pos h4']
   have hb0:b=[]:=by
    rcases hg with(h|h)|h
    · exact absurd h h3
    · exact h.2
    exact h.2
   subst hb0
   have hR:setRow (st.1++[XY 4 st.2]++[XY 5 st.2]) k 2 [iC ((k:Int)+1)]=st.1++[[iC 4,iC st.2,iC ((k:Int)+1),iC (-1)]]++[XY 5 st.2]:=by
    subst hk;simp[setRow]
   have k1:okB [(false,k+1)] (st.1++[[iC 4,iC st.2,iC ((k:Int)+1),iC (-1)]]++[XY 5 st.2]):=by
    rw[←hR];exact⟨X0s (Wm (Wm h4)) (by omega),by simp[Wx,hk]⟩
   rw[hR];have ok:=Wj a [(false,k+1)] (st.1++[[iC 4,iC st.2,iC ((k:Int)+1),iC (-1)]]++[XY 5 st.2],st.2+1) k1;obtain⟨ia,ida⟩:=ha [(false,k+1)] (st.1++[[iC 4,iC st.2,iC ((k:Int)+1),iC (-1)]]++[XY 5 st.2],st.2+1) _ k1 rfl;obtain⟨x,hx⟩:∃x,Qd a [(false,k+1)] (st.1++[[iC 4,iC st.2,iC ((k:Int)+1),iC (-1)]]++[XY 5 st.2],st.2+1)=x:=⟨_,rfl⟩;simp only[hx]at ok ia ida⊢;refine⟨fun after=>?_,by simp only[szL];omega⟩;simp only[XE];rw[ia (k+1)];simp only[XE];rw[X0R (by simp[hk]),X6H (by simp[hk]),X0R (by simp[hk])];simp only[XY,Bool.false_eq_true,if_false,if_true,List.take,List.drop,List.nil_append,List.cons_append,List.append_nil,QT,List.map_cons,List.map_append,Nd.enc,List.append_assoc,List.length_append,List.length_singleton,hk];refine congrArg (st.1++ ·) ?_;congr 2;by_cases h1:a=[]<;>simp[h1]
 simp only[if_neg h3,if_neg h4']
 have h0:a=[]∧b=[]:=by
  rcases hg with(h|h)|h
  · exact absurd h h3
  · exact absurd h.1 h4'
  exact h
 rw[h0.1,h0.2];refine⟨fun after=>?_,by simp only[szL];omega⟩;simp only[XE];rw[X0R hk];rfl
theorem Xd7:∀l:List St,layOK l:=by
 apply St.lists;intro l ih
 have key:∀l:List St,(∀s∈l,layOne s)→layOK l:=by
  intro l
  induction l with
  | nil=>
    intro _ _ sl st d hok hd;exact⟨fun after=>by simp[Qd,X1j,QT],by simp[Qd,szL,hd]⟩
  | cons s l il=>
    intro h hg sl st d hok hd;simp only[gL,Bool.and_eq_true]at hg;have h4:∀r∈XE st.1.length sl st.1,r.length=4:=ZD _ _ _ hok.four;have o1:=X5i s st.1.length (XE st.1.length sl st.1,st.2) h4 (Qb ..).symm;obtain⟨i1,id1⟩:=h s (by simp) hg.1 st.1.length (XE st.1.length sl st.1,st.2) d h4 (Qb ..).symm hd;unfold Qd X1j szL;obtain⟨x,hx⟩:∃x,WU s st.1.length (XE st.1.length sl st.1,st.2)=x:=⟨_,rfl⟩;simp only[hx]at o1 i1 id1⊢
    have hlen:x.1.1.length=st.1.length+wdS s:=by
     have:=congrArg List.length (i1 0);rw[Qb,List.length_append,Qb,X6J,X6i s _ _ _ hg.1]at this;exact this
    obtain⟨i2,id2⟩:=il (fun s hs=>h s (by simp[hs])) hg.2 x.2 x.1 _ o1.1 id1;refine⟨fun after=>?_,by omega⟩;rw[i2 after,hlen,i1,Xdd,if_neg (List.cons_ne_nil s l),List.append_assoc]
 exact key l fun s hs=>Xd4 s (ih s hs).1 (ih s hs).2
theorem Xbq (l:List St) (hg:gL l=true):bldF l=QT (grN l):=by
 have k0:okB [(false,0)] [[iC 0,iC (-1),iC (-1),iC (-1)]]:=⟨by simp,by simp⟩;obtain⟨i1,_⟩:=Xd7 l hg [(false,0)] ([[iC 0,iC (-1),iC (-1),iC (-1)]],0) 0 k0 rfl;unfold bldF;obtain⟨x,hx⟩:∃x,Qd l [(false,0)] ([[iC 0,iC (-1),iC (-1),iC (-1)]],0)=x:=⟨_,rfl⟩;simp only[hx]at i1⊢
 have hlen:x.1.1.length=1+wdL l:=by
  have:=congrArg List.length (i1 0);rw[Qb,List.length_append,Qb,X6J,ZJ l _ _ _ hg]at this;exact this
 rw[i1,hlen];unfold grN;simp only[XE,X0B,setRow,List.length_singleton];simp[QT];by_cases h:l=[]<;>simp[h]
end Go.Proofs.YtppjennamodfdaaGreat

namespace Go.Proofs.YtppjennamodfdaaGreat
open Go Go.Hl
abbrev wr (x:Int):Int:=IntKind.i64.wrap x
def Ww (b:Bool):Int:=if b=true then 1 else 0
def divI (a b:Int):Int:=
 if b=0 then 0 else if(!decide (a.tmod b=0)&&(decide (a<0)!=decide (b<0)))=true then wr (wr (a.tdiv b) - 1)else wr (a.tdiv b)
def modI (a b:Int):Int:=if b=0 then 0 else wr (a - wr (b*divI a b))
def binI (o a b:Int):Int:=
 if o=8 then wr (a+b)else if o=9 then wr (a - b)else if o=10 then wr (a*b)else if o=11 then divI a b else if o=12 then modI a b
 else if o=13 then Ww (decide (a=b))else if o=14 then Ww (!decide (a=b))else if o=15 then Ww (decide (a<b))else if o=16 then Ww (decide (a≤b))
 else if o=17 then Ww (decide (b<a))else if o=18 then Ww (decide (b≤a))else if o=19 then Ww (!decide (a=0)&& !decide (b=0))
 else if o=20 then Ww (!decide (a=0)|| !decide (b=0))else if o=21 then mn a b else mx a b
theorem QA (b:Bool) (d:Nat):Con Tryz.prog 158 true [lb b] (.v (li (Ww b))) none d:=by
 refine X5 Tryz.func158 ?_;simp only[Tryz.f158];refine X3 ?_;refine X1<|X1<|X2 ?_;refine(Xa rfl (fun h2=>?_) fun h2=>?_)
 · (try simp only[BN]at h2);refine X3 ?_;exact(Xl (fun h=>⟨.inr rfl,h⟩) _ (by simp[*];rfl) (by first|rfl|(simp[*,Ww];done)|(simp only[XD,Ww];(repeat' split)<;>first|rfl|(exfalso;omega)|simp_all)) (by simp))
 (try simp only[BN]at h2);refine X3 ?_;exact(Xl (fun h=>⟨.inr rfl,h⟩) _ (by simp[*];rfl) (by first|rfl|(simp[*,Ww];done)|(simp only[XD,Ww];(repeat' split)<;>first|rfl|(exfalso;omega)|simp_all)) (by simp))
theorem X5g (a b:Int) (d:Nat):Con Tryz.prog 171 true [li a,li b] (.v (li (divI a b))) none d:=by
 obtain⟨res,hres⟩:∃r,divI a b=r:=⟨_,rfl⟩;rw[hres];unfold divI at hres;refine X5 Tryz.func171 ?_;simp only[Tryz.f171];refine X3 ?_;refine X1<|X1<|X2 ?_;refine(Xa rfl (fun h2=>?_) fun h2=>?_)
 · (try simp only[BN]at h2);rw[if_pos h2]at hres;subst hres;refine X3 ?_;exact Xc
 (try simp only[BN]at h2);rw[if_neg h2]at hres;refine X3 ?_;refine X1<|X1<|X2 ?_;refine(Xa rfl (fun h7=>?_) fun h7=>?_)
 · (try simp only[BN]at h7);rw[if_pos (by simpa using h7)]at hres;subst hres;refine X2 ?_;refine X3 ?_;exact Xc
 try simp only[BN]at h7
 rw [if_neg (by
     simp only[Bool.and_eq_true,Bool.not_eq_true',decide_eq_false_iff_not,bne_iff_ne,ne_eq,decide_eq_decide,not_and,Decidable.not_not];intro h;rcases h7 with h7|h7
     · exact absurd h7 h
     simpa using h7)]at hres
 subst hres;refine X3 ?_;exact Xc
theorem XbE (a b:Int) (d:Nat):Con Tryz.prog 172 true [li a,li b] (.v (li (modI a b))) none d:=by
 obtain⟨res,hres⟩:∃r,modI a b=r:=⟨_,rfl⟩;rw[hres];unfold modI at hres;refine X5 Tryz.func172 ?_;simp only[Tryz.f172];refine X3 ?_;refine X1<|X1<|X2 ?_;refine(Xa rfl (fun h2=>?_) fun h2=>?_)
 · (try simp only[BN]at h2);rw[if_pos h2]at hres;subst hres;refine X3 ?_;exact Xc
 (try simp only[BN]at h2);rw[if_neg h2]at hres;subst hres;refine Xj [⟨true,.v (li (divI a b)),none⟩] ?_ ?_
 · first|exact X5g _ _ _|exact trivial|simpa[*]using X5g _ _ _
 exact Xc
theorem XbX (o a b:Int) (d:Nat):Con Tryz.prog 159 true [li o,li a,li b] (.v (li (binI o a b))) none d:=by
 obtain⟨res,hres⟩:∃r,binI o a b=r:=⟨_,rfl⟩;rw[hres];unfold binI at hres;refine X5 Tryz.func159 ?_;simp only[Tryz.f159];refine X3 ?_;refine X1<|X1<|X2 ?_;refine X4<|X1<|X2 ?_;refine(X7 rfl (fun h3=>?_) (fun h3=>?_))
 · (try simp only[BN]at h3);rw[if_pos h3]at hres;subst hres;refine X3 ?_;exact Xc
 (try simp only[BN]at h3);rw[if_neg h3]at hres;refine X3 ?_;refine(X7 rfl (fun h7=>?_) (fun h7=>?_))
 · (try simp only[BN]at h7);rw[if_pos h7]at hres;subst hres;refine X3 ?_;exact Xc
 (try simp only[BN]at h7);rw[if_neg h7]at hres;refine X3 ?_;refine(X7 rfl (fun h11=>?_) (fun h11=>?_))
 · (try simp only[BN]at h11);rw[if_pos h11]at hres;subst hres;refine X3 ?_;exact Xc
 (try simp only[BN]at h11);rw[if_neg h11]at hres;refine X3 ?_;refine(X7 rfl (fun h15=>?_) (fun h15=>?_))
 · (try simp only[BN]at h15);rw[if_pos h15]at hres;subst hres;refine Xj [⟨true,.v (li (divI a b)),none⟩] ?_ ?_
   · first|exact X5g _ _ _|exact trivial|simpa[*]using X5g _ _ _
   exact Xc
 (try simp only[BN]at h15);rw[if_neg h15]at hres;refine X3 ?_;refine(X7 rfl (fun h19=>?_) (fun h19=>?_))
 · (try simp only[BN]at h19);rw[if_pos h19]at hres;subst hres;refine Xj [⟨true,.v (li (modI a b)),none⟩] ?_ ?_
   · first|exact XbE _ _ _|exact trivial|simpa[*]using XbE _ _ _
   exact Xc
 (try simp only[BN]at h19);rw[if_neg h19]at hres;refine X3 ?_;refine(X7 rfl (fun h23=>?_) (fun h23=>?_))
 · (try simp only[BN]at h23);rw[if_pos h23]at hres;subst hres;refine Xj [⟨true,.v (li (Ww (decide (a=b)))),none⟩] ?_ ?_
   · first|exact QA _ _|exact trivial|simpa[*]using QA _ _
   exact Xc
 (try simp only[BN]at h23);rw[if_neg h23]at hres;refine X3 ?_;refine(X7 rfl (fun h27=>?_) (fun h27=>?_))
 · (try simp only[BN]at h27);rw[if_pos h27]at hres;subst hres;refine Xj [⟨true,.v (li (Ww (!decide (a=b)))),none⟩] ?_ ?_
   · first|exact QA _ _|exact trivial|simpa[*]using QA _ _
   exact Xc
 (try simp only[BN]at h27);rw[if_neg h27]at hres;refine X3 ?_;refine(X7 rfl (fun h31=>?_) (fun h31=>?_))
 · (try simp only[BN]at h31);rw[if_pos h31]at hres;subst hres;refine Xj [⟨true,.v (li (Ww (decide (a<b)))),none⟩] ?_ ?_
   · first|exact QA _ _|exact trivial|simpa[*]using QA _ _
   exact Xc
 (try simp only[BN]at h31);rw[if_neg h31]at hres;refine X3 ?_;refine(X7 rfl (fun h35=>?_) (fun h35=>?_))
 · (try simp only[BN]at h35);rw[if_pos h35]at hres;subst hres;refine Xj [⟨true,.v (li (Ww (decide (a≤b)))),none⟩] ?_ ?_
   · first|exact QA _ _|exact trivial|simpa[*]using QA _ _
   exact Xc
 (try simp only[BN]at h35);rw[if_neg h35]at hres;refine X3 ?_;refine(X7 rfl (fun h39=>?_) (fun h39=>?_))
 · (try simp only[BN]at h39);rw[if_pos h39]at hres;subst hres;refine Xj [⟨true,.v (li (Ww (decide (b<a)))),none⟩] ?_ ?_
   · first|exact QA _ _|exact trivial|simpa[*]using QA _ _
   exact Xc
 (try simp only[BN]at h39);rw[if_neg h39]at hres;refine X3 ?_;refine(X7 rfl (fun h43=>?_) (fun h43=>?_))
 · (try simp only[BN]at h43);rw[if_pos h43]at hres;subst hres;refine Xj [⟨true,.v (li (Ww (decide (b≤a)))),none⟩] ?_ ?_
   · first|exact QA _ _|exact trivial|simpa[*]using QA _ _
   exact Xc
 (try simp only[BN]at h43);rw[if_neg h43]at hres;refine X3 ?_;refine(X7 rfl (fun h47=>?_) (fun h47=>?_))
 · (try simp only[BN]at h47);rw[if_pos h47]at hres;subst hres;refine Xj [⟨true,.v (li (Ww (!decide (a=0)&& !decide (b=0)))),none⟩] ?_ ?_
   · first|exact QA _ _|exact trivial|simpa[*]using QA _ _
   exact Xc
 (try simp only[BN]at h47);rw[if_neg h47]at hres;refine X3 ?_;refine(X7 rfl (fun h51=>?_) (fun h51=>?_))
 · (try simp only[BN]at h51);rw[if_pos h51]at hres;subst hres;refine Xj [⟨true,.v (li (Ww (!decide (a=0)|| !decide (b=0)))),none⟩] ?_ ?_
   · first|exact QA _ _|exact trivial|simpa[*]using QA _ _
   exact Xc
 (try simp only[BN]at h51);rw[if_neg h51]at hres;refine X3 ?_;refine(Xa rfl (fun h55=>?_) fun h55=>?_)
 · (try simp only[BN]at h55);rw[if_pos h55]at hres;subst hres;refine Xj [⟨true,.v (li (mn a b)),none⟩] ?_ ?_
   · first|exact Qh _ _ _|exact trivial|simpa[*]using Qh _ _ _
   exact Xc
 (try simp only[BN]at h55);rw[if_neg h55]at hres;subst hres;refine Xj [⟨true,.v (li (mx a b)),none⟩] ?_ ?_
 · first|exact Qm _ _ _|exact trivial|simpa[*]using Qm _ _ _
 exact Xc
end Go.Proofs.YtppjennamodfdaaGreat

namespace Go.Proofs.YtppjennamodfdaaGreat
open Go Go.Hl
def selI (k0:Int) (len:Nat):Int:=wr (1+WX k0 0 (wr ((len:Int) - 2)))
def valN (vs:List Int) (o n:Int) (k:List Int):Int:=
 if o=0 then n else if o=24 then(vs[n.toNat]?).getD 0 else if o=6 then wr (-((k[0]?).getD 0))else if o=7 then Ww (decide ((k[0]?).getD 0=0))
 else if o=23 then(if(k[0]?).getD 0=0 then(k[2]?).getD 0 else(k[1]?).getD 0)
 else if o=25 then(k[(selI ((k[0]?).getD 0) k.length).toNat]?).getD 0
 else binI o ((k[0]?).getD 0) ((k[1]?).getD 0)
mutual
def vT (vs:List Int):Tm→Int
 | .mk o n ks=>valN vs o n (vTs vs ks)
def vTs (vs:List Int):List Tm→List Int
 |[]=>[]
 |t::l=>vT vs t::vTs vs l
end
theorem XbP (vs:List Int):∀l:List Tm,vTs vs l=l.map (vT vs)
 |[]=>by simp[vTs]
 |t::l=>by simp[vTs,XbP vs l]
theorem kq1 {vars:List Vr} {inp:Bool} {o n:Int} {ks:List Tm} (h:Q9 vars inp o n ks.length=true) (ho:o=6∨o=7):∃a,ks=[a]:=by
 have:=ZQ h;rw[show Q8 o=(1,1) by unfold Q8;rw[if_neg (by omega),if_pos ho]]at this;simp only at this
 match ks,this with
 |[a],_=>exact⟨a,rfl⟩
 |[],h=>simp at h
 |a::b::l,h=>simp at h;omega
theorem kq2 {vars:List Vr} {inp:Bool} {o n:Int} {ks:List Tm} (h:Q9 vars inp o n ks.length=true) (h1:¬o=0) (h2:¬o=24) (h3:¬o=6) (h4:¬o=7) (h5:¬o=23) (h6:¬o=25):∃a b,ks=[a,b]:=by
 have:=ZQ h
 have hr:8≤o∧o≤22:=by
  refine Classical.byContradiction fun hc=>?_;rw[show Q8 o=(-1,-1) by unfold Q8;rw[if_neg (by omega),if_neg (by omega),if_neg hc,if_neg h5,if_neg h6]]at this;simp at this
 rw[show Q8 o=(2,2) by unfold Q8;rw[if_neg (by omega),if_neg (by omega),if_pos hr]]at this;simp only at this
 match ks,this with
 |[a,b],_=>exact⟨a,b,rfl⟩
 |[],h=>simp at h
 |[a],h=>simp at h
 |a::b::c::l,h=>simp at h;omega
theorem kq3 {vars:List Vr} {inp:Bool} {n:Int} {ks:List Tm} (h:Q9 vars inp 23 n ks.length=true):∃a b c,ks=[a,b,c]:=by
 have:=ZQ h;rw[show Q8 23=(3,3) by decide]at this;simp only at this
 match ks,this with
 |[a,b,c],_=>exact⟨a,b,c,rfl⟩
 |[],h=>simp at h
 |[a],h=>simp at h
 |[a,b],h=>simp at h
 |a::b::c::e::l,h=>simp at h;omega
theorem kqN {vars:List Vr} {inp:Bool} {n:Int} {ks:List Tm} (h:Q9 vars inp 25 n ks.length=true):2≤ks.length∧ks.length≤33:=by
 have:=ZQ h;rw[show Q8 25=(2,33) by decide]at this;simp only at this;omega
theorem X4r (vars:List Vr) (inp:Bool) (vs:List Int) (hvs:vs.length=vars.length) (t:Tm):QL vars inp t=true→∀d:Nat,
  Con Tryz.prog 136 true [lI vs,aT t] (.v (li (vT vs t))) none d:=by
 induction t using Tm.ind with
 |h o n ks ih=>
 intro hf d;simp only[QL,Bool.and_eq_true]at hf;have hfk:=Zs hf.2;have hf:=hf.1;obtain⟨res,hres⟩:∃r,vT vs (.mk o n ks)=r:=⟨_,rfl⟩;rw[hres];simp only[vT,valN]at hres;have ih:=fun t ht=>ih t ht (hfk t ht);clear hfk;refine X5 Tryz.func136 ?_;simp only[Tryz.f136];simp only[aT,Tm.enc];refine X3 ?_;refine X1<|X1<|X2 ?_;refine X4<|X1<|X2 ?_;refine(X7 rfl (fun h3=>?_) (fun h3=>?_))
 · (try simp only[BN]at h3);rw[if_pos h3]at hres;subst hres;refine X3 ?_;exact Xc
 (try simp only[BN]at h3);rw[if_neg h3]at hres;refine X3 ?_;refine(X7 rfl (fun h7=>?_) (fun h7=>?_))
 · (try simp only[BN]at h7);rw[if_pos h7]at hres;subst h7;obtain⟨hn0,v,hv,_⟩:=X3L hf;have hlt:n.toNat<vs.length:=by rw[hvs];exact(List.getElem?_eq_some_iff.1 hv).1
   obtain⟨x,hx⟩:∃x,vs[n.toNat]? =some x:=⟨vs[n.toNat],by simp[hlt]⟩;rw[hx]at hres;simp only[Option.getD_some]at hres;subst hres;clear hlt hv;refine X3 ?_;exact Xc
 (try simp only[BN]at h7);rw[if_neg h7]at hres;refine X3 ?_;refine(X7 rfl (fun h11=>?_) (fun h11=>?_))
 · (try simp only[BN]at h11);rw[if_pos h11]at hres;obtain⟨⟨ao,an,ak⟩,rfl⟩:=kq1 hf (.inl h11);have ca:=ih _ (List.mem_singleton.2 rfl);simp only[aT,Tm.enc,List.map_cons,List.map_nil]at ca;obtain⟨A,hA⟩:∃x,vT vs (.mk ao an ak)=x:=⟨_,rfl⟩;rw[hA]at ca;rw[show vTs vs [Tm.mk ao an ak]=[A] by simp[vTs,hA]]at hres;simp only[List.getElem?_cons_zero,Option.getD_some]at hres;subst hres;clear ih hA;refine Xj [⟨true,.v (li A),none⟩] ?_ ?_
   · first|exact ca _|exact trivial|simpa[*]using ca _
   exact Xc
 (try simp only[BN]at h11);rw[if_neg h11]at hres;refine X3 ?_;refine(X7 rfl (fun h15=>?_) (fun h15=>?_))
 · (try simp only[BN]at h15);rw[if_pos h15]at hres;obtain⟨⟨ao,an,ak⟩,rfl⟩:=kq1 hf (.inr h15);have ca:=ih _ (List.mem_singleton.2 rfl);simp only[aT,Tm.enc,List.map_cons,List.map_nil]at ca;obtain⟨A,hA⟩:∃x,vT vs (.mk ao an ak)=x:=⟨_,rfl⟩;rw[hA]at ca;rw[show vTs vs [Tm.mk ao an ak]=[A] by simp[vTs,hA]]at hres;simp only[List.getElem?_cons_zero,Option.getD_some]at hres;subst hres;clear ih hA;refine Xj [⟨true,.v (li A),none⟩,⟨true,.v (li (Ww (decide (A=0)))),none⟩] ?_ ?_
   · first|exact⟨ca _,QA _ _⟩|exact trivial|(repeat' first|exact trivial|exact ca _|exact QA _ _|apply And.intro)
   exact Xc
 (try simp only[BN]at h15);rw[if_neg h15]at hres;refine X3 ?_;refine(X7 rfl (fun h19=>?_) (fun h19=>?_))
 · (try simp only[BN]at h19);rw[if_pos h19]at hres;subst h19;obtain⟨⟨ao,an,ak⟩,⟨bo,bn,bk⟩,⟨co,cn,ck⟩,rfl⟩:=kq3 hf;have ca:=ih (.mk ao an ak) (by simp);have cb:=ih (.mk bo bn bk) (by simp);have cc:=ih (.mk co cn ck) (by simp);simp only[aT,Tm.enc,List.map_cons,List.map_nil]at ca cb cc;obtain⟨A,hA⟩:∃x,vT vs (.mk ao an ak)=x:=⟨_,rfl⟩;obtain⟨B,hB⟩:∃x,vT vs (.mk bo bn bk)=x:=⟨_,rfl⟩;obtain⟨C,hC⟩:∃x,vT vs (.mk co cn ck)=x:=⟨_,rfl⟩;rw[hA]at ca;rw[hB]at cb;rw[hC]at cc;rw[show vTs vs [Tm.mk ao an ak,Tm.mk bo bn bk,Tm.mk co cn ck]=[A,B,C] by simp[vTs,hA,hB,hC]]at hres;simp only[List.getElem?_cons_zero,List.getElem?_cons_succ,Option.getD_some]at hres;clear ih hA hB hC;refine X1<|X1<|(Xm [⟨true,.v (li A),none⟩] ?_ ?_)
   · first|exact ca _|exact trivial|simpa[*]using ca _
   refine(Xa rfl (fun h21=>?_) fun h21=>?_)
   · (try simp only[BN]at h21);rw[if_neg h21]at hres;subst hres;refine Xj [⟨true,.v (li B),none⟩] ?_ ?_
     · first|exact cb _|exact trivial|simpa[*]using cb _
     exact Xc
   (try simp only[BN]at h21);rw[if_pos (by simpa using h21)]at hres;subst hres;refine Xj [⟨true,.v (li C),none⟩] ?_ ?_
   · first|exact cc _|exact trivial|simpa[*]using cc _
   exact Xc
 (try simp only[BN]at h19);rw[if_neg h19]at hres;refine X3 ?_;refine(Xa rfl (fun h27=>?_) fun h27=>?_)
 · (try simp only[BN]at h27);rw[if_pos h27]at hres;subst h27;have hln:=kqN hf;obtain⟨⟨ao,an,ak⟩,he0⟩:∃t,ks[0]? =some t:=⟨ks[0],by simp⟩;have ca:=ih _ (List.mem_of_getElem? he0);have he0':=Wd he0;simp only[aT,Tm.enc,List.map_cons,List.map_nil]at ca he0';obtain⟨A,hA⟩:∃x,vT vs (.mk ao an ak)=x:=⟨_,rfl⟩;rw[hA]at ca;rw[XbP,List.getElem?_map,List.getElem?_map,he0,Option.map_some,Option.getD_some,hA,List.length_map]at hres;have hw1:IntKind.i64.wrap ((ks.length:Int) - 2)=(ks.length:Int) - 2:=Xd (by omega) (by omega);unfold selI at hres;simp only[wr,hw1]at hres;have hh:=held_in (n:=A) (lo:=0) (hi:=(ks.length:Int) - 2) (by omega);obtain⟨H,hH⟩:∃x,WX A 0 ((ks.length:Int) - 2)=x:=⟨_,rfl⟩;have cheld:=X5I A 0 ((ks.length:Int) - 2);rw[hH]at hres hh cheld;have hw2:IntKind.i64.wrap (1+H)=1+H:=Xd (by omega) (by omega);rw[hw2]at hres;obtain⟨⟨bo,bn,bk⟩,he1⟩:∃t,ks[(1+H).toNat]? =some t:=⟨ks[(1+H).toNat]'(by omega),by simp⟩;have cb:=ih _ (List.mem_of_getElem? he1);have he1':=Wd he1;simp only[aT,Tm.enc,List.map_cons,List.map_nil]at cb he1';rw[he1,Option.map_some,Option.getD_some]at hres;obtain⟨B,hB⟩:∃x,vT vs (.mk bo bn bk)=x:=⟨_,rfl⟩;rw[hB]at cb hres;subst hres;have hp1:0≤1+H:=by omega
   have hp2:1≤ks.length:=by omega
   clear ih hA hB hH he0 he1 hln hf hvs;refine X1<|(XS [⟨true,.v (li A),none⟩,⟨true,.v (li H),none⟩,⟨true,.v (li B),none⟩] (by kernel_rfl) (by kernel_rfl) (by rfl) (by simp[*];first|exact⟨rfl,Iff.rfl⟩|exact⟨rfl,trivial⟩|rfl) ?_ ?_)
   · first|exact⟨ca _,cheld _,cb _⟩|exact trivial|(repeat' first|exact trivial|exact ca _|exact cheld _|exact cb _|apply And.intro)
   exact Xc
 (try simp only[BN]at h27);rw[if_neg h27]at hres;obtain⟨⟨ao,an,ak⟩,⟨bo,bn,bk⟩,rfl⟩:=kq2 hf h3 h7 h11 h15 h19 h27;have ca:=ih (.mk ao an ak) (by simp);have cb:=ih (.mk bo bn bk) (by simp);simp only[aT,Tm.enc,List.map_cons,List.map_nil]at ca cb;simp only[vTs,List.getElem?_cons_zero,List.getElem?_cons_succ,Option.getD_some]at hres;obtain⟨A,hA⟩:∃x,vT vs (.mk ao an ak)=x:=⟨_,rfl⟩;obtain⟨B,hB⟩:∃x,vT vs (.mk bo bn bk)=x:=⟨_,rfl⟩;rw[hA]at ca hres;rw[hB]at cb hres;subst hres;clear ih hA hB;refine X1<|(XS [⟨true,.v (li A),none⟩,⟨true,.v (li B),none⟩,⟨true,.v (li (binI o A B)),none⟩] (by kernel_rfl) (by kernel_rfl) (by rfl) (by simp[*];first|exact⟨rfl,Iff.rfl⟩|exact⟨rfl,trivial⟩|rfl) ?_ ?_)
 · first|exact⟨ca _,cb _,XbX _ _ _ _⟩|exact trivial|(repeat' first|exact trivial|exact ca _|exact cb _|exact XbX _ _ _ _|apply And.intro)
 exact Xc
end Go.Proofs.YtppjennamodfdaaGreat

namespace Go.Proofs.YtppjennamodfdaaGreat
open Go Go.Hl
theorem X47 (l:List Int) (i:Nat) (d:Nat):Con Tryz.prog 71 true [lI l,li i] (.tup [li ((l[i]?).getD 0),lb (decide (i<l.length))]) none d:=by
 obtain⟨A,hA⟩:∃x,(l[i]?).getD 0=x:=⟨_,rfl⟩;obtain⟨B,hB⟩:∃x,decide (i<l.length)=x:=⟨_,rfl⟩;rw[hA,hB];refine X5 Tryz.func71 ?_;simp only[Tryz.f71];refine X3 ?_;refine X1<|X1<|X2 ?_;refine(Xa rfl (fun h2=>?_) fun h2=>?_)
 · (try simp only[BN]at h2);have h3:¬i<l.length:=by omega
   rw[List.getElem?_eq_none (by omega)]at hA;rw[decide_eq_false h3]at hB;simp only[Option.getD_none]at hA;subst hA hB;refine X3 ?_;exact Xc
 (try simp only[BN]at h2);have h3:i<l.length:=by omega
 obtain⟨x,hx⟩:=X4Z h3;rw[hx]at hA;rw[decide_eq_true h3]at hB;simp only[Option.getD_some]at hA;subst hA hB;clear h3;refine X3 ?_;exact Xc
def stlL:List Int→Int→Int→Bool→Int
 |[],_,best,_=>best
 |b::l,t,best,found=>if t≤b∧(found=false∨b<best)then stlL l t b true else stlL l t best found
theorem X9v (bs:List Int) (t:Int) (hl:bs.length≤1000000000) (d:Nat):Con Tryz.prog 137 true [lI bs,li t] (.v (li (stlL bs t t false))) none d:=by
 obtain⟨res,hres⟩:∃r,stlL bs t t false=r:=⟨_,rfl⟩;rw[hres];refine X5 Tryz.func137 ?_;simp only[Tryz.f137];refine X3 ?_;refine X3 ?_;refine X1<|X1<|X2 ?_;refine X4<|(Xf [0,1] (fun(x:Nat×Int×Bool)=>[(5,.v (li x.2.1)),(6,.v (lb x.2.2)),(7,.v (li x.1))]) (fun x=>[]) (fun x=>x.1≤bs.length∧stlL (bs.drop x.1) t x.2.1 x.2.2=res) (fun x=>bs.length - x.1) (0,t,false) ⟨Nat.zero_le _,hres⟩ ?_ ?_)
 · exact X6 (fun n=>n) []
 rintro⟨k,best,found⟩ ⟨hk,hJ⟩;simp only[upS,X8,Xw]
 try simp only[X8,KN,Nat.reduceBEq,if_true,if_false,ins,Nat.reduceLT]
 simp only at hk hJ;clear hres;refine X1<|X1<|X2 ?_;refine(X7 rfl (fun h5=>Xb ?_) (fun h5=>?_))
 · (try simp only[BN]at h5);have hlt:k<bs.length:=by omega
   obtain⟨b,he,hd⟩:=Xs hlt;have hw1:=XA hlt (by omega);have hk1:k+1≤bs.length:=hlt;rw[hd]at hJ;simp only[stlL]at hJ;clear hlt h5 hd;refine X1<|X4<|X1<|X2 ?_;refine(Xa rfl (fun h7=>?_) fun h7=>?_)
   · (try simp only[BN]at h7);rw[if_pos (by simpa using h7)]at hJ;refine X2 ?_;refine X2 ?_;exact⟨(k+1,b,true),⟨hk1,hJ⟩,by simp only;omega,X6 (fun n=>n) []⟩
   (try simp only[BN]at h7);have h7':b<t∨found=true∧best≤b:=by simpa using h7
   rw [if_neg (by
       rintro⟨ha,hb⟩;rcases h7' with h|h
       · omega
       rcases hb with hb|hb
       · rw[hb]at h;exact absurd h.1 (by decide)
       omega)]at hJ
   clear h7';refine X2 ?_;exact⟨(k+1,best,found),⟨hk1,hJ⟩,by simp only;omega,X6 (fun n=>n) []⟩
 (try simp only[BN]at h5);have hkl:k=bs.length:=by omega
 rw[hkl,List.drop_length]at hJ;simp only[stlL]at hJ;subst hJ;refine(Xi ?_);refine X3 ?_;exact Xc
def Wh (vs:List Int) (l:List Ht):List Int:=l.map fun h=>WX (vT vs h.term) h.low h.high
theorem XcO (f:Fl) (vs:List Int) (hvs:vs.length=f.vars.length) (hh:f.hats.length≤1000000) (hf:∀h∈f.hats,QL f.vars true h.term=true) (d:Nat):
  Con Tryz.prog 109 false [aF f,lI vs] (.v (lI (Wh vs f.hats))) none d:=by
 obtain⟨vars,hats,body⟩:=f;simp only at hvs hh hf⊢;have hv0:Wh vs []=[]:=rfl;refine X5 Tryz.func109 ?_;simp only[Tryz.f109];simp only[aF,Fl.enc,List.map_cons,List.map_nil];refine X3 ?_;refine X3 ?_;refine X1<|X1<|X2 ?_;refine X4<|(Xf [1,2] (fun(x:Nat)=>[(5,.v (.one (.own 1005))),(6,.v (li x))]) (fun x=>[(2,.box [.c (.sl 5 (Xv vars)),.c (.sl 6 (Xu hats)),.c (.sl 10 (X9 body))]),(1005,.row 3 1 (Xe (Wh vs (hats.take x))))]) (fun x=>x≤hats.length) (fun x=>hats.length - x) (0:Nat) (Nat.zero_le _) ?_ ?_)
 · exact X6 (fun n=>if n=1005 then 8 else n) []
 rintro k hk;simp only[upS,X8,Xw]
 try simp only[X8,KN,Nat.reduceBEq,if_true,if_false,ins,Nat.reduceLT]
 refine X1<|X1<|X2 ?_;refine(X7 rfl (fun h5=>Xb ?_) (fun h5=>?_))
 · (try simp only[BN]at h5);have hlt:k<hats.length:=by omega
   obtain⟨h,he,hd⟩:=Xs hlt;have hw1:=XA hlt (by omega);have hk1:k+1≤hats.length:=hlt;have htl:(Wh vs (hats.take k)).length=k:=by unfold Wh;rw[List.length_map,List.length_take];omega
   have hroom:Qq (k+1) 8:=XB (by omega) (by omega);have cv:=X4r vars true vs hvs h.term (hf h (List.mem_of_getElem? he))
   have hsn:Xe (Wh vs (hats.take (k+1)))=Xe (Wh vs (hats.take k))++[[iC (WX (vT vs h.term) h.low h.high)]]:=by
    rw[Zq he];simp[Wh,Xe]
   obtain⟨nm,lo,hi,⟨o,tn,ks⟩⟩:=h;simp only at cv hsn;obtain⟨A,hA⟩:∃x,vT vs (.mk o tn ks)=x:=⟨_,rfl⟩;have ch:=X5I A lo hi;obtain⟨H,hH⟩:∃x,WX A lo hi=x:=⟨_,rfl⟩;rw[hA,hH]at hsn;rw[hA]at cv;rw[hH]at ch;simp only[aT,Tm.enc,List.map_cons,List.map_nil]at cv;clear hlt h5 hd hA hH;refine X1<|X4<|X1<|X2 ?_;refine(XS [⟨true,.v (li A),none⟩,⟨true,.v (li H),none⟩] (by kernel_rfl) (by kernel_rfl) (by rfl) (by simp[*];first|exact⟨rfl,Iff.rfl⟩|exact⟨rfl,trivial⟩|rfl) ?_ ?_)
   · first|exact⟨cv _,ch _⟩|exact trivial|(repeat' first|exact trivial|exact cv _|exact ch _|apply And.intro)
   refine X2 ?_;exact⟨k+1,hk1,by omega,X6 (fun n=>if n=1005 then 32 else n) []⟩
 (try simp only[BN]at h5);have hkl:k=hats.length:=by omega
 subst hkl;simp only[List.take_length];refine(Xi ?_);refine X3 ?_;exact XF ⟨.inr rfl,_,XJ 1005 rfl,⟨⟨_,by simp;rfl,by simp[XD]⟩,by simp,fun h=>by cases h⟩⟩
theorem encI_set (l:List Int) (i:Nat) (x:Int):Xe (l.set i x)=(Xe l).set i [iC x]:=by simp[Xe,List.map_set]
theorem set_con (f:Fl) (vs:List Int) (v n:Int) (w:Vr) (hvs:vs.length=f.vars.length) (hl:f.vars.length≤1000000) (h0:0≤v) (hw:f.vars[v.toNat]? =some w) (d:Nat):
  Con Tryz.prog 135 false [aF f,lI vs,li v,li n] (.v (lI (vs.set v.toNat (WX n w.low w.high)))) none d:=by
 obtain⟨vars,hats,body⟩:=f;simp only at hvs hl hw;have hlt:v.toNat<vars.length:=(List.getElem?_eq_some_iff.1 hw).1;have hroom:Qq vars.length 8:=XB (by omega) (by omega);obtain⟨x,hx⟩:∃x,vs[v.toNat]? =some x:=⟨vs[v.toNat]'(by omega),by simp⟩;have ch:=X5I n w.low w.high;obtain⟨nm,kd,lo,hi,ini⟩:=w;simp only at ch⊢;obtain⟨H,hH⟩:∃x,WX n lo hi=x:=⟨_,rfl⟩;rw[hH]at ch⊢;have hes:=encI_set vs v.toNat H;clear hlt hH;refine X5 Tryz.func135 ?_;simp only[Tryz.f135];simp only[aF,Fl.enc,List.map_cons,List.map_nil];refine X3 ?_;refine X3 ?_;refine X1<|(XS [⟨true,.v (li H),none⟩] (by kernel_rfl) (by kernel_rfl) (by rfl) (by simp[*];first|exact⟨rfl,Iff.rfl⟩|exact⟨rfl,trivial⟩|rfl) ?_ ?_)
 · first|exact ch _|exact trivial|simpa[*]using ch _
 refine X3 ?_;exact XF ⟨.inr rfl,_,XJ 12 rfl,⟨⟨_,by simp;rfl,by simp[XD,hes]⟩,by simp,fun h=>by cases h⟩⟩
end Go.Proofs.YtppjennamodfdaaGreat
