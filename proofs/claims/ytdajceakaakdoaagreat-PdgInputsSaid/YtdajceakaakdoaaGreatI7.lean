/- Part 7: contracts of functions of the program and of the reference, and plain facts about what they compute; used by the proof of the claimed statement. Conditions: as each theorem states. -/
import Derived.Test.YtdajceakaakdoaaGreatI5
import Derived.Test.YtdajceakaakdoaaGreatI6
import Derived.Test.YtdajceakaakdoaaGreatI4
import Derived.Test.YtdajceakaakdoaaGreatHmZK
import Derived.Lib.SlicesCompact
import Derived.Shelf.Slices.CompactI
import Derived.Shelf.Sort.Plain
import Derived.Shelf.Slices.In.SortNone
import Derived.Test.YtdajceakaakdoaaGreatHmZQ
import Derived.Shelf.SlSortCmp.WholeK
import Derived.Shelf.SlicesG.Cmp
set_option linter.unusedSimpArgs false
set_option linter.unusedVariables false
set_option linter.unnecessarySimpa false
set_option maxRecDepth 100000
set_option maxHeartbeats 2000000
namespace Go.Proofs.YtdajceakaakdoaaGreat
open Go Go.Hl
theorem X8b {vars:List Vr} {nh:Nat} {d v n:Int} {t:Tm} {la lb:Nat} {bs:List Int} {last:Bool} (h:shB vars nh d v n t la lb bs last=true):d=3∨d=4∨(la=0∧lb=0):=by
 by_cases h3:d=3
 · exact .inl h3
 by_cases h4:d=4
 · exact .inr (.inl h4)
 refine .inr (.inr ?_);unfold shB at h;simp only[if_neg h3,if_neg h4]at h;split at h
 · simp only[Bool.and_eq_true,decide_eq_true_eq]at h;exact h.1.1.1
 split at h
 · simp only[Bool.and_eq_true,decide_eq_true_eq]at h;exact h.1.1.1
 split at h
 · simp only[Bool.and_eq_true,decide_eq_true_eq]at h;exact h.1.1.1.1
 split at h
 · simp only[Bool.and_eq_true,decide_eq_true_eq]at h;exact h.1.1.1.1.1
 split at h
 · simp only[Bool.and_eq_true,decide_eq_true_eq]at h;exact h.1.1.1.1.1
 cases h
theorem X2I {vars:List Vr} {nh:Nat}:∀(l:List St) (top:Bool),ssC vars nh l top=0→okL l=true
 |[],_,_=>by simp[okL]
 | .mk d c v n t a b bs::l,top,h=>by
   simp only[ssC]at h;split at h
   · rename_i h0;split at h
     · rename_i ha;split at h
       · rename_i hb;have ia:=X2I a false ha;have ib:=X2I b false hb;have il:=X2I l top h;unfold stC at h0;split at h0
         · cases h0
         rename_i hs;split at h0
         · cases h0
         rename_i hn;have hs:shB vars nh d v n t a.length b.length bs (top&&l.isEmpty)=true:=by simpa using hs
         have hn:X2w d c n bs=true:=by simpa using hn
         have hf:=X8b hs;unfold X2w at hn;simp only[Bool.and_eq_true,Bool.not_eq_true',Bool.or_eq_false_iff,Bool.and_eq_false_iff,decide_eq_false_iff_not]at hn;have hm:X3F d≤67108864:=by unfold X3F;split<;>omega
         simp only[okL,okS,Bool.and_eq_true,Bool.or_eq_true,decide_eq_true_eq,List.isEmpty_iff,ia,ib,il];have hla:a.length=0→a=[]:=List.eq_nil_of_length_eq_zero;have hlb:b.length=0→b=[]:=List.eq_nil_of_length_eq_zero;refine⟨⟨⟨by omega,by omega,by omega⟩,?_,by simp⟩,by simp⟩;rcases hf with hf|hf|hf
         · exact .inl hf
         · exact .inr (.inl hf)
         exact .inr (.inr ⟨hla hf.1,hlb hf.2⟩)
       rename_i hb;exact absurd h hb
     rename_i ha;exact absurd h ha
   rename_i h0;exact absurd h h0
def Qr:List Ht→Nat
 |[]=>0
 |h::l=>h.term.nodes+Qr l
def mH:List Ht→Int×Bool→Int×Bool
 |[],s=>s
 |h::l,s=>mH l (if W6 s=true then s else mTm h.term 1 s)
theorem X18 {l:List Ht} {h:Ht} (hm:h∈l):h.term.nodes≤Qr l:=by
 induction l with
 |nil=>cases hm
 | cons x l ih=>
   simp only[Qr];rcases List.mem_cons.1 hm with rfl|h1
   · omega
   have:=ih h1;omega
theorem X7G:∀(l:List Ht) (s:Int×Bool),W6 s=true→W6 (mH l s)=true
 |[],s,h=>h
 | x::l,s,h=>by
   simp only[mH,if_pos h];exact X7G l s h
def X0g (l:List Ht):Bool:=l.all fun h=>decide (tdT h.term≤12)
theorem mH_fit:∀(l:List Ht) (s:Int×Bool),0≤s.1→W6 s=false→
  (s.1+Qr l≤1024∧X0g l=true→W6 (mH l s)=false)∧(¬(s.1+Qr l≤1024∧X0g l=true)→W6 (mH l s)=true)
 | [],s,h0,h=>by
   have:=X4g h;simp only[mH,Qr,X0g,List.all_nil];exact⟨fun _=>h,fun hn=>absurd ⟨by omega,trivial⟩ hn⟩
 | x::l,s,h0,h=>by
   have ho:=X4g h;have ht:=X73 x.term 1 s h0 (by omega) h;have hle:=X1a x.term 1 s;simp only[mH,h,Qr,X0g,List.all_cons,Bool.and_eq_true,decide_eq_true_eq,Bool.false_eq_true,if_false];by_cases hf:s.1+x.term.nodes≤1024∧1+(tdT x.term:Int)≤13
   · have e:=ht.1 hf;rw[e];have ih:=mH_fit l (s.1+x.term.nodes,false) (by simp only;omega) (by simp only[W6,Bool.false_or,decide_eq_false_iff_not];omega);simp only[X0g]at ih;refine⟨fun hh=>ih.1 ⟨by omega,hh.2.2⟩,fun hh=>ih.2 fun h2=>hh ⟨by omega,by omega,h2.2⟩⟩
   have e:=ht.2 hf;refine⟨fun hh=>absurd ⟨by omega,by omega⟩ hf,fun _=>X7G _ _ e⟩
def X12 (f:Fl):Bool:=((((decide (f.vars.length≤64)&&decide (f.hats.length≤8))&&decide (Xl f.body+Qr f.hats≤1024))&&decide (sdL f.body≤12))&& !Wx f.body)&&X0g f.hats
def mF (f:Fl):Int×Bool:=mH f.hats (mSs f.body 1 (0,false))
theorem X9y (f:Fl):X12 f=false↔64<f.vars.length∨8<f.hats.length∨W6 (mF f)=true:=by
 have h1:=X4Q f.body 1 (0,false) (by decide) (by decide) rfl;unfold mF X12;simp only[Bool.and_eq_false_iff,decide_eq_false_iff_not,Bool.not_eq_false',Nat.not_le];by_cases hs:((0:Int),false).1+Xl f.body≤1024∧1+(sdL f.body:Int)≤13∧Wx f.body=false
 · rw[h1.1 hs];have h2:=mH_fit f.hats (0+(Xl f.body:Int),false) (by simp only;omega) (by simp only[W6,Bool.false_or,decide_eq_false_iff_not];have:=hs.1;simp only at this;omega);obtain⟨a1,a2,a3⟩:=hs;simp only at a1 h2;by_cases hh:0+(Xl f.body:Int)+Qr f.hats≤1024∧X0g f.hats=true
   · have e:=h2.1 hh;have e3:=hh.2;simp only[show((0:Int),false).1=0 from rfl];rw[e,a3,e3];simp;omega
   have e:=h2.2 hh;simp only[show((0:Int),false).1=0 from rfl];rw[e,a3];constructor
   · intro _;exact .inr (.inr rfl)
   intro _;by_cases hd:X0g f.hats=true
   · left;left;left;right;by_cases hc:0+(Xl f.body:Int)+Qr f.hats≤1024
     · exact absurd ⟨hc,hd⟩ hh
     omega
   right;simpa using hd
 have e:=X7G f.hats _ (h1.2 hs);rw[e];constructor
 · intro _;exact .inr (.inr rfl)
 intro _;simp only at hs;by_cases ht:Wx f.body=true
 · left;right;exact ht
 have ht:Wx f.body=false:=by simpa using ht
 by_cases hd:sdL f.body≤12
 · left;left;left;right;by_cases hc:0+(Xl f.body:Int)≤1024
   · exact absurd ⟨hc,by omega,ht⟩ hs
   omega
 left;left;right;omega
def X6N (l:List St):Bool:=decide (4096<(bdL CR l ⟨0,0,0⟩).s)||(decide (8<(bdL CR l ⟨0,0,0⟩).o)||decide (67108864<(bdL CR l ⟨0,0,0⟩).t))
def XR (f:Fl):Int:=
 if X12 f=false then 4 else if ZZ f.vars=0 then
  (if hcs f.vars [] f.hats=0 then(if ssC f.vars f.hats.length f.body true=0 then(if X6N f.body=true then 4 else 0)else ssC f.vars f.hats.length f.body true)else hcs f.vars [] f.hats)
 else ZZ f.vars
theorem X5A {vars:List Vr} (h:ZZ vars=0):X08 vars:=by
 unfold ZZ at h;split at h
 · rename_i h0;exact X3y _ _ h0
 rename_i h0;exact absurd h h0
end Go.Proofs.YtdajceakaakdoaaGreat

namespace Go.Proofs.YtdajceakaakdoaaGreat
open Go Go.Hl
theorem one_all (b:Nat):∀s:St,oneC b s:=by
 have key:∀l:List St,∀s∈l,oneC b s:=by
  apply St.lists;intro l ih s hs;obtain⟨o,c,v,n,⟨to,tn,tk⟩,sa,sb,bs⟩:=s;exact one_con b o c v n to tn tk sa sb bs (X2q (ih _ hs).1) (X2q (ih _ hs).2)
 exact fun s=>key [s] s (by simp)
theorem lst_all (b:Nat) (l:List St):lstC b l:=X2q fun s _=>one_all b s
def bldF (l:List St):List (List CD):=
 let x:=Q0 l [(false,0)] ([[iC 0,iC (-1),iC (-1),iC (-1)]],0)
 Xz x.1.1.length x.2 x.1.1++[[iC 1,iC (-1),iC (-1),iC (-1)]]
def msG:List (Nat×List Nat):=[(511,[0,1,3,8]),(510,[1,3,8]),(509,[0,2,3,8]),(503,[0,1,4,8]),(255,[0,1,3]),(508,[2,3,8]),(502,[1,4,8]),(254,[1,3]),(505,[0,3,8]),(501,[0,2,4,8]),(253,[0,2,3]),(487,[0,1,5,8]),(247,[0,1,4]),(504,[3,8]),(500,[2,4,8]),(252,[2,3]),(486,[1,5,8]),(246,[1,4]),(497,[0,4,8]),(249,[0,3]),(485,[0,2,5,8]),(245,[0,2,4]),(455,[0,1,8]),(231,[0,1,5]),(496,[4,8]),(248,[3]),(484,[2,5,8]),(244,[2,4]),(454,[1,8]),(230,[1,5]),(481,[0,5,8]),(241,[0,4]),(453,[0,2,8]),(229,[0,2,5]),(199,[0,1]),(480,[5,8]),(240,[4]),(452,[2,8]),(228,[2,5]),(198,[1]),(449,[0,8]),(225,[0,5]),(197,[0,2]),(448,[6,8]),(224,[5]),(196,[2]),(193,[0]),(384,[7,8]),(192,[6]),(256,[8]),(128,[7])]
def nxG (b:Nat) (F:Ob) (l:List St) (nl:Nat) (x y:List (Nat×Ob)) (R:List Nat):HS:=
 {trS ⟨⟨38,some (pV b)⟩,[(1,.v (.one (.at_ 1 0))),(2,.v (.one (.at_ 2 0))),(3,.v (.one (.c (.lit (pV b)))))],[]⟩ [(0,10,.v (.one (.c (.lit (pV b))))),(1,11,.v (.one (.at_ 1 2))),(2,12,.v (lS l)),(3,13,.v (.one (.c (.lit (pV b))))),(4,14,.v (.one (.c (nxC b 0)))),(5,15,.v (.one (.own 15))),(6,16,.v (.one (.own 16))),(7,17,lit (.int .i64 nl)),(8,18,lit (.int .i64 0))] R with
  objs:=(1,F)::(2,.box [.c (.lit XW)])::if R.contains 5 then x else if R.contains 6 then(15,.row 250 1 [[nxC b 0]])::x else y}
attribute [simp] nxG
set_option maxHeartbeats 4000000 in
theorem X69 (f:Fl) (hn:1+X00 f.body≤1000000) (d:Nat):Con Tryz.prog 119 false [aF f] (.v (.agg [.c (.sl 4 (bldF f.body))])) none d:=by
 obtain⟨vars,hats,body⟩:=f;simp only at hn;obtain⟨G,hG⟩:∃x,bldF body=x:=⟨_,rfl⟩;rw[hG];unfold bldF at hG;refine X5 Tryz.func119 ?_;simp only[Tryz.f119];simp only[aF,Fl.enc,List.map_cons,List.map_nil];refine X1 ?_;refine X0<|(Xq (by simp[*,XO,QE,Q3,cellsOf,WN,X07,W8];rfl) ?_);refine HT_pin 9 (cs:=[.own 7,.c (iC 0)]) [(1,.v (.one (.at_ 1 0))),(2,.v (.one (.at_ 2 0))),(3,.v (.one (.at_ 1000000 0)))] [(1,.box [.c (.sl 5 (Xu vars)),.c (.sl 6 (Xv hats)),.c (.sl 10 (X8 body))]),(2,.box [.c (.lit XW)]),(7,.row 195 4 [[iC 0,iC (-1),iC (-1),iC (-1)]]),(1000000,.box [.own 7,.c (iC 0)])] rfl rfl ?_ ?_ rfl fun b=>?_
 · simp[Zb,RV.okNil,TV.okNil,CV.okNil,RV.ren,TV.ren,CV.ren,lkp]
 · simp[Zb,Ob.okNil,CV.okNil,Ob.ren,CV.ren,lkp]
 have k0:okB [(false,0)] [[iC 0,iC (-1),iC (-1),iC (-1)]]:=⟨by simp,by simp⟩;have cA:=lst_all b body [(false,0)] [[iC 0,iC (-1),iC (-1),iC (-1)]] 0 k0 (by simp;omega) (by omega) (by omega) (by simp);have k1:=Wl body [(false,0)] ([[iC 0,iC (-1),iC (-1),iC (-1)]],0) k0;have l1:=Zw body [(false,0)] ([[iC 0,iC (-1),iC (-1),iC (-1)]],0);obtain⟨⟨⟨rows3,d3⟩,sl3⟩,hx⟩:∃x,Q0 body [(false,0)] ([[iC 0,iC (-1),iC (-1),iC (-1)]],0)=x:=⟨_,rfl⟩;simp only[hx,List.length_singleton]at hG cA k1 l1;obtain⟨a1,a2,a3,a4,a5⟩:=k1;clear hx k0;refine XH (X49 (v:=pV b) 3 rfl rfl rfl) ?_;simp only[ins,Nat.reduceLT,Nat.reduceEqDiff,if_true,if_false];refine XH (s':=nxG b (.box [.c (.sl 5 (Xu vars)),.c (.sl 6 (Xv hats)),.c (.sl 10 (X8 body))]) body sl3.length (Wm [[iC 0,iC (-1),iC (-1),iC (-1)]] 0) [] (Z9 9 511)) ?_ ?_
 · refine Xx (fun n=>if n=900001 then 7 else n) [] rfl ?_ ?_ ?_
   · simp[trS, *]
   · simp[*]
   simp
 refine X0<|X0<|(Z8 (nxG b (.box [.c (.sl 5 (Xu vars)),.c (.sl 6 (Xv hats)),.c (.sl 10 (X8 body))]) body sl3.length (Wm [[iC 0,iC (-1),iC (-1),iC (-1)]] 0) ((16,.row 250 1 (QF b sl3))::(102,.row 195 4 rows3)::[(1000000,.box [.own 102,.c (iC d3)])])) 9 511 msG rfl (by kernel_rfl) (by kernel_rfl) (by kernel_rfl) (by kernel_rfl) (by simp[trS]) ?_ ?_)
 · simp only[msG,X2i]
   repeat' apply And.intro
   all_goals first
    |(refine XX.evE rfl ?_;simp[trS,ins,WI];done)
    | (refine XX.ev [⟨false,.v (.one (.c (nxC b 0))),none⟩] rfl (by simp[trS,ins,WI];first|exact⟨rfl,Iff.rfl⟩|exact⟨rfl,trivial⟩|rfl) ?_ ?_
       · simpa using X1C b 0 14
       simp[trS,ins])
    | (refine XX.callA (fun n=>if n=1 then 15 else n) (fun n=>if n=1 then 16 else if n=900001 then 102 else n) cA rfl fun _ _=>?_
       simp[trS,ins,Qf,QP,del,CV.ren,Ob.ren])
 refine X3<|(Xf [] (fun(x:Nat×List (List CD))=>[(2,.v (.one (.at_ 2 0))),(3,.v (.one (.c (.lit (pV b))))),(16,.v (.one (.own 16))),(17,lit (.int .i64 sl3.length)),(18,lit (.int .i64 x.1))]) (fun(x:Nat×List (List CD))=>(2,.box [.c (.lit XW)])::(16,.row 250 1 (QF b sl3))::Wm x.2 d3) (fun(x:Nat×List (List CD))=>x.1≤sl3.length∧Xz rows3.length (sl3.drop x.1) x.2=Xz rows3.length sl3 rows3∧(∀r∈x.2,r.length=4)∧x.2.length=rows3.length) (fun(x:Nat×List (List CD))=>sl3.length - x.1) (0,rows3) ⟨Nat.zero_le _,rfl,a1.four,rfl⟩ ?_ ?_)
 · exact Xx (fun n=>if n=900001 then 102 else n) [] rfl (by simp[upS,X6,trS]) (by simp[upS]) (by simp[upS])
 rintro⟨i,rows2⟩ ⟨g1,g2,g3,g4⟩;simp only[upS,X6,XB]
 try simp only[X6,KN,Nat.reduceBEq,if_true,if_false,ins,Nat.reduceLT]
 simp only at g1 g2 g3 g4;simp only[nxG,trS];refine X1 ?_;refine X0<|(X7 rfl (fun h5=>Xb ?_) (fun h5=>?_))
 · (try simp only[BN]at h5);have hi:i<sl3.length:=by simpa using h5
   obtain⟨q,hq,hqd⟩:=Xt hi;have hqe:=X3V (b:=b) hq;rw[hqd]at g2;simp only[Xz]at g2;have cq:=X5o b rows2 d3 rows2.length q g3 (by have:=a1.lt q (List.mem_of_getElem? hq);omega);have hw:=XE hi (by omega:sl3.length≤1000000000);have hin2:i+1≤sl3.length:=hi;rw[←g4]at g2;clear hi hq h5 hqd;refine X0<|X3<|X0<|X2 ?_;refine XH (X40 (v:=pV b) 3 rfl rfl rfl) ?_;simp only[ins,Nat.reduceLT,Nat.reduceEqDiff,if_true,if_false];refine(XN ?_);refine RunsN.cutE 6 [] (by simp;rfl) trivial (le_refl _) ?_;refine RunsN.callA (fun n=>n) (fun n=>if n=900001 then 101 else n) cq fun _ _=>?_;refine RunsN.doneE [] (by simp[Qf,CV.ren,Ob.ren];rfl) trivial ?_;refine XH (X49 (v:=pV b) 3 rfl rfl rfl) ?_;simp only[ins,Nat.reduceLT,Nat.reduceEqDiff,if_true,if_false];refine X2 ?_;exact⟨(i+1,X0j rows2 q rows2.length),⟨hin2,by rw[←g4];exact g2,ZR g3,(X1Q ..).trans g4⟩,by simp only;omega,X4 (fun n=>if n=900001 then 101 else n) []⟩
 try simp only[BN]at h5
 have hi:i=sl3.length:=by
  have:¬i<sl3.length:=by simpa using h5
  omega
 subst hi;rw[List.drop_length]at g2;simp only[Xz]at g2;rw[←g2]at hG;have hroom:Wa (rows3.length+1) 32:=Qc (by omega) (by decide);clear h5 g2;refine XH (X40 (v:=pV b) 3 rfl rfl rfl) ?_;simp only[ins,Nat.reduceLT,Nat.reduceEqDiff,if_true,if_false];refine(Xg ?_);refine X0<|(Xq (by simp[*,XO,QE,Q3,cellsOf,WN,X07,W8,WJ,Wh,Zg];rfl) ?_);refine XH (QQ 36 rfl) ?_;exact Qm ⟨⟨⟨38,some (pV b)⟩,[(2,.v (.one (.at_ 2 0)))],[(2,.box [.c (.sl 4 G)])]⟩,Xx (fun n=>n) [] rfl (by simp) (by simp[*]) (by simp),by rfl,.inr rfl,_,le_refl _,⟨_,by simp;rfl,by simp[XK]⟩,by simp,fun h=>by cases h⟩
end Go.Proofs.YtdajceakaakdoaaGreat

namespace Go.Proofs.YtdajceakaakdoaaGreat
open Go Go.Hl
theorem X1f (f:Fl) (hv:f.vars.length≤1000000) (hh:f.hats.length≤1000000) (hn:Xl f.body+Qr f.hats≤900000000) (hb:Z3 f.body=true) (d:Nat):
  Con Tryz.prog 62 true [aF f] (.v (li (XR f))) none d:=by
 obtain⟨res,hres⟩:∃r,XR f=r:=⟨_,rfl⟩;rw[hres];have hso:=X9y f;have cvars:=Xc7 f.vars hv;have chat:=fun hg=>XbI f hg hv hh (fun h hm=>by have:=X18 hm;omega);have cst:=fun hg=>Xac f hg hv f.body (by omega) hb;have cup:=fun ho=>X6v f.body (by omega) ho;have cms:=X9I f.body 1 0 false (by decide) (by decide) (by omega);have hms:=ZS f.body 1 (0,false);have hgood:ZZ f.vars=0→X08 f.vars:=X5A;have hok:ssC f.vars f.hats.length f.body true=0→okL f.body=true:=X2I _ _;have hcmp:=fun h=>@bd_cmp f.body h;unfold XR X6N at hres;unfold mF at hso;obtain⟨vars,hats,body⟩:=f;simp only at hv hh hn hb hres hso cvars chat cst cup cms hms hgood hok hcmp;obtain⟨m0,hm0⟩:∃m,mSs body 1 (0,false)=m:=⟨_,rfl⟩;rw[hm0]at cms hms hso;obtain⟨c0,b0⟩:=m0;simp only at cms hms;obtain⟨mE,hmE⟩:∃m,mH hats (c0,b0)=m:=⟨_,rfl⟩;rw[hmE]at hso;obtain⟨VC,hVC⟩:∃x,ZZ vars=x:=⟨_,rfl⟩;obtain⟨HC,hHC⟩:∃x,hcs vars [] hats=x:=⟨_,rfl⟩;obtain⟨SC,hSC⟩:∃x,ssC vars hats.length body true=x:=⟨_,rfl⟩;rw[hVC]at cvars hres hgood;rw[hHC]at chat hres;rw[hSC]at hres hok;have cst:=fun hg=>cst hg true;rw[hSC]at cst;clear hVC hHC hSC hm0;refine X5 Tryz.func62 ?_;simp only[Tryz.f62];simp only[aF,Fl.enc,List.map_cons,List.map_nil]at chat cst⊢;refine X1 ?_;refine X1 ?_;refine X0<|(X0z 2 (.tup []) ([iC c0,bC b0]) rfl (by simp[*];rfl) (by simp[ioOf, *];first|exact⟨rfl,rfl,rfl,rfl,rfl⟩|exact⟨rfl,rfl,rfl,rfl⟩|exact⟨rfl,rfl,rfl⟩|exact⟨rfl,rfl⟩|rfl) (cms) (by simp) (by simp[*];rfl) ?_);refine X0<|X0<|X2 ?_;refine X3<|(Xf [1,3,14,15] (fun(x:Nat×Int×Bool)=>[(16,.v (li x.1))]) (fun x=>[(1,.box [.c (.sl 5 (Xu vars)),.c (.sl 6 (Xv hats)),.c (.sl 10 (X8 body))]),(3,.box [.c (iC x.2.1),.c (bC x.2.2)])]) (fun x=>x.1≤hats.length∧mH (hats.drop x.1) x.2=mE∧0≤x.2.1∧x.2.1+Qr (hats.drop x.1)≤1000000000) (fun x=>hats.length - x.1) (0,c0,b0) ⟨Nat.zero_le _,by simpa using hmE,by simp only;omega,by simp only[List.drop_zero];omega⟩ ?_ ?_)
 · exact X4 (fun n=>n) []
 rintro⟨k,m,q⟩ ⟨hk,hJ,hm,hbb⟩;simp only[upS,X6,XB]
 try simp only[X6,KN,Nat.reduceBEq,if_true,if_false,ins,Nat.reduceLT]
 simp only at hk hJ hm hbb;clear hmE hms cms;refine X1 ?_;refine X0<|(X7 rfl (fun h6=>Xb ?_) (fun h6=>?_))
 · (try simp only[BN]at h6);have hlt:k<hats.length:=by omega
   obtain⟨h,he,hd⟩:=Xt hlt;have hw1:=XE hlt (by omega);have hk1:k+1≤hats.length:=hlt;rw[hd]at hJ hbb;simp only[mH,Qr]at hJ hbb;have hle:=X1a h.term 1 (m,q);have cmt:=X6u h.term 1 m q (by decide) hm (by omega);obtain⟨nm,lo,hi,⟨o,tn,ks⟩⟩:=h;simp only at hle cmt hJ hbb;obtain⟨m1,hm1⟩:∃x,mTm (.mk o tn ks) 1 (m,q)=x:=⟨_,rfl⟩;rw[hm1]at cmt hle hJ;obtain⟨c1,b1⟩:=m1;simp only[aT,Tm.enc,List.map_cons,List.map_nil]at cmt hle;clear hlt h6 hd hm1 hso hres chat cst cup hok hcmp;refine X0<|X3<|X0<|X2 ?_;refine Xm [⟨true,.v (lb (q||decide (1024<m))),none⟩] ?_ ?_
   · first|exact Z7 _ _ _|exact trivial|simpa[*]using Z7 _ _ _
   refine(Xc rfl (fun h9=>?_) fun h9=>?_)
   · try simp only[BN]at h9
     have hov:W6 (m,q)=false:=by
      simp only[W6,Bool.or_eq_false_iff,decide_eq_false_iff_not]
      first|exact h9|simpa using h9
     rw[if_neg (by rw[hov];decide)]at hJ;clear hov;refine(X0z 2 (.tup []) ([iC c1,bC b1]) rfl (by simp[*];rfl) (by simp[ioOf, *];first|exact⟨rfl,rfl,rfl,rfl,rfl⟩|exact⟨rfl,rfl,rfl,rfl⟩|exact⟨rfl,rfl,rfl⟩|exact⟨rfl,rfl⟩|rfl) (cmt) (by simp) (by simp[*];rfl) ?_);refine X2 ?_;exact⟨(k+1,c1,b1),⟨hk1,hJ,by simp only;omega,by simp only;omega⟩,by simp only;omega,X4 (fun n=>n) []⟩
   try simp only[BN]at h9
   have hov:W6 (m,q)=true:=by
    simp only[W6,Bool.or_eq_true,decide_eq_true_eq]
    first|exact h9|simpa using h9
   rw[if_pos hov]at hJ;clear hov;refine X2 ?_;exact⟨(k+1,m,q),⟨hk1,hJ,hm,by simp only;omega⟩,by simp only;omega,X4 (fun n=>n) []⟩
 (try simp only[BN]at h6);have hkl:k=hats.length:=by omega
 subst hkl;rw[List.drop_length]at hJ;simp only[mH]at hJ;subst hJ;simp only[W6,Bool.or_eq_true,decide_eq_true_eq]at hso;refine(Xg ?_);refine X0<|X0<|(Xp [⟨true,.v (lb (q||decide (1024<m))),none⟩] ?_ ?_)
 · first|exact Z7 _ _ _|exact trivial|simpa[*]using Z7 _ _ _
 refine(Xc rfl (fun h16=>?_) fun h16=>?_)
 · try simp only[BN]at h16
   rw [if_pos (hso.2 (by
       simp only[or_assoc]at h16;rcases h16 with h|h|h|h
       · exact .inl (by omega)
       · exact .inr (.inl (by omega))
       · exact .inr (.inr (.inl h))
       exact .inr (.inr (.inr h))))]at hres
   subst hres;refine X1 ?_;exact Xe
 try simp only[BN]at h16
 rw [if_neg (by
     rw[hso];rintro(h|h|h|h)
     · omega
     · omega
     · exact absurd h (by simp[h16])
     omega)]at hres
 refine X0<|X0<|(Xp [⟨true,.v (li VC),none⟩] ?_ ?_)
 · first|exact cvars _|exact trivial|simpa[*]using cvars _
 refine X1 ?_;refine(Xc rfl (fun h21=>?_) fun h21=>?_)
 · (try simp only[BN]at h21);rw[if_neg h21]at hres;subst hres;refine X1 ?_;exact Xe
 (try simp only[BN]at h21);have hv0:VC=0:=by simpa using h21
 have hg:=hgood hv0;have chat:=chat hg;have cst:=cst hg;rw[if_pos hv0]at hres;clear cvars hgood h21;refine X0<|X0<|(Xp [⟨true,.v (li HC),none⟩] ?_ ?_)
 · first|exact chat _|exact trivial|simpa[*]using chat _
 refine X1 ?_;refine(Xc rfl (fun h26=>?_) fun h26=>?_)
 · (try simp only[BN]at h26);rw[if_neg h26]at hres;subst hres;refine X1 ?_;exact Xe
 (try simp only[BN]at h26);have hh0:HC=0:=by simpa using h26
 rw[if_pos hh0]at hres;clear chat h26;refine X0<|X0<|(Xp [⟨true,.v (li SC),none⟩] ?_ ?_)
 · first|exact cst _|exact trivial|simpa[*]using cst _
 refine X1 ?_;refine(Xc rfl (fun h31=>?_) fun h31=>?_)
 · (try simp only[BN]at h31);rw[if_neg h31]at hres;subst hres;refine X1 ?_;exact Xe
 (try simp only[BN]at h31);have hs0:SC=0:=by simpa using h31
 rw[if_pos hs0]at hres;have hok:=hok hs0;have cup:=cup hok;have hcmp:=hcmp hok;obtain⟨X,hX⟩:∃x,bdL CP body ⟨0,0,0⟩=x:=⟨_,rfl⟩;obtain⟨Y,hY⟩:∃x,bdL CR body ⟨0,0,0⟩=x:=⟨_,rfl⟩;rw[hX]at cup hcmp;rw[hY]at hcmp hres;obtain⟨x1,x2,x3⟩:=X;obtain⟨y1,y2,y3⟩:=Y;simp only[Bool.or_eq_true,decide_eq_true_eq]at hcmp hres;clear hX hY cst h31 hok;refine X0<|X0<|(Xp [⟨true,.v (aB ⟨x1,x2,x3⟩),none⟩] ?_ ?_)
 · first|exact cup _|exact trivial|simpa[*]using cup _
 refine X1 ?_;refine(Xc rfl (fun h36=>?_) fun h36=>?_)
 · (try simp only[BN]at h36);rw[if_pos (by omega)]at hres;subst hres;refine X1 ?_;exact Xe
 (try simp only[BN]at h36);rw[if_neg (by omega)]at hres;subst hres;refine X1 ?_;exact Xe
end Go.Proofs.YtdajceakaakdoaaGreat

namespace Go.Proofs.YtdajceakaakdoaaGreat
open Go Go.Hl
mutual
def szS:St→Nat
 | .mk _ _ _ _ _ a b _=>1+szL a+szL b
def szL:List St→Nat
 |[]=>0
 |s::l=>szS s+szL l
end
mutual
theorem szS_le:∀s:St,szS s≤s.nodes
 | .mk _ _ _ _ t a b _=>by have:=X13 a;have:=X13 b;simp only[szS,St.nodes];omega
theorem X13:∀l:List St,szL l≤Xl l
 |[]=>by simp[szL]
 |s::l=>by have:=szS_le s;have:=X13 l;simp only[szL,Xl];omega
end
theorem X7u (s:St):1≤szS s:=by cases s;simp only[szS];omega
theorem X4P:∀l:List St,l.length≤szL l
 |[]=>by simp
 |s::l=>by have:=X4P l;have:=X7u s;simp only[szL,List.length_cons];omega
end Go.Proofs.YtdajceakaakdoaaGreat

namespace Go.Proofs.YtdajceakaakdoaaGreat
open Go Go.Hl
structure Nd where
 k:Int
 a:Int
 n:Int
 o:Int
 deriving DecidableEq
def Nd.enc (x:Nd):List CD:=[iC x.k,iC x.a,iC x.n,iC x.o]
attribute [simp] Nd.enc
def Qk (l:List Nd):List (List CD):=l.map Nd.enc
@[simp] theorem X53 (l:List Nd):(Qk l).length=l.length:=by simp[Qk]
theorem X3D {l:List Nd} {i:Nat} {x:Nd} (h:l[i]? =some x):(Qk l)[i]? =some x.enc:=by simp[Qk,h]
mutual
def wdS:St→Nat
 | .mk o _ _ _ _ a b _=>(if o=4 then 2 else 1)+wdL a+wdL b
def wdL:List St→Nat
 |[]=>0
 |s::l=>wdS s+wdL l
end
mutual
def X1n:St→Int→Nat→Nat→List Nd
 | .mk o _ _ _ _ a b _,at_,k,after=>
   if o=3 then⟨3,at_,if a=[] then after else k+1,if b=[] then after else k+1+wdL a⟩::(X04 a (at_+1) (k+1) after++X04 b (at_+1+szL a) (k+1+wdL a) after)
   else if o=4 then⟨4,at_,k+1,-1⟩::⟨5,at_,if a=[] then k+1 else k+2,after⟩::X04 a (at_+1) (k+2) (k+1)
   else [⟨2,at_,after,-1⟩]
def X04:List St→Int→Nat→Nat→List Nd
 |[],_,_,_=>[]
 |s::l,at_,k,after=>X1n s at_ k (if l=[] then after else k+wdS s)++X04 l (at_+szS s) (k+wdS s) after
end
def grN (l:List St):List Nd:=⟨0,-1,if l=[] then 1+wdL l else 1,-1⟩::(X04 l 0 1 (1+wdL l)++[⟨1,-1,-1,-1⟩])
theorem X5b {A B:List (List CD)} {s:Wi} {k:Nat} (h:s.2<A.length):X0j (A++B) s k=X0j A s k++B:=by
 unfold X0j setRow;rw[List.getElem?_append_left h];split
 · rw[List.set_append,if_pos h]
 rfl
theorem X59 {k:Nat}:∀(sl:List Wi) {A B:List (List CD)},(∀s∈sl,s.2<A.length)→Xz k sl (A++B)=Xz k sl A++B
 |[],_,_,_=>rfl
 | s::sl,A,B,h=>by
   simp only[Xz];rw[X5b (h s (by simp)),X59 sl fun x hx=>by rw[X1Q];exact h x (by simp[hx])]
theorem X57 {k:Nat}:∀(x y:List Wi) (rows:List (List CD)),Xz k (x++y) rows=Xz k y (Xz k x rows)
 |[],_,_=>rfl
 |s::x,y,rows=>by simp only[List.cons_append,Xz];exact X57 x y _
theorem X94 {rows:List (List CD)} {i j f g:Nat} {u v:CD} (h4:∀r∈rows,r.length=4) (hf:f<4) (hg:g<4) (h:(i,f)≠(j,g)∨u=v):setRow (setRow rows i f [u]) j g [v]=setRow (setRow rows j g [v]) i f [u]:=by
 by_cases hij:i=j
 · subst hij;cases hr:rows[i]? with
   |none=>simp[setRow,hr]
   | some r=>
     have hi:i<rows.length:=(List.getElem?_eq_some_iff.1 hr).1;have hl:=h4 r (List.mem_of_getElem? hr);simp only[setRow,hr,List.getElem?_set_self hi,List.set_set];congr 1
     match r,hl with
     | [a,b,c,d],_=>
       match f,g,hf,hg with
       |0,0,_,_|1,1,_,_|2,2,_,_|3,3,_,_=>rcases h with h|h<;>simp_all
       |0,1,_,_|0,2,_,_|0,3,_,_|1,0,_,_|1,2,_,_|1,3,_,_|2,0,_,_|2,1,_,_|2,3,_,_|3,0,_,_|3,1,_,_|3,2,_,_=>rfl
 cases hi:rows[i]? with
 |none=>simp only[setRow,hi];cases hj:rows[j]? <;>simp[hi,hij,List.getElem?_set,Ne.symm hij]
 | some r=>
   cases hj:rows[j]? with
   |none=>simp[setRow,hi,hj,List.getElem?_set,hij]
   | some q=>
     simp only[setRow,hi,hj,List.getElem?_set_ne hij,List.getElem?_set_ne (Ne.symm hij)];exact List.set_comm _ _ hij
theorem Xb8 {rows:List (List CD)} {s t:Wi} {j k:Nat} (h4:∀r∈rows,r.length=4) (h:s≠t∨j=k):X0j (X0j rows s j) t k=X0j (X0j rows t k) s j:=by
 unfold X0j;refine X94 h4 (by split<;>omega) (by split<;>omega) ?_;obtain⟨s1,s2⟩:=s;obtain⟨t1,t2⟩:=t;rcases h with h|h
 · refine .inl fun e=>h ?_;simp only[Prod.mk.injEq]at e⊢;refine⟨?_,e.1⟩;cases s1<;>cases t1<;>simp_all
 exact .inr (by rw[h])
theorem X2A {j k:Nat} {t:Wi}:∀(sl:List Wi) (rows:List (List CD)),(∀r∈rows,r.length=4)→((∀s∈sl,s≠t)∨j=k)→Xz j sl (X0j rows t k)=X0j (Xz j sl rows) t k
 |[],_,_,_=>rfl
 | s::sl,rows,h4,h=>by
   simp only[Xz];rw[Xb8 h4 (h.imp (fun h=>Ne.symm (h s (by simp))) Eq.symm),X2A sl _ (ZR h4) (h.imp (fun h x hx=>h x (by simp[hx])) id)]
theorem X4t {k:Nat}:∀(x y:List Wi) (rows:List (List CD)),(∀r∈rows,r.length=4)→Xz k x (Xz k y rows)=Xz k y (Xz k x rows)
 |x,[],rows,_=>rfl
 | x,t::y,rows,h4=>by
   simp only[Xz];rw[X4t x y _ (ZR h4),X2A x rows h4 (.inr rfl)]
theorem X8N:∀(l:List St) (sl:List Wi) (st:Bst),okB sl st.1→∀s∈(Q0 l sl st).2,(l=[]∧s∈sl)∨st.1.length≤s.2:=by
 have one:∀(s:St),(∀l,l=s.then_∨l=s.else_→∀(sl:List Wi) (st:Bst),okB sl st.1→∀s∈(Q0 l sl st).2,(l=[]∧s∈sl)∨st.1.length≤s.2)→
   ∀(k:Nat) (st:Bst),(∀r∈st.1,r.length=4)→k=st.1.length→∀q∈(WZ s k st).2,k≤q.2:=by
  intro s ih k st h4 hk q hq;obtain⟨o,c,v,n,t,a,b,bs⟩:=s;simp only[St.then_,St.else_]at ih;unfold WZ at hq;split at hq
  · have k1:okB [(false,k)] (st.1++[XP 3 st.2]):=⟨Wj h4,by simp[hk]⟩;have ok:=Wl a [(false,k)] (st.1++[XP 3 st.2],st.2+1) k1;have ia:=ih a (.inl rfl) [(false,k)] (st.1++[XP 3 st.2],st.2+1) k1;obtain⟨x,hx⟩:∃x,Q0 a [(false,k)] (st.1++[XP 3 st.2],st.2+1)=x:=⟨_,rfl⟩;simp only[hx,List.length_append,List.length_singleton]at hq ok ia;have ib:=ih b (.inr rfl) [(true,k)] x.1 ⟨ok.1.four,by simp;omega⟩;rcases List.mem_append.1 hq with hq|hq
    · rcases ia q hq with⟨_,h⟩|h
      · rw[List.mem_singleton.1 h];exact Nat.le_refl _
      omega
    rcases ib q hq with⟨_,h⟩|h
    · rw[List.mem_singleton.1 h];exact Nat.le_refl _
    omega
  split at hq
  · rw[List.mem_singleton.1 hq];exact Nat.le_succ _
  rw[List.mem_singleton.1 hq];exact Nat.le_refl _
 apply St.lists;intro l ih sl st hok q hq
 have key:∀(l:List St),(∀s∈l,∀l',l'=s.then_∨l'=s.else_→∀(sl:List Wi) (st:Bst),okB sl st.1→∀s∈(Q0 l' sl st).2,(l'=[]∧s∈sl)∨st.1.length≤s.2)→∀(sl:List Wi) (st:Bst),okB sl st.1→∀q∈(Q0 l sl st).2,(l=[]∧q∈sl)∨st.1.length≤q.2:=by
  intro l
  induction l with
  |nil=>intro _ sl st _ q hq;exact .inl ⟨rfl,hq⟩
  | cons s l il=>
    intro ih sl st hok q hq;unfold Q0 at hq;have h4:∀r∈Xz st.1.length sl st.1,r.length=4:=ZC _ _ _ hok.four;have o1:=X4W s st.1.length (Xz st.1.length sl st.1,st.2) h4 (XZ ..).symm;have o2:=one s (ih s (by simp)) st.1.length (Xz st.1.length sl st.1,st.2) h4 (XZ ..).symm;obtain⟨x,hx⟩:∃x,WZ s st.1.length (Xz st.1.length sl st.1,st.2)=x:=⟨_,rfl⟩;simp only[hx,XZ]at hq o1 o2;rcases il (fun s hs=>ih s (by simp[hs])) x.2 x.1 o1.1 q hq with⟨_,h⟩|h
    · exact .inr (o2 q h)
    exact .inr (Nat.le_trans o1.2.1 h)
 exact key l (fun s hs l' h=>by
  rcases h with rfl|rfl
  · exact(ih s hs).1
  exact(ih s hs).2) sl st hok q hq
mutual
def gS:St→Bool
 | .mk o _ _ _ _ a b _=>(decide (o=3)||(decide (o=4)&&b.isEmpty)||(a.isEmpty&&b.isEmpty))&&(gL a&&gL b)
def gL:List St→Bool
 |[]=>true
 |s::l=>gS s&&gL l
end
theorem X8p {vars:List Vr} {nh:Nat}:∀(l:List St) (top:Bool),ssC vars nh l top=0→gL l=true
 |[],_,_=>rfl
 | .mk d c v n t a b bs::l,top,h=>by
   have hs:shB vars nh d v n t a.length b.length bs (top&&l.isEmpty)=true:=by
    simp only[ssC]at h;split at h
    · rename_i h0;unfold stC at h0;split at h0
      · cases h0
      rename_i hs;simpa using hs
    rename_i h0;exact absurd h h0
   have hr:ssC vars nh a false=0∧ssC vars nh b false=0∧ssC vars nh l top=0:=by
    simp only[ssC]at h;split at h
    · split at h
      · split at h
        · rename_i ha hb;exact⟨ha,hb,h⟩
        rename_i hb;exact absurd h hb
      rename_i ha;exact absurd h ha
    rename_i h0;exact absurd h h0
   simp only[gL,gS,Bool.and_eq_true,Bool.or_eq_true,decide_eq_true_eq,List.isEmpty_iff];refine⟨⟨?_,X8p a false hr.1,X8p b false hr.2.1⟩,X8p l top hr.2.2⟩;rcases X8b hs with h1|h1|⟨h1,h2⟩
   · exact .inl (.inl h1)
   · refine .inl (.inr ⟨h1,?_⟩);subst h1;unfold shB at hs;simp at hs;exact hs.1.2
   exact .inr ⟨List.eq_nil_of_length_eq_zero h1,List.eq_nil_of_length_eq_zero h2⟩
mutual
theorem X5f:∀(s:St) (d:Int) (k after:Nat),gS s=true→(X1n s d k after).length=wdS s
 | .mk o c v n t a b bs,d,k,after,h=>by
   simp only[gS,Bool.and_eq_true,Bool.or_eq_true,decide_eq_true_eq,List.isEmpty_iff]at h;obtain⟨h,ha,hb⟩:=h;unfold X1n wdS;by_cases h3:o=3
   · have h4:¬o=4:=by omega
     rw[if_pos h3,if_neg h4];simp only[List.length_cons,List.length_append,W4 a _ _ _ ha,W4 b _ _ _ hb];omega
   rw[if_neg h3];by_cases h4:o=4
   · rw[if_pos h4,if_pos h4]
     have hb0:b=[]:=by
      rcases h with(h|h)|h
      · exact absurd h h3
      · exact h.2
      exact h.2
     subst hb0;simp only[List.length_cons,W4 a _ _ _ ha,wdL];omega
   rw[if_neg h4,if_neg h4]
   have h0:a=[]∧b=[]:=by
    rcases h with(h|h)|h
    · exact absurd h h3
    · exact absurd h.1 h4
    exact h
   rw[h0.1,h0.2];rfl
theorem W4:∀(l:List St) (d:Int) (k after:Nat),gL l=true→(X04 l d k after).length=wdL l
 |[],_,_,_,_=>rfl
 | s::l,d,k,after,h=>by
   simp only[gL,Bool.and_eq_true]at h;unfold X04 wdL;rw[List.length_append,X5f s _ _ _ h.1,W4 l _ _ _ h.2]
end
def layOK (l:List St):Prop:=gL l=true→∀(sl:List Wi) (st:Bst) (d:Int),okB sl st.1→st.2=d→
 (∀after:Nat,Xz after (Q0 l sl st).2 (Q0 l sl st).1.1=Xz (if l=[] then after else st.1.length) sl st.1++Qk (X04 l d st.1.length after))∧(Q0 l sl st).1.2=d+szL l
def layOne (s:St):Prop:=gS s=true→∀(k:Nat) (st:Bst) (d:Int),(∀r∈st.1,r.length=4)→k=st.1.length→st.2=d→
 (∀after:Nat,Xz after (WZ s k st).2 (WZ s k st).1.1=st.1++Qk (X1n s d k after))∧(WZ s k st).1.2=d+szS s
theorem Xbr (a b:List Nd):Qk (a++b)=Qk a++Qk b:=by simp[Qk]
theorem X0M {A:List (List CD)} {x:List CD} {o:Bool} {k v:Nat} (hk:k=A.length):X0j (A++[x]) (o,k) v=A++[if o=true then x.take 3++[iC v]++x.drop 4 else x.take 2++[iC v]++x.drop 3]:=by
 subst hk;unfold X0j setRow;simp;cases o<;>simp
theorem Xc1 (s:St) (ha:layOK s.then_) (hb:layOK s.else_):layOne s:=by
 obtain⟨o,c,v,n,t,a,b,bs⟩:=s;simp only[St.then_,St.else_]at ha hb;intro hg k st d h4 hk hd;simp only[gS,Bool.and_eq_true,Bool.or_eq_true,decide_eq_true_eq,List.isEmpty_iff]at hg;obtain⟨hg,hga,hgb⟩:=hg;have ha:=ha hga;have hb:=hb hgb;subst hd;unfold WZ X1n szS;by_cases h3:o=3
 · simp only[if_pos h3];have k1:okB [(false,k)] (st.1++[XP 3 st.2]):=⟨Wj h4,by simp[hk]⟩;have ok:=Wl a [(false,k)] (st.1++[XP 3 st.2],st.2+1) k1;have sa:=X8N a [(false,k)] (st.1++[XP 3 st.2],st.2+1) k1;obtain⟨ia,ida⟩:=ha [(false,k)] (st.1++[XP 3 st.2],st.2+1) _ k1 rfl;obtain⟨x,hx⟩:∃x,Q0 a [(false,k)] (st.1++[XP 3 st.2],st.2+1)=x:=⟨_,rfl⟩;simp only[hx,List.length_append,List.length_singleton]at ok sa ia ida⊢;have k2:okB [(true,k)] x.1.1:=⟨ok.1.four,by simp;omega⟩;have ok2:=Wl b [(true,k)] x.1 k2;obtain⟨ib,idb⟩:=hb [(true,k)] x.1 _ k2 rfl;obtain⟨y,hy⟩:∃y,Q0 b [(true,k)] x.1=y:=⟨_,rfl⟩;simp only[hy]at ok2 ib idb⊢
   have hlen:x.1.1.length=k+1+wdL a:=by
    have:=congrArg List.length (ia 0);rw[XZ,List.length_append,XZ,List.length_append,List.length_singleton,X53,W4 a _ _ _ hga]at this;omega
   refine⟨fun after=>?_,by omega⟩;rw[X57,X4t _ _ _ ok2.1.four,ib after,X59 x.2 (fun s hs=>by rw[XZ];exact ok.1.lt s hs)];simp only[Xz]
   rw[X2A x.2 _ ok.1.four (.inl fun s hs=>by
    rcases sa s hs with⟨_,h⟩|h
    · rw[List.mem_singleton.1 h];simp
    intro e;rw[e]at h;simp at h;omega),ia after]
   simp only[Xz];rw[X0M hk,X5b (by simp[hk]),X0M hk,hlen,ida,hk];simp only[XP,Bool.false_eq_true,if_false,if_true,List.take,List.drop,List.nil_append,List.cons_append,List.append_nil,Qk,List.map_cons,List.map_append,Nd.enc,List.append_assoc];refine congrArg (st.1++ ·) ?_;congr 2;by_cases h1:a=[]<;>by_cases h2:b=[]<;>simp[h1,h2]
 by_cases h4':o=4
 · simp only[if_neg h3,if_pos h4']
   have hb0:b=[]:=by
    rcases hg with(h|h)|h
    · exact absurd h h3
    · exact h.2
    exact h.2
   subst hb0
   have hR:setRow (st.1++[XP 4 st.2]++[XP 5 st.2]) k 2 [iC ((k:Int)+1)]=st.1++[[iC 4,iC st.2,iC ((k:Int)+1),iC (-1)]]++[XP 5 st.2]:=by
    subst hk;simp[setRow]
   have k1:okB [(false,k+1)] (st.1++[[iC 4,iC st.2,iC ((k:Int)+1),iC (-1)]]++[XP 5 st.2]):=by
    rw[←hR];exact⟨X0f (Wj (Wj h4)) (by omega),by simp[Wu,hk]⟩
   rw[hR];have ok:=Wl a [(false,k+1)] (st.1++[[iC 4,iC st.2,iC ((k:Int)+1),iC (-1)]]++[XP 5 st.2],st.2+1) k1;obtain⟨ia,ida⟩:=ha [(false,k+1)] (st.1++[[iC 4,iC st.2,iC ((k:Int)+1),iC (-1)]]++[XP 5 st.2],st.2+1) _ k1 rfl;obtain⟨x,hx⟩:∃x,Q0 a [(false,k+1)] (st.1++[[iC 4,iC st.2,iC ((k:Int)+1),iC (-1)]]++[XP 5 st.2],st.2+1)=x:=⟨_,rfl⟩;simp only[hx]at ok ia ida⊢;refine⟨fun after=>?_,by simp only[szL];omega⟩;simp only[Xz];rw[ia (k+1)];simp only[Xz];rw[X0M (by simp[hk]),X5b (by simp[hk]),X0M (by simp[hk])];simp only[XP,Bool.false_eq_true,if_false,if_true,List.take,List.drop,List.nil_append,List.cons_append,List.append_nil,Qk,List.map_cons,List.map_append,Nd.enc,List.append_assoc,List.length_append,List.length_singleton,hk];refine congrArg (st.1++ ·) ?_;congr 2;by_cases h1:a=[]<;>simp[h1]
 simp only[if_neg h3,if_neg h4']
 have h0:a=[]∧b=[]:=by
  rcases hg with(h|h)|h
  · exact absurd h h3
  · exact absurd h.1 h4'
  exact h
 rw[h0.1,h0.2];refine⟨fun after=>?_,by simp only[szL];omega⟩;simp only[Xz];rw[X0M hk];rfl
theorem Xbe:∀l:List St,layOK l:=by
 apply St.lists;intro l ih
 have key:∀l:List St,(∀s∈l,layOne s)→layOK l:=by
  intro l
  induction l with
  | nil=>
    intro _ _ sl st d hok hd;exact⟨fun after=>by simp[Q0,X04,Qk],by simp[Q0,szL,hd]⟩
  | cons s l il=>
    intro h hg sl st d hok hd;simp only[gL,Bool.and_eq_true]at hg;have h4:∀r∈Xz st.1.length sl st.1,r.length=4:=ZC _ _ _ hok.four;have o1:=X4W s st.1.length (Xz st.1.length sl st.1,st.2) h4 (XZ ..).symm;obtain⟨i1,id1⟩:=h s (by simp) hg.1 st.1.length (Xz st.1.length sl st.1,st.2) d h4 (XZ ..).symm hd;unfold Q0 X04 szL;obtain⟨x,hx⟩:∃x,WZ s st.1.length (Xz st.1.length sl st.1,st.2)=x:=⟨_,rfl⟩;simp only[hx]at o1 i1 id1⊢
    have hlen:x.1.1.length=st.1.length+wdS s:=by
     have:=congrArg List.length (i1 0);rw[XZ,List.length_append,XZ,X53,X5f s _ _ _ hg.1]at this;exact this
    obtain⟨i2,id2⟩:=il (fun s hs=>h s (by simp[hs])) hg.2 x.2 x.1 _ o1.1 id1;refine⟨fun after=>?_,by omega⟩;rw[i2 after,hlen,i1,Xbr,if_neg (List.cons_ne_nil s l),List.append_assoc]
 exact key l fun s hs=>Xc1 s (ih s hs).1 (ih s hs).2
theorem XaB (l:List St) (hg:gL l=true):bldF l=Qk (grN l):=by
 have k0:okB [(false,0)] [[iC 0,iC (-1),iC (-1),iC (-1)]]:=⟨by simp,by simp⟩;obtain⟨i1,_⟩:=Xbe l hg [(false,0)] ([[iC 0,iC (-1),iC (-1),iC (-1)]],0) 0 k0 rfl;unfold bldF;obtain⟨x,hx⟩:∃x,Q0 l [(false,0)] ([[iC 0,iC (-1),iC (-1),iC (-1)]],0)=x:=⟨_,rfl⟩;simp only[hx]at i1⊢
 have hlen:x.1.1.length=1+wdL l:=by
  have:=congrArg List.length (i1 0);rw[XZ,List.length_append,XZ,X53,W4 l _ _ _ hg]at this;exact this
 rw[i1,hlen];unfold grN;simp only[Xz,X0j,setRow,List.length_singleton];simp[Qk];by_cases h:l=[]<;>simp[h]
end Go.Proofs.YtdajceakaakdoaaGreat

namespace Go.Proofs.YtdajceakaakdoaaGreat
open Go Go.Hl
@[simp] theorem encI_app (a b:List Int):Xi (a++b)=Xi a++Xi b:=by simp[Xi]
@[simp] theorem encI_one (x:Int):Xi [x]=[[iC x]]:=rfl
structure Inp where
 s:List Int
 p:List Int
 r:List Int
structure Pk where
 n:Int
 is_:Bool
 a:Nat
 b:Nat
 c:Nat
end Go.Proofs.YtdajceakaakdoaaGreat

namespace Go.Proofs.YtdajceakaakdoaaGreat
open Go Go.Hl
structure Sta where
 vals:List Int
 outs:List Int
 time:Int
def tick (s:Sta) (c:Int):Sta:=⟨s.vals,s.outs,wr (s.time+c)⟩
mutual
def wfS (vars:List Vr) (nh:Nat):St→Bool
 | .mk d _ v n t a b bs=>QU vars false t&&((decide (d≠0∧d≠5)||QR vars v)&&((decide (d≠5)||(decide (0≤n)&&decide (n<nh)))&&((decide (d≠4)||decide (n≤4096))&&(decide (bs.length≤1000000000)&&(wfL vars nh a&&wfL vars nh b)))))
def wfL (vars:List Vr) (nh:Nat):List St→Bool
 |[]=>true
 |s::l=>wfS vars nh s&&wfL vars nh l
end
mutual
def oUS:St→Nat
 | .mk d _ _ n _ a b _=>if d=4 then n.toNat*oUL a else if d=3 then max (oUL a) (oUL b)else if d=1 then 1 else 0
def oUL:List St→Nat
 |[]=>0
 |s::l=>oUS s+oUL l
end
end Go.Proofs.YtdajceakaakdoaaGreat

namespace Go.Proofs.YtdajceakaakdoaaGreat
open Go Go.Hl
theorem X6Q {vars:List Vr} {v:Int} (h:QR vars v=true):0≤v∧∃w,vars[v.toNat]? =some w:=by
 unfold QR at h;simp only[Bool.and_eq_true,decide_eq_true_eq]at h;refine⟨h.1,?_⟩;have h2:=h.2;split at h2
 · exact⟨_,by assumption⟩
 cases h2
end Go.Proofs.YtdajceakaakdoaaGreat

namespace Go.Proofs.YtdajceakaakdoaaGreat
open Go Go.Hl
theorem XbG (f:Fl) (hv:f.vars.length≤1000000) (hh:f.hats.length≤1000000) (hn:Xl f.body+Qr f.hats≤900000000) (d:Nat):
  Con Tryz.prog 48 true [aF f] (.v (lb (X12 f))) none d:=by
 obtain⟨res,hres⟩:∃r,X12 f=r:=⟨_,rfl⟩;rw[hres];have cn:=XbX f.body (by omega);have csd:=Xa6 f.body (by omega);have ctd:=Xbc f.body (by omega);unfold X12 at hres;obtain⟨vars,hats,body⟩:=f;simp only at hv hh hn hres cn csd ctd;refine X5 Tryz.func48 ?_;simp only[Tryz.f48];simp only[aF,Fl.enc,List.map_cons,List.map_nil];refine X1 ?_;refine X0<|X0<|X2 ?_;refine(Xc rfl (fun h2=>?_) fun h2=>?_)
 · try simp only[BN]at h2
   have hz:(decide (vars.length≤64)&&decide (hats.length≤8))=false:=by
    simp only[Bool.and_eq_false_iff,decide_eq_false_iff_not];omega
   rw[hz]at hres;simp only[Bool.false_and]at hres;subst hres;refine X1 ?_;exact Xe
 try simp only[BN]at h2
 have hz:(decide (vars.length≤64)&&decide (hats.length≤8))=true:=by
  simp only[Bool.and_eq_true,decide_eq_true_eq];omega
 rw[hz]at hres;simp only[Bool.true_and]at hres;refine Xm [⟨true,.v (li (Xl body)),none⟩] ?_ ?_
 · first|exact cn _|exact trivial|simpa[*]using cn _
 refine X0<|X0<|X2 ?_;refine X3<|(Xf [1] (fun(x:Nat×Nat)=>[(3,.v (li x.2)),(4,.v (li x.1))]) (fun x=>[(1,.box [.c (.sl 5 (Xu vars)),.c (.sl 6 (Xv hats)),.c (.sl 10 (X8 body))])]) (fun x=>x.1≤hats.length∧x.2+Qr (hats.drop x.1)=Xl body+Qr hats∧X0g (hats.drop x.1)=X0g hats) (fun x=>hats.length - x.1) (0,Xl body) ⟨Nat.zero_le _,by simp,by simp⟩ ?_ ?_)
 · exact X4 (fun n=>n) []
 rintro⟨k,n⟩ ⟨hk,hJ,hJ2⟩;simp only[upS,X6,XB]
 try simp only[X6,KN,Nat.reduceBEq,if_true,if_false,ins,Nat.reduceLT]
 simp only at hk hJ hJ2;refine X0<|X0<|X2 ?_;refine(X7 rfl (fun h9=>Xb ?_) (fun h9=>?_))
 · (try simp only[BN]at h9);have hlt:k<hats.length:=by omega
   obtain⟨h,he,hd⟩:=Xt hlt;have hw1:=XE hlt (by omega);have hk1:k+1≤hats.length:=hlt;rw[hd]at hJ hJ2;simp only[Qr]at hJ;have hJ2:(decide (tdT h.term≤12)&&X0g (hats.drop (k+1)))=X0g hats:=hJ2;have ctn:=X5l h.term (by omega);have ctd2:=X66 h.term (by omega);have hw2:IntKind.i64.wrap ((n:Int)+h.term.nodes)=((n+h.term.nodes:Nat):Int):=by rw[Xa (by omega) (by omega)];simp
   obtain⟨nm,lo,hi,⟨o,tn,ks⟩⟩:=h;simp only at hJ hJ2 ctn ctd2 hw2;simp only[aT,Tm.enc,List.map_cons,List.map_nil]at ctn ctd2;obtain⟨N,hN⟩:∃x,(Tm.mk o tn ks).nodes=x:=⟨_,rfl⟩;obtain⟨D,hD⟩:∃x,tdT (Tm.mk o tn ks)=x:=⟨_,rfl⟩;rw[hN]at ctn hJ hw2;rw[hD]at ctd2 hJ2;clear hlt h9 hd hN hD;refine X0<|X3<|X0<|(Xp [⟨true,.v (li N),none⟩] ?_ ?_)
   · first|exact ctn _|exact trivial|simpa[*]using ctn _
   refine Xm [⟨true,.v (li D),none⟩] ?_ ?_
   · first|exact ctd2 _|exact trivial|simpa[*]using ctd2 _
   refine(Xc rfl (fun h12=>?_) fun h12=>?_)
   · (try simp only[BN]at h12);have hz2:X0g hats=false:=by rw[←hJ2];simp only[Bool.and_eq_false_iff,decide_eq_false_iff_not];omega
     rw[hz2,Bool.and_false]at hres;subst hres;refine X1 ?_;exact Xe
   (try simp only[BN]at h12);rw[decide_eq_true (by omega),Bool.true_and]at hJ2;refine X2 ?_;exact⟨(k+1,n+N),⟨hk1,by simp only;omega,hJ2⟩,by simp only;omega,X4 (fun n=>n) []⟩
 (try simp only[BN]at h9);have hkl:k=hats.length:=by omega
 subst hkl;rw[List.drop_length]at hJ hJ2;simp only[Qr,Nat.add_zero]at hJ;have hJ2:X0g hats=true:=hJ2.symm;rw[hJ2,Bool.and_true,←hJ]at hres;obtain⟨S,hS⟩:∃x,sdL body=x:=⟨_,rfl⟩;obtain⟨T,hT⟩:∃x,Wx body=x:=⟨_,rfl⟩;rw[hS]at csd hres;rw[hT]at ctd hres;have e1:decide (n≤1024)=decide ((n:Int)≤1024):=by rw[Bool.eq_iff_iff,decide_eq_true_eq,decide_eq_true_eq];omega
 have e2:decide (S≤12)=decide ((S:Int)≤12):=by rw[Bool.eq_iff_iff,decide_eq_true_eq,decide_eq_true_eq];omega
 rw[e1,e2]at hres;clear e1 e2 hS hT hJ2 h9 hJ;refine(Xg ?_);refine Xm [⟨true,.v (li S),none⟩,⟨true,.v (lb T),none⟩] ?_ ?_
 · first|exact⟨csd _,ctd _⟩|exact trivial|(repeat' first|exact trivial|exact csd _|exact ctd _|apply And.intro)
 exact(Xh (fun h=>⟨.inr rfl,h⟩) _ (by simp[*];rfl) (by subst hres;simp[XK]) (by simp))
end Go.Proofs.YtdajceakaakdoaaGreat

namespace Go.Proofs.YtdajceakaakdoaaGreat
open Go Go.Hl
theorem Xae (f:Fl) (hv:f.vars.length≤1000000) (hh:f.hats.length≤1000000) (hn:Xl f.body+Qr f.hats≤900000000) (hb:Z3 f.body=true) (d:Nat):
  Con Tryz.prog 15 true [aF f] (.v (li (XR f))) none d:=by
 obtain⟨res,hres⟩:∃r,XR f=r:=⟨_,rfl⟩;rw[hres];have csz:=XbG f hv hh hn;have cvars:=Xb2 f.vars hv;have ct:=fun(hg:X08 f.vars) (h:Ht) (hm:h∈f.hats)=>X6t f.vars true hg (by omega) h.term (by have:=X18 hm;omega);have cst:=fun hg=>X9G f hg hv f.body (by omega) hb;have cup:=fun ho=>X90 f.body (by omega) ho;have hgood:ZZ f.vars=0→X08 f.vars:=X5A;have hok:ssC f.vars f.hats.length f.body true=0→okL f.body=true:=X2I _ _;unfold XR X6N at hres;obtain⟨SZ,hSZ⟩:∃x,X12 f=x:=⟨_,rfl⟩;rw[hSZ]at csz hres;obtain⟨vars,hats,body⟩:=f;simp only at hv hh hn hb hres csz cvars ct cst cup hgood hok;obtain⟨VC,hVC⟩:∃x,ZZ vars=x:=⟨_,rfl⟩;obtain⟨HC,hHC⟩:∃x,hcs vars [] hats=x:=⟨_,rfl⟩;obtain⟨SC,hSC⟩:∃x,ssC vars hats.length body true=x:=⟨_,rfl⟩;rw[hVC]at cvars hres hgood;rw[hHC]at hres;rw[hSC]at hres hok;have cst:=fun hg=>cst hg true;rw[hSC]at cst;clear hVC hSC hSZ;refine X5 Tryz.func15 ?_;simp only[Tryz.f15];simp only[aF,Fl.enc,List.map_cons,List.map_nil]at csz cst⊢;refine X1 ?_;refine X0<|X0<|(Xp [⟨true,.v (lb SZ),none⟩] ?_ ?_)
 · first|exact csz _|exact trivial|simpa[*]using csz _
 refine(Xc rfl (fun h2=>?_) fun h2=>?_)
 · (try simp only[BN]at h2);have hz:SZ=false:=by simpa using h2
   rw[if_pos hz]at hres;subst hres;refine X1 ?_;exact Xe
 (try simp only[BN]at h2);have hz:SZ=true:=by simpa using h2
 rw[if_neg (by rw[hz];decide)]at hres;clear csz h2;subst hz;refine Xm [⟨true,.v (li VC),none⟩] ?_ ?_
 · first|exact cvars _|exact trivial|simpa[*]using cvars _
 refine X0<|X0<|X2 ?_;refine(Xc rfl (fun h7=>?_) fun h7=>?_)
 · (try simp only[BN]at h7);rw[if_neg h7]at hres;subst hres;refine X1 ?_;exact Xe
 (try simp only[BN]at h7);have hv0:VC=0:=by simpa using h7
 have hg:=hgood hv0;have ct:=ct hg;have cst:=cst hg;rw[if_pos hv0]at hres;clear cvars hgood h7;subst hv0;refine X0<|X0<|X2 ?_;refine X3<|(Xf [1] (fun(x:Nat)=>[(4,.v (li x))]) (fun x=>[(1,.box [.c (.sl 5 (Xu vars)),.c (.sl 6 (Xv hats)),.c (.sl 10 (X8 body))])]) (fun x=>x≤hats.length∧hcs vars (hats.take x) (hats.drop x)=HC) (fun x=>hats.length - x) (0:Nat) ⟨Nat.zero_le _,hHC⟩ ?_ ?_)
 · exact X4 (fun n=>n) []
 rintro k ⟨hk,hJ⟩;simp only[upS,X6,XB]
 try simp only[X6,KN,Nat.reduceBEq,if_true,if_false,ins,Nat.reduceLT]
 clear hHC;refine X0<|X0<|X2 ?_;refine(X7 rfl (fun h13=>Xb ?_) (fun h13=>?_))
 · (try simp only[BN]at h13);have hlt:k<hats.length:=by omega
   obtain⟨h,he,hd⟩:=Xt hlt;have hw1:=XE hlt (by omega);have hk1:k+1≤hats.length:=hlt;have hkl:(hats.take k).length=k:=by rw[List.length_take];omega
   rw[hd]at hJ;simp only[hcs]at hJ;rw[←X0L he]at hJ;have ct:=ct h (List.mem_of_getElem? he);obtain⟨nm,lo,hi,⟨o,tn,ks⟩⟩:=h;obtain⟨C,hC⟩:∃x,X5k vars (hats.take k) ⟨nm,lo,hi,.mk o tn ks⟩=x:=⟨_,rfl⟩;rw[hC]at hJ;simp only[X5k]at hC;simp only[aT,Tm.enc,List.map_cons,List.map_nil]at ct;obtain⟨TC,hTC⟩:∃x,X0E vars true (.mk o tn ks)=x:=⟨_,rfl⟩;rw[hTC]at ct hC;clear hlt h13 hd cup hok cst hTC;refine X0<|X3<|X0<|X2 ?_;refine X0<|X0<|(Xp [⟨true,.v (lb (ZJ nm)),none⟩] ?_ ?_)
   · first|exact X2e _ _|exact trivial|simpa[*]using X2e _ _
   refine(Xc rfl (fun h16=>?_) fun h16=>?_)
   · (try simp only[BN]at h16);rw[if_pos h16]at hC;subst hC;rw[if_neg (by decide)]at hJ;subst hJ;rw[if_neg (by decide)]at hres;subst hres;refine X1 ?_;exact Xe
   (try simp only[BN]at h16);rw[if_neg (by simp[h16])]at hC;clear h16;refine X0<|X0<|X2 ?_;refine X3<|(Xf [1,4,5] (fun(x:Nat)=>[(6,.v (li x))]) (fun x=>[(1,.box [.c (.sl 5 (Xu vars)),.c (.sl 6 (Xv hats)),.c (.sl 10 (X8 body))]),(5,.box [.c (sC nm),.c (iC lo),.c (iC hi),.c (iC o),.c (iC tn),.c (.sl 3 (XI ks))])]) (fun x=>x≤k∧∀j:Nat,j<x→∀w,hats[j]? =some w→w.name≠nm) (fun x=>k - x) (0:Nat) ⟨Nat.zero_le _,fun j hj=>absurd hj (Nat.not_lt_zero j)⟩ ?_ ?_)
   · exact X4 (fun n=>n) []
   rintro j ⟨hj,hno⟩;simp only[upS,X6,XB]
   try simp only[X6,KN,Nat.reduceBEq,if_true,if_false,ins,Nat.reduceLT]
   refine X0<|X0<|X2 ?_;refine(X7 rfl (fun h22=>Xb ?_) (fun h22=>?_))
   · (try simp only[BN]at h22);have hjk:j<k:=by omega
     obtain⟨w,hw⟩:∃w,hats[j]? =some w:=⟨hats[j],by simp[show j<hats.length by omega]⟩;have hwj:=XE hjk (by omega);have hj1:j+1≤k:=hjk
     have hmemw:w∈hats.take k:=by
      have:(hats.take k)[j]? =some w:=by rw[List.getElem?_take_of_lt hjk];exact hw
      exact List.mem_of_getElem? this
     obtain⟨n2,l2,i2,⟨o2,t2,k2⟩⟩:=w;clear hjk h22;refine X0<|X3<|X0<|(Qe (by kernel_rfl) (by kernel_rfl) (by rfl) (by simp[*];rfl) ?_);refine(Xc rfl (fun h24=>?_) fun h24=>?_)
     · try simp only[BN]at h24
       have hany:((hats.take k).any fun w=>decide (w.name=nm))=true:=by
        rw[List.any_eq_true];exact⟨_,hmemw,by simpa using h24⟩
       rw[if_pos hany]at hC;subst hC;rw[if_neg (by decide)]at hJ;subst hJ;rw[if_neg (by decide)]at hres;subst hres;refine X1 ?_;exact Xe
     (try simp only[BN]at h24);refine X2 ?_
     exact⟨j+1,⟨hj1,fun i hi u hu=>by
      rcases Nat.lt_or_eq_of_le (Nat.le_of_lt_succ hi)with h|h
      · exact hno i h u hu
      subst h;rw[hw]at hu;cases hu
      simpa using h24⟩,by omega,X4 (fun n=>n) []⟩
   (try simp only[BN]at h22);have hjk:j=k:=by omega
   subst hjk
   have hany:((hats.take j).any fun w=>decide (w.name=nm))=false:=by
    rw[List.any_eq_false];intro w hw;obtain⟨i,hi⟩:=List.mem_iff_getElem?.1 hw;have hij:i<j:=by have:=(List.getElem?_eq_some_iff.1 hi).1;omega
    rw[List.getElem?_take_of_lt hij]at hi;simpa using hno i hij w hi
   rw[if_neg (by simp[hany])]at hC;clear hno hkl hany;refine(Xg ?_);refine X0<|X0<|(Xp [⟨true,.v (lb (QI lo hi)),none⟩] ?_ ?_)
   · first|exact ZL _ _ _|exact trivial|simpa[*]using ZL _ _ _
   refine(Xc rfl (fun h30=>?_) fun h30=>?_)
   · (try simp only[BN]at h30);rw[if_pos h30]at hC;subst hC;rw[if_neg (by decide)]at hJ;subst hJ;rw[if_neg (by decide)]at hres;subst hres;refine X1 ?_;exact Xe
   (try simp only[BN]at h30);rw[if_neg (by simp[h30])]at hC;subst hC;clear h30;refine Xm [⟨true,.v (li TC),none⟩] ?_ ?_
   · first|exact ct _|exact trivial|simpa[*]using ct _
   refine X1 ?_;refine(Xc rfl (fun h35=>?_) fun h35=>?_)
   · (try simp only[BN]at h35);rw[if_neg h35]at hJ;subst hJ;rw[if_neg h35]at hres;subst hres;refine X1 ?_;exact Xe
   (try simp only[BN]at h35);rw[if_pos (by simpa using h35)]at hJ;refine X2 ?_;exact⟨j+1,⟨hk1,hJ⟩,by omega,X4 (fun n=>n) []⟩
 (try simp only[BN]at h13);have hkl:k=hats.length:=by omega
 rw[hkl,List.drop_length]at hJ;simp only[hcs]at hJ;rw[if_pos hJ.symm]at hres;clear hJ hkl hk h13 ct;refine(Xg ?_);refine Xm [⟨true,.v (li SC),none⟩] ?_ ?_
 · first|exact cst _|exact trivial|simpa[*]using cst _
 refine X0<|X0<|X2 ?_;refine(Xc rfl (fun h42=>?_) fun h42=>?_)
 · (try simp only[BN]at h42);rw[if_neg h42]at hres;subst hres;refine X1 ?_;exact Xe
 (try simp only[BN]at h42);have hs0:SC=0:=by simpa using h42
 rw[if_pos hs0]at hres;have hok:=hok hs0;have cup:=cup hok;obtain⟨Y,hY⟩:∃x,bdL CR body ⟨0,0,0⟩=x:=⟨_,rfl⟩;rw[hY]at hres cup;obtain⟨y1,y2,y3⟩:=Y;simp only[Bool.or_eq_true,decide_eq_true_eq]at hres;simp only at cup;clear hY cst h42 hok;refine Xm [⟨true,.tup [li y1,li y2,li y3],none⟩] ?_ ?_
 · first|exact cup _|exact trivial|simpa[*]using cup _
 refine X0<|X0<|X2 ?_;refine(Xc rfl (fun h47=>?_) fun h47=>?_)
 · (try simp only[BN]at h47);rw[if_pos (by omega)]at hres;subst hres;refine X1 ?_;exact Xe
 (try simp only[BN]at h47);rw[if_neg (by omega)]at hres;subst hres;refine X1 ?_;exact Xe
end Go.Proofs.YtdajceakaakdoaaGreat

namespace Go.Proofs.YtdajceakaakdoaaGreat
open Go Go.Hl
def st0:Sta:=⟨[],[],0⟩
structure Obs where
 outs:List Int
 time:Int
end Go.Proofs.YtdajceakaakdoaaGreat

namespace Go.Proofs.YtdajceakaakdoaaGreat
open Go Go.Hl
theorem X2L {vars:List Vr} {inp:Bool} {t:Tm} (h:X0E vars inp t=0):QU vars inp t=true:=by
 unfold X0E at h;split at h
 · assumption
 cases h
theorem X1G {vars:List Vr}:∀(l seen:List Ht),hcs vars seen l=0→∀h∈l,QU vars true h.term=true
 |[],_,_,h,hm=>by cases hm
 | x ::l,seen,h0,h,hm=>by
   simp only[hcs]at h0;split at h0
   · rename_i hx;rcases List.mem_cons.1 hm with rfl|h1
     · unfold X5k at hx;split at hx
       · cases hx
       split at hx
       · cases hx
       split at hx
       · cases hx
       exact X2L hx
     exact X1G l _ h0 h h1
   rename_i hx;exact absurd h0 hx
theorem Xci {vars:List Vr} {nh:Nat} {d c v n:Int} {t:Tm} {a b:List St} {bs:List Int} {l:List St} {top:Bool} (h:ssC vars nh (.mk d c v n t a b bs::l) top=0):
  shB vars nh d v n t a.length b.length bs (top&&l.isEmpty)=true∧X2w d c n bs=true∧X0E vars false t=0∧ssC vars nh a false=0∧ssC vars nh b false=0∧ssC vars nh l top=0:=by
 simp only[ssC]at h;split at h
 · rename_i h0;split at h
   · rename_i ha;split at h
     · rename_i hb;unfold stC at h0;split at h0
       · cases h0
       rename_i hs;split at h0
       · cases h0
       rename_i hn;exact⟨by simpa using hs,by simpa using hn,h0,ha,hb,h⟩
     rename_i hb;exact absurd h hb
   rename_i ha;exact absurd h ha
 rename_i h0;exact absurd h h0
theorem X6j {vars:List Vr} {nh:Nat} {d v n:Int} {t:Tm} {la lb_:Nat} {bs:List Int} {last:Bool} (h:shB vars nh d v n t la lb_ bs last=true) (hd:d=0∨d=5):QR vars v=true∧(d=5→0≤n∧n<nh):=by
 unfold shB at h;rcases hd with rfl|rfl
 · simp only[if_true,Bool.and_eq_true]at h;exact⟨h.1.1.2,fun h=>by cases h⟩
 simp only[show ¬(5:Int)=0 by decide,show ¬(5:Int)=1 by decide,show ¬(5:Int)=2 by decide,show ¬(5:Int)=3 by decide,show ¬(5:Int)=4 by decide,if_true,if_false,Bool.and_eq_true,decide_eq_true_eq]at h;exact⟨h.1.1.1.1.2,fun _=>⟨h.1.1.1.2,h.1.1.2⟩⟩
theorem numB_in {d c n:Int} {bs:List Int} (h:X2w d c n bs=true):0≤c∧(d=4→0≤n∧n≤4096):=by
 unfold X2w at h;simp only[Bool.and_eq_true,Bool.not_eq_true',Bool.or_eq_false_iff,Bool.and_eq_false_iff,decide_eq_false_iff_not]at h;refine⟨by omega,fun h4=>?_⟩;rcases h.1.2 with h1|h1
 · exact absurd h4 h1
 omega
theorem X77 {vars:List Vr} {nh:Nat}:∀(l:List St) (top:Bool),ssC vars nh l top=0→Z3 l=true→wfL vars nh l=true
 |[],_,_,_=>by simp[wfL]
 | .mk d c v n t a b bs::l,top,h,hb=>by
   obtain⟨hs,hn,ht,ha,hb',hl⟩:=Xci h;simp only[Z3,X3i,Bool.and_eq_true,decide_eq_true_eq]at hb;have ia:=X77 a false ha hb.1.2.1;have ib:=X77 b false hb' hb.1.2.2;have il:=X77 l top hl hb.2;have hn4:=(numB_in hn).2;simp only[wfL,wfS,ia,ib,il,X2L ht,Bool.and_true,Bool.true_and,Bool.and_eq_true,Bool.or_eq_true,decide_eq_true_eq];refine⟨?_,?_,?_,hb.1.1⟩
   · by_cases hd:d=0∨d=5
     · exact .inr (X6j hs hd).1
     exact .inl ⟨fun h=>hd (.inl h),fun h=>hd (.inr h)⟩
   · by_cases hd:d=5
     · exact .inr ((X6j hs (.inr hd)).2 hd)
     exact .inl hd
   by_cases hd:d=4
   · exact .inr (hn4 hd).2
   exact .inl hd
theorem X7M:∀(l:List St) (p:B3),okL l=true→0≤p.o→mn (bdL CR l p).o 9=mn (p.o+(oUL l:Int)) 9
 |[],p,_,_=>by simp[bdL,oUL]
 | .mk d c v n t a b bs::l,p,h,hp=>by
   simp only[okL,okS,Bool.and_eq_true,Bool.or_eq_true,decide_eq_true_eq]at h;have ha:=X7M a ⟨0,0,0⟩ h.1.2.2.1 (Int.le_refl 0);have hb:=X7M b ⟨0,0,0⟩ h.1.2.2.2 (Int.le_refl 0);have na:=Zq (Zn X4j a _ h.1.2.2.1 (Z4 X4j));have nb:=Zq (Zn X4j b _ h.1.2.2.2 (Z4 X4j));simp only[bdL,bdS,oUL,oUS];generalize bdL CR a ⟨0,0,0⟩=A at*;generalize bdL CR b ⟨0,0,0⟩=B at*;simp only[Int.zero_add]at ha hb
   have key:0≤(bd1 d c n A B).o∧mn (bd1 d c n A B).o 9=mn (((if d=4 then n.toNat*oUL a else if d=3 then max (oUL a) (oUL b)else if d=1 then 1 else 0:Nat)):Int) 9:=by
    unfold nn3 at na nb;unfold bd1;by_cases h4:d=4
    · have hn:0≤n:=by omega
      rw[if_pos h4,if_pos h4];refine⟨Int.mul_nonneg hn na.2.1,?_⟩;have e:=X4O (C:=9) hn na.2.1 (Int.natCast_nonneg (oUL a)) (Int.le_refl 0) (Int.le_refl 0) ha;simp only[Int.zero_add]at e;rw[e,Int.natCast_mul,Int.toNat_of_nonneg hn]
    rw[if_neg h4,if_neg h4];by_cases h3:d=3
    · rw[if_pos h3,if_pos h3];simp only[mx,mn]at ha hb⊢;have e:((max (oUL a) (oUL b):Nat):Int)=max (oUL a:Int) (oUL b:Int):=by omega
      rw[e];refine⟨by split<;>omega,?_⟩
      (repeat' split at ha)<;>(repeat' split at hb)<;>(repeat' split)<;>omega
    rw[if_neg h3,if_neg h3];split<;>exact⟨by simp only;omega,rfl⟩
   obtain⟨k0,k1⟩:=key;generalize(bd1 d c n A B)=X at*;generalize(if d=4 then n.toNat*oUL a else if d=3 then max (oUL a) (oUL b)else if d=1 then 1 else 0:Nat)=K at*
   have e:0≤(Qa CR p X).o∧mn (Qa CR p X).o 9=mn (p.o+K) 9:=by
    simp only[Qa,CR];simp only[mn]at k1⊢;refine⟨by split<;>omega,?_⟩
    (repeat' split at k1)<;>(repeat' split)<;>omega
   have il:=X7M l (Qa CR p X) h.2 e.1;rw[il];have e2:=e.2;generalize(Qa CR p X).o=Y at*;simp only[mn]at e2⊢;rw[Int.natCast_add]
   (repeat' split at e2)<;>(repeat' split)<;>omega
theorem QS {f:Fl} (h:XR f=0):X12 f=true∧ZZ f.vars=0∧hcs f.vars [] f.hats=0∧ssC f.vars f.hats.length f.body true=0∧X6N f.body=false:=by
 unfold XR at h;split at h
 · cases h
 rename_i hs;split at h
 · rename_i hv;split at h
   · rename_i hh;split at h
     · rename_i hb;split at h
       · cases h
       rename_i ho;exact⟨by simpa using hs,hv,hh,hb,by simpa using ho⟩
     rename_i hb;exact absurd h hb
   rename_i hh;exact absurd h hh
 rename_i hv;exact absurd h hv
theorem X9U {l:List St} (h:X6N l=false):(bdL CR l ⟨0,0,0⟩).s≤4096∧(bdL CR l ⟨0,0,0⟩).o≤8∧(bdL CR l ⟨0,0,0⟩).t≤67108864:=by
 unfold X6N at h;simp only[Bool.or_eq_false_iff,decide_eq_false_iff_not,Int.not_lt]at h;exact⟨h.1,h.2.1,h.2.2⟩
theorem code_wf {f:Fl} (hb:Z3 f.body=true) (h:XR f=0):wfL f.vars f.hats.length f.body=true∧oUL f.body≤2000000∧∀h∈f.hats,QU f.vars true h.term=true:=by
 obtain⟨_,_,hh,hs,ho⟩:=QS h;have h8:=(X9U ho).2.1;have hc:=X7M f.body ⟨0,0,0⟩ (X2I _ _ hs) (Int.le_refl 0);refine⟨X77 _ _ hs hb,?_,X1G _ _ hh⟩;simp only[Int.zero_add,mn]at hc
 (repeat' split at hc)<;>omega
end Go.Proofs.YtdajceakaakdoaaGreat

namespace Go.Proofs.YtdajceakaakdoaaGreat
open Go Go.Hl
structure Sm (f:Fl):Prop where
 vars:f.vars.length≤1000
 hats:f.hats.length≤1000
 nodes:Xl f.body+Qr f.hats≤1000
 bnd:Z3 f.body=true
mutual
theorem szN_le:∀s:St,szN s≤2*szS s
 | .mk _ _ _ _ _ a b _=>by have:=X3e a;have:=X3e b;simp only[szN,szS];omega
theorem X3e:∀l:List St,X00 l≤2*szL l
 |[]=>by simp[X00]
 |s::l=>by have:=szN_le s;have:=X3e l;simp only[X00,szL];omega
end
theorem Sm.sz {f:Fl} (h:Sm f):szL f.body≤1000:=Nat.le_trans (X13 f.body) (by have:=h.nodes;omega)
theorem X0o {f:Fl} (h:XR f=0):gL f.body=true:=X8p f.body true (QS h).2.2.2.1
mutual
theorem wdS_le:∀s:St,wdS s≤2*szS s
 | .mk o _ _ _ _ a b _=>by have:=X3Q a;have:=X3Q b;simp only[wdS,szS];split<;>omega
theorem X3Q:∀l:List St,wdL l≤2*szL l
 |[]=>by simp[wdL]
 |s::l=>by have:=wdS_le s;have:=X3Q l;simp only[wdL,szL];omega
end
theorem X0X {l:List St} (h:gL l=true):(grN l).length=2+wdL l:=by
 simp only[grN,List.length_cons,List.length_append,W4 l _ _ _ h,List.length_nil];omega
abbrev grC (l:List St):CD:=.sl 4 (Qk (grN l))
theorem X7o (f:Fl) (h:Sm f) (d:Nat):Con Tryz.prog 63 false [aF f] (.tup [.agg [.c (if XR f=0 then grC f.body else .lit XW)],li (XR f)]) none d:=by
 have cc:=X1f f (by have:=h.vars;omega) (by have:=h.hats;omega) (by have:=h.nodes;omega) h.bnd;have cb:=X69 f (by have:=h.sz;have:=X3e f.body;omega);have hg:=@X0o f;have he:=XaB f.body;obtain⟨vars,hats,body⟩:=f;simp only at he hg;obtain⟨C,hC⟩:∃x,XR ⟨vars,hats,body⟩=x:=⟨_,rfl⟩;rw[hC]at cc hg⊢;refine X5 Tryz.func63 ?_;simp only[Tryz.f63];simp only[aF,Fl.enc,List.map_cons,List.map_nil]at cc cb⊢;refine X1 ?_;refine X0<|X0<|(Xp [⟨true,.v (li C),none⟩] ?_ ?_)
 · first|exact cc _|exact trivial|simpa[*]using cc _
 refine X1 ?_;refine(Xc rfl (fun h3=>?_) fun h3=>?_)
 · (try simp only[BN]at h3);have hz:¬C=0:=by simpa using h3
   clear h3 he hg cb;refine X0<|(Xq (by simp[*,XO,QE,Q3,cellsOf,W8];rfl) ?_);exact Qm ⟨.inr rfl,_,le_refl _,⟨_,by simp;rfl,by simp[XK,hz,XW,li]⟩,by simp,fun h=>by cases h⟩
 (try simp only[BN]at h3);have hz:C=0:=by simpa using h3
 have he:=he (hg hz);rw[he]at cb;clear h3 he hg;refine X0<|(W7 [⟨false,.v (.agg [.c (.sl 4 (Qk (grN body)))]),none⟩] (by simp[*,cellsOf,W8];first|exact⟨rfl,Iff.rfl⟩|exact⟨rfl,trivial⟩|rfl) ?_ ?_)
 · first|exact cb _|exact trivial|simpa[*,cellsOf,W8]using cb _
 exact Qm ⟨.inr rfl,_,le_refl _,⟨_,by simp;rfl,by simp[XK,hz,li]⟩,by simp,fun h=>by cases h⟩
@[simp] theorem fsN:X65 Tryz.prog 195=some [true,true,true,true]:=by kernel_rfl
@[simp] theorem arN:arrI Tryz.prog 195=none:=by kernel_rfl
theorem eqN_con (a:List Nd) (ha:a.length≤1000000000) (d:Nat):Con Tryz.prog 190 true [.one (.c (.sl 4 (Qk a))),.one (.c (.sl 4 (Qk a)))] (.v (lb true)) none d:=by
 refine X5 Tryz.func190 ?_;simp only[Tryz.f190];refine X1 ?_;refine X0<|X0<|X2 ?_;refine(Xc rfl (fun h2=>?_) fun h2=>?_)
 · cases h2
 (try simp only[BN]at h2);refine X0<|X0<|X2 ?_;refine X3<|(Xf [0,1,12] (fun(z:Nat)=>[(13,.v (li z))]) (fun z=>[]) (fun z=>z≤a.length) (fun z=>a.length - z) (0:Nat) (Nat.zero_le _) ?_ ?_)
 · exact X4 (fun n=>n) []
 rintro k hk;simp only[upS,X6,XB]
 try simp only[X6,KN,Nat.reduceBEq,if_true,if_false,ins,Nat.reduceLT]
 refine X1 ?_;refine X0<|(X7 rfl (fun h8=>Xb ?_) (fun h8=>?_))
 · (try simp only[BN]at h8);have hlt:k<a.length:=by omega
   obtain⟨x,he,_⟩:=Xt hlt;have hw1:=XE hlt (by omega);have hk1:k+1≤a.length:=hlt;have he':=X3D he;simp only[Nd.enc]at he';clear hlt h8 he;refine X0<|X3<|X0<|X2 ?_;refine X0<|(Qe (by kernel_rfl) (by kernel_rfl) (by rfl) (by simp[*];rfl) ?_);refine(Xc rfl (fun h11=>?_) fun h11=>?_)
   · cases h11
   (try simp only[BN]at h11);refine X2 ?_;exact⟨k+1,hk1,by omega,X4 (fun n=>n) []⟩
 (try simp only[BN]at h8);refine(Xg ?_);refine X1 ?_;exact Xe
theorem X79 (f:Fl) (h:Sm f) (h0:XR f=0) (d:Nat):Con Tryz.prog 120 true [aF f,.agg [.c (grC f.body)]] (.v (li 0)) none d:=by
 have cc:=X1f f (by have:=h.vars;omega) (by have:=h.hats;omega) (by have:=h.nodes;omega) h.bnd;have cb:=X69 f (by have:=h.sz;have:=X3e f.body;omega);rw[XaB f.body (X0o h0)]at cb;have hlen:=X0X (X0o h0);have ce:=eqN_con (grN f.body) (by have:=h.sz;have:=X3Q f.body;omega);obtain⟨vars,hats,body⟩:=f;rw[h0]at cc;clear h h0 hlen;simp only at ce cb;refine X5 Tryz.func120 ?_;simp only[Tryz.f120];simp only[aF,Fl.enc,List.map_cons,List.map_nil]at cc cb⊢;refine X1 ?_;refine X0<|X0<|(Xp [⟨true,.v (li 0),none⟩] ?_ ?_)
 · first|exact cc _|exact trivial|simpa[*]using cc _
 refine X1 ?_;refine(Xc rfl (fun h3=>?_) fun h3=>?_)
 · exact Bool.noConfusion h3
 (try simp only[BN]at h3);refine X0<|X0<|(QH [⟨false,.v (.agg [.c (.sl 4 (Qk (grN body)))]),none⟩,⟨true,.v (lb true),none⟩] (by kernel_rfl) (by kernel_rfl) (by rfl) (by simp[*];first|exact⟨rfl,Iff.rfl⟩|exact⟨rfl,trivial⟩|rfl) ?_ ?_)
 · first|exact⟨cb _,ce _⟩|exact trivial|(repeat' first|exact trivial|exact cb _|exact ce _|apply And.intro)
 refine(Xc rfl (fun h7=>?_) fun h7=>?_)
 · exact Bool.noConfusion h7
 (try simp only[BN]at h7);refine X1 ?_;exact Xe
end Go.Proofs.YtdajceakaakdoaaGreat

namespace Go.Proofs.YtdajceakaakdoaaGreat
open Go Go.Hl
mutual
def flS:St→List St
 | .mk d c v n t a b bs=>.mk d c v n t a b bs::(flL a++flL b)
def flL:List St→List St
 |[]=>[]
 |s::l=>flS s++flL l
end
theorem X9O (s:St):flS s=s::(flL s.then_++flL s.else_):=by cases s;rfl
mutual
theorem XaA:∀s:St,(flS s).length=szS s
 | .mk _ _ _ _ _ a b _=>by simp only[flS,szS,List.length_cons,List.length_append,XY a,XY b];omega
theorem XY:∀l:List St,(flL l).length=szL l
 |[]=>rfl
 |s::l=>by simp only[flL,szL,List.length_append,XaA s,XY l]
end
theorem Qp (a b:List St):X8 (a++b)=X8 a++X8 b:=by rw[WD,WD,WD,List.map_append]
theorem X82 (l:List St):szL l≤1000→∀d:Nat,Con Tryz.prog 121 false [lS l] (.v (lS (flL l))) none d:=by
 revert l
 apply St.lists;intro l ih hn d;have hlen:=X4P l;obtain⟨res,hres⟩:∃r,flL l=r:=⟨_,rfl⟩;rw[hres];refine X5 Tryz.func121 ?_;simp only[Tryz.f121];refine X0<|(Xq (by simp[*,Qp,X8];rfl) ?_);refine X0<|(Xq (by simp[*,Qp,X8];rfl) ?_);refine X0<|X0<|(Xq (by simp[*,Qp,X8];rfl) ?_);refine X3<|(Xf [6,7] (fun(x:Nat×List St)=>[(3,.v (.one (.own 1003))),(8,.v (li x.1))]) (fun x=>[(1003,.row 70 10 (X8 x.2))]) (fun x=>x.1≤l.length∧x.2++flL (l.drop x.1)=res∧x.2.length+szL (l.drop x.1)≤1000) (fun x=>l.length - x.1) (0,[]) ⟨Nat.zero_le _,by simpa using hres,by simpa using hn⟩ ?_ ?_)
 · exact Xx (fun n=>n) [1003] rfl (by simp[*,upS,X6,Qp,X8]) (by simp[*,upS]) (by simp[upS])
 rintro⟨k,acc⟩ ⟨hk,hJ,hal⟩;simp only[upS,X6,XB]
 try simp only[X6,KN,Nat.reduceBEq,if_true,if_false,ins,Nat.reduceLT]
 simp only at hk hJ hal;clear hres;refine X0<|(Xq (by simp[*,Qp,X8];rfl) ?_);refine X0<|(X7 rfl (fun h5=>Xb ?_) (fun h5=>?_))
 · (try simp only[BN]at h5);have hlt:k<l.length:=by omega
   obtain⟨s,he,hd⟩:=Xt hlt;have hw1:=XE hlt (by omega);have hk1:k+1≤l.length:=hlt;have hmem:s∈l:=List.mem_of_getElem? he;rw[hd]at hJ hal;simp only[flL,X9O]at hJ;simp only[szL]at hal;have he':=Q5 he;have iha:=(ih s hmem).1;have ihb:=(ih s hmem).2;obtain⟨so,sc,sv,sn,⟨to,tn,tk⟩,sa,sb,sbs⟩:=s;simp only[St.then_,St.else_]at iha ihb hJ;simp only[szS]at hal;have iha:=iha (by omega);have ihb:=ihb (by omega);have la:=XY sa;have lb:=XY sb;obtain⟨A,hA⟩:∃x,flL sa=x:=⟨_,rfl⟩;obtain⟨B,hB⟩:∃x,flL sb=x:=⟨_,rfl⟩;rw[hA]at iha hJ la;rw[hB]at ihb hJ lb;have r1:Wa (acc.length+1) 144:=Qc (by omega) (by decide);have r2:Wa (acc.length+1+A.length) 144:=Qc (by omega) (by decide);have r3:Wa (acc.length+(A.length+1)+B.length) 144:=Qc (by omega) (by decide);rw[la]at r2 r3;rw[lb]at r3;simp only[St.enc,Tm.enc,List.cons_append,List.nil_append]at he';clear hlt h5 ih hmem he hd hA hB;refine X0<|X3<|X0<|(Xq (by simp[*,Qp,X8];rfl) ?_);refine X0<|(Xq (by simp[*,Qp,X8,XO,QE,Q3];rfl) ?_);refine X0<|(W7 [⟨false,.v (lS A),none⟩] (by simp[*,Qp,X8];first|exact⟨rfl,Iff.rfl⟩|exact⟨rfl,trivial⟩|rfl) ?_ ?_)
   · first|exact iha _|exact trivial|simpa[*,Qp,X8]using iha _
   refine(W7 [⟨false,.v (lS B),none⟩] (by simp[*,Qp,X8];first|exact⟨rfl,Iff.rfl⟩|exact⟨rfl,trivial⟩|rfl) ?_ ?_)
   · first|exact ihb _|exact trivial|simpa[*,Qp,X8]using ihb _
   refine(Xq (by simp[*,Qp,X8];rfl) ?_);exact⟨(k+1,acc++(.mk so sc sv sn (.mk to tn tk) sa sb sbs::(A++B))),⟨hk1,by simpa using hJ,by simp only[List.length_append,List.length_cons];omega⟩,by simp only;omega,Xx (fun n=>if n=1003 then 25 else n) [] rfl (by simp[upS,X6, *,Qp,X8]) (by simp[*,upS,Qp,X8]) (by simp[upS])⟩
 (try simp only[BN]at h5);have hkl:k=l.length:=by omega
 subst hkl;simp only[List.drop_length,flL,List.append_nil]at hJ;subst hJ;clear h5 ih;refine(Xg ?_);refine XH (QQ 1003 rfl) ?_;refine X0<|(Xq (by simp[*,Qp,X8];rfl) ?_);exact Qm ⟨.inr rfl,_,le_refl _,⟨⟨_,by simp;rfl,by simp[XK]⟩,by simp,fun h=>by cases h⟩⟩
end Go.Proofs.YtdajceakaakdoaaGreat

namespace Go.Proofs.YtdajceakaakdoaaGreat
open Go Go.Hl
def Qi (steps:List St) (d:Nat):Int:=match steps[d]? with
 |some s=>s.var
 |none=>(d:Int) - steps.length
def WC (l:List Nat):List (List CD):=l.map fun d:Nat=>[iC d]
@[simp] theorem len_encD (l:List Nat):(WC l).length=l.length:=by simp[WC]
@[simp] theorem X54 (a b:List Nat):WC (a++b)=WC a++WC b:=by simp[WC]
@[simp] theorem encD_nil:WC []=[]:=rfl
@[simp] theorem encD_one (a:Nat):WC [a]=[[iC a]]:=rfl
def mpI (l:List Nat):List (Value×CD):=l.map fun d:Nat=>(.int .i64 d,bC true)
@[simp] theorem Xau (l:List Nat):(mpI l).length=l.length:=by simp[mpI]
theorem Xax {l:List Nat} {j:Nat} {k:Value} {v:CD} (h:(mpI l)[j]? =some (k,v)):∃d:Nat,l[j]? =some d∧k=.int .i64 d∧v=bC true:=by
 simp only[mpI,List.getElem?_map,Option.map_eq_some_iff]at h;obtain⟨d,hd,he⟩:=h;cases he;exact⟨d,hd,rfl,rfl⟩
def setsC (S:List (List Nat)):CD:=.sl 1 (S.map fun l=>[.mp (mpI l)])
theorem varOf_lt {steps:List St} {d:Nat} (s:St) (h:steps[d]? =some s):Qi steps d=s.var:=by simp[Qi,h]
theorem varOf_ge {steps:List St} {d:Nat} (h:steps.length≤d):Qi steps d=(d:Int) - steps.length:=by simp[Qi,List.getElem?_eq_none h]
theorem X6Y (steps:List St) (n:Nat) (hn:n≤1000000) (hl:steps.length≤1000000) (d:Nat):Con Tryz.prog 122 true [li n,.one (.c (.ptr [.sl 10 (X8 steps)]))] (.v (li (Qi steps n))) none d:=by
 obtain⟨res,hres⟩:∃x,Qi steps n=x:=⟨_,rfl⟩;rw[hres];refine X5 Tryz.func122 ?_;simp only[Tryz.f122];refine X1 ?_;refine X0<|X0<|X2 ?_;refine(Xc rfl (fun h2=>?_) fun h2=>?_)
 · (try simp only[BN]at h2);have hge:steps.length≤n:=by simpa using h2
   rw[varOf_ge hge]at hres;have hw:IntKind.i64.wrap ((n:Int) - steps.length)=(n:Int) - steps.length:=Xa (by omega) (by omega);clear h2;refine X1 ?_;exact Xe
 (try simp only[BN]at h2);have hlt:n<steps.length:=by simpa using h2
 obtain⟨s,he,_⟩:=Xt hlt;have he':=Q5 he;rw[varOf_lt s he]at hres;obtain⟨so,sc,sv,sn,⟨to,tn,tk⟩,sa,sb,sbs⟩:=s;simp only[St.enc,Tm.enc,List.cons_append,List.nil_append]at he';simp only[St.var]at hres;clear h2 he hlt;refine X1 ?_;exact Xe
def QJ (steps:List St) (x:Nd):Bool:=decide (x.k=2)&&(match steps[x.a.toNat]? with
 |some s=>decide (s.do_=0)||decide (s.do_=5)
 |none=>false)
def Zl (steps:List St) (x:Nd):Int:=match steps[x.a.toNat]? with
 |some s=>s.var
 |none=>0
def X5B (steps:List St) (nv:Nat) (Si:List Nat) (x:Nd):List Nat:=
 if x.k=0 then(List.range nv).map fun v=>steps.length+v
 else Si.filter (fun d=> !QJ steps x||decide (Qi steps d≠Zl steps x))++if QJ steps x=true then [x.a.toNat] else []
def aftΦ (steps:List St) (nv:Nat) (Si:List Nat) (x:Nd) (l:List Nat):Prop:=(∀d,d∈l↔d∈X5B steps nv Si x)∧l.length≤5000
theorem Wp {seen:List Nat} {n:Nat} (h:seen.Nodup) (hl:∀j∈seen,j<n):seen.length≤n:=by
 induction n generalizing seen with
 | zero=>
   cases seen with
   |nil=>simp
   |cons x l=>exact absurd (hl x (by simp)) (by omega)
 | succ n ih=>
   have h1:=ih (h.erase n) fun j hj=>by
    have h2:=(h.mem_erase_iff).1 hj;have:=hl j h2.2;omega
   have:=List.length_erase_of_mem (a:=n) (l:=seen);by_cases hm:n∈seen
   · rw[this hm]at h1;omega
   rw[List.erase_of_not_mem hm]at h1;omega
abbrev kC (steps:List St):CD:=.fn 122 [.ptr [.sl 10 (X8 steps)]]
theorem out_all {Si seen out:List Nat} {p:Nat→Bool} (hall:∀j:Nat,j<(mpI Si).length→j∈seen) (h:∀d,d∈out↔∃j∈seen,Si[j]? =some d∧p d=true) (d:Nat):d∈out↔d∈Si.filter p:=by
 rw[h,List.mem_filter];constructor
 · rintro⟨j,_,h1,h2⟩;exact⟨List.mem_of_getElem? h1,h2⟩
 rintro⟨h1,h2⟩;obtain⟨j,hj⟩:=List.mem_iff_getElem?.1 h1;exact⟨j,hall j (by rw[Xau];exact(List.getElem?_eq_some_iff.1 hj).1),hj,h2⟩
theorem X3W (l:List Nat):(Ob.row 3 1 (WC l)).lits:=by
 intro r hr c hc;simp only[WC,List.mem_map]at hr;obtain⟨_,_,rfl⟩:=hr;rw[List.mem_singleton.1 hc];exact⟨_,rfl⟩
def X2O (l:List Nat) (n:Nat):Prop:=∀j∈l,j<n
set_option maxHeartbeats 4000000 in
theorem XbW (f:Fl) (N:List Nd) (steps:List St) (S:List (List Nat)) (i:Nat) (x:Nd) (Si:List Nat) (hx:N[i]? =some x) (hS:S[i]? =some Si) (hs:steps.length≤1000) (hv:f.vars.length≤1000) (hSi:Si.length≤2000) (hSb:∀d∈Si,d≤1000000) (ha:(x.k≠2∧x.a=-1)∨∃m:Nat,x.a=m∧m<steps.length) (dd:Nat) (hdd:dd<1000000):
  ConF (X:=List Nat) Tryz.prog 123 true [li i,.one (.c (.ptr [.sl 4 (Qk N)])),.one (.c (.ptr f.enc)),.one (.c (.ptr [.sl 10 (X8 steps)])),.one (.c (.ptr [setsC S])),.one (.c (.ptr [kC steps]))] (aftΦ steps f.vars.length Si x) (fun _=>.v (.one (.own dd))) (fun l=>some (.row 3 1 (WC l))) dd:=by
 have hx':=X3D hx;have hSr:(S.map fun l=>[CD.mp (mpI l)])[i]? =some [CD.mp (mpI Si)]:=by simp[hS]
 obtain⟨vars,hats,body⟩:=f;obtain⟨xk,xa,xn,xo⟩:=x;simp only at hv;simp only[Nd.enc]at hx';clear hx hS;refine X95 Tryz.func123 rfl (by kernel_rfl) (Nat.le_of_ble_eq_true rfl) ?_;simp only[Tryz.f123];simp only[Fl.enc,setsC];refine X1 ?_;refine X1 ?_;refine X1 ?_;refine X0<|X0<|X2 ?_;refine(Xc rfl (fun h4=>?_) fun h4=>?_)
 · (try simp only[BN]at h4);have hk:xk=0:=by simpa using h4
   clear h4 ha;refine X0<|X0<|X2 ?_;refine X3<|(Xf [3,23] (fun(y:Nat)=>[(9,.v (.one (.own 900001))),(24,.v (li y))]) (fun y=>[(900001,.row 3 1 (WC ((List.range y).map fun v=>steps.length+v)))]) (fun y=>y≤vars.length) (fun y=>vars.length - y) (0:Nat) (Nat.zero_le _) ?_ ?_)
   · exact X4 (fun n=>n) [900001]
   rintro y hy;simp only[upS,X6,XB]
   try simp only[X6,KN,Nat.reduceBEq,if_true,if_false,ins,Nat.reduceLT]
   refine X1 ?_;refine X0<|(X7 rfl (fun h8=>Xb ?_) (fun h8=>?_))
   · (try simp only[BN]at h8);have hlt:y<vars.length:=by omega
     have hw1:=XE hlt (by omega);have hk1:y+1≤vars.length:=hlt;have hw2:IntKind.i64.wrap ((steps.length:Int)+y)=steps.length+y:=Xa (by omega) (by omega);have hroom:Wa (y+1) 8:=Qc (by omega) (by decide)
     have hsn:WC ((List.range (y+1)).map fun v=>steps.length+v)=WC ((List.range y).map fun v=>steps.length+v)++[[iC ((steps.length:Int)+y)]]:=by
      rw[List.range_succ,List.map_append,X54];simp
     clear hlt h8 hx' hSr;refine X0<|X3<|X0<|X2 ?_;refine X2 ?_;refine X2 ?_;exact⟨y+1,hk1,by omega,X4 (fun n=>if n=900001 then 33 else n) []⟩
   (try simp only[BN]at h8);have hkl:y=vars.length:=by omega
   subst hkl;refine(Xg ?_);refine X1 ?_;exact Qm ⟨.inr rfl,(List.range vars.length).map fun v=>steps.length+v,⟨fun d=>by simp only[X5B,if_pos hk],by simp;omega⟩,_,X3I 7 900001 dd (by simp) rfl hdd,⟨⟨_,by simp;rfl,by simp[XK]⟩,by simp,fun _=>⟨rfl,fun o ho=>by cases ho;exact X3W _⟩⟩⟩
 (try simp only[BN]at h4);have hk:¬xk=0:=by simpa using h4
 clear h4;refine XV [0,3,4,5,8,9] (fun(z:Bool)=>[(11,.v (lb z))]) (fun(z:Bool)=>[(8,.box [.c (iC xk),.c (iC xa),.c (iC xn),.c (iC xo)])]) (fun(z:Bool)=>z=QJ steps ⟨xk,xa,xn,xo⟩) ?_ ?_
 · rcases ha with⟨h2,rfl⟩|⟨m,rfl,hm⟩
   · simp only at h2;refine XN ?_;refine RunsN.cutE 7 [] (by simp[*];rfl) trivial (le_refl _) ?_;refine RunsN.skip (.bool false) (by simp[Za]) (by rfl) ?_;refine RunsN.skip (.bool false) (by simp[Za]) (by rfl) ?_;refine RunsN.skip (.bool false) (by simp[Za]) (by rfl) ?_;refine RunsN.skip (.bool false) (by simp[Za]) (by rfl) ?_;refine RunsN.skip (.bool false) (by simp[Za]) (by rfl) ?_;refine RunsN.cutE 3 [] (by simp[*];rfl) trivial (le_refl _) ?_;refine RunsN.skip (.bool false) (by simp[Za]) (by rfl) ?_;refine RunsN.skip (.bool false) (by simp[Za]) (by rfl) ?_;refine RunsN.skip (.bool false) (by simp[Za]) (by rfl) ?_;refine RunsN.skip (.bool false) (by simp[Za]) (by rfl) ?_;refine RunsN.doneE [] (by simp[*];rfl) trivial ?_;refine⟨_,rfl,Xx (fun n=>n) [] rfl (by simp[upS,X6,QJ,h2]) (by simp[upS]) (by simp[upS])⟩
   obtain⟨q,he,_⟩:=Xt hm;have he':=Q5 he;obtain⟨so,sc,sv,sn,⟨to,tn,tk⟩,sa,sb,sbs⟩:=q;simp only[St.enc,Tm.enc,List.cons_append,List.nil_append]at he';clear hm;by_cases h2:xk=2
   · refine Xq (by simp[*];rfl) ?_;refine⟨_,rfl,Xx (fun n=>n) [] rfl (by simp[upS,X6,QJ,h2,he,St.do_]<;>rfl) (by simp[upS,h2]) (by simp[upS])⟩
   refine Xq (by simp[*];rfl) ?_;refine⟨_,rfl,Xx (fun n=>n) [] rfl (by simp[upS,X6,QJ,h2]) (by simp[upS]) (by simp[upS])⟩
 rintro z hz;simp only[upS,X6,XB]
 try simp only[X6,KN,Nat.reduceBEq,if_true,if_false,ins,Nat.reduceLT]
 have hz2:(xa=-1∧z=false)∨∃(m:Nat) (o c v n t1 t2:Int) (tk:List Tm) (sa sb:List St) (sbs:List Int),xa=m∧(X8 steps)[m]? =some [iC o,iC c,iC v,iC n,iC t1,iC t2,.sl 3 (XI tk),.sl 10 (X8 sa),.sl 10 (X8 sb),.sl 1 (Xi sbs)]∧Zl steps ⟨xk,xa,xn,xo⟩=v:=by
  rcases ha with⟨h2,rfl⟩|⟨m,rfl,hm⟩
  · refine .inl ⟨rfl,?_⟩;simp only at h2;rw[hz];simp[QJ,h2]
  obtain⟨q,he,_⟩:=Xt hm;have he':=Q5 he;obtain⟨so,sc,sv,sn,⟨to,tn,tk⟩,sa,sb,sbs⟩:=q;exact .inr ⟨m,so,sc,sv,sn,to,tn,tk,sa,sb,sbs,rfl,he',by simp[Zl,he,St.var]⟩
 obtain⟨V,hV⟩:∃x,Zl steps ⟨xk,xa,xn,xo⟩=x:=⟨_,rfl⟩
 have haft:∀d,d∈X5B steps vars.length Si ⟨xk,xa,xn,xo⟩↔d∈Si.filter (fun d=> !z||decide (Qi steps d≠V))++if z=true then [xa.toNat] else []:=by
  intro d;simp only[X5B,if_neg hk,←hz,hV]
 rw[hV]at hz2;clear hz hV ha;refine X0<|X0<|X2 ?_;refine X3<|(Xf [3,5,8,11,61] (fun(y:List Nat×List Nat)=>[(9,.v (.one (.own 900001)))]) (fun y=>[(8,.box [.c (iC xk),.c (iC xa),.c (iC xn),.c (iC xo)]),(61,.it (mpI Si) y.1),(900001,.row 3 1 (WC y.2))]) (fun y=>y.1.Nodup∧X2O y.1 Si.length∧(∀d,d∈y.2↔∃j∈y.1,Si[j]? =some d∧(!z||decide (Qi steps d≠V))=true)∧y.2.length≤y.1.length) (fun y=>Si.length - y.1.length) ([],[]) ⟨List.nodup_nil,by simp[X2O],by simp,Nat.le_refl _⟩ ?_ ?_)
 · exact X4 (fun n=>n) [900001]
 rintro⟨seen,out⟩ ⟨j1,j2,j3,j4⟩;simp only[upS,X6,XB]
 try simp only[X6,KN,Nat.reduceBEq,if_true,if_false,ins,Nat.reduceLT]
 simp only at j1 j2 j3 j4;refine X5w (fun j k v hj hn=>?_) (fun hall=>?_)
 skip
 · (try simp only[BN]at h19);obtain⟨d,hd,rfl,rfl⟩:=Xax hj;have hjl:j<Si.length:=(List.getElem?_eq_some_iff.1 hd).1
   have hnd:(seen++[j]).Nodup:=by
    rw[List.nodup_append];exact⟨j1,by simp,fun a ha b hb=>by rw[List.mem_singleton.1 hb];exact fun e=>hn (e▸ha)⟩
   have hin:X2O (seen++[j]) Si.length:=fun i hi=>by
    rcases List.mem_append.1 hi with h|h
    · exact j2 i h
    rw[List.mem_singleton.1 h];exact hjl
   have hle:=Wp hnd hin;simp only[List.length_append,List.length_singleton]at hle;have hroom:Wa (out.length+1) 8:=Qc (by omega) (by decide);have hdb:=hSb d (List.mem_of_getElem? hd);clear hjl;have cv:=X6Y steps d hdb (by omega);refine X3<|X0<|X2 ?_;refine XV [3,5,8,9,11,12,61] (fun(q:Bool)=>[(79,.v (lb q))]) (fun(q:Bool)=>[(8,.box [.c (iC xk),.c (iC xa),.c (iC xn),.c (iC xo)]),(61,.it (mpI Si) (seen++[j])),(900001,.row 3 1 (WC out))]) (fun(q:Bool)=>q=(!z||decide (Qi steps d≠V))) ?_ ?_
   · rcases hz2 with⟨rfl,rfl⟩|⟨m,po,pc,pv,pn,p1,p2,pk,pa,pb,pbs,rfl,he',rfl⟩
     · refine X23 [none] (by kernel_rfl) (by kernel_rfl) (by rfl) (by simp[*];first|exact⟨rfl,Iff.rfl⟩|exact⟨rfl,trivial⟩|rfl) ?_ ?_
       · trivial
       exact⟨_,rfl,Xx (fun n=>n) [] rfl (by simp[upS,X6]) (by simp[upS]) (by simp[upS])⟩
     cases z with
     | false=>
       refine X23 [none] (by kernel_rfl) (by kernel_rfl) (by rfl) (by simp[*];first|exact⟨rfl,Iff.rfl⟩|exact⟨rfl,trivial⟩|rfl) ?_ ?_
       · trivial
       exact⟨_,rfl,Xx (fun n=>n) [] rfl (by simp[upS,X6]) (by simp[upS]) (by simp[upS])⟩
     | true=>
       refine QH [⟨true,.v (li (Qi steps d)),none⟩] (by kernel_rfl) (by kernel_rfl) (by rfl) (by simp[*];first|exact⟨rfl,Iff.rfl⟩|exact⟨rfl,trivial⟩|rfl) ?_ ?_
       · first|exact cv _|simpa using cv _
       exact⟨_,rfl,Xx (fun n=>n) [] rfl (by simp[upS,X6]) (by simp[upS]) (by simp[upS])⟩
   rintro q hq;simp only[upS,X6,XB]
   try simp only[X6,KN,Nat.reduceBEq,if_true,if_false,ins,Nat.reduceLT]
   refine(Xc rfl (fun h22=>?_) fun h22=>?_)
   · (try simp only[BN]at h22);have hp:(!z||decide (Qi steps d≠V))=true:=by rw[←hq];simpa using h22
     have hmem:∀x,x∈out++[d]↔∃i∈seen++[j],Si[i]? =some x∧(!z||decide (Qi steps x≠V))=true:=by
      intro x;rw[List.mem_append,j3,List.mem_singleton];constructor
      · rintro(⟨i,h1,h2⟩|rfl)
        · exact⟨i,List.mem_append_left _ h1,h2⟩
        exact⟨j,by simp,hd,hp⟩
      rintro⟨i,h1,h2,h3⟩;rcases List.mem_append.1 h1 with h1|h1
      · exact .inl ⟨i,h1,h2,h3⟩
      rw[List.mem_singleton.1 h1,hd]at h2;exact .inr (Option.some.inj h2).symm
     refine X2 ?_;exact⟨(seen++[j],out++[d]),⟨hnd,hin,hmem,by simp only[List.length_append,List.length_singleton];omega⟩,by simp only[List.length_append,List.length_singleton];omega,X4 (fun n=>if n=900001 then 83 else n) []⟩
   (try simp only[BN]at h22);have hp:(!z||decide (Qi steps d≠V))=false:=by rw[←hq];simpa using h22
   have hmem:∀x,x∈out↔∃i∈seen++[j],Si[i]? =some x∧(!z||decide (Qi steps x≠V))=true:=by
    intro x;rw[j3];constructor
    · rintro⟨i,h1,h2⟩;exact⟨i,List.mem_append_left _ h1,h2⟩
    rintro⟨i,h1,h2,h3⟩;rcases List.mem_append.1 h1 with h1|h1
    · exact⟨i,h1,h2,h3⟩
    rw[List.mem_singleton.1 h1,hd]at h2;rw[←Option.some.inj h2,hp]at h3;cases h3
   exact⟨(seen++[j],out),⟨hnd,hin,hmem,by simp only[List.length_append,List.length_singleton];omega⟩,by simp only[List.length_append,List.length_singleton];omega,X4 (fun n=>n) []⟩
 (try simp only[BN]at h19);have hout:=out_all hall j3;have hle:=Wp j1 j2;have hroom:Wa (out.length+1) 8:=Qc (by omega) (by decide);clear hall j1 j2 j3;refine(Xg ?_);refine X0<|X0<|X2 ?_;refine(Xc rfl (fun h27=>?_) fun h27=>?_)
 · (try simp only[BN]at h27);have hz':z=true:=by simpa using h27
   subst hz';obtain⟨m,po,pc,pv,pn,p1,p2,pk,pa,pb,pbs,rfl,_,_⟩:=hz2.resolve_left fun e=>Bool.noConfusion e.2;clear hz2;refine X2 ?_;refine X1 ?_;exact Qm ⟨.inr rfl,out++[m],⟨fun d=>by rw[haft,List.mem_append,List.mem_append,hout];simp,by simp;omega⟩,_,X3I (e:=3) (sz:=1) (rows:=WC (out++[m])) 7 89 dd (by simp) (by simp[X54]) hdd,⟨⟨_,by simp;rfl,by simp[XK]⟩,by simp[X54],fun _=>⟨rfl,fun o ho=>by cases ho;exact X3W _⟩⟩⟩
 (try simp only[BN]at h27);have hz':z=false:=by simpa using h27
 subst hz';clear hz2;refine X1 ?_;exact Qm ⟨.inr rfl,out,⟨fun d=>by rw[haft,hout];simp,by omega⟩,_,X3I 7 900001 dd (by simp) rfl hdd,⟨⟨_,by simp;rfl,by simp[XK]⟩,by simp,fun _=>⟨rfl,fun o ho=>by cases ho;exact X3W _⟩⟩⟩
end Go.Proofs.YtdajceakaakdoaaGreat

namespace Go.Proofs.YtdajceakaakdoaaGreat
open Go Go.Hl
def WK (x:Nd) (to:Nat):Prop:=x.n=to∨x.o=to
instance (x:Nd) (to:Nat):Decidable (WK x to):=by unfold WK;exact inferInstance
inductive Rc (N:List Nd) (steps:List St) (nv:Nat):Nat→Nat→Prop
 |entry {i to v:Nat} {x:Nd}:N[i]? =some x→x.k=0→WK x to→v<nv→Rc N steps nv to (steps.length+v)
 |pass {i to d:Nat} {x:Nd}:N[i]? =some x→x.k≠0→WK x to→Rc N steps nv i d→(!QJ steps x||decide (Qi steps d≠Zl steps x))=true→Rc N steps nv to d
 |gen {i to:Nat} {x:Nd}:N[i]? =some x→x.k≠0→WK x to→QJ steps x=true→Rc N steps nv to x.a.toNat
open Classical in
noncomputable def rcL (N:List Nd) (steps:List St) (nv:Nat):List (List Nat):=(List.range N.length).map fun to=>(List.range (steps.length+nv)).filter fun d=>decide (Rc N steps nv to d)
structure Gs (N:List Nd) (steps:List St) (nv:Nat) (S:List (List Nat)):Prop where
 len:S.length=N.length
 nod:∀l∈S,l.Nodup
 lt:∀l∈S,∀d∈l,d<steps.length+nv
 snd:∀(to:Nat) l d,S[to]? =some l→d∈l→Rc N steps nv to d
def clo (N:List Nd) (steps:List St) (nv:Nat) (S:List (List Nat)) (i:Nat):Prop:=
 ∀x Si,N[i]? =some x→S[i]? =some Si→∀d∈X5B steps nv Si x,∀to l,WK x to→S[to]? =some l→d∈l
theorem aft_rc {N:List Nd} {steps:List St} {nv i:Nat} {S:List (List Nat)} {x:Nd} {Si:List Nat} (g:Gs N steps nv S) (hx:N[i]? =some x) (hS:S[i]? =some Si) {d:Nat} (hd:d∈X5B steps nv Si x) {to:Nat} (ht:WK x to):Rc N steps nv to d:=by
 unfold X5B at hd;split at hd
 · rename_i h0;obtain⟨v,hv,rfl⟩:=List.mem_map.1 hd;exact .entry hx h0 ht (by simpa using hv)
 rename_i h0;rcases List.mem_append.1 hd with h|h
 · obtain⟨h1,h2⟩:=List.mem_filter.1 h;exact .pass hx h0 ht (g.snd i Si d hS h1) h2
 split at h
 · rename_i ha;rw[List.mem_singleton.1 h];exact .gen hx h0 ht ha
 cases h
theorem rc_lt {N:List Nd} {steps:List St} {nv:Nat} {to d:Nat} (ha:∀x∈N,QJ steps x=true→x.a.toNat<steps.length) (h:Rc N steps nv to d):d<steps.length+nv:=by
 induction h with
 |entry _ _ _ hv=>omega
 |pass _ _ _ _ _ ih=>exact ih
 |gen hx _ _ h=>have:=ha _ (List.mem_of_getElem? hx) h;omega
theorem clo_rc {N:List Nd} {steps:List St} {nv:Nat} {S:List (List Nat)} (g:Gs N steps nv S) (hc:∀i,i<N.length→clo N steps nv S i) {to d:Nat} {l:List Nat} (hl:S[to]? =some l) (h:Rc N steps nv to d):d∈l:=by
 induction h generalizing l with
 | entry hx h0 ht hv=>
   rename_i i to v x;have hi:=(List.getElem?_eq_some_iff.1 hx).1;obtain⟨Si,hS,_⟩:=Xt (show i<S.length by rw[g.len];exact hi);refine hc i hi x Si hx hS _ ?_ to l ht hl;unfold X5B;rw[if_pos h0];exact List.mem_map.2 ⟨v,by simpa using hv,rfl⟩
 | pass hx h0 ht _ hk ih=>
   rename_i i to d x _;have hi:=(List.getElem?_eq_some_iff.1 hx).1;obtain⟨Si,hS,_⟩:=Xt (show i<S.length by rw[g.len];exact hi);refine hc i hi x Si hx hS _ ?_ to l ht hl;unfold X5B;rw[if_neg h0];exact List.mem_append_left _ (List.mem_filter.2 ⟨ih hS,hk⟩)
 | gen hx h0 ht h=>
   rename_i i to x;have hi:=(List.getElem?_eq_some_iff.1 hx).1;obtain⟨Si,hS,_⟩:=Xt (show i<S.length by rw[g.len];exact hi);refine hc i hi x Si hx hS _ ?_ to l ht hl;unfold X5B;rw[if_neg h0,if_pos h];simp
def srtN (l:List Nat):List Int:=(l.map Int.ofNat).mergeSort fun x y=>decide (x≤y)
theorem X6Z:∀{l m:List Nat},l.Pairwise (· < ·)→m.Pairwise (· < ·)→(∀x,x∈l↔x∈m)→l=m
 |[],[],_,_,_=>rfl
 |[],b::m,_,_,h=>absurd ((h b).2 (by simp)) (by simp)
 |a::l,[],_,_,h=>absurd ((h a).1 (by simp)) (by simp)
 | a ::l,b::m,hl,hm,h=>by
   rw[List.pairwise_cons]at hl hm
   have hab:a=b:=by
    rcases List.mem_cons.1 ((h a).1 (by simp))with e|e
    · exact e
    rcases List.mem_cons.1 ((h b).2 (by simp))with e2|e2
    · exact e2.symm
    have:=hm.1 a e;have:=hl.1 b e2;omega
   subst hab;congr 1;refine X6Z hl.2 hm.2 fun x=>?_;constructor
   · intro hx;rcases List.mem_cons.1 ((h x).1 (by simp[hx]))with e|e
     · subst e;exact absurd (hl.1 x hx) (Nat.lt_irrefl _)
     exact e
   intro hx;rcases List.mem_cons.1 ((h x).2 (by simp[hx]))with e|e
   · subst e;exact absurd (hm.1 x hx) (Nat.lt_irrefl _)
   exact e
theorem Xcj (n:Nat):(List.range n).Pairwise (· < ·):=List.pairwise_lt_range
theorem srt_eq {l:List Nat} {n:Nat} (hn:l.Nodup) {p:Nat→Bool} (h:∀x,x∈l↔x<n∧p x=true):Xi (srtN l)=WC ((List.range n).filter p):=by
 have h2:(l.mergeSort fun x y=>decide (x≤y))=(List.range n).filter p:=by
  refine X6Z ?_ ((Xcj n).filter _) fun x=>by rw[List.mem_mergeSort,h];simp
  have h3:=List.pairwise_mergeSort (le:=fun x y:Nat=>decide (x≤y)) (fun a b c h1 h2=>by simp at*;omega) (fun a b=>by simp;omega) l;have h4:(l.mergeSort fun x y=>decide (x≤y)).Nodup:=(List.mergeSort_perm l _).nodup_iff.2 hn;refine(List.pairwise_and_iff.2 ⟨h3,h4⟩).imp fun {a b} ⟨h5,h6⟩=>?_;have h5:a≤b:=by simpa using h5
  have h6:a≠b:=h6;omega
 rw[←h2];unfold srtN Xi WC
 have:(l.map Int.ofNat).mergeSort (fun x y=>decide (x≤y))=(l.mergeSort fun x y=>decide (x≤y)).map Int.ofNat:=by
  rw[List.map_mergeSort];intro a _ b _;simp
 rw[this,List.map_map];rfl
def WS (rows:List (List Nat)):List (List CD):=rows.map fun l=>[.sl 1 (WC l)]
@[simp] theorem len_encDD (l:List (List Nat)):(WS l).length=l.length:=by simp[WS]
theorem X52 (d:Nat):∀l:List Nat,X4v (.int .i64) (.int .i64 d) (mpI l)=some (if d∈l then some (bC true)else none)
 |[]=>rfl
 | k ::l=>by
   have e:mpI (k::l)=(.int .i64 k,bC true)::mpI l:=rfl;rw[e];unfold X4v
   have h1:Instr.sameNow (.int .i64) (.int .i64 (d:Int)) (.int .i64 (k:Int))=some (decide (d=k)):=by
    have h2:((d:Int)==(k:Int))=decide (d=k):=by
     rw[Bool.eq_iff_iff];simp only[beq_iff_eq,decide_eq_true_eq];omega
    simp[Instr.sameNow,h2]
   rw[h1];by_cases hk:d=k
   · subst hk;simp
   simp only[hk,decide_false,List.mem_cons,false_or];exact X52 d l
def Z6 (S:List (List Nat)):Nat:=(S.map List.length).sum
theorem Xbq {S:List (List Nat)} {to:Nat} {l:List Nat} (h:S[to]? =some l) (d:Nat):Z6 (S.set to (l++[d]))=Z6 S+1:=by
 induction S generalizing to with
 |nil=>cases h
 | cons a S ih=>
   cases to with
   |zero=>cases h;simp[Z6];omega
   | succ to=>
     have:=ih (to:=to) h;simp only[Z6,List.set_cons_succ,List.map_cons,List.sum_cons]at this⊢;omega
theorem X9d {N:List Nd} {steps:List St} {nv:Nat} {S:List (List Nat)} (g:Gs N steps nv S):Z6 S≤N.length*(steps.length+nv):=by
 have key:∀S:List (List Nat),(∀l∈S,l.length≤steps.length+nv)→Z6 S≤S.length*(steps.length+nv):=by
  intro S
  induction S with
  |nil=>simp[Z6]
  | cons a S ih=>
    intro h;have h1:=h a (by simp);have h2:=ih fun l hl=>h l (by simp[hl]);simp only[Z6,List.map_cons,List.sum_cons,List.length_cons,Nat.add_mul,Nat.one_mul]at h2⊢;omega
 have:=key S fun l hl=>Wp (g.nod l hl) (g.lt l hl)
 rwa [g.len]at this
theorem Gs.add {N:List Nd} {steps:List St} {nv to d:Nat} {S:List (List Nat)} {l:List Nat} (g:Gs N steps nv S) (hl:S[to]? =some l) (hd:d∉l) (hlt:d<steps.length+nv) (hr:Rc N steps nv to d):Gs N steps nv (S.set to (l++[d])):=by
 have hm:∀q∈S.set to (l++[d]),q∈S∨q=l++[d]:=fun q hq=>List.mem_or_eq_of_mem_set hq;refine⟨by rw[List.length_set];exact g.len,fun q hq=>?_,fun q hq x hx=>?_,fun i q x hq hx=>?_⟩
 · rcases hm q hq with h|rfl
   · exact g.nod q h
   rw[List.nodup_append];exact⟨g.nod l (List.mem_of_getElem? hl),by simp,fun a ha b hb=>by rw[List.mem_singleton.1 hb];exact fun e=>hd (e▸ha)⟩
 · rcases hm q hq with h|rfl
   · exact g.lt q h x hx
   rcases List.mem_append.1 hx with h|h
   · exact g.lt l (List.mem_of_getElem? hl) x h
   rw[List.mem_singleton.1 h];exact hlt
 rw[List.getElem?_set]at hq;split at hq
 · rename_i e;subst e;split at hq
   · cases hq;rcases List.mem_append.1 hx with h|h
     · exact g.snd to l x hl h
     rw[List.mem_singleton.1 h];exact hr
   cases hq
 exact g.snd i q x hq hx
end Go.Proofs.YtdajceakaakdoaaGreat

namespace Go.Proofs.YtdajceakaakdoaaGreat
open Go Go.Hl
def X4K (m:Nat) (t:Int):Prop:=t=-1∨∃k:Nat,t=k∧k<m
structure ndOK (m n:Nat) (x:Nd):Prop where
 hn:X4K m x.n
 ho:X4K m x.o
 ha:(x.k≠2∧x.a=-1)∨∃t:Nat,x.a=t∧t<n
theorem X4K.nat {m t:Nat} (h:t<m):X4K m (t:Int):=.inr ⟨t,rfl,h⟩
theorem X7J (s:St):1≤wdS s:=by cases s;simp only[wdS];split<;>omega
theorem X4X {l:List St} (h:l≠[]):1≤wdL l:=by
 cases l with
 |nil=>exact absurd rfl h
 |cons s l=>have:=X7J s;simp only[wdL];omega
theorem X4K.ite {m:Nat} {t e:Int} {l:List St} (h1:X4K m t) (h2:l≠[]→X4K m e):X4K m (if l=[] then t else e):=by
 split
 · exact h1
 rename_i h;exact h2 h
theorem X4K.mk {m:Nat} {t:Int} (k:Nat) (h:t=k) (hk:k<m):X4K m t:=.inr ⟨k,h,hk⟩
mutual
theorem layS_ok {m n:Nat}:∀(s:St) (p k after:Nat),gS s=true→p+szS s≤n→k+wdS s≤m→after<m→∀x∈X1n s p k after,ndOK m n x
 | .mk o c v q t a b bs,p,k,after,hg,hp,hk,haf,x,hx=>by
   simp only[gS,Bool.and_eq_true]at hg;simp only[szS]at hp;simp only[wdS]at hk;unfold X1n at hx;split at hx
   · rename_i h3;rw[if_neg (by omega)]at hk;rcases List.mem_cons.1 hx with rfl|hx
     · refine⟨.ite (.nat haf) fun h=>.mk (k+1) (by simp) (by have:=X4X h;omega),.ite (.nat haf) fun h=>.mk (k+1+wdL a) (by simp) (by have:=X4X h;omega),.inr ⟨p,rfl,(show p<n by omega)⟩⟩
     rcases List.mem_append.1 hx with hx|hx
     · exact X2R a (p+1) (k+1) after hg.2.1 (by omega) (by omega) haf x (by simpa using hx)
     exact X2R b (p+1+szL a) (k+1+wdL a) after hg.2.2 (by omega) (by omega) haf x (by simpa using hx)
   split at hx
   · rename_i h3 h4;rw[if_pos h4]at hk;rcases List.mem_cons.1 hx with rfl|hx
     · exact⟨.mk (k+1) (by simp) (by omega),.inl rfl,.inr ⟨p,rfl,(show p<n by omega)⟩⟩
     rcases List.mem_cons.1 hx with rfl|hx
     · exact⟨.ite (.mk (k+1) (by simp) (by omega)) fun h=>.mk (k+2) (by simp) (by have:=X4X h;omega),.nat haf,.inr ⟨p,rfl,(show p<n by omega)⟩⟩
     exact X2R a (p+1) (k+2) (k+1) hg.2.1 (by omega) (by omega) (by omega) x (by simpa using hx)
   rw[List.mem_singleton.1 hx];have:1≤wdS (St.mk o c v q t a b bs):=X7J _;exact⟨X4K.nat haf,.inl rfl,.inr ⟨p,rfl,(show p<n by omega)⟩⟩
theorem X2R {m n:Nat}:∀(l:List St) (p k after:Nat),gL l=true→p+szL l≤n→k+wdL l≤m→after<m→∀x∈X04 l p k after,ndOK m n x
 |[],_,_,_,_,_,_,_,x,hx=>by simp[X04]at hx
 | s ::l,p,k,after,hg,hp,hk,haf,x,hx=>by
   simp only[gL,Bool.and_eq_true]at hg;simp only[szL]at hp;simp only[wdL]at hk;unfold X04 at hx;rcases List.mem_append.1 hx with hx|hx
   · refine layS_ok s p k _ hg.1 (by omega) (by omega) ?_ x hx;split
     · exact haf
     rename_i h;have:=X4X h;omega
   exact X2R l (p+szS s) (k+wdS s) after hg.2 (by omega) (by omega) haf x (by simpa using hx)
end
theorem X5P {l:List St} (hg:gL l=true):∀x∈grN l,ndOK (grN l).length (szL l) x:=by
 rw[X0X hg];intro x hx;unfold grN at hx;rcases List.mem_cons.1 hx with rfl|hx
 · refine⟨.ite (.mk (1+wdL l) (by simp) (by omega)) fun h=>.mk 1 rfl (by omega),.inl rfl,.inl ⟨by simp,rfl⟩⟩
 rcases List.mem_append.1 hx with hx|hx
 · exact X2R l 0 1 (1+wdL l) hg (by omega) (by omega) (by omega) x (by simpa using hx)
 rw[List.mem_singleton.1 hx];exact⟨.inl rfl,.inl rfl,.inl ⟨by simp,rfl⟩⟩
structure Inv (N:List Nd) (steps:List St) (nv:Nat) (S0 S:List (List Nat)) (c:Bool) (P:Prop):Prop where
 g:Gs N steps nv S
 tot:Z6 S0≤Z6 S
 up:c=true→Z6 S0<Z6 S
 same:c=false→S=S0∧P
theorem Inv.mono {N:List Nd} {steps:List St} {nv:Nat} {S0 S:List (List Nat)} {c:Bool} {P Q:Prop} (h:Inv N steps nv S0 S c P) (hpq:S=S0→P→Q):Inv N steps nv S0 S c Q:=
 ⟨h.g,h.tot,h.up,fun hc=>⟨(h.same hc).1,hpq (h.same hc).1 (h.same hc).2⟩⟩
theorem Inv.add {N:List Nd} {steps:List St} {nv:Nat} {S0 S:List (List Nat)} {c:Bool} {P Q:Prop} (h:Inv N steps nv S0 S c P) {to d:Nat} {l:List Nat} (hl:S[to]? =some l) (hd:d∉l) (hlt:d<steps.length+nv) (hr:Rc N steps nv to d):Inv N steps nv S0 (S.set to (l++[d])) true Q:=by
 have:=Xbq hl d;exact⟨h.g.add hl hd hlt hr,by have:=h.tot;omega,fun _=>by have:=h.tot;omega,fun hc=>by cases hc⟩
def inS (S:List (List Nat)) (to:Int) (d:Nat):Prop:=∀(m:Nat) l,to=(m:Int)→S[m]? =some l→d∈l
def msS (S:List (List Nat)):List (Option (List (Value×CD))):=S.map fun l=>some (mpI l)
@[simp] theorem len_msS (S:List (List Nat)):(msS S).length=S.length:=by simp[msS]
@[simp] theorem map_msS (S:List (List Nat)):(msS S).map (fun r=>[mpC r])=S.map fun l=>[CD.mp (mpI l)]:=by simp[msS,mpC]
theorem Xat {S:List (List Nat)} {i:Nat} {l:List Nat} (h:S[i]? =some l):(msS S)[i]? =some (some (mpI l)):=by simp[msS,h]
theorem set_msS (S:List (List Nat)) (i:Nat) (l:List Nat) (d:Nat):(msS S).set i (some (mpI l++[(.int .i64 d,bC true)]))=msS (S.set i (l++[d])):=by
 simp[msS,List.map_set,mpI]
def msI (y n:Nat):List (Option (List (Value×CD))):=List.replicate y (some [])++List.replicate (n - y) none
theorem msI_len {y n:Nat} (h:y≤n):(msI y n).length=n:=by simp[msI];omega
theorem msI_free {y n:Nat} (h:y<n):X1w (msI y n) y=true:=by
 obtain⟨k,hk⟩:∃k,n - y=k+1:=⟨n - y - 1,by omega⟩;simp[X1w,msI,hk,List.replicate_succ]
theorem msI_set {y n:Nat} (h:y<n):(msI y n).set y (some [])=msI (y+1) n:=by
 obtain⟨k,hk⟩:∃k,n - y=k+1:=⟨n - y - 1,by omega⟩;have e:n - (y+1)=k:=by omega
 have e2:List.replicate (y+1) (some ([]:List (Value×CD)))=List.replicate y (some [])++[some []]:=List.replicate_succ';simp only[msI,hk,e,e2];rw[List.set_append,if_neg (by simp)];simp[List.replicate_succ]
theorem msI_zero (n:Nat):msI 0 n=List.replicate n none:=by simp[msI]
theorem msI_end (n:Nat):msI n n=msS (List.replicate n []):=by simp[msI,msS,mpI]
theorem Gs.empty (N:List Nd) (steps:List St) (nv:Nat):Gs N steps nv (List.replicate N.length []):=by
 refine⟨by simp,fun l hl=>?_,fun l hl=>?_,fun to l d h hd=>?_⟩
 · rw[(List.mem_replicate.1 hl).2];exact List.nodup_nil
 · rw[(List.mem_replicate.1 hl).2];simp
 have:=List.mem_of_getElem? h;rw[(List.mem_replicate.1 this).2]at hd;cases hd
def X2D (l:List Nat):Option (List (List CD)):=if l=[] then none else some (WC l)
def rwI (L:List (List Nat)) (y n:Nat):List (Option (List (List CD))):=(L.take y).map X2D++List.replicate (n - y) none
theorem rwI_len {L:List (List Nat)} {y n:Nat} (h:y≤n) (hL:L.length=n):(rwI L y n).length=n:=by simp[rwI,hL];omega
theorem rwI_get {L:List (List Nat)} {y n:Nat} (h:y<n) (hL:L.length=n):(rwI L y n)[y]? =some none:=by
 have ht:((L.take y).map X2D).length=y:=by rw[List.length_map,List.length_take];omega
 unfold rwI;rw[List.getElem?_append_right (by rw[ht];exact Nat.le_refl _),ht,Nat.sub_self];obtain⟨k,hk⟩:∃k,n - y=k+1:=⟨n - y - 1,by omega⟩;rw[hk];rfl
theorem rwI_set {L:List (List Nat)} {y n:Nat} {l:List Nat} (hl:L[y]? =some l) (h:y<n) (hL:L.length=n):(rwI L y n).set y (X2D l)=rwI L (y+1) n:=by
 have ht:((L.take y).map X2D).length=y:=by rw[List.length_map,List.length_take];omega
 obtain⟨k,hk⟩:∃k,n - y=k+1:=⟨n - y - 1,by omega⟩;have e:n - (y+1)=k:=by omega
 unfold rwI;rw[List.set_append,if_neg (by rw[ht];omega),ht,Nat.sub_self,List.take_add_one,hl,hk,e];simp[List.replicate_succ]
theorem rwI_zero (L:List (List Nat)) (n:Nat):rwI L 0 n=List.replicate n none:=by simp[rwI]
theorem rwI_end {L:List (List Nat)} {n:Nat} (hL:L.length=n):(rwI L n n).map (fun r=>[CD.sl 1 (r.getD [])])=WS L:=by
 unfold rwI WS;rw[←hL,List.take_length,Nat.sub_self];simp only[List.replicate_zero,List.append_nil,List.map_map];refine List.map_congr_left fun l _=>?_;unfold X2D;simp only[Function.comp];split
 · rename_i h;subst h;rfl
 rfl
theorem encD_enc (l:List Nat):WC l=Xi (l.map Int.ofNat):=by simp[WC,Xi]
end Go.Proofs.YtdajceakaakdoaaGreat

namespace Go.Proofs.YtdajceakaakdoaaGreat
open Go Go.Hl
theorem X1H {vars:List Vr} {nh:Nat}:∀(l:List St) (top:Bool),ssC vars nh l top=0→∀q∈flL l,∃last,shB vars nh q.do_ q.var q.n q.term q.then_.length q.else_.length q.bounds last=true
 |[],_,_,q,hq=>by simp[flL]at hq
 | .mk d c v n t a b bs::l,top,h,q,hq=>by
   have hs:shB vars nh d v n t a.length b.length bs (top&&l.isEmpty)=true:=by
    simp only[ssC]at h;split at h
    · rename_i h0;unfold stC at h0;split at h0
      · cases h0
      rename_i hs;simpa using hs
    rename_i h0;exact absurd h h0
   have hr:ssC vars nh a false=0∧ssC vars nh b false=0∧ssC vars nh l top=0:=by
    simp only[ssC]at h;split at h
    · split at h
      · split at h
        · rename_i ha hb;exact⟨ha,hb,h⟩
        rename_i hb;exact absurd h hb
      rename_i ha;exact absurd h ha
    rename_i h0;exact absurd h h0
   simp only[flL,flS,List.cons_append,List.mem_cons,List.mem_append]at hq;rcases hq with rfl|(hq|hq)|hq
   · exact⟨_,hs⟩
   · exact X1H a false hr.1 q hq
   · exact X1H b false hr.2.1 q hq
   exact X1H l top hr.2.2 q hq
mutual
def tmV:Tm→List Int
 | .mk o n ks=>(if o=24 then [n] else [])++X0O ks
def X0O:List Tm→List Int
 |[]=>[]
 |t::l=>tmV t++X0O l
end
mutual
theorem X7d:∀t:Tm,(tmV t).length≤t.nodes
 | .mk o n ks=>by
   have:=X8B ks;simp only[tmV,List.length_append,Tm.nodes];split
   · simp only[List.length_singleton];omega
   simp only[List.length_nil];omega
theorem X8B:∀l:List Tm,(X0O l).length≤Qb l
 |[]=>by simp[X0O]
 |t::l=>by have:=X7d t;have:=X8B l;simp only[X0O,List.length_append,Qb];omega
end
end Go.Proofs.YtdajceakaakdoaaGreat

namespace Go.Proofs.YtdajceakaakdoaaGreat
open Go Go.Hl
theorem St.lind {P:List St→Prop} (nil:P []) (cons:∀d c v n t a b bs l,P a→P b→P l→P (.mk d c v n t a b bs::l)):∀l,P l:=by
 apply St.lists;intro l ih
 induction l with
 |nil=>exact nil
 | cons s l ihl=>
   have h:=ih s (List.mem_cons_self ..);have h2:=ihl fun s hs=>ih s (List.mem_cons_of_mem _ hs);obtain⟨d,c,v,n,t,a,b,bs⟩:=s;exact cons d c v n t a b bs l h.1 h.2 h2
def Sub {α:Type} (N:List α) (k:Nat) (l:List α):Prop:=∀i x,l[i]? =some x→N[k+i]? =some x
theorem Sub.cons {α:Type} {N:List α} {k:Nat} {x:α} {l:List α} (h:Sub N k (x::l)):N[k]? =some x∧Sub N (k+1) l:=
 ⟨h 0 x rfl,fun i y hy=>by have:=h (i+1) y (by simpa using hy);rwa [show k+(i+1)=k+1+i by omega]at this⟩
theorem Sub.app {α:Type} {N:List α} {k:Nat} {a b:List α} (h:Sub N k (a++b)):Sub N k a∧Sub N (k+a.length) b:=by
 refine⟨fun i x hx=>h i x ?_,fun i x hx=>?_⟩
 · have hi:=(List.getElem?_eq_some_iff.1 hx).1;rw[List.getElem?_append_left hi,hx]
 have:=h (a.length+i) x (by rw[List.getElem?_append_right (by omega),show a.length+i - a.length=i by omega,hx])
 rwa [show k+(a.length+i)=k+a.length+i by omega]at this
theorem Sub.of_self {α:Type} (l:List α):Sub l 0 l:=fun i x hx=>by rwa [Nat.zero_add]
def updD (D:Nat→Nat) (v o:Nat):Nat→Nat:=fun x=>if x=v then o else D x
section
variable {vars:List Vr} {hv:List Int} {kO:Nat→Bool}
def Qt (lo hi:Nat) (x y:Sta×(Nat→Nat)):Prop:=∀v:Nat,(y.2 v=x.2 v∧y.1.vals[v]? =x.1.vals[v]?)∨(lo≤y.2 v∧y.2 v<hi)
theorem Qt.refl (lo hi:Nat) (x:Sta×(Nat→Nat)):Qt lo hi x x:=fun _=>.inl ⟨rfl,rfl⟩
theorem Qt.trans {lo hi:Nat} {x y z:Sta×(Nat→Nat)} (h:Qt lo hi x y) (h2:Qt lo hi y z):Qt lo hi x z:=fun v=>by
 rcases h2 v with⟨h3,h4⟩|h3
 · rcases h v with⟨h5,h6⟩|h5
   · exact .inl ⟨h3.trans h5,h4.trans h6⟩
   exact .inr ⟨by omega,by omega⟩
 exact .inr h3
theorem Qt.tick {lo hi:Nat} {x y:Sta×(Nat→Nat)} {c:Int} (h:Qt lo hi (tick x.1 c,x.2) y):Qt lo hi x y:=h
end
end Go.Proofs.YtdajceakaakdoaaGreat

namespace Go.Proofs.YtdajceakaakdoaaGreat
open Go Go.Hl
def rdB (x:Nd):Bool:=decide (0≤x.a)&&decide (x.k≠4)
def Wy (l:List St) (k after:Nat):Nat:=if l=[] then after else k
structure Gd (N:List Nd) (steps:List St) (nv k:Nat) (D:Nat→Nat):Prop where
 all:∀v,v<nv→Rc N steps nv k (D v)∧Qi steps (D v)=(v:Int)
section
variable {N:List Nd} {steps:List St} {nv:Nat} {vars:List Vr} {hv:List Int} {kO:Nat→Bool}
theorem Gd.pass {k to:Nat} {D:Nat→Nat} {x:Nd} (h:Gd N steps nv k D) (hx:N[k]? =some x) (h0:x.k≠0) (hs:WK x to) (ha:QJ steps x=false):Gd N steps nv to D:=
 ⟨fun v hv=>⟨.pass hx h0 hs (h.all v hv).1 (by rw[ha];rfl),(h.all v hv).2⟩⟩
theorem Gd.asg {k to:Nat} {D:Nat→Nat} {x:Nd} {v:Int} (h:Gd N steps nv k D) (hx:N[k]? =some x) (h0:x.k≠0) (hs:WK x to) (ha:QJ steps x=true) (hv0:0≤v) (hva:Zl steps x=v) (hvo:Qi steps x.a.toNat=v):Gd N steps nv to (updD D v.toNat x.a.toNat):=by
 refine⟨fun y hy=>?_⟩;unfold updD;by_cases e:y=v.toNat
 · rw[if_pos e];exact⟨.gen hx h0 hs ha,by rw[hvo,e];omega⟩
 rw[if_neg e];obtain⟨h1,h2⟩:=h.all y hy;refine⟨.pass hx h0 hs h1 ?_,h2⟩;rw[h2,hva];have:(y:Int)≠v:=by omega
 simp[this]
structure Lies (N:List Nd) (steps:List St) (vars:List Vr) (nh:Nat) (l:List St) (o k after:Nat):Prop where
 g:gL l=true
 wf:wfL vars nh l=true
 nd:Sub N k (X04 l o k after)
 st:Sub steps o (flL l)
structure Lie1 (N:List Nd) (steps:List St) (vars:List Vr) (nh:Nat) (d c v n:Int) (t:Tm) (a b:List St) (bs:List Int) (o k mid:Nat):Prop where
 g:gS (.mk d c v n t a b bs)=true
 wf:wfS vars nh (.mk d c v n t a b bs)=true
 nd:Sub N k (X1n (.mk d c v n t a b bs) o k mid)
 st:steps[o]? =some (.mk d c v n t a b bs)
 sa:Sub steps (o+1) (flL a)
 sb:Sub steps (o+1+szL a) (flL b)
variable {nh:Nat}
theorem Lies.cons {d c v n:Int} {t:Tm} {a b:List St} {bs:List Int} {l:List St} {o k after:Nat} (h:Lies N steps vars nh (.mk d c v n t a b bs::l) o k after):
  Lie1 N steps vars nh d c v n t a b bs o k (Wy l (k+wdS (.mk d c v n t a b bs)) after)∧Lies N steps vars nh l (o+(1+szL a+szL b)) (k+wdS (.mk d c v n t a b bs)) after:=by
 obtain⟨hg,hw,hn,hs⟩:=h;simp only[gL,Bool.and_eq_true]at hg;simp only[wfL,Bool.and_eq_true]at hw;simp only[X04]at hn;simp only[flL]at hs;obtain⟨n1,n2⟩:=hn.app;obtain⟨s1,s2⟩:=hs.app;rw[X5f _ _ _ _ hg.1]at n2;rw[XaA]at s2;rw[X9O]at s1;simp only[szS,St.then_,St.else_]at s1 s2 n2;obtain⟨s3,s4⟩:=s1.cons;obtain⟨s5,s6⟩:=s4.app;rw[XY]at s6;refine⟨⟨hg.1,hw.1,n1,s3,s5,s6⟩,hg.2,hw.2,?_,s2⟩;have:((o:Int)+((1+szL a+szL b:Nat):Int))=((o+(1+szL a+szL b):Nat):Int):=by omega
 rw[←this];exact n2
theorem Lie1.if_ {d c v n:Int} {t:Tm} {a b:List St} {bs:List Int} {o k mid:Nat} (h:Lie1 N steps vars nh d c v n t a b bs o k mid) (hd:d=3):
  (∃x,N[k]? =some x∧x.k=3∧x.a=o∧WK x (Wy a (k+1) mid)∧WK x (Wy b (k+1+wdL a) mid))∧Lies N steps vars nh a (o+1) (k+1) mid∧Lies N steps vars nh b (o+1+szL a) (k+1+wdL a) mid:=by
 obtain⟨hg,hw,hn,_,hsa,hsb⟩:=h;simp only[gS,Bool.and_eq_true]at hg;simp only[wfS,Bool.and_eq_true]at hw;unfold X1n at hn;rw[if_pos hd]at hn;obtain⟨h1,h2⟩:=hn.cons;obtain⟨h3,h4⟩:=h2.app;rw[W4 _ _ _ _ hg.2.1]at h4;refine⟨⟨_,h1,rfl,rfl,?_,?_⟩,⟨hg.2.1,hw.2.2.2.2.2.1,h3,hsa⟩,⟨hg.2.2,hw.2.2.2.2.2.2,?_,hsb⟩⟩
 · by_cases e:a=[]<;>simp[WK,Wy,e]
 · by_cases e:b=[]<;>simp[WK,Wy,e]
 have:((o:Int)+1+(szL a:Int))=((o+1+szL a:Nat):Int):=by omega
 rw[←this];exact h4
theorem Lie1.loop {d c v n:Int} {t:Tm} {a b:List St} {bs:List Int} {o k mid:Nat} (h:Lie1 N steps vars nh d c v n t a b bs o k mid) (hd:d=4):
  (∃x,N[k]? =some x∧x.k=4∧WK x (k+1))∧(∃x,N[k+1]? =some x∧x.k=5∧x.a=o∧WK x (Wy a (k+2) (k+1))∧WK x mid)∧Lies N steps vars nh a (o+1) (k+2) (k+1)∧b=[]:=by
 obtain⟨hg,hw,hn,_,hsa,hsb⟩:=h;simp only[gS,Bool.and_eq_true,Bool.or_eq_true,decide_eq_true_eq,List.isEmpty_iff]at hg;simp only[wfS,Bool.and_eq_true]at hw;unfold X1n at hn;rw[if_neg (by omega),if_pos hd]at hn;obtain⟨h1,h2⟩:=hn.cons;obtain⟨h3,h4⟩:=h2.cons;refine⟨⟨_,h1,rfl,?_⟩,⟨_,h3,rfl,rfl,?_,?_⟩,⟨hg.2.1,hw.2.2.2.2.2.1,h4,hsa⟩,?_⟩
 · simp[WK]
 · by_cases e:a=[]<;>simp[WK,Wy,e]
 · simp[WK]
 rcases hg.1 with(h|h)|h
 · omega
 · exact h.2
 exact h.2
theorem Lie1.var {d c v n:Int} {t:Tm} {a b:List St} {bs:List Int} {o k mid:Nat} (h:Lie1 N steps vars nh d c v n t a b bs o k mid) (hd:d=0∨d=5):0≤v∧v.toNat<vars.length:=by
 have hw:=h.wf;simp only[wfS,Bool.and_eq_true,Bool.or_eq_true,decide_eq_true_eq]at hw;have hl:=hw.2.1.resolve_left fun h=>by omega
 obtain⟨h0,w,hw2⟩:=X6Q hl;exact⟨h0,(List.getElem?_eq_some_iff.1 hw2).1⟩
theorem asg_no {x:Nd} (h:x.k≠2):QJ steps x=false:=by simp[QJ,h]
end
theorem lay_nums:∀l:List St,gL l=true→∀(p k after:Nat),(((X04 l p k after).filter rdB).map (·.a)).Pairwise (· < ·)∧∀z∈((X04 l p k after).filter rdB).map (·.a),(p:Int)≤z∧z<p+szL l:=by
 apply St.lind
 · intro _ p k after;simp[X04]
 intro d c v n t a b bs l ia ib il hg p k after;simp only[gL,gS,Bool.and_eq_true]at hg;obtain⟨⟨hs,ga,gb⟩,gl⟩:=hg;have e1:((p:Int)+1)=((p+1:Nat):Int):=by omega
 have e2:(((p+1:Nat):Int)+(szL a:Int))=((p+1+szL a:Nat):Int):=by omega
 have e3:((p:Int)+(szS (.mk d c v n t a b bs):Int))=((p+(1+szL a+szL b):Nat):Int):=by simp only[szS];omega
 have hst:∀after,(((X1n (.mk d c v n t a b bs) p k after).filter rdB).map (·.a)).Pairwise (· < ·)∧∀z∈((X1n (.mk d c v n t a b bs) p k after).filter rdB).map (·.a),(p:Int)≤z∧z<p+(1+szL a+szL b:Nat):=by
  intro after;unfold X1n;rw[e1,e2];split
  · obtain⟨a1,a2⟩:=ia ga (p+1) (k+1) after;obtain⟨b1,b2⟩:=ib gb (p+1+szL a) (k+1+wdL a) after;have hr:rdB ⟨3,p,if a=[] then after else k+1,if b=[] then after else k+1+wdL a⟩=true:=by simp[rdB]
    rw[List.filter_cons_of_pos hr];simp only[List.filter_append,List.map_cons,List.map_append];refine⟨List.pairwise_cons.2 ⟨fun z hz=>?_,List.pairwise_append.2 ⟨a1,b1,fun x hx y hy=>?_⟩⟩,fun z hz=>?_⟩
    · rcases List.mem_append.1 hz with h|h
      · have:=a2 z h;omega
      have:=b2 z h;omega
    · have:=a2 x hx;have:=b2 y hy;omega
    rcases List.mem_cons.1 hz with rfl|hz
    · omega
    rcases List.mem_append.1 hz with h|h
    · have:=a2 z h;omega
    have:=b2 z h;omega
  split
  · obtain⟨a1,a2⟩:=ia ga (p+1) (k+2) (k+1);have hr:¬rdB ⟨4,p,(k:Int)+1,-1⟩=true:=by simp[rdB]
    have hr2:rdB ⟨5,p,if a=[] then(k:Int)+1 else(k:Int)+2,after⟩=true:=by simp[rdB]
    rw[List.filter_cons_of_neg hr,List.filter_cons_of_pos hr2];simp only[List.map_cons];refine⟨List.pairwise_cons.2 ⟨fun z hz=>?_,a1⟩,fun z hz=>?_⟩
    · have:=a2 z hz;omega
    rcases List.mem_cons.1 hz with rfl|hz
    · omega
    have:=a2 z hz;omega
  have hr:rdB ⟨2,p,after,-1⟩=true:=by simp[rdB]
  rw[List.filter_cons_of_pos hr];simp only[List.filter_nil,List.map_cons,List.map_nil];refine⟨List.pairwise_singleton ..,fun z hz=>?_⟩;rw[List.mem_singleton.1 hz];omega
 obtain⟨s1,s2⟩:=hst (if l=[] then after else k+wdS (.mk d c v n t a b bs));obtain⟨l1,l2⟩:=il gl (p+(1+szL a+szL b)) (k+wdS (.mk d c v n t a b bs)) after;simp only[X04];rw[e3];simp only[List.filter_append,List.map_append,szL,szS];refine⟨List.pairwise_append.2 ⟨s1,l1,fun x hx y hy=>?_⟩,fun z hz=>?_⟩
 · have:=s2 x hx;have:=l2 y hy;omega
 rcases List.mem_append.1 hz with h|h
 · have:=s2 z h;omega
 have:=l2 z h;omega
theorem grN_nums {l:List St} (hg:gL l=true):(((grN l).filter rdB).map (·.a)).Pairwise (· < ·):=by
 unfold grN;have h0:∀x:Int,¬rdB ⟨0,-1,x,-1⟩=true:=fun x=>by simp[rdB]
 have h1:¬rdB ⟨1,-1,-1,-1⟩=true:=by simp[rdB]
 rw[List.filter_cons_of_neg (h0 _),List.filter_append,List.filter_cons_of_neg h1,List.filter_nil,List.append_nil];exact(lay_nums l hg 0 1 (1+wdL l)).1
end Go.Proofs.YtdajceakaakdoaaGreat

namespace Go.Proofs.YtdajceakaakdoaaGreat
open Go Go.Hl Go.Shelf Go.Sort
def sortR:Ren:=⟨fun f=>if f=125 then 89 else if f=128 then 159 else if f=129 then 160 else if f=189 then 46 else if f=215 then 176 else if f=216 then 156 else if f=257 then 88 else if f=294 then 150 else if f=295 then 151 else if f=296 then 152 else if f=297 then 153 else if f=298 then 154 else if f=299 then 155 else if f=300 then 157 else if f=301 then 158 else if f=328 then 207 else if f=329 then 208 else if f=330 then 209 else if f=331 then 210 else if f=332 then 211 else if f=343 then 245 else f,fun t=>if t=0 then 0 else if t=3 then 3 else if t=4 then 4 else if t=5 then 5 else if t=9 then 9 else if t=28 then 29 else if t=46 then 162 else if t=51 then 223 else if t=53 then 225 else if t=131 then 142 else if t=182 then 216 else if t=183 then 217 else if t=218 then 273 else if t=222 then 277 else if t=228 then 304 else if t=229 then 227 else t,fun g=>g⟩
theorem sortL:Lays.n189 Tryz.prog sortR where
 mixed:=by kernel_rfl
 f125:=by kernel_rfl
 f128:=by kernel_rfl
 f129:=by kernel_rfl
 f189:=by kernel_rfl
 f215:=by kernel_rfl
 f216:=by kernel_rfl
 f257:=by kernel_rfl
 f294:=by kernel_rfl
 f295:=by kernel_rfl
 f296:=by kernel_rfl
 f297:=by kernel_rfl
 f298:=by kernel_rfl
 f299:=by kernel_rfl
 f300:=by kernel_rfl
 f301:=by kernel_rfl
 f328:=by kernel_rfl
 f329:=by kernel_rfl
 f330:=by kernel_rfl
 f331:=by kernel_rfl
 f332:=by kernel_rfl
 f343:=by kernel_rfl
 t0:=by kernel_rfl
 a0:=fun w=>rfl
 z0:=fun w=>rfl
 v0:=fun w=>rfl
 t3:=by kernel_rfl
 a3:=fun w=>rfl
 z3:=fun w=>rfl
 v3:=fun w=>rfl
 t4:=by kernel_rfl
 a4:=fun w=>rfl
 z4:=fun w=>rfl
 v4:=fun w=>rfl
 t5:=by kernel_rfl
 a5:=fun w=>rfl
 z5:=fun w=>rfl
 v5:=fun w=>rfl
 t9:=by kernel_rfl
 a9:=fun w=>rfl
 z9:=fun w=>rfl
 v9:=fun w=>rfl
 t28:=by kernel_rfl
 a28:=fun w=>rfl
 z28:=fun w=>rfl
 v28:=fun w=>rfl
 t46:=by kernel_rfl
 a46:=fun w=>rfl
 z46:=fun w=>rfl
 v46:=fun w=>rfl
 t51:=by kernel_rfl
 a51:=fun w=>rfl
 z51:=fun w=>rfl
 v51:=fun w=>rfl
 t53:=by kernel_rfl
 a53:=fun w=>rfl
 z53:=fun w=>rfl
 v53:=fun w=>rfl
 t131:=by kernel_rfl
 a131:=fun w=>rfl
 z131:=fun w=>rfl
 v131:=fun w=>rfl
 t182:=by kernel_rfl
 a182:=fun w=>rfl
 z182:=fun w=>rfl
 v182:=fun w=>rfl
 t183:=by kernel_rfl
 a183:=fun w=>rfl
 z183:=fun w=>rfl
 v183:=fun w=>rfl
 t218:=by kernel_rfl
 a218:=fun w=>rfl
 z218:=fun w=>rfl
 v218:=fun w=>rfl
 t222:=by kernel_rfl
 a222:=fun w=>rfl
 z222:=fun w=>rfl
 v222:=fun w=>rfl
 t228:=by kernel_rfl
 a228:=fun w=>rfl
 z228:=fun w=>rfl
 v228:=fun w=>rfl
 t229:=by kernel_rfl
 a229:=fun w=>rfl
 z229:=fun w=>rfl
 v229:=fun w=>rfl
def compR:Ren:=⟨fun f=>if f=20 then 47 else f,fun t=>if t=0 then 0 else if t=3 then 3 else if t=4 then 4 else if t=22 then 29 else t,fun g=>g⟩
theorem compL:Lays2.n20 Tryz.prog compR where
 mixed:=by kernel_rfl
 f20:=by kernel_rfl
 t0:=by kernel_rfl
 a0:=fun w=>rfl
 z0:=fun w=>rfl
 v0:=fun w=>rfl
 t3:=by kernel_rfl
 a3:=fun w=>rfl
 z3:=fun w=>rfl
 v3:=fun w=>rfl
 t4:=by kernel_rfl
 a4:=fun w=>rfl
 z4:=fun w=>rfl
 v4:=fun w=>rfl
 t22:=by kernel_rfl
 a22:=fun w=>rfl
 z22:=fun w=>rfl
 v22:=fun w=>rfl
 i3:=by kernel_rfl
structure RowOut (w w':World) (g o:Nat) (ys:List Int):Prop where
 os:w'.os=w.os
 tape:w'.tape=w.tape
 output:w'.output=w.output
 size:w.heap.size≤w'.heap.size
 other:∀k,k<w.heap.size→k≠g→w'.heap[k]? =w.heap[k]?
 cells:∀cur t x,w.heap[g]? =some (.cells cur t x)→∃cur':Array Value,w'.heap[g]? =some (.cells cur' t x)∧cur'.size=cur.size∧∀k (hk:k<ys.length),o+k<cur.size→cur'[o+k]? =some (.int .i64 ys[k])
theorem X5R (w:World) (q g o:Nat) (os:Array Obj) (ys:List Int) (m:Nat) (hg:g<w.heap.size):RowOut w (grow (putRow (Value.int .i64) (Sort.ahead w q) g o (ys++List.replicate m 0).toArray) os) g o ys:=by
 have hsz:(putRow (Value.int .i64) (Sort.ahead w q) g o (ys++List.replicate m 0).toArray).heap.size=w.heap.size:=by simp[putRow,mapBlock]
 refine⟨rfl,rfl,rfl,by simp only[grow,Array.size_append,hsz];omega,fun k hk hne=>?_,fun cur t x hc=>?_⟩
 · rw[heap_grow_old _ _ (by rw[hsz];exact hk)];simp only[putRow,mapBlock,heap_ahead,Array.getElem?_modify];rw[if_neg fun h=>hne h.symm]
 refine⟨putCells (Value.int .i64) o (ys++List.replicate m 0).toArray cur,?_,by simp[putCells],fun k hk hkc=>?_⟩
 · rw[heap_grow_old _ _ (by rw[hsz];exact hg)];simp only[putRow,mapBlock,heap_ahead,Array.getElem?_modify,if_true,hc];rfl
 simp only[putCells,Array.getElem?_mapIdx,Array.getElem?_eq_getElem hkc,Option.map_some,Nat.add_sub_cancel_left];rw[if_pos ⟨by omega,by simp;omega⟩];congr 2;rw[getElem!_pos _ k (by simp;omega)];simp[hk]
theorem X97 {zs:List Int} {a b:Nat} {d:CD} (h:XG (Xi zs) a b=some d):b=0∧∃n,zs[a]? =some n∧d=iC n:=by
 unfold XG at h;rw[X5N]at h;cases hz:zs[a]? with
 |none=>rw[hz]at h;cases h
 | some n=>
   rw[hz]at h;cases b with
   |zero=>cases h;exact⟨rfl,n,rfl,rfl⟩
   |succ b=>cases h
theorem row_con {f:FuncId} (hcall:XU Tryz.prog f=true) (zs ys:List Int) (hz:0<zs.length) (hle:ys.length≤zs.length) (r:RV) (rv:Nat→Nat→Nat→Value) (hr:∀(F:Nat→Prop) (γ:Nat→Value) (w:World) (g o cap:Nat),γ 900001=.slice (some ⟨g,o,none⟩) ys.length cap→X9 F γ w r (rv g o cap))
  (key:∀(g o cap:Nat) (w:World),Holds (Value.int .i64) w g o zs.toArray→g<w.heap.size→zs.length≤cap→cap≤maxLen→Calls Tryz.prog f #[.slice (some ⟨g,o,none⟩) zs.length cap] w fun e w'=>e=.returned (rv g o cap)∧RowOut w w' g o ys):
  X4N Tryz.prog f [(900001,.row 3 1 (Xi zs))] [.one (.own 900001)] r [(900001,.row 3 1 (Xi ys))]:=by
 refine⟨hcall,fun F γ w vs hh hsz hargs=>?_⟩;have hob:=hh.ob 900001 _ rfl;have hap:=hh.apart 900001 _ rfl;obtain⟨h0,hrs,xs,⟨hxl,hown⟩,hx1,hc⟩:=hob;rcases hown with⟨_,hn⟩|⟨g,o,cap,cur,hv,hB,hg,hcap,hmax,hcs,htake⟩
 · rw[WU]at hn;omega
 rw[WU]at hxl hcap htake hv;rw[Nat.mul_one]at hxl htake hcs;obtain⟨l⟩:=vs
 match l,hsz with
 | [v0],_=>
   have a0:Xn F γ w (.own 900001) v0:=hargs 0 _ v0 rfl rfl;have e0:v0=.slice (some ⟨g,o,none⟩) zs.length cap:=by rw[a0.1,hv];rfl
   subst e0
   have hcur:∀k (hk:k<zs.length),cur[o+k]? =some (.int .i64 zs[k]):=by
    intro k hk;obtain⟨u,hu,hr⟩:=hc k 0 (iC zs[k]) (by unfold XG;rw[X5N];simp[hk]);cases hr;have:xs[k]? =cur[o+k]? :=by rw[←htake,List.getElem?_take,if_pos hk,List.getElem?_drop,Array.getElem?_toList]
    rw[←this];simpa using hu
   have hH:Holds (Value.int .i64) w g o zs.toArray:=by
    intro k hk;have hk':k<zs.length:=by simpa using hk
    refine⟨?_,?_⟩
    · have:w.cell? ⟨g,o+k,none⟩=cur[o+k]? :=by simp[World.cell?,hg]
      rw[this,hcur k hk'];simp[hk']
    simp[World.frozen?,hg]
   have hgs:g<w.heap.size:=(Array.getElem?_eq_some_iff.1 hg).1;refine(key g o cap w hH hgs hcap hmax).mono ?_;rintro e w' ⟨rfl,hout⟩;obtain⟨cur',hg',hcs',hcell⟩:=hout.cells cur _ _ hg
   have hkept:Kept (ownB γ [(900001,.row 3 1 (Xi zs))] w) w w':=
    ⟨hout.os,hout.tape,hout.output,hout.size,fun k hk=>hout.other k hk.1 fun e=>by subst e;exact hB hk⟩
   have hnF:¬F g:=hap g (by rw[hv];rfl)
   let γ':Nat→Value:=fun n=>if n=900001 then .slice (some ⟨g,o,none⟩) ys.length cap else γ n
   have hγ:γ' 900001=.slice (some ⟨g,o,none⟩) ys.length cap:=rfl
   have hrow:Xr (fun c=>F c∨False) w' (ownB γ [(900001,.row 3 1 (Xi zs))] w) 3 1 (γ' 900001) (Xi ys):=by
    refine⟨by decide,?_,ys.map (Value.int .i64),⟨by simp,.inr ⟨g,o,cap,cur',?_,hB,hg',by rw[WU];omega,hmax,?_,?_⟩⟩,?_,?_⟩
    · intro r hr;simp only[Xi,List.mem_map]at hr;obtain⟨n,_,rfl⟩:=hr;rfl
    · rw[hγ,WU]
    · rw[hcs',Nat.mul_one];exact hcs
    · rw[WU,Nat.mul_one];apply List.ext_getElem?;intro k;rw[List.getElem?_take,List.getElem?_drop,List.getElem?_map];by_cases hk:k<ys.length
      · rw[if_pos hk,Array.getElem?_toList,hcell k hk (by omega)];simp[hk]
      rw[if_neg hk,List.getElem?_eq_none (by omega)];rfl
    · intro u hu;obtain⟨n,_,rfl⟩:=List.mem_map.1 hu;rfl
    intro a b d hd;obtain⟨rfl,n,hn,rfl⟩:=X97 hd;exact⟨.int .i64 n,by simp[hn],CRel.lit _⟩
   have hblk:∀b,Blk (γ' 900001) b↔b=g:=by
    intro b;rw[hγ];exact⟨fun h=>by cases h;rfl,fun h=>by subst h;rfl⟩
   have hlook:∀n o,lkp [(900001,Ob.row 3 1 (Xi ys))] n=some o→n=900001∧o=.row 3 1 (Xi ys):=by
    intro n o hl;simp only[lkp]at hl;split at hl
    · rename_i e;cases hl;exact⟨e.symm,rfl⟩
    cases hl
   refine⟨_,fun _=>False,γ',rfl,hkept,fun c hc=>hc.elim,hr _ γ' w' g o cap hγ,?_,fun n cs hl=>?_⟩
   · exact {
      below:=hkept
      hB:=fun b hb=>Nat.lt_of_lt_of_le hb.1 hout.size
      fsz:=fun c hc=>Nat.lt_of_lt_of_le (hh.fsz c (hc.resolve_right id)) hout.size
      ob:=fun n o hl=>by
       obtain⟨rfl,rfl⟩:=hlook n o hl;exact hrow
      apart:=fun n o hl b hb hFb=>by
       obtain⟨rfl,rfl⟩:=hlook n o hl;rw[hblk]at hb;subst hb;exact hnF (hFb.resolve_right id)
      sep:=fun n m on om hn hm hne=>by
       obtain⟨rfl,_⟩:=hlook n on hn;obtain⟨rfl,_⟩:=hlook m om hm;exact absurd rfl hne
      pin:=fun n v hv=>by cases hv}
   simp only[lkp]at hl;split at hl
   · cases hl
   cases hl
theorem X8O (zs:List Int) (hz:0<zs.length) (hl:zs.length≤17592186044416):
  X4N Tryz.prog 47 [(900001,.row 3 1 (Xi zs))] [.one (.own 900001)] (.v (.one (.own 900001))) [(900001,.row 3 1 (Xi (Lib.compact zs)))]:=by
 have hle:(Lib.compact zs).length≤zs.length:=by
  unfold Lib.compact Lib.compactUpTo;rw[List.length_map];exact Nat.le_trans (List.length_filter_le _ _) (by simp)
 refine row_con (by kernel_rfl) zs _ hz hle _ (fun g o cap=>.slice (some ⟨g,o,none⟩) (Lib.compact zs).length cap) (fun F γ w g o cap h=>⟨by rw[h];rfl,rfl⟩) fun g o cap w hH hg hcap hmax=>?_;have h:=Any.slices_Compact_int compL g o cap zs w hH (by omega) hcap;refine h.mono ?_;rintro e w' ⟨rfl,q,rfl⟩;refine⟨rfl,?_⟩;have:=X5R w q g o #[] (Lib.compact zs) (zs.length - (Lib.compact zs).length) hg;have hgr:∀v:World,grow v #[]=v:=fun v=>by simp[grow]
 rwa [hgr]at this
theorem rowR_con {f:FuncId} (hcall:XU Tryz.prog f=true) (zs ys:List Int) (hz:0<zs.length) (hle:ys.length=zs.length)
  (key:∀(g o cap:Nat) (w:World),Holds (Value.int .i64) w g o zs.toArray→g<w.heap.size→zs.length≤cap→cap≤maxLen→Calls Tryz.prog f #[.slice (some ⟨g,o,none⟩) zs.length cap] w fun e w'=>e=.returned (.tuple #[])∧RowOut w w' g o ys):
  ConR Tryz.prog f 3 1 (Xi zs) (Xi ys):=by
 refine⟨hcall,fun F B w v hro hF hvF=>?_⟩;obtain⟨h0,hrs,xs,⟨hxl,hown⟩,hx1,hc⟩:=hro;rcases hown with⟨_,hn⟩|⟨g,o,cap,cur,rfl,hB,hg,hcap,hmax,hcs,htake⟩
 · rw[WU]at hn;omega
 rw[WU]at hxl hcap htake⊢;rw[Nat.mul_one]at hxl htake hcs
 have hcur:∀k (hk:k<zs.length),cur[o+k]? =some (.int .i64 zs[k]):=by
  intro k hk;obtain⟨u,hu,hr⟩:=hc k 0 (iC zs[k]) (by unfold XG;rw[X5N];simp[hk]);cases hr;have:xs[k]? =cur[o+k]? :=by rw[←htake,List.getElem?_take,if_pos hk,List.getElem?_drop,Array.getElem?_toList]
  rw[←this];simpa using hu
 have hH:Holds (Value.int .i64) w g o zs.toArray:=by
  intro k hk;have hk':k<zs.length:=by simpa using hk
  refine⟨?_,?_⟩
  · have:w.cell? ⟨g,o+k,none⟩=cur[o+k]? :=by simp[World.cell?,hg]
    rw[this,hcur k hk'];simp[hk']
  simp[World.frozen?,hg]
 have hgs:g<w.heap.size:=(Array.getElem?_eq_some_iff.1 hg).1;refine(key g o cap w hH hgs hcap hmax).mono ?_;rintro e w' ⟨rfl,hout⟩;obtain⟨cur',hg',hcs',hcell⟩:=hout.cells cur _ _ hg;refine⟨rfl,hout.os,hout.tape,hout.output,hout.size,fun k hk hne=>hout.other k hk fun e=>hne (by rw[e];rfl),by decide,?_,ys.map (Value.int .i64),⟨by simp,.inr ⟨g,o,cap,cur',?_,hB,hg',by rw[WU];omega,hmax,?_,?_⟩⟩,?_,?_⟩
 · intro r hr;simp only[Xi,List.mem_map]at hr;obtain⟨n,_,rfl⟩:=hr;rfl
 · rw[WU,hle]
 · rw[hcs',Nat.mul_one];exact hcs
 · rw[WU,Nat.mul_one];apply List.ext_getElem?;intro k;rw[List.getElem?_take,List.getElem?_drop,List.getElem?_map];by_cases hk:k<ys.length
   · rw[if_pos hk,Array.getElem?_toList,hcell k hk (by omega)];simp[hk]
   rw[if_neg hk,List.getElem?_eq_none (by omega)];rfl
 · intro u hu;obtain⟨n,_,rfl⟩:=List.mem_map.1 hu;rfl
 intro a b d hd;obtain⟨rfl,n,hn,rfl⟩:=X97 hd;exact⟨.int .i64 n,by simp[hn],CRel.lit _⟩
theorem X6E (zs:List Int) (hz:0<zs.length) (hl:zs.length≤17592186044416):ConR Tryz.prog 46 3 1 (Xi zs) (Xi (zs.mergeSort fun x y=>decide (x≤y))):=by
 refine rowR_con (by kernel_rfl) zs _ hz (List.length_mergeSort _) fun g o cap w hH hg hcap hmax=>?_;have h:=Any.slices_Sort_int sortL g o cap zs w hH hg (by omega);refine h.mono ?_;rintro e w' ⟨rfl,q,os,rfl⟩;refine⟨rfl,?_⟩;have:=X5R w q g o os (zs.mergeSort fun x y=>decide (x≤y)) 0 hg;simpa using this
theorem X4h (d:Nat):Con Tryz.prog 46 true [lI []] (.tup []) none d:=by
 refine⟨by kernel_rfl,fun F w vs hF hsz hargs=>?_⟩;obtain⟨l⟩:=vs
 match l,hsz with
 | [v0],_=>
   have a0:CRel F w (.sl 1 []) v0:=hargs 0 _ v0 rfl rfl
   have key:∃p cap,v0=.slice p 0 cap:=by
    cases a0 with
    |nil=>exact⟨_,_,rfl⟩
    |emp a cap=>exact⟨_,_,rfl⟩
    |sl rows b o cap cells=>exact⟨_,_,rfl⟩
   obtain⟨p,cap,rfl⟩:=key;refine(Any.slices_Sort_int_none sortL p cap w).mono ?_;rintro e w' ⟨rfl,rfl⟩;exact⟨_,fun _=>False,noγ,rfl,⟨rfl,rfl,rfl,Nat.le_refl _,fun _ _=>rfl⟩,fun b hb=>hb.elim,⟨#[],rfl,rfl,fun j t u h1 h2=>by simp at h1⟩,fun o ho=>by cases ho⟩
end Go.Proofs.YtdajceakaakdoaaGreat

namespace Go.Proofs.YtdajceakaakdoaaGreat
open Go Go.Hl
def Pd (N:List Nd) (steps:List St) (nv:Nat) (S:List (List Nat)) (i:Nat) (Q:Prop):Prop:=(∀j,j<i→clo N steps nv S j)∧Q
def toA (xn xo:Int) (k:Nat):Int:=if k=0 then xn else xo
def toR (xn xo:Int):List (List CD):=[[iC xn],[iC xo]]
@[simp] theorem toR_len (xn xo:Int):(toR xn xo).length=2:=rfl
theorem toA_get {xn xo:Int} {k:Nat} (h:k<2):(toR xn xo)[k]? =some [iC (toA xn xo k)]:=by
 match k,h with
 |0,_=>rfl
 |1,_=>rfl
def lS2 (S:List (List Nat)) (to:Int) (l:List Nat):Prop:=∀d∈l,inS S to d
theorem clo_of {N:List Nd} {steps:List St} {nv i:Nat} {S:List (List Nat)} {x:Nd} {Si l:List Nat} (hx:N[i]? =some x) (hS:S[i]? =some Si) (hl:∀d,d∈l↔d∈X5B steps nv Si x) (h:∀j,j<2→lS2 S (toA x.n x.o j) l):clo N steps nv S i:=by
 intro x' Si' hx' hS' d hd to q ht hq;rw[hx]at hx';rw[hS]at hS';cases hx';cases hS';rcases ht with ht|ht
 · exact h 0 (by omega) d ((hl d).2 hd) to q ht hq
 exact h 1 (by omega) d ((hl d).2 hd) to q ht hq
def X36 (R:List (Option (List (List CD)))) (y:Nat) (out:List Nat):List (Option (List (List CD))):=R.set y (X2D out)
@[simp] theorem matY_len (R:List (Option (List (List CD)))) (y:Nat) (out:List Nat):(X36 R y out).length=R.length:=by simp[X36]
theorem X1V {R:List (Option (List (List CD)))} {y:Nat} (h:y+1≤R.length) (out:List Nat):(X36 R y out)[y]? =some (X2D out):=by
 unfold X36;rw[List.getElem?_set_self (by omega)]
theorem Xbw {R:List (Option (List (List CD)))} {y:Nat} (h:y+1≤R.length):X1w (X36 R y []) y=true:=by
 unfold X1w;rw[X1V h];rfl
theorem X84 (R:List (Option (List (List CD)))) (y:Nat) (out:List Nat) (r:Option (List (List CD))):(X36 R y out).set y r=R.set y r:=by simp[X36]
theorem X6i (R:List (Option (List (List CD)))) (y:Nat) (out l:List Nat) (d:Nat):(X36 R y out).set y (some (WC l++[[iC d]]))=X36 R y (l++[d]):=by
 rw[X84];simp[X36,X2D]
theorem Xcd {R:List (Option (List (List CD)))} {y:Nat} (h:R[y]? =some none):X36 R y []=R:=by
 unfold X36 X2D;rw[if_pos rfl];apply List.ext_getElem?;intro k;rw[List.getElem?_set];split
 · rename_i e;subst e;rw[if_pos (List.getElem?_eq_some_iff.1 h).1,h]
 rfl
theorem rcL_row {N:List Nd} {steps:List St} {nv:Nat} {S:List (List Nat)} (g:Gs N steps nv S) (hc:∀i,i<N.length→clo N steps nv S i) (hlt:∀to d,Rc N steps nv to d→d<steps.length+nv) {i:Nat} {Si:List Nat} (hS:S[i]? =some Si):
  ∃l,(rcL N steps nv)[i]? =some l∧(∀x,x∈Si↔x∈l)∧∀out:List Nat,out.Nodup→(∀x,x∈out↔x∈Si)→Xi (srtN out)=WC l:=by
 classical
 have hi:i<N.length:=by rw[←g.len];exact(List.getElem?_eq_some_iff.1 hS).1
 refine⟨(List.range (steps.length+nv)).filter fun d=>decide (Rc N steps nv i d),by simp[rcL,hi],?_,fun out hn ho=>?_⟩
 · intro x;rw[List.mem_filter,List.mem_range,decide_eq_true_eq];exact⟨fun h=>⟨g.lt Si (List.mem_of_getElem? hS) x h,g.snd i Si x hS h⟩,fun h=>clo_rc g hc hS h.2⟩
 refine srt_eq hn fun x=>?_;rw[ho,decide_eq_true_eq];exact⟨fun h=>⟨g.lt Si (List.mem_of_getElem? hS) x h,g.snd i Si x hS h⟩,fun h=>clo_rc g hc hS h.2⟩
theorem X3o (N:List Nd) (steps:List St) (nv:Nat):(rcL N steps nv).length=N.length:=by simp[rcL]
theorem X5x (d:Nat):Con Tryz.prog 46 true [.one (.c (.lit XW))] (.tup []) none d:=by
 obtain⟨h1,h2⟩:=X4h d;refine⟨h1,fun F w vs hF hsz hargs=>h2 F w vs hF hsz fun j t u ht hu=>?_⟩;cases j with
 | zero=>
   cases ht;have a0:CRel F w (.lit XW) u:=hargs 0 _ u rfl hu;cases a0;exact CRel.nil 1
 |succ j=>simp at ht
set_option maxHeartbeats 8000000 in
theorem X7p (f:Fl) (h:Sm f) (h0:XR f=0) (d:Nat):Con Tryz.prog 64 false [aF f,.agg [.c (grC f.body)]] (.tup [.one (.c (.sl 1 (WS (rcL (grN f.body) (flL f.body) f.vars.length)))),li 0]) none d:=by
 have cc:=X79 f h h0;have cf:=X82 f.body h.sz;have hok:=X5P (X0o h0);have hlen:=X0X (X0o h0);have hsl:=XY f.body;have hsz:=h.sz;have hwd:=X3Q f.body;have hv:=h.vars;have caft:=XbW f (grN f.body) (flL f.body);obtain⟨vars,hats,body⟩:=f;simp only at cf hok hlen hsl hsz hwd hv caft;obtain⟨N,hN⟩:∃x,grN body=x:=⟨_,rfl⟩;obtain⟨steps,hst⟩:∃x,flL body=x:=⟨_,rfl⟩;simp only[grC,hN]at cc;rw[hN]at hok hlen;rw[hN,hst]at caft;rw[←hsl]at hok;rw[hst]at cf hsl hok;simp only[grC,hN,hst];have hN2:N.length≤2002:=by omega
 have hs2:steps.length≤1000:=by omega
 clear hN hst h h0 hlen hwd hsl hsz;refine X5 Tryz.func64 ?_;simp only[Tryz.f64];simp only[aF,Fl.enc,List.map_cons,List.map_nil]at cc⊢;refine X1 ?_;refine X0<|X0<|(Xp [⟨true,.v (li 0),none⟩] ?_ ?_)
 · first|exact cc _|exact trivial|simpa[*]using cc _
 refine X1 ?_;refine(Xc rfl (fun h3=>?_) fun h3=>?_)
 · exact Bool.noConfusion h3
 (try simp only[BN]at h3);refine Xm [⟨false,.v (lS steps),none⟩] ?_ ?_
 · first|exact cf _|exact trivial|simpa[*]using cf _
 have hbig:(8:Int)*N.length≤281474976710656:=by omega
 have hmx:N.length≤maxLen:=by unfold maxLen;omega
 refine X1 ?_;refine XH (le_mps 36 (by decide) rfl rfl rfl) ?_;refine X0<|X0<|X2 ?_;refine X3<|(Xf [2,3,7,8,38] (fun(y:Nat)=>[(39,.v (li y))]) (fun y=>[(2,.box [.c (.sl 5 (Xu vars)),.c (.sl 6 (Xv hats)),.c (.sl 10 (X8 body))]),(3,.box [.c (.sl 4 (Qk N))]),(7,.box [.c (.sl 10 (X8 steps))]),(8,.box [.own 36]),(36,.mps 191 (msI y N.length))]) (fun y=>y≤N.length) (fun y=>N.length - y) (0:Nat) (Nat.zero_le _) ?_ ?_)
 · exact Xx (fun n=>n) [] rfl (by simp[*,upS,X6]) (by simp[*,upS,msI_zero]) (by simp[upS])
 rintro y hy;simp only[upS,X6,XB]
 try simp only[X6,KN,Nat.reduceBEq,if_true,if_false,ins,Nat.reduceLT]
 refine X1 ?_;refine X0<|(X7 rfl (fun h11=>Xb ?_) (fun h11=>?_))
 · (try simp only[BN]at h11);have hlt:y<N.length:=by omega
   have hw1:=XE hlt (by omega);have hk1:y+1≤N.length:=hlt;have hin:y<(msI y N.length).length:=by rw[msI_len hy];exact hlt
   have hfr:=msI_free hlt;have hset:=msI_set hlt;clear hlt h11;refine X0<|X3<|X0<|X2 ?_;refine X2 ?_;refine X2 ?_;exact⟨y+1,hk1,by omega,X4 (fun n=>n) []⟩
 (try simp only[BN]at h11);have hyn:y=N.length:=by omega
 subst hyn;rw[msI_end];refine(Xg ?_);refine X1 ?_;refine X1 ?_;refine X0<|X0<|X2 ?_;refine X3<|(Xf [3,8,11] (fun(y:Bool×List (List Nat))=>[(12,.v (lb y.1))]) (fun(y:Bool×List (List Nat))=>[(2,.box [.c (.sl 5 (Xu vars)),.c (.sl 6 (Xv hats)),.c (.sl 10 (X8 body))]),(3,.box [.c (.sl 4 (Qk N))]),(7,.box [.c (.sl 10 (X8 steps))]),(8,.box [.own 36]),(10,.box [.fn 122 [(7,0)]]),(36,.mps 191 (msS y.2))]) (fun(y:Bool×List (List Nat))=>Gs N steps vars.length y.2∧(y.1=false→∀i,i<N.length→clo N steps vars.length y.2 i)) (fun(y:Bool×List (List Nat))=>2*(N.length*(steps.length+vars.length)+1 - Z6 y.2)+(if y.1=true then 1 else 0)) (true,List.replicate N.length []) ⟨Gs.empty ..,fun h=>by cases h⟩ ?_ ?_)
 · exact X4 (fun n=>n) []
 rintro⟨c0,S0⟩ ⟨hg0,hcl0⟩;simp only[upS,X6,XB]
 try simp only[X6,KN,Nat.reduceBEq,if_true,if_false,ins,Nat.reduceLT]
 simp only at hg0 hcl0;refine X0<|X0<|X2 ?_;refine(X7 rfl (fun h21=>Xb ?_) (fun h21=>?_))
 · (try simp only[BN]at h21);have hc0:c0=true:=by simpa using h21
   subst hc0;clear hcl0 h21;have htot0:=X9d hg0;refine X3<|X0<|X2 ?_;refine X1 ?_;refine X3<|(Xf [3,8,11,51,52] (fun(y:Nat×Bool×List (List Nat))=>[(12,.v (lb y.2.1)),(53,.v (li y.1))]) (fun(y:Nat×Bool×List (List Nat))=>[(2,.box [.c (.sl 5 (Xu vars)),.c (.sl 6 (Xv hats)),.c (.sl 10 (X8 body))]),(3,.box [.c (.sl 4 (Qk N))]),(7,.box [.c (.sl 10 (X8 steps))]),(8,.box [.own 36]),(10,.box [.fn 122 [(7,0)]]),(36,.mps 191 (msS y.2.2))]) (fun(y:Nat×Bool×List (List Nat))=>y.1≤N.length∧Inv N steps vars.length S0 y.2.2 y.2.1 (Pd N steps vars.length S0 y.1 True)) (fun(y:Nat×Bool×List (List Nat))=>N.length - y.1) (0,false,S0) ⟨Nat.zero_le _,hg0,Nat.le_refl _,fun h=>(by cases h),fun _=>⟨rfl,fun j hj=>absurd hj (Nat.not_lt_zero j),trivial⟩⟩ ?_ ?_)
   · exact X4 (fun n=>n) []
   rintro⟨i,c1,S1⟩ ⟨hi,hI⟩;simp only[upS,X6,XB]
   try simp only[X6,KN,Nat.reduceBEq,if_true,if_false,ins,Nat.reduceLT]
   simp only at hi hI;refine X1 ?_;refine X0<|(X7 rfl (fun h26=>Xb ?_) (fun h26=>?_))
   · (try simp only[BN]at h26);have hlt:i<N.length:=by omega
     have hw1:=XE hlt (by omega);have hk1:i+1≤N.length:=hlt;obtain⟨x,hx,_⟩:=Xt hlt;obtain⟨Si,hS,_⟩:=Xt (show i<S1.length by rw[hI.g.len];exact hlt);have hxe:=X3D hx;have hxo:=hok x (List.mem_of_getElem? hx);have hSm:Si∈S1:=List.mem_of_getElem? hS;have ca:=caft S1 i x Si hx hS (by omega) hv (Nat.le_trans (Wp (hI.g.nod Si hSm) (hI.g.lt Si hSm)) (by omega)) (fun d hd=>by have:=hI.g.lt Si hSm d hd;omega) hxo.ha 60 (by decide);obtain⟨xk,xa,xn,xo⟩:=x;simp only[Nd.enc]at hxe;simp only[Fl.enc,setsC,kC]at ca;clear hlt h26;refine X0<|X3<|X0<|(Xq (by simp[*,XO];rfl) ?_);refine X0<|(XN ?_);refine RunsN.cutE 2 [] (by simp;rfl) trivial (le_refl _) ?_;refine RunsN.callFA ca fun l hl=>?_;refine RunsN.doneE [] (by simp[HS.made];rfl) trivial ?_;have hrc:∀d∈l,∀to,WK ⟨xk,xa,xn,xo⟩ to→Rc N steps vars.length to d:=fun d hd to ht=>aft_rc hI.g hx hS ((hl.1 d).1 hd) ht
     have hrl:∀d∈l,∀to,WK ⟨xk,xa,xn,xo⟩ to→d<steps.length+vars.length:=fun d hd to ht=>rc_lt (fun x hx ha=>by
      rcases(hok x hx).ha with h|⟨m,h1,h2⟩
      · simp[QJ,h.1]at ha
      rw[h1];simpa using h2) (hrc d hd to ht)
     have hclo:∀S,S=S0→c1=false→(∀j,j<2→lS2 S (toA xn xo j) l)→clo N steps vars.length S0 i:=by
      intro S hS0 hc h;obtain⟨h1,_⟩:=hI.same hc;subst h1;subst hS0;exact clo_of hx hS hl.1 h
     have hS1c:c1=false→S1=S0:=fun hc=>(hI.same hc).1;have hll:=hl.2;clear ca hxe hS hSm caft;refine X1 ?_;refine X3<|(Xf [3,8,11,15,51,52,53,65,66] (fun(y:Nat×Bool×List (List Nat))=>[(12,.v (lb y.2.1)),(67,.v (li y.1))]) (fun(y:Nat×Bool×List (List Nat))=>[(2,.box [.c (.sl 5 (Xu vars)),.c (.sl 6 (Xv hats)),.c (.sl 10 (X8 body))]),(3,.box [.c (.sl 4 (Qk N))]),(7,.box [.c (.sl 10 (X8 steps))]),(8,.box [.own 36]),(10,.box [.fn 122 [(7,0)]]),(36,.mps 191 (msS y.2.2)),(60,.row 3 1 (WC l)),(65,.row 3 1 (toR xn xo))]) (fun(y:Nat×Bool×List (List Nat))=>y.1≤2∧Inv N steps vars.length S0 y.2.2 y.2.1 (Pd N steps vars.length S0 i (c1=false∧∀j,j<y.1→lS2 S0 (toA xn xo j) l))) (fun(y:Nat×Bool×List (List Nat))=>2 - y.1) (0,c1,S1) ⟨Nat.zero_le _,⟨hI.g,hI.tot,hI.up,fun hc=>⟨(hI.same hc).1,(hI.same hc).2.1,hc,fun j hj=>absurd hj (Nat.not_lt_zero j)⟩⟩⟩ ?_ ?_)
     · exact Xx (fun n=>n) [] rfl (by simp[*,upS,X6]) (by simp[*,upS,toR]) (by simp[upS])
     rintro⟨k,c2,S2⟩ ⟨hk,hI2⟩;simp only[upS,X6,XB]
     try simp only[X6,KN,Nat.reduceBEq,if_true,if_false,ins,Nat.reduceLT]
     simp only at hk hI2;refine X1 ?_;refine X0<|(X7 rfl (fun h32=>Xb ?_) (fun h32=>?_))
     · try simp only[BN]at h32
       have hk2:k<2:=by
        have:(k:Int)<2:=by simpa using h32
        omega
       have hwk:=XE hk2 (by omega);have hkk:k+1≤2:=hk2;have hto:=toA_get (xn:=xn) (xo:=xo) hk2
       have hsuc:∀t:Nat,toA xn xo k=t→WK ⟨xk,xa,xn,xo⟩ t:=by
        intro t ht;unfold toA at ht;split at ht
        · exact .inl ht
        exact .inr ht
       have htok:X4K N.length (toA xn xo k):=by
        unfold toA;split
        · exact hxo.hn
        exact hxo.ho
       obtain⟨to,hto1⟩:∃x,toA xn xo k=x:=⟨_,rfl⟩;rw[hto1]at hto hsuc htok;clear h32 hk2;refine X0<|X3<|X0<|X2 ?_;refine X1 ?_;refine X3<|(Xf [3,8,11,15,17,51,52,53,65,66,67,71,72] (fun(y:Nat×Bool×List (List Nat))=>[(12,.v (lb y.2.1)),(73,.v (li y.1))]) (fun(y:Nat×Bool×List (List Nat))=>[(2,.box [.c (.sl 5 (Xu vars)),.c (.sl 6 (Xv hats)),.c (.sl 10 (X8 body))]),(3,.box [.c (.sl 4 (Qk N))]),(7,.box [.c (.sl 10 (X8 steps))]),(8,.box [.own 36]),(10,.box [.fn 122 [(7,0)]]),(36,.mps 191 (msS y.2.2)),(60,.row 3 1 (WC l)),(65,.row 3 1 (toR xn xo))]) (fun(y:Nat×Bool×List (List Nat))=>y.1≤l.length∧Inv N steps vars.length S0 y.2.2 y.2.1 (Pd N steps vars.length S0 i (c1=false∧(∀j,j<k→lS2 S0 (toA xn xo j) l)∧lS2 S0 to (l.take y.1)))) (fun(y:Nat×Bool×List (List Nat))=>l.length - y.1) (0,c2,S2) ⟨Nat.zero_le _,hI2.mono fun _ h=>⟨h.1,h.2.1,h.2.2,fun d hd=>by simp at hd⟩⟩ ?_ ?_)
       · exact X4 (fun n=>n) []
       rintro⟨m,c3,S3⟩ ⟨hm,hI3⟩;simp only[upS,X6,XB]
       try simp only[X6,KN,Nat.reduceBEq,if_true,if_false,ins,Nat.reduceLT]
       simp only at hm hI3;refine X1 ?_;refine X0<|(X7 rfl (fun h37=>Xb ?_) (fun h37=>?_))
       · (try simp only[BN]at h37);have hml:m<l.length:=by simpa using h37
         have hwm:=XE hml (by omega);have hm1:m+1≤l.length:=hml;obtain⟨d,hd,_⟩:=Xt hml;have hde:(WC l)[m]? =some [iC d]:=by simp[WC,hd]
         have hdm:=List.mem_of_getElem? hd;clear h37 hml;refine X0<|X3<|X0<|X2 ?_;refine XV [3,8,11,12,15,17,19,51,52,53,65,66,67,71,72,73] (fun(q:Bool)=>[(87,.v (lb q))]) (fun(q:Bool)=>[(2,.box [.c (.sl 5 (Xu vars)),.c (.sl 6 (Xv hats)),.c (.sl 10 (X8 body))]),(3,.box [.c (.sl 4 (Qk N))]),(7,.box [.c (.sl 10 (X8 steps))]),(8,.box [.own 36]),(10,.box [.fn 122 [(7,0)]]),(36,.mps 191 (msS S3)),(60,.row 3 1 (WC l)),(65,.row 3 1 (toR xn xo))]) (fun(q:Bool)=>(q=true→∃(t:Nat) (Lt:List Nat),to=t∧S3[t]? =some Lt∧d∉Lt)∧(q=false→inS S3 to d)) ?_ ?_
         · rcases htok with rfl|⟨t,rfl,htl⟩
           · refine Xq (by simp[*];rfl) ?_;refine⟨false,⟨fun h=>(by cases h),fun _ m l hm=>by omega⟩,Xx (fun n=>n) [] rfl (by simp[upS,X6]) (by simp[upS]) (by simp[upS])⟩
           obtain⟨Lt,hLt,_⟩:=Xt (show t<S3.length by rw[hI3.g.len];exact htl);have hms:=Xat hLt;have hfd:=X52 d Lt;have htl2:t+1≤S3.length:=by rw[hI3.g.len];exact htl
           by_cases hin:d∈Lt
           · rw[if_pos hin]at hfd;refine Xq (by simp[hwm,hms,hfd,htl2];rfl) ?_;refine⟨false,⟨fun h=>(by cases h),fun _ m l hm hl2=>by rw[←Int.ofNat.inj hm,hLt]at hl2;cases hl2;exact hin⟩,Xx (fun n=>n) [] rfl (by simp[upS,X6]) (by simp[upS]) (by simp[upS])⟩
           rw[if_neg hin]at hfd;refine Xq (by simp[hwm,hms,hfd,htl2];rfl) ?_;refine⟨true,⟨fun _=>⟨t,Lt,rfl,hLt,hin⟩,fun h=>(by cases h)⟩,Xx (fun n=>n) [] rfl (by simp[upS,X6]) (by simp[upS]) (by simp[upS])⟩
         rintro q hq;simp only[upS,X6,XB]
         try simp only[X6,KN,Nat.reduceBEq,if_true,if_false,ins,Nat.reduceLT]
         refine(Xc rfl (fun h40=>?_) fun h40=>?_)
         · (try simp only[BN]at h40);obtain⟨t,Lt,rfl,hLt,hnd⟩:=hq.1 (by simpa using h40);have hms:=Xat hLt;have hfd:=X52 d Lt;rw[if_neg hnd]at hfd;have htl2:t+1≤S3.length:=(List.getElem?_eq_some_iff.1 hLt).1;have hset:=set_msS S3 t Lt d;have hinv:=hI3.add (Q:=Pd N steps vars.length S0 i (c1=false∧(∀j,j<k→lS2 S0 (toA xn xo j) l)∧lS2 S0 (t:Int) (l.take (m+1)))) hLt hnd (hrl d hdm t (hsuc t rfl)) (hrc d hdm t (hsuc t rfl));clear hq h40 hI3 hnd hLt;refine X0<|(Xq (by simp[hms,hfd,htl2,hset];rfl) ?_);refine X2 ?_;refine X2 ?_;exact⟨(m+1,true,S3.set t (Lt++[d])),⟨hm1,hinv⟩,by simp only;omega,X4 (fun n=>n) []⟩
         (try simp only[BN]at h40);have hq2:=hq.2 (by simpa using h40);clear hq h40;refine X2 ?_
         exact⟨(m+1,c3,S3),⟨hm1,hI3.mono fun hs h=>⟨h.1,h.2.1,h.2.2.1,fun e he=>by
          rw[List.take_add_one,hd]at he;rcases List.mem_append.1 he with h4|h4
          · exact h.2.2.2 e h4
          have:e=d:=by simpa using h4
          rw[this,←hs];exact hq2⟩⟩,by simp only;omega,X4 (fun n=>n) []⟩
       try simp only[BN]at h37
       have hml:m=l.length:=by
        have:¬m<l.length:=by simpa using h37
        omega
       subst hml;rw[List.take_length]at hI3;clear h37;refine(Xg ?_);refine X2 ?_
       exact⟨(k+1,c3,S3),⟨hkk,hI3.mono fun _ h=>⟨h.1,h.2.1,fun j hj=>by
        rcases Nat.lt_or_eq_of_le (Nat.le_of_lt_succ hj)with h4|h4
        · exact h.2.2.1 j h4
        rw[h4,hto1];exact h.2.2.2⟩⟩,by simp only;omega,X4 (fun n=>n) []⟩
     try simp only[BN]at h32
     have hk2:k=2:=by
      have:¬(k:Int)<2:=by simpa using h32
      omega
     subst hk2;clear h32;refine(Xg ?_);refine X2 ?_
     exact⟨(i+1,c2,S2),⟨hk1,hI2.mono fun hs h=>⟨fun j hj=>by
      rcases Nat.lt_or_eq_of_le (Nat.le_of_lt_succ hj)with h4|h4
      · exact h.1 j h4
      rw[h4];exact hclo S2 hs h.2.1 (by rw[hs];exact h.2.2),trivial⟩⟩,by simp only;omega,X4 (fun n=>n) []⟩
   (try simp only[BN]at h26);have hin:i=N.length:=by omega
   subst hin;have htot1:=X9d hI.g;refine(Xg ?_)
   exact⟨(c1,S1),⟨hI.g,fun hc j hj=>by obtain⟨rfl,h1,_⟩:=hI.same hc;exact h1 j hj⟩,by
    simp only;cases c1 with
    |true=>have:=hI.up rfl;simp only[if_true];omega
    |false=>obtain⟨rfl,_⟩:=hI.same rfl;simp,X4 (fun n=>n) []⟩
 (try simp only[BN]at h21);have hc0:c0=false:=by simpa using h21
 subst hc0;have hcl:=hcl0 rfl
 have hlt:∀to d,Rc N steps vars.length to d→d<steps.length+vars.length:=fun to d h=>rc_lt (fun x hx ha=>by
  rcases(hok x hx).ha with h|⟨m,h1,h2⟩
  · simp[QJ,h.1]at ha
  rw[h1];simpa using h2) h
 have hrow:=fun {i:Nat} {Si:List Nat}=>rcL_row (i:=i) (Si:=Si) hg0 hcl hlt;have hLl:=X3o N steps vars.length;obtain⟨L,hL⟩:∃x,rcL N steps vars.length=x:=⟨_,rfl⟩;rw[hL]at hLl⊢;simp only[hL]at hrow;have hSl:=hg0.len;have hbig2:(24:Int)*N.length≤281474976710656:=by omega
 have hSb:∀Si∈S0,Si.Nodup∧Si.length≤2000:=fun Si h=>⟨hg0.nod Si h,Nat.le_trans (Wp (hg0.nod Si h) (hg0.lt Si h)) (by omega)⟩;clear hcl0 h21 hcl hlt hL caft hg0 hy h11 cf cc hok;refine(Xg ?_);refine XH (le_frzQ 36 rfl) ?_;refine XH (s':=⟨⟨129,none⟩,[(8,.v (.one (.at_ 8 0)))],[(8,.box [.c (.sl 1 (S0.map fun l=>[.mp (mpI l)]))])]⟩) (Xx (fun n=>n) [] rfl (by simp[HS.frz,Ws,RV.frz,TV.frz,CV.frz]) (by simp[HS.frz,Ws,Ob.frz,CV.frz,del]) (by simp)) ?_;refine X1 ?_;refine XH (le_mat 98 3 1 (by decide) (by decide) rfl rfl rfl) ?_;refine X0<|X0<|X2 ?_;refine X3<|(Xf [20,99,100] (fun(y:Nat)=>[(101,.v (li y))]) (fun y=>[(98,.mat 29 3 1 (rwI L y N.length))]) (fun y=>y≤N.length) (fun y=>N.length - y) (0:Nat) (Nat.zero_le _) ?_ ?_)
 · exact Xx (fun n=>n) [] rfl (by simp[*,upS,X6]) (by simp[*,upS,rwI_zero]) (by simp[upS])
 rintro y hy;simp only[upS,X6,XB]
 try simp only[X6,KN,Nat.reduceBEq,if_true,if_false,ins,Nat.reduceLT]
 refine X1 ?_;refine X0<|(X7 rfl (fun h56=>Xb ?_) (fun h56=>?_))
 · (try simp only[BN]at h56);have hlt:y<N.length:=by omega
   have hw1:=XE hlt (by omega);have hk1:y+1≤N.length:=hlt;obtain⟨Si,hS,_⟩:=Xt (show y<S0.length by omega);have hSr:(S0.map fun l=>[CD.mp (mpI l)])[y]? =some [CD.mp (mpI Si)]:=by simp[hS]
   obtain⟨hnod,hSi⟩:=hSb Si (List.mem_of_getElem? hS);obtain⟨lr,hlr,hmemr,hsrt⟩:=hrow hS;have hget:=rwI_get hlt hLl;have hRs:=rwI_set hlr hlt hLl;have hRl:y+1≤(rwI L y N.length).length:=by rw[rwI_len hy hLl];exact hlt
   obtain⟨R,hR⟩:∃x,rwI L y N.length=x:=⟨_,rfl⟩;rw[hR]at hget hRs hRl⊢;have hz:=Xcd hget;clear hrow hSb hlt h56 hR hget hlr hS;refine X0<|X3<|X0<|X2 ?_;refine X0<|X0<|X2 ?_;refine X3<|(Xf [20,21,99,100,101,107] (fun(z:List Nat×List Nat)=>[]) (fun z=>[(98,.mat 29 3 1 (X36 R y z.2)),(107,.it (mpI Si) z.1)]) (fun z=>z.1.Nodup∧X2O z.1 Si.length∧(∀d,d∈z.2↔∃j∈z.1,Si[j]? =some d)∧z.2.Nodup∧z.2.length≤z.1.length) (fun z=>Si.length - z.1.length) ([],[]) ⟨List.nodup_nil,by simp[X2O],by simp,List.nodup_nil,Nat.le_refl _⟩ ?_ ?_)
   · exact X4 (fun n=>n) []
   rintro⟨seen,out⟩ ⟨j1,j2,j3,j4,j5⟩;simp only[upS,X6,XB]
   try simp only[X6,KN,Nat.reduceBEq,if_true,if_false,ins,Nat.reduceLT]
   simp only at j1 j2 j3 j4 j5;refine X5w (fun j k v hj hn=>?_) (fun hall=>?_)
   skip
   · (try simp only[BN]at h61);obtain⟨d,hd,rfl,rfl⟩:=Xax hj;have hjl:j<Si.length:=(List.getElem?_eq_some_iff.1 hd).1
     have hnd:(seen++[j]).Nodup:=by
      rw[List.nodup_append];exact⟨j1,by simp,fun a ha b hb=>by rw[List.mem_singleton.1 hb];exact fun e=>hn (e▸ha)⟩
     have hin:X2O (seen++[j]) Si.length:=fun i hi=>by
      rcases List.mem_append.1 hi with h|h
      · exact j2 i h
      rw[List.mem_singleton.1 h];exact hjl
     have hle:=Wp hnd hin;simp only[List.length_append,List.length_singleton]at hle
     have hmem:∀x,x∈out++[d]↔∃i∈seen++[j],Si[i]? =some x:=by
      intro x;rw[List.mem_append,j3,List.mem_singleton];constructor
      · rintro(⟨i,h1,h2⟩|rfl)
        · exact⟨i,List.mem_append_left _ h1,h2⟩
        exact⟨j,by simp,hd⟩
      rintro⟨i,h1,h2⟩;rcases List.mem_append.1 h1 with h1|h1
      · exact .inl ⟨i,h1,h2⟩
      rw[List.mem_singleton.1 h1,hd]at h2;exact .inr (Option.some.inj h2).symm
     have hdo:d∉out:=by
      intro h;obtain⟨i,h1,h2⟩:=(j3 d).1 h;have:=(List.getElem?_inj hjl hnod).1 (hd.trans h2.symm);exact hn (this▸h1)
     have hon:(out++[d]).Nodup:=by
      rw[List.nodup_append];exact⟨j4,by simp,fun a ha b hb=>by rw[List.mem_singleton.1 hb];exact fun e=>hdo (e▸ha)⟩
     clear hjl j1 j3 j4 hn hdo hnod;refine X3<|X0<|X2 ?_;cases out with
     | nil=>
       have g1:=X1V hRl [];have g2:=Xbw hRl;have g3:=X6i R y [] [] d;have hroom:Wa 1 8:=Qc (by omega) (by decide);simp only[X2D,if_true]at g1;simp only[encD_nil,List.nil_append]at g3;refine Xq (by simp[g1,g2,g3,hRl,hroom];rfl) ?_;exact⟨(seen++[j],[d]),⟨hnd,hin,hmem,hon,by simp⟩,by simp only[List.length_append,List.length_singleton];omega,Xx (fun n=>n) [] rfl (by simp[upS,X6]) (by simp[upS]) (by simp[upS])⟩
     | cons a o=>
       have g1:=X1V hRl (a::o);have g3:=X6i R y (a::o) (a::o) d;have hroom:Wa ((a::o).length+1) 8:=Qc (by omega) (by decide);simp only[X2D,List.cons_ne_nil,if_false]at g1;rw[List.length_cons]at hroom;refine XN ?_;refine RunsN.cutE 8 [] (by simp[g1,hRl];rfl) trivial (le_refl _) ?_;refine RunsN.matA (by simp[matAP,neT,g1,g3,hroom];rfl) ?_;refine RunsN.doneE [] rfl trivial ?_;exact⟨(seen++[j],a::o++[d]),⟨hnd,hin,hmem,hon,by simp only[List.length_append,List.length_singleton]at j5⊢;omega⟩,by simp only[List.length_append,List.length_singleton];omega,Xx (fun n=>if n=98 then 120 else n) [] rfl (by simp[upS,X6,Ws,RV.mv,TV.mv,CV.mv]) (by simp[upS,Ws,Ob.mv,CV.mv]) (by simp[upS])⟩
   try simp only[BN]at h61
   have hout:∀x,x∈out↔x∈Si:=by
    intro x;rw[j3];constructor
    · rintro⟨i,_,h2⟩;exact List.mem_of_getElem? h2
    intro h;obtain⟨i,hi⟩:=List.mem_iff_getElem?.1 h;exact⟨i,hall i (by rw[Xau];exact(List.getElem?_eq_some_iff.1 hi).1),hi⟩
   have hle:=Wp j1 j2;have hsrt:=hsrt out j4 hout
   have hlr0:lr=[]↔out=[]:=by
    constructor
    · intro h;rw[List.eq_nil_iff_forall_not_mem];intro x hx;have:=(hmemr x).1 ((hout x).1 hx);rw[h]at this;cases this
    intro h;rw[List.eq_nil_iff_forall_not_mem];intro x hx;have:=(hout x).2 ((hmemr x).2 hx);rw[h]at this;cases this
   have hfin:=X84 R y out (X2D lr);rw[hRs]at hfin;clear hall j1 j2 j3 j4 hRs hz hmemr hnod;refine(Xg ?_);cases out with
   | nil=>
     have g1:=X1V hRl [];have hlr1:=hlr0.2 rfl;subst hlr1
     have hz2:X36 R y []=rwI L (y+1) N.length:=by
      rw[←hfin];apply List.ext_getElem?;intro k;rw[List.getElem?_set];split
      · rename_i e;subst e;rw[if_pos (by rw[matY_len];omega),g1]
      rfl
     simp only[X2D,if_true]at g1;refine W7 [⟨true,.tup [],none⟩] (by simp[g1,hRl];first|exact⟨rfl,Iff.rfl⟩|exact⟨rfl,trivial⟩|rfl) ?_ ?_
     · first|exact X5x _|simpa using X5x _
     refine Xq (by simp[hw1];rfl) ?_;exact⟨y+1,hk1,by omega,Xx (fun n=>n) [] rfl (by simp[upS,X6]) (by simp[upS,hz2]) (by simp[upS])⟩
   | cons a o=>
     have g1:=X1V hRl (a::o);have hlr1:¬lr=[]:=fun h=>by have:=hlr0.1 h;cases this
     simp only[X2D,List.cons_ne_nil,if_false]at g1;simp only[X2D,hlr1,if_false]at hfin;have cs:=X6E ((a::o).map Int.ofNat) (by simp) (by simp only[List.length_map];omega);rw[←encD_enc,show Xi (((a::o).map Int.ofNat).mergeSort fun x y=>decide (x≤y))=WC lr from hsrt]at cs;refine XN ?_;refine RunsN.cutE 4 [] (by simp[g1,hRl];rfl) trivial (le_refl _) ?_;refine RunsN.subA (by simp[subAP,X2r,g1];exact⟨rfl,rfl,rfl,rfl,rfl⟩) cs ?_;refine RunsN.doneE [] rfl trivial ?_;refine Xq (by simp[hw1];rfl) ?_;exact⟨y+1,hk1,by omega,Xx (fun n=>n) [] rfl (by simp[upS,X6]) (by simp[upS,hfin]) (by simp[upS])⟩
 (try simp only[BN]at h56);have hyn:y=N.length:=by omega
 subst hyn;have hend:=rwI_end hLl;clear hrow hSb;refine(Xg ?_);refine X1 ?_;refine XH (le_frzM0 98 rfl) ?_;exact Qm ⟨.inr rfl,_,le_refl _,⟨_,by simp[HS.frz,Ws,RV.frz,TV.frz,CV.frz];rfl,by simp[XK,hend]⟩,by simp,fun h=>by cases h⟩
end Go.Proofs.YtdajceakaakdoaaGreat

namespace Go.Proofs.YtdajceakaakdoaaGreat
open Go Go.Hl
mutual
def arS:St→Int→Nat→List Int
 | .mk _ _ _ _ _ a b _,outer,at_=>outer::(arL a at_ (at_+1)++arL b at_ (at_+1+szL a))
def arL:List St→Int→Nat→List Int
 |[],_,_=>[]
 |s::l,outer,at_=>arS s outer at_++arL l outer (at_+szS s)
end
mutual
theorem arS_len:∀(s:St) (o:Int) (p:Nat),(arS s o p).length=szS s
 | .mk _ _ _ _ _ a b _,o,p=>by simp only[arS,szS,List.length_cons,List.length_append,X39 a,X39 b];omega
theorem X39:∀(l:List St) (o:Int) (p:Nat),(arL l o p).length=szL l
 |[],_,_=>rfl
 |s::l,o,p=>by simp only[arL,szL,List.length_append,arS_len s,X39 l]
end
@[simp] theorem encIs_app (a b:List Int):Xi (a++b)=Xi a++Xi b:=by simp[Xi]
end Go.Proofs.YtdajceakaakdoaaGreat

namespace Go.Proofs.YtdajceakaakdoaaGreat
open Go Go.Hl
section
variable {N:List Nd} {steps:List St} {vars:List Vr} {nh:Nat} {hv:List Int} {K:Nat→Bool} {ar:List Int} {kO:Nat→Bool}
def upK (ar:List Int) (K:Nat→Bool):Prop:=∀(j:Nat) a,ar[j]? =some a→0≤a→K j=true→K a.toNat=true
structure Slc (N:List Nd) (steps:List St) (nv:Nat) (ar:List Int) (K:Nat→Bool):Prop where
 src:∀(o:Nat) q,K o=true→steps[o]? =some q→∀(k:Nat) (x:Nd),N[k]? =some x→x.k≠4→x.a=(o:Int)→∀d,Rc N steps nv k d→Qi steps d∈tmV q.term→d<steps.length→K d=true
 up:upK ar K
end
end Go.Proofs.YtdajceakaakdoaaGreat

namespace Go.Proofs.YtdajceakaakdoaaGreat
open Go Go.Hl
theorem X1Z {f:Fl} (h:Sm f) (h0:XR f=0):Lies (grN f.body) (flL f.body) f.vars f.hats.length f.body 0 1 (1+wdL f.body) where
 g:=X8p f.body true (QS h0).2.2.2.1
 wf:=(code_wf h.bnd h0).1
 nd:=by
  have:Sub (grN f.body) 0 (grN f.body):=Sub.of_self _;exact(Sub.cons this).2.app.1
 st:=Sub.of_self _
end Go.Proofs.YtdajceakaakdoaaGreat

namespace Go.Proofs.YtdajceakaakdoaaGreat
open Go Go.Hl
structure Gw (N:List Nd) (steps:List St):Prop where
 ent:∃x,N[0]? =some x∧x.k=0
 k0:∀(i:Nat) x,N[i]? =some x→x.k=0→i=0
 n0:∀x∈N,x.n≠0∧x.o≠0
 inj:∀(i j:Nat) x y,N[i]? =some x→N[j]? =some y→QJ steps x=true→QJ steps y=true→x.a=y.a→i=j
 asg:∀x∈N,QJ steps x=true→(∃a:Nat,x.a=a∧a<steps.length)∧0≤Zl steps x
theorem varOf_at {steps:List St} {x:Nd} {a:Nat} (hx:x.a=a) (ha:a<steps.length):Qi steps a=Zl steps x:=by
 unfold Qi Zl;rw[hx,Int.toNat_natCast,List.getElem?_eq_getElem ha]
theorem Xbj (steps:List St) (v:Nat):Qi steps (steps.length+v)=v:=by
 unfold Qi;rw[List.getElem?_eq_none (by omega)];simp only[Int.natCast_add];omega
section
variable {N:List Nd} {df:Nd→Int} {v:Int} {i0:Nat}
end
end Go.Proofs.YtdajceakaakdoaaGreat

namespace Go.Proofs.YtdajceakaakdoaaGreat
open Go Go.Hl
mutual
theorem layS_n0:∀(s:St) (p:Int) (k after:Nat),1≤after→∀x∈X1n s p k after,x.k≠0∧x.n≠0∧x.o≠0
 | .mk o c v q t a b bs,p,k,after,haf,x,hx=>by
   unfold X1n at hx;split at hx
   · rcases List.mem_cons.1 hx with rfl|hx
     · refine⟨by simp,?_,?_⟩<;>(simp only;split<;>omega)
     rcases List.mem_append.1 hx with hx|hx
     · exact X22 a _ _ _ haf x hx
     exact X22 b _ _ _ haf x hx
   split at hx
   · rcases List.mem_cons.1 hx with rfl|hx
     · refine⟨by simp,?_,by simp⟩;simp only;omega
     rcases List.mem_cons.1 hx with rfl|hx
     · refine⟨by simp,?_,?_⟩
       · simp only;split<;>omega
       simp only;omega
     exact X22 a _ _ _ (by omega) x hx
   rw[List.mem_singleton.1 hx];refine⟨by simp,?_,by simp⟩;simp only;omega
theorem X22:∀(l:List St) (p:Int) (k after:Nat),1≤after→∀x∈X04 l p k after,x.k≠0∧x.n≠0∧x.o≠0
 |[],_,_,_,_,x,hx=>by simp[X04]at hx
 | s ::l,p,k,after,haf,x,hx=>by
   unfold X04 at hx;rcases List.mem_append.1 hx with hx|hx
   · refine layS_n0 s p k _ ?_ x hx;split
     · exact haf
     have:=X7J s;omega
   exact X22 l _ _ _ haf x hx
end
theorem pw_at {α:Type} {r:α→α→Prop} {l:List α} (h:l.Pairwise r) {i j:Nat} {x y:α} (hi:l[i]? =some x) (hj:l[j]? =some y) (hij:i<j):r x y:=by
 obtain⟨h1,e1⟩:=List.getElem?_eq_some_iff.1 hi;obtain⟨h2,e2⟩:=List.getElem?_eq_some_iff.1 hj;rw[←e1,←e2];exact List.pairwise_iff_getElem.1 h i j h1 h2 hij
theorem nums_at {N:List Nd} (h:((N.filter rdB).map (·.a)).Pairwise (· < ·)):∀(i j:Nat) (x y:Nd),N[i]? =some x→N[j]? =some y→rdB x=true→rdB y=true→i<j→x.a<y.a:=by
 have h2:N.Pairwise fun x y=>rdB x=true→rdB y=true→x.a<y.a:=by
  rw[List.pairwise_map,List.pairwise_filter]at h;exact h.imp fun h a b=>h a b
 intro i j x y hi hj hx hy hij;exact pw_at h2 hi hj hij hx hy
theorem asg_rd {steps:List St} {x:Nd} (h:QJ steps x=true) (ha:0≤x.a):rdB x=true:=by
 unfold QJ at h;simp only[Bool.and_eq_true,decide_eq_true_eq]at h;simp[rdB,ha,h.1]
theorem grN_w {f:Fl} (hg:gL f.body=true) (hs:∀q∈flL f.body,q.do_=0∨q.do_=5→0≤q.var):Gw (grN f.body) (flL f.body):=by
 have hok:=X5P hg;have hnum:=nums_at (grN_nums hg);rw[←XY]at hok
 have hasg:∀x∈grN f.body,QJ (flL f.body) x=true→(∃a:Nat,x.a=a∧a<(flL f.body).length)∧0≤Zl (flL f.body) x:=by
  intro x hx ha
  have hk:x.k=2:=by
   unfold QJ at ha;simp only[Bool.and_eq_true,decide_eq_true_eq]at ha;exact ha.1
  obtain⟨a,h1,h2⟩:=(hok x hx).ha.resolve_left fun h=>h.1 hk;refine⟨⟨a,h1,h2⟩,?_⟩;unfold QJ at ha;unfold Zl;rw[h1,Int.toNat_natCast,List.getElem?_eq_getElem h2]at ha⊢;simp only[Bool.and_eq_true,Bool.or_eq_true,decide_eq_true_eq]at ha;exact hs _ (List.getElem_mem h2) (by simpa using ha.2)
 refine⟨⟨_,rfl,rfl⟩,?_,?_,?_,hasg⟩
 · intro i x hi h0;cases i with
   |zero=>rfl
   | succ i=>
     have hm:x∈X04 f.body 0 1 (1+wdL f.body)++[⟨1,-1,-1,-1⟩]:=List.mem_of_getElem? (by simpa[grN]using hi);rcases List.mem_append.1 hm with h|h
     · exact absurd h0 (X22 _ _ _ _ (by omega) x h).1
     rw[List.mem_singleton.1 h]at h0;simp at h0
 · intro x hx;unfold grN at hx;rcases List.mem_cons.1 hx with rfl|hx
   · refine⟨?_,by simp⟩;simp only;split<;>omega
   rcases List.mem_append.1 hx with h|h
   · exact(X22 _ _ _ _ (by omega) x h).2
   rw[List.mem_singleton.1 h];simp
 intro i j x y hi hj hx hy he;have rx:=asg_rd hx (by obtain⟨⟨a,h,_⟩,_⟩:=hasg x (List.mem_of_getElem? hi) hx;omega);have ry:=asg_rd hy (by obtain⟨⟨a,h,_⟩,_⟩:=hasg y (List.mem_of_getElem? hj) hy;omega);rcases Nat.lt_trichotomy i j with h|h|h
 · have:=hnum i j x y hi hj rx ry h;omega
 · exact h
 have:=hnum j i y x hj hi ry rx h;omega
section
variable {N:List Nd} {steps:List St} {n m:Nat} {S:List (List Nat)}
end
end Go.Proofs.YtdajceakaakdoaaGreat

namespace Go.Proofs.YtdajceakaakdoaaGreat
open Go Go.Hl
abbrev Ds:=Nat→Nat→Prop
def paL (v:Nat):List St→Bool
 |[]=>true
 | .mk o _ w _ _ a b _::l=>(if o=3 then paL v a||paL v b else if o=4 then true else !(decide (o=0∨o=5)&&decide (w.toNat=v)))&&paL v l
def geL (v:Nat):List St→Nat→Nat→Prop
 |[],_,_=>False
 | .mk o _ w _ _ a b _::l,p,d=>(paL v l=true∧(if o=3 then geL v a (p+1) d∨geL v b (p+1+szL a) d else if o=4 then geL v a (p+1) d else(o=0∨o=5)∧w.toNat=v∧d=p))∨geL v l (p+(1+szL a+szL b)) d
def trL (l:List St) (p:Nat) (D:Ds):Ds:=fun v d=>(paL v l=true∧D v d)∨geL v l p d
def tr1 (o w:Int) (a b:List St) (p:Nat) (D:Ds):Ds:=fun v d=>
 ((if o=3 then paL v a||paL v b else if o=4 then true else !(decide (o=0∨o=5)&&decide (w.toNat=v)))=true∧D v d)∨
   (if o=3 then geL v a (p+1) d∨geL v b (p+1+szL a) d else if o=4 then geL v a (p+1) d else(o=0∨o=5)∧w.toNat=v∧d=p)
def lpD (a:List St) (p:Nat) (D:Ds):Ds:=fun v d=>D v d∨geL v a (p+1) d
theorem X28 {p:Nat} {D:Ds} {v d:Nat}:trL [] p D v d↔D v d:=by simp[trL,paL,geL]
theorem X1R {o c w n:Int} {t:Tm} {a b:List St} {bs:List Int} {l:List St} {p:Nat} {D:Ds} {v d:Nat}:trL (.mk o c w n t a b bs::l) p D v d↔trL l (p+(1+szL a+szL b)) (tr1 o w a b p D) v d:=by
 simp only[trL,tr1,paL,geL,Bool.and_eq_true];constructor
 · rintro(⟨⟨h1,h2⟩,h3⟩|⟨h1,h2⟩|h)
   · exact .inl ⟨h2,.inl ⟨h1,h3⟩⟩
   · exact .inl ⟨h1,.inr h2⟩
   exact .inr h
 rintro(⟨h1,⟨h2,h3⟩|h2⟩|h)
 · exact .inl ⟨⟨h2,h1⟩,h3⟩
 · exact .inr (.inl ⟨h1,h2⟩)
 exact .inr (.inr h)
theorem X46 {w:Int} {a b:List St} {p:Nat} {D:Ds} {v d:Nat}:tr1 3 w a b p D v d↔trL a (p+1) D v d∨trL b (p+1+szL a) D v d:=by
 simp only[tr1,trL,if_true,Bool.or_eq_true];constructor
 · rintro(⟨h1|h1,h2⟩|h1|h1)
   · exact .inl (.inl ⟨h1,h2⟩)
   · exact .inr (.inl ⟨h1,h2⟩)
   · exact .inl (.inr h1)
   exact .inr (.inr h1)
 rintro((⟨h1,h2⟩|h1)|⟨h1,h2⟩|h1)
 · exact .inl ⟨.inl h1,h2⟩
 · exact .inr (.inl h1)
 · exact .inl ⟨.inr h1,h2⟩
 exact .inr (.inr h1)
theorem X5d {w:Int} {a b:List St} {p:Nat} {D:Ds} {v d:Nat}:tr1 4 w a b p D v d↔lpD a p D v d:=by
 simp[tr1,lpD]
theorem X5M {o w:Int} {a b:List St} {p:Nat} {D:Ds} {v d:Nat} (h3:o≠3) (h4:o≠4):tr1 o w a b p D v d↔(¬((o=0∨o=5)∧w.toNat=v)∧D v d)∨((o=0∨o=5)∧w.toNat=v∧d=p):=by
 simp only[tr1,if_neg h3,if_neg h4,Bool.not_eq_true',Bool.and_eq_false_iff,decide_eq_false_iff_not];refine or_congr (and_congr ?_ Iff.rfl) Iff.rfl;rw[Decidable.not_and_iff_or_not]
theorem trL_lp {a:List St} {p:Nat} {D:Ds} {v d:Nat} (h:trL a (p+1) (lpD a p D) v d):lpD a p D v d:=by
 rcases h with⟨_,h⟩|h
 · exact h
 exact .inr h
def lcL:List St→Nat→Nat→Ds→Nat→Ds→Prop
 |[],_,_,_,_,_=>False
 | .mk o c w q t a b bs::l,p,k,D,n,Dn=>
   (if o=3 then(n=k∧Dn=D)∨lcL a (p+1) (k+1) D n Dn∨lcL b (p+1+szL a) (k+1+wdL a) D n Dn
    else if o=4 then(n=k∧Dn=D)∨(n=k+1∧Dn=lpD a p D)∨lcL a (p+1) (k+2) (lpD a p D) n Dn
    else n=k∧Dn=D)∨lcL l (p+(1+szL a+szL b)) (k+wdS (.mk o c w q t a b bs)) (tr1 o w a b p D) n Dn
theorem X5Y {l:List St} (h:l≠[]) (p k:Nat) (D:Ds):lcL l p k D k D:=by
 cases l with
 |nil=>exact absurd rfl h
 | cons s l=>
   obtain⟨o,c,w,q,t,a,b,bs⟩:=s;unfold lcL;refine .inl ?_;split
   · exact .inl ⟨rfl,rfl⟩
   split
   · exact .inl ⟨rfl,rfl⟩
   exact⟨rfl,rfl⟩
theorem X7B:∀l:List St,∀(p k:Nat) (D:Ds) (n:Nat) (Dn:Ds),gL l=true→lcL l p k D n Dn→k≤n∧n<k+wdL l:=by
 apply St.lind
 · intro p k D n Dn _ h;simp[lcL]at h
 intro o c w q t a b bs l ia ib il p k D n Dn hg h;simp only[gL,gS,Bool.and_eq_true]at hg;unfold lcL at h;simp only[wdL];rcases h with h|h
 · simp only[wdS];by_cases h3:o=3
   · rw[if_pos h3]at h;rw[if_neg (by omega)];rcases h with h|h|h
     · omega
     · have:=ia _ _ _ _ _ hg.1.2.1 h;omega
     have:=ib _ _ _ _ _ hg.1.2.2 h;omega
   rw[if_neg h3]at h;by_cases h4:o=4
   · rw[if_pos h4]at h;rw[if_pos h4];rcases h with h|h|h
     · omega
     · omega
     have:=ia _ _ _ _ _ hg.1.2.1 h;omega
   rw[if_neg h4]at h;rw[if_neg h4];omega
 have:=il _ _ _ _ _ hg.2 h;omega
theorem lc_uni:∀l:List St,∀(p k:Nat) (D:Ds) (n:Nat) (Dn Dm:Ds),gL l=true→lcL l p k D n Dn→lcL l p k D n Dm→Dn=Dm:=by
 apply St.lind
 · intro p k D n Dn Dm _ h;simp[lcL]at h
 intro o c w q t a b bs l ia ib il p k D n Dn Dm hg h1 h2;have hg0:=hg;simp only[gL,gS,Bool.and_eq_true]at hg;have ra:=fun(p k:Nat) D n Dn=>X7B a p k D n Dn hg.1.2.1;have rb:=fun(p k:Nat) D n Dn=>X7B b p k D n Dn hg.1.2.2;have rl:=fun(p k:Nat) D n Dn=>X7B l p k D n Dn hg.2
 have rf:∀Dn,(if o=3 then(n=k∧Dn=D)∨lcL a (p+1) (k+1) D n Dn∨lcL b (p+1+szL a) (k+1+wdL a) D n Dn
  else if o=4 then(n=k∧Dn=D)∨(n=k+1∧Dn=lpD a p D)∨lcL a (p+1) (k+2) (lpD a p D) n Dn
  else n=k∧Dn=D)→n<k+wdS (.mk o c w q t a b bs):=by
  intro Dn h;simp only[wdS];by_cases h3:o=3
  · rw[if_pos h3]at h;rw[if_neg (by omega)];rcases h with h|h|h
    · omega
    · have:=ra _ _ _ _ _ h;omega
    have:=rb _ _ _ _ _ h;omega
  rw[if_neg h3]at h;by_cases h4:o=4
  · rw[if_pos h4]at h;rw[if_pos h4];rcases h with h|h|h
    · omega
    · omega
    have:=ra _ _ _ _ _ h;omega
  rw[if_neg h4]at h;rw[if_neg h4];omega
 unfold lcL at h1 h2;rcases h1 with h1|h1
 · rcases h2 with h2|h2
   · split at h1
     · rename_i h3;rw[if_pos h3]at h2;rcases h1 with h1|h1|h1
       · rcases h2 with h2|h2|h2
         · rw[h1.2,h2.2]
         · have:=ra _ _ _ _ _ h2;omega
         have:=rb _ _ _ _ _ h2;omega
       · rcases h2 with h2|h2|h2
         · have:=ra _ _ _ _ _ h1;omega
         · exact ia _ _ _ _ _ _ hg.1.2.1 h1 h2
         have:=ra _ _ _ _ _ h1;have:=rb _ _ _ _ _ h2;omega
       rcases h2 with h2|h2|h2
       · have:=rb _ _ _ _ _ h1;omega
       · have:=rb _ _ _ _ _ h1;have:=ra _ _ _ _ _ h2;omega
       exact ib _ _ _ _ _ _ hg.1.2.2 h1 h2
     rename_i h3;rw[if_neg h3]at h2;split at h1
     · rename_i h4;rw[if_pos h4]at h2;rcases h1 with h1|h1|h1
       · rcases h2 with h2|h2|h2
         · rw[h1.2,h2.2]
         · omega
         have:=ra _ _ _ _ _ h2;omega
       · rcases h2 with h2|h2|h2
         · omega
         · rw[h1.2,h2.2]
         have:=ra _ _ _ _ _ h2;omega
       rcases h2 with h2|h2|h2
       · have:=ra _ _ _ _ _ h1;omega
       · have:=ra _ _ _ _ _ h1;omega
       exact ia _ _ _ _ _ _ hg.1.2.1 h1 h2
     rename_i h4;rw[if_neg h4]at h2;rw[h1.2,h2.2]
   have:=rf _ h1;have:=rl _ _ _ _ _ h2;omega
 rcases h2 with h2|h2
 · have:=rf _ h2;have:=rl _ _ _ _ _ h1;omega
 exact il _ _ _ _ _ _ hg.2 h1 h2
theorem lc_all:∀l:List St,∀(p k:Nat) (D:Ds) (n:Nat),gL l=true→k≤n→n<k+wdL l→∃Dn,lcL l p k D n Dn:=by
 apply St.lind
 · intro p k D n _ h1 h2;simp only[wdL]at h2;omega
 intro o c w q t a b bs l ia ib il p k D n hg h1 h2;simp only[gL,gS,Bool.and_eq_true,Bool.or_eq_true,decide_eq_true_eq,List.isEmpty_iff]at hg;simp only[wdL]at h2;by_cases hl:k+wdS (.mk o c w q t a b bs)≤n
 · obtain⟨Dn,h⟩:=il (p+(1+szL a+szL b)) (k+wdS (.mk o c w q t a b bs)) (tr1 o w a b p D) n hg.2 hl (by omega);exact⟨Dn,by unfold lcL;exact .inr h⟩
 have key:∃Dn,(if o=3 then(n=k∧Dn=D)∨lcL a (p+1) (k+1) D n Dn∨lcL b (p+1+szL a) (k+1+wdL a) D n Dn
 else if o=4 then(n=k∧Dn=D)∨(n=k+1∧Dn=lpD a p D)∨lcL a (p+1) (k+2) (lpD a p D) n Dn
 else n=k∧Dn=D):=by
  simp only[wdS]at hl;by_cases h3:o=3
  · simp only[if_pos h3];rw[if_neg (by omega)]at hl;by_cases e:n=k
    · exact⟨D,.inl ⟨e,rfl⟩⟩
    by_cases ha:n<k+1+wdL a
    · obtain⟨Dn,h⟩:=ia (p+1) (k+1) D n hg.1.2.1 (by omega) ha;exact⟨Dn,.inr (.inl h)⟩
    obtain⟨Dn,h⟩:=ib (p+1+szL a) (k+1+wdL a) D n hg.1.2.2 (by omega) (by omega);exact⟨Dn,.inr (.inr h)⟩
  simp only[if_neg h3];by_cases h4:o=4
  · have hb:b=[]:=by
     rcases hg.1.1 with(h|h)|h
     · exact absurd h h3
     · exact h.2
     exact h.2
    subst hb;simp only[if_pos h4];rw[if_pos h4]at hl;simp only[wdL]at hl;by_cases e:n=k
    · exact⟨D,.inl ⟨e,rfl⟩⟩
    by_cases e2:n=k+1
    · exact⟨_,.inr (.inl ⟨e2,rfl⟩)⟩
    obtain⟨Dn,h⟩:=ia (p+1) (k+2) (lpD a p D) n hg.1.2.1 (by omega) (by omega);exact⟨Dn,.inr (.inr h)⟩
  have hab:a=[]∧b=[]:=by
   rcases hg.1.1 with(h|h)|h
   · exact absurd h h3
   · exact absurd h.1 h4
   exact⟨h.1,h.2⟩
  obtain⟨rfl,rfl⟩:=hab;simp only[if_neg h4];rw[if_neg h4]at hl;simp only[wdL]at hl;exact⟨D,by omega,rfl⟩
 obtain⟨Dn,h⟩:=key;exact⟨Dn,by unfold lcL;exact .inl h⟩
section
variable {N:List Nd} {steps:List St} {nv nh:Nat} {vars:List Vr}
theorem Lie1.ifN {c v n:Int} {t:Tm} {a b:List St} {bs:List Int} {o k mid:Nat} (h:Lie1 N steps vars nh 3 c v n t a b bs o k mid):N[k]? =some ⟨3,o,(Wy a (k+1) mid:Nat),(Wy b (k+1+wdL a) mid:Nat)⟩:=by
 have hn:=h.nd;unfold X1n at hn;rw[if_pos rfl]at hn;rw[hn.cons.1];simp only[Wy];congr 2
 · split<;>simp
 split<;>simp
theorem Lie1.loopN {c v n:Int} {t:Tm} {a b:List St} {bs:List Int} {o k mid:Nat} (h:Lie1 N steps vars nh 4 c v n t a b bs o k mid):N[k]? =some ⟨4,o,(k+1:Nat),-1⟩∧N[k+1]? =some ⟨5,o,(Wy a (k+2) (k+1):Nat),(mid:Nat)⟩:=by
 have hn:=h.nd;unfold X1n at hn;rw[if_neg (by decide),if_pos rfl]at hn;refine⟨by rw[hn.cons.1];simp,?_⟩;rw[hn.cons.2.cons.1];simp only[Wy];congr 2;split<;>simp
theorem Lie1.leafN {d c v n:Int} {t:Tm} {a b:List St} {bs:List Int} {o k mid:Nat} (h:Lie1 N steps vars nh d c v n t a b bs o k mid) (h3:d≠3) (h4:d≠4):N[k]? =some ⟨2,o,(mid:Nat),-1⟩:=by
 have hn:=h.nd;unfold X1n at hn;rw[if_neg h3,if_neg h4]at hn;exact hn.cons.1
def flw (steps:List St) (x:Nd) (D:Ds):Ds:=fun v d=>(D v d∧¬(QJ steps x=true∧Zl steps x=(v:Int)))∨(QJ steps x=true∧Zl steps x=(v:Int)∧d=x.a.toNat)
theorem Xa7 {x:Nd} (h:x.k≠2) {D:Ds} {v d:Nat} (hf:flw steps x D v d):D v d:=by
 rcases hf with⟨h1,_⟩|⟨h1,_⟩
 · exact h1
 rw[asg_no h]at h1;cases h1
theorem X9m:∀l:List St,∀(p k after:Nat) (D:Ds),Lies N steps vars nh l p k after→∀(n:Nat) (Dn:Ds),lcL l p k D n Dn→
  ∃x,N[n]? =some x∧x.k≠0∧∀to,WK x to→∀v d,flw steps x Dn v d→(∃Dt,lcL l p k D to Dt∧Dt v d)∨(to=after∧trL l p D v d):=by
 apply St.lind
 · intro p k after D _ n Dn h;simp[lcL]at h
 intro o c w q t a b bs l ia ib il p k after D hl n Dn h;obtain⟨h1,h2⟩:=hl.cons;obtain⟨mid,hmid⟩:∃m,Wy l (k+wdS (.mk o c w q t a b bs)) after=m:=⟨_,rfl⟩;rw[hmid]at h1
 have up:∀to v d,to=mid→tr1 o w a b p D v d→(∃Dt,lcL (.mk o c w q t a b bs::l) p k D to Dt∧Dt v d)∨(to=after∧trL (.mk o c w q t a b bs::l) p D v d):=by
  intro to v d hto ht;by_cases e:l=[]
  · subst e;refine .inr ⟨?_,X1R.2 (X28.2 ht)⟩;rw[hto,←hmid,Wy,if_pos rfl]
  refine .inl ⟨_,?_,ht⟩;unfold lcL;rw[hto,←hmid,Wy,if_neg e];exact .inr (X5Y e _ _ _)
 unfold lcL at h;rcases h with h|h
 · by_cases h3:o=3
   · subst h3;rw[if_pos rfl]at h;have inA:∀to Dt,lcL a (p+1) (k+1) D to Dt→lcL (.mk 3 c w q t a b bs::l) p k D to Dt:=fun to Dt h=>by unfold lcL;rw[if_pos rfl];exact .inl (.inr (.inl h))
     have inB:∀to Dt,lcL b (p+1+szL a) (k+1+wdL a) D to Dt→lcL (.mk 3 c w q t a b bs::l) p k D to Dt:=fun to Dt h=>by unfold lcL;rw[if_pos rfl];exact .inl (.inr (.inr h))
     obtain⟨_,la,lb⟩:=h1.if_ rfl;rcases h with⟨rfl,rfl⟩|h|h
     · refine⟨_,h1.ifN,by simp,fun to hs v d hf=>?_⟩;have hD:=Xa7 (by simp) hf;simp only[WK]at hs;rcases hs with hs|hs
       · have hs:to=Wy a (n+1) mid:=by omega
         by_cases e:a=[]
         · subst e;exact up to v d (by rw[hs,Wy,if_pos rfl]) (X46.2 (.inl (X28.2 hD)))
         refine .inl ⟨_,inA _ _ ?_,hD⟩;rw[hs,Wy,if_neg e];exact X5Y e _ _ _
       have hs:to=Wy b (n+1+wdL a) mid:=by omega
       by_cases e:b=[]
       · subst e;exact up to v d (by rw[hs,Wy,if_pos rfl]) (X46.2 (.inr (X28.2 hD)))
       refine .inl ⟨_,inB _ _ ?_,hD⟩;rw[hs,Wy,if_neg e];exact X5Y e _ _ _
     · obtain⟨x,hx,hk,hc⟩:=ia _ _ _ D la n Dn h;refine⟨x,hx,hk,fun to hs v d hf=>?_⟩;rcases hc to hs v d hf with⟨Dt,h5,h6⟩|⟨h5,h6⟩
       · exact .inl ⟨Dt,inA _ _ h5,h6⟩
       exact up to v d h5 (X46.2 (.inl h6))
     obtain⟨x,hx,hk,hc⟩:=ib _ _ _ D lb n Dn h;refine⟨x,hx,hk,fun to hs v d hf=>?_⟩;rcases hc to hs v d hf with⟨Dt,h5,h6⟩|⟨h5,h6⟩
     · exact .inl ⟨Dt,inB _ _ h5,h6⟩
     exact up to v d h5 (X46.2 (.inr h6))
   rw[if_neg h3]at h;by_cases h4:o=4
   · subst h4;rw[if_pos rfl]at h;have inH:lcL (.mk 4 c w q t a b bs::l) p k D (k+1) (lpD a p D):=by unfold lcL;rw[if_neg (by decide),if_pos rfl];exact .inl (.inr (.inl ⟨rfl,rfl⟩))
     have inA:∀to Dt,lcL a (p+1) (k+2) (lpD a p D) to Dt→lcL (.mk 4 c w q t a b bs::l) p k D to Dt:=fun to Dt h=>by unfold lcL;rw[if_neg (by decide),if_pos rfl];exact .inl (.inr (.inr h))
     obtain⟨_,_,la,_⟩:=h1.loop rfl;obtain⟨n1,n2⟩:=h1.loopN;rcases h with⟨rfl,rfl⟩|⟨rfl,rfl⟩|h
     · refine⟨_,n1,by simp,fun to hs v d hf=>?_⟩;have hD:=Xa7 (by simp) hf;simp only[WK]at hs;have hs:to=n+1:=by omega
       subst hs;exact .inl ⟨_,inH,.inl hD⟩
     · refine⟨_,n2,by simp,fun to hs v d hf=>?_⟩;have hD:=Xa7 (by simp) hf;simp only[WK]at hs;rcases hs with hs|hs
       · have hs:to=Wy a (k+2) (k+1):=by omega
         by_cases e:a=[]
         · subst e;refine .inl ⟨_,?_,hD⟩;rw[hs,Wy,if_pos rfl];exact inH
         refine .inl ⟨_,inA _ _ ?_,hD⟩;rw[hs,Wy,if_neg e];exact X5Y e _ _ _
       exact up to v d (by omega) (X5d.2 hD)
     obtain⟨x,hx,hk,hc⟩:=ia _ _ _ (lpD a p D) la n Dn h;refine⟨x,hx,hk,fun to hs v d hf=>?_⟩;rcases hc to hs v d hf with⟨Dt,h5,h6⟩|⟨h5,h6⟩
     · exact .inl ⟨Dt,inA _ _ h5,h6⟩
     subst h5;exact .inl ⟨_,inH,trL_lp h6⟩
   rw[if_neg h4]at h;obtain⟨rfl,rfl⟩:=h;refine⟨_,h1.leafN h3 h4,by simp,fun to hs v d hf=>up to v d ?_ ((X5M h3 h4).2 ?_)⟩
   · simp only[WK]at hs;omega
   have hst:=h1.st
   have hisA:QJ steps ⟨2,(p:Int),(mid:Int),-1⟩=true↔o=0∨o=5:=by
    unfold QJ;rw[Int.toNat_natCast,hst];show(decide ((2:Int)=2)&&(decide (o=0)||decide (o=5)))=true↔_;simp
   have hvA:Zl steps ⟨2,(p:Int),(mid:Int),-1⟩=w:=by simp[Zl,hst,St.var]
   rcases hf with⟨hD,hn⟩|⟨ha,hv,hd⟩
   · refine .inl ⟨fun⟨h5,h6⟩=>hn ⟨hisA.2 h5,?_⟩,hD⟩;have:=(h1.var h5).1;rw[hvA];omega
   refine .inr ⟨hisA.1 ha,?_,by simpa using hd⟩;rw[hvA]at hv;omega
 obtain⟨x,hx,hk,hc⟩:=il _ _ _ (tr1 o w a b p D) h2 n Dn h;refine⟨x,hx,hk,fun to hs v d hf=>?_⟩;rcases hc to hs v d hf with⟨Dt,h5,h6⟩|⟨h5,h6⟩
 · exact .inl ⟨Dt,by unfold lcL;exact .inr h5,h6⟩
 exact .inr ⟨h5,X1R.2 h6⟩
def sdD (N:List Nd) (steps:List St) (nv k:Nat) (D:Ds):Prop:=∀v d,D v d→Rc N steps nv k d∧Qi steps d=(v:Int)
theorem sdD.go {k to:Nat} {D:Ds} {x:Nd} (h:sdD N steps nv k D) (hx:N[k]? =some x) (h0:x.k≠0) (h2:x.k≠2) (hs:WK x to):sdD N steps nv to D:=
 fun v d hd=>⟨.pass hx h0 hs (h v d hd).1 (by rw[asg_no h2];rfl),(h v d hd).2⟩
theorem lc_snd:∀l:List St,∀(p k after:Nat) (D:Ds),Lies N steps vars nh l p k after→sdD N steps nv (Wy l k after) D→
  (∀(n:Nat) (Dn:Ds),lcL l p k D n Dn→sdD N steps nv n Dn)∧sdD N steps nv after (trL l p D):=by
 apply St.lind
 · intro p k after D _ hD;refine⟨fun n Dn h=>by simp[lcL]at h,fun v d hd=>?_⟩;have:=hD v d (X28.1 hd)
   rwa [Wy,if_pos rfl]at this
 intro o c w q t a b bs l ia ib il p k after D hl hD;rw[Wy,if_neg (by simp)]at hD;obtain⟨h1,h2⟩:=hl.cons;obtain⟨mid,hmid⟩:∃m,Wy l (k+wdS (.mk o c w q t a b bs)) after=m:=⟨_,rfl⟩;rw[hmid]at h1
 have key:(∀n Dn,(if o=3 then(n=k∧Dn=D)∨lcL a (p+1) (k+1) D n Dn∨lcL b (p+1+szL a) (k+1+wdL a) D n Dn
  else if o=4 then(n=k∧Dn=D)∨(n=k+1∧Dn=lpD a p D)∨lcL a (p+1) (k+2) (lpD a p D) n Dn
  else n=k∧Dn=D)→sdD N steps nv n Dn)∧sdD N steps nv mid (tr1 o w a b p D):=by
  by_cases h3:o=3
  · subst h3;obtain⟨_,la,lb⟩:=h1.if_ rfl;have hx:=h1.ifN;obtain⟨a1,a2⟩:=ia _ _ _ D la (hD.go hx (by simp) (by simp) (.inl rfl));obtain⟨b1,b2⟩:=ib _ _ _ D lb (hD.go hx (by simp) (by simp) (.inr rfl));refine⟨fun n Dn h=>?_,fun v d hd=>?_⟩
    · rw[if_pos rfl]at h;rcases h with⟨rfl,rfl⟩|h|h
      · exact hD
      · exact a1 n Dn h
      exact b1 n Dn h
    rcases X46.1 hd with h|h
    · exact a2 v d h
    exact b2 v d h
  by_cases h4:o=4
  · subst h4;obtain⟨_,_,la,_⟩:=h1.loop rfl;obtain⟨n1,n2⟩:=h1.loopN;have hH:sdD N steps nv (k+1) D:=hD.go n1 (by simp) (by simp) (.inl rfl);obtain⟨_,a2⟩:=ia _ _ _ D la (hH.go n2 (by simp) (by simp) (.inl rfl))
    have hE:sdD N steps nv (k+1) (lpD a p D):=by
     rintro v d (h|h)
     · exact hH v d h
     exact a2 v d (.inr h)
    obtain⟨e1,_⟩:=ia _ _ _ (lpD a p D) la (hE.go n2 (by simp) (by simp) (.inl rfl));refine⟨fun n Dn h=>?_,fun v d hd=>hE.go n2 (by simp) (by simp) (.inr rfl) v d (X5d.1 hd)⟩;rw[if_neg h3,if_pos rfl]at h;rcases h with⟨rfl,rfl⟩|⟨rfl,rfl⟩|h
    · exact hD
    · exact hE
    exact e1 n Dn h
  have hx:=h1.leafN h3 h4;have hst:=h1.st
  have hisA:QJ steps ⟨2,(p:Int),(mid:Int),-1⟩=true↔o=0∨o=5:=by
   unfold QJ;rw[Int.toNat_natCast,hst];show(decide ((2:Int)=2)&&(decide (o=0)||decide (o=5)))=true↔_;simp
  have hvA:Zl steps ⟨2,(p:Int),(mid:Int),-1⟩=w:=by simp[Zl,hst,St.var]
  refine⟨fun n Dn h=>?_,fun v d hd=>?_⟩
  · rw[if_neg h3,if_neg h4]at h;obtain⟨rfl,rfl⟩:=h;exact hD
  rcases(X5M h3 h4).1 hd with⟨h5,h6⟩|⟨h5,h6,rfl⟩
  · obtain⟨r1,r2⟩:=hD v d h6;refine⟨.pass hx (by simp) (.inl rfl) r1 ?_,r2⟩;rw[r2,hvA];by_cases e:QJ steps ⟨2,(p:Int),(mid:Int),-1⟩=true
    · have hA:=hisA.1 e;have:=(h1.var hA).1;have h8:(v:Int)≠w:=fun e=>h5 ⟨hA,by omega⟩;simp[h8]
    simp[e]
  have hA:=h5;have h7:=(h1.var hA).1;refine⟨?_,?_⟩
  · have:=Rc.gen (nv:=nv) hx (by simp) (.inl rfl) (hisA.2 hA);simpa using this
  unfold Qi;rw[hst];simp only[St.var];omega
 obtain⟨k1,k2⟩:=key;obtain⟨l1,l2⟩:=il _ _ _ (tr1 o w a b p D) h2 (by rw[hmid];exact k2);refine⟨fun n Dn h=>?_,fun v d hd=>l2 v d (X1R.1 hd)⟩;unfold lcL at h;rcases h with h|h
 · exact k1 n Dn h
 exact l1 n Dn h
end
def stD0 (n nv:Nat):Ds:=fun v d=>v<nv∧d=n+v
theorem lc_rc {f:Fl} (h:Sm f) (h0:XR f=0) {n:Nat} {Dn:Ds} (hn:lcL f.body 0 1 (stD0 (flL f.body).length f.vars.length) n Dn) (v d:Nat):Dn v d↔Rc (grN f.body) (flL f.body) f.vars.length n d∧Qi (flL f.body) d=(v:Int):=by
 have hg:=X0o h0;have hl:=X1Z h h0
 have hw:Gw (grN f.body) (flL f.body):=grN_w hg fun q hq hd=>by
  obtain⟨i,hi⟩:=List.mem_iff_getElem?.1 hq;obtain⟨last,hsh⟩:=X1H f.body true (QS h0).2.2.2.1 q hq;unfold shB at hsh;rcases hd with hd|hd
  · rw[if_pos hd]at hsh;simp only[Bool.and_eq_true]at hsh;have:=hsh.1.1.2;unfold QR at this;simp only[Bool.and_eq_true,decide_eq_true_eq]at this;omega
  rw[hd]at hsh;simp only[Bool.and_eq_true,reduceCtorEq,if_false,if_true,Int.reduceEq]at hsh;have:=hsh.1.1.1.1.2;unfold QR at this;simp only[Bool.and_eq_true,decide_eq_true_eq]at this;omega
 obtain⟨e0,he0,hk0⟩:=hw.ent
 have hent:WK e0 (Wy f.body 1 (1+wdL f.body))∧∀to,WK e0 to→to=Wy f.body 1 (1+wdL f.body):=by
  have:e0=⟨0,-1,if f.body=[] then((1+wdL f.body:Nat):Int)else 1,-1⟩:=by
   unfold grN at he0;simp only[List.getElem?_cons_zero,Option.some.injEq]at he0;rw[←he0];congr 1
  subst this;refine⟨.inl ?_,fun to hs=>?_⟩
  · simp only[Wy];split<;>simp
  simp only[WK,Wy]at hs⊢;split at hs
  · rename_i e;rw[if_pos e];omega
  rename_i e;rw[if_neg e];omega
 have hvo:∀v:Nat,Qi (flL f.body) ((flL f.body).length+v)=(v:Int):=Xbj _;constructor
 · intro hd;refine(lc_snd f.body 0 1 (1+wdL f.body) (stD0 (flL f.body).length f.vars.length) hl ?_).1 n Dn hn v d hd;rintro v d ⟨h1,rfl⟩;exact⟨.entry he0 hk0 hent.1 h1,hvo v⟩
 rintro⟨hr,hv⟩
 -- all that reaches a node is in its state, the end apart
 have key:∀to d,Rc (grN f.body) (flL f.body) f.vars.length to d→∀v:Nat,Qi (flL f.body) d=(v:Int)→(∃Dt,lcL f.body 0 1 (stD0 (flL f.body).length f.vars.length) to Dt∧Dt v d)∨to=1+wdL f.body:=by
  intro to d hr
  induction hr with
  | entry hx hxk hs hlt=>
    rename_i i to u x;intro v hv;have hi:=hw.k0 i x hx hxk;subst hi;rw[he0]at hx;cases hx;rw[hvo]at hv;have:u=v:=by omega
    subst this;have hto:=hent.2 to hs;by_cases e:f.body=[]
    · refine .inr ?_;rw[hto,Wy,if_pos e]
    refine .inl ⟨stD0 (flL f.body).length f.vars.length,?_,hlt,rfl⟩;rw[hto,Wy,if_neg e];exact X5Y e _ _ _
  | pass hx hxk hs _ hp ih=>
    rename_i i to d x _;intro v hv;rcases ih v hv with⟨Di,h1,h2⟩|h1
    · obtain⟨y,hy,_,hc⟩:=X9m f.body 0 1 (1+wdL f.body) _ hl i Di h1;rw[hx]at hy;cases hy;rcases hc to hs v d (.inl ⟨h2,fun⟨h3,h4⟩=>by rw[h3,hv,h4]at hp;simp at hp⟩)with h5|⟨h5,_⟩
      · exact .inl h5
      exact .inr h5
    exfalso;have hlen:=X0X hg;subst h1
    have:(grN f.body)[1+wdL f.body]? =some ⟨1,-1,-1,-1⟩:=by
     unfold grN;rw[Nat.add_comm,List.getElem?_cons_succ,List.getElem?_append_right (by rw[W4 _ _ _ _ hg];omega),W4 _ _ _ _ hg,Nat.sub_self];rfl
    rw[this]at hx;cases hx;simp only[WK]at hs;omega
  | gen hx hxk hs ha=>
    rename_i i to x;intro v hv;have hil:=(List.getElem?_eq_some_iff.1 hx).1;have hlen:=X0X hg
    have hi0:i≠0:=by
     rintro rfl;rw[he0]at hx;cases hx;exact hxk hk0
    by_cases hie:i=1+wdL f.body
    · exfalso;subst hie
      have:(grN f.body)[1+wdL f.body]? =some ⟨1,-1,-1,-1⟩:=by
       unfold grN;rw[Nat.add_comm,List.getElem?_cons_succ,List.getElem?_append_right (by rw[W4 _ _ _ _ hg];omega),W4 _ _ _ _ hg,Nat.sub_self];rfl
      rw[this]at hx;cases hx;simp only[WK]at hs;omega
    obtain⟨Di,h1⟩:=lc_all f.body 0 1 (stD0 (flL f.body).length f.vars.length) i hg (by omega) (by omega);obtain⟨y,hy,_,hc⟩:=X9m f.body 0 1 (1+wdL f.body) _ hl i Di h1;rw[hx]at hy;cases hy;obtain⟨⟨m,hm1,hm2⟩,_⟩:=hw.asg x (List.mem_of_getElem? hx) ha
    have hva:Zl (flL f.body) x=(v:Int):=by
     rw[←hv,hm1,Int.toNat_natCast];exact(varOf_at hm1 hm2).symm
    rcases hc to hs v x.a.toNat (.inr ⟨ha,hva,rfl⟩)with h5|⟨h5,_⟩
    · exact .inl h5
    exact .inr h5
 rcases key n d hr v hv with⟨Dt,h1,h2⟩|h1
 · rw[lc_uni f.body 0 1 _ n Dn Dt hg hn h1];exact h2
 have:=X7B f.body 0 1 _ n Dn hg hn;omega
end Go.Proofs.YtdajceakaakdoaaGreat

namespace Go.Proofs.YtdajceakaakdoaaGreat
open Go Go.Hl
@[simp] theorem mpI_nil:mpI []=[]:=rfl
def addN (t:List Nat) (v:Nat):List Nat:=if v∈t then t else t++[v]
def addAll:List Nat→List Nat→List Nat
 |[],t=>t
 |v::l,t=>addAll l (addN t v)
structure Nb (n:Nat) (t:List Nat):Prop where
 nd:t.Nodup
 lt:∀d∈t,d<n
theorem Nb.len {n:Nat} {t:List Nat} (h:Nb n t):t.length≤n:=Wp h.nd h.lt
theorem Nb.add {n v:Nat} {t:List Nat} (h:Nb n t) (hv:v<n):Nb n (addN t v):=by
 unfold addN;split
 · exact h
 rename_i hm;refine⟨?_,?_⟩
 · rw[List.nodup_append];exact⟨h.nd,by simp,fun a ha b hb=>by rw[List.mem_singleton.1 hb];rintro rfl;exact hm ha⟩
 intro d hd;rcases List.mem_append.1 hd with hd|hd
 · exact h.lt d hd
 rw[List.mem_singleton.1 hd];exact hv
theorem Nb.nil (n:Nat):Nb n []:=⟨by simp,by simp⟩
theorem Nb.addAll {n:Nat} (l:List Nat) (hl:∀d∈l,d<n):∀{t},Nb n t→Nb n (addAll l t):=by
 induction l with
 |nil=>intro t h;exact h
 |cons v l ih=>intro t h;exact ih (fun d hd=>hl d (by simp[hd])) (h.add (hl v (by simp)))
theorem addN_mem (t:List Nat) (v d:Nat):d∈addN t v↔d∈t∨d=v:=by
 unfold addN;split
 · rename_i h;constructor
   · exact .inl
   rintro(h1|rfl)
   · exact h1
   exact h
 simp
theorem X9C (l:List Nat):∀(t:List Nat) (d:Nat),d∈addAll l t↔d∈t∨d∈l:=by
 induction l with
 |nil=>intro t d;simp[addAll]
 |cons v l ih=>intro t d;rw[addAll,ih,addN_mem,List.mem_cons,or_assoc]
end Go.Proofs.YtdajceakaakdoaaGreat

namespace Go.Proofs.YtdajceakaakdoaaGreat
open Go Go.Hl
structure Dp where
 f:Int
 t:Int
 k:Int
 deriving DecidableEq
def Dp.enc (x:Dp):List CD:=[iC x.f,iC x.t,iC x.k]
attribute [simp] Dp.enc
def Qn (l:List Dp):List (List CD):=l.map Dp.enc
@[simp] theorem ZQ (l:List Dp):(Qn l).length=l.length:=by simp[Qn]
theorem X0x {l:List Dp} {i:Nat} {x:Dp} (h:l[i]? =some x):(Qn l)[i]? =some x.enc:=by simp[Qn,h]
@[simp] theorem encDp_nil:Qn []=[]:=rfl
theorem Xc5 (a b:List Dp):Qn (a++b)=Qn a++Qn b:=by simp[Qn]
abbrev Dfs:=List (List Nat)
def uniL (a b:List Nat):List Nat:=(addAll b a).mergeSort fun x y=>decide (x≤y)
def Zf:Dfs→Dfs→Dfs
 |a::A,b::B=>uniL a b::Zf A B
 |_,_=>[]
mutual
def ouS:St→Nat→Dfs→Dfs
 | .mk o _ w _ _ a b _,p,D=>if o=3 then Zf (ouL a (p+1) D) (ouL b (p+1+szL a) D)else if o=4 then Zf D (ouL a (p+1) D)else if o=0∨o=5 then D.set w.toNat [p] else D
def ouL:List St→Nat→Dfs→Dfs
 |[],_,D=>D
 |s::l,p,D=>ouL l (p+szS s) (ouS s p D)
end
def rdE (p:Nat) (D:Dfs) (t:Tm):List Dp:=(tmV t).flatMap fun v=>(D[v.toNat]?.getD []).map fun d:Nat=>(⟨(d:Int),(p:Int),0⟩:Dp)
def rlE (n p:Nat) (t:Tm):List Dp:=(tmV t).map fun v:Int=>(⟨(n:Int)+v,(p:Int),2⟩:Dp)
def ctE (c:Int) (p:Nat):List Dp:=if 0≤c then [⟨c,p,1⟩] else []
mutual
def edS (n:Nat) (hats:List Ht):St→Int→Nat→Dfs→List Dp
 | .mk o _ _ q t a b _,c,p,D=>ctE c p++(if o=0∨o=1 then rdE p D t else if o=5 then(match hats[q.toNat]? with|some h=>rlE n p h.term|none=>[])
   else if o=3 then rdE p D t++(edL n hats a p (p+1) D++edL n hats b p (p+1+szL a) D)
   else if o=4 then rdE p (Zf D (ouL a (p+1) D)) t++(⟨p,p,1⟩::edL n hats a p (p+1) (Zf D (ouL a (p+1) D)))else [])
def edL (n:Nat) (hats:List Ht):List St→Int→Nat→Dfs→List Dp
 |[],_,_,_=>[]
 |s::l,c,p,D=>edS n hats s c p D++edL n hats l c (p+szS s) (ouS s p D)
end
def ctL:List St→Int→Nat→List Dp
 |[],_,_=>[]
 | .mk o _ _ _ _ a b _::l,c,p=>ctE c p++((if o=4 then [⟨p,p,1⟩] else [])++(ctL a p (p+1)++(ctL b p (p+1+szL a)++ctL l c (p+(1+szL a+szL b)))))
structure okD (nv:Nat) (D:Dfs):Prop where
 len:D.length=nv
 asc:∀r∈D,r.Pairwise (· < ·)
def inD (D:Dfs):Ds:=fun v d=>∃r,D[v]? =some r∧d∈r
theorem X7e (l:List Nat):∀(t:List Nat),t.Nodup→(addAll l t).Nodup:=by
 induction l with
 |nil=>intro t h;exact h
 | cons v l ih=>
   intro t h;refine ih _ ?_;unfold addN;split
   · exact h
   rename_i hn;rw[List.nodup_append];exact⟨h,by simp,fun a ha b hb=>by rw[List.mem_singleton.1 hb];rintro rfl;exact hn ha⟩
theorem Xbk {l:List Nat} (h:l.Nodup):(l.mergeSort fun x y=>decide (x≤y)).Pairwise (· < ·):=by
 have h3:=List.pairwise_mergeSort (le:=fun x y:Nat=>decide (x≤y)) (fun a b c h1 h2=>by simp at*;omega) (fun a b=>by simp;omega) l;have h4:(l.mergeSort fun x y=>decide (x≤y)).Nodup:=(List.mergeSort_perm l _).nodup_iff.2 h;refine(List.pairwise_and_iff.2 ⟨h3,h4⟩).imp fun {a b} ⟨h5,h6⟩=>?_;have h5:a≤b:=by simpa using h5
 have h6:a≠b:=h6;omega
theorem Xb4 {l:List Nat} (h:l.Pairwise (· < ·)):l.Nodup:=h.imp fun {a b} h=>by show a≠b;omega
theorem X8l (a b:List Nat) (x:Nat):x∈uniL a b↔x∈a∨x∈b:=by rw[uniL,List.mem_mergeSort,X9C]
theorem X8G {a:List Nat} (b:List Nat) (h:a.Pairwise (· < ·)):(uniL a b).Pairwise (· < ·):=Xbk (X7e _ _ (Xb4 h))
theorem X2b:∀{A B:Dfs},A.length=B.length→(Zf A B).length=A.length
 |[],[],_=>rfl
 |_::A,_::B,h=>by simp only[Zf,List.length_cons]at h⊢;rw[X2b (by omega)]
theorem X44:∀{A B:Dfs} {i:Nat} {a b:List Nat},A[i]? =some a→B[i]? =some b→(Zf A B)[i]? =some (uniL a b)
 |x::A,y::B,0,a,b,h1,h2=>by cases h1;cases h2;rfl
 |x::A,y::B,i+1,a,b,h1,h2=>by simp only[Zf,List.getElem?_cons_succ]at h1 h2⊢;exact X44 h1 h2
 |[],_,_,_,_,h1,_=>by simp at h1
 |_::_,[],_,_,_,_,h2=>by simp at h2
theorem X5T {nv:Nat} {A B:Dfs} (ha:okD nv A) (hb:B.length=nv):okD nv (Zf A B):=by
 refine⟨by rw[X2b (by rw[ha.len,hb]),ha.len],fun r hr=>?_⟩;obtain⟨i,hi⟩:=List.mem_iff_getElem?.1 hr;have hlt:=(List.getElem?_eq_some_iff.1 hi).1;rw[X2b (by rw[ha.len,hb])]at hlt;obtain⟨a,h1,_⟩:=Xt hlt;obtain⟨b,h2,_⟩:=Xt (show i<B.length by rw[hb,←ha.len];exact hlt);rw[X44 h1 h2]at hi;cases hi;exact X8G b (ha.asc a (List.mem_of_getElem? h1))
theorem X5t {nv:Nat} {A B:Dfs} (ha:A.length=nv) (hb:B.length=nv) (v d:Nat):inD (Zf A B) v d↔inD A v d∨inD B v d:=by
 by_cases hv:v<nv
 · obtain⟨a,h1,_⟩:=Xt (show v<A.length by omega);obtain⟨b,h2,_⟩:=Xt (show v<B.length by omega);have h3:=X44 h1 h2;unfold inD;rw[h1,h2,h3];simp only[Option.some.injEq,exists_eq_left'];exact X8l a b d
 have e1:A[v]? =none:=List.getElem?_eq_none (by omega);have e2:B[v]? =none:=List.getElem?_eq_none (by omega);have e3:(Zf A B)[v]? =none:=List.getElem?_eq_none (by rw[X2b (by omega)];omega);unfold inD;rw[e1,e2,e3];simp
theorem set_in {D:Dfs} {i:Nat} {r:List Nat} (h:i<D.length) (v d:Nat):inD (D.set i r) v d↔if v=i then d∈r else inD D v d:=by
 unfold inD;rw[List.getElem?_set];by_cases e:i=v
 · subst e;simp[h]
 rw[if_neg e,if_neg (Ne.symm e)]
theorem set_ok {nv:Nat} {D:Dfs} (h:okD nv D) (i p:Nat):okD nv (D.set i [p]):=by
 refine⟨by rw[List.length_set];exact h.len,fun r hr=>?_⟩;rcases List.mem_or_eq_of_mem_set hr with h1|h1
 · exact h.asc r h1
 rw[h1];simp
def vaL (nv:Nat):List St→Bool
 |[]=>true
 | .mk o _ w _ _ a b _::l=>(!decide (o=0∨o=5)||decide (w.toNat<nv))&&vaL nv a&&vaL nv b&&vaL nv l
theorem ouS_eq (o c w q:Int) (t:Tm) (a b:List St) (bs:List Int) (p:Nat) (D:Dfs):ouS (.mk o c w q t a b bs) p D=if o=3 then Zf (ouL a (p+1) D) (ouL b (p+1+szL a) D)else if o=4 then Zf D (ouL a (p+1) D)else if o=0∨o=5 then D.set w.toNat [p] else D:=by
 rw[ouS]
theorem X2J {nv:Nat}:∀l:List St,∀(p:Nat) (D:Dfs),okD nv D→okD nv (ouL l p D):=by
 apply St.lind
 · intro p D h;rw[ouL];exact h
 intro o c w q t a b bs l ia ib il p D h;rw[ouL,ouS_eq];refine il _ _ ?_;split
 · exact X5T (ia _ _ h) (ib _ _ h).len
 split
 · exact X5T h (ia _ _ h).len
 split
 · exact set_ok h _ _
 exact h
theorem ouL_in {nv:Nat}:∀l:List St,∀(p:Nat) (D:Dfs),vaL nv l=true→okD nv D→∀v d,inD (ouL l p D) v d↔trL l p (inD D) v d:=by
 apply St.lind
 · intro p D _ h v d;rw[ouL];exact X28.symm
 intro o c w q t a b bs l ia ib il p D hv h v d;simp only[vaL,Bool.and_eq_true,Bool.or_eq_true,Bool.not_eq_true',decide_eq_false_iff_not,decide_eq_true_eq]at hv
 have hs:okD nv (ouS (.mk o c w q t a b bs) p D):=by
  have:=X2J (nv:=nv) [.mk o c w q t a b bs] p D h
  rwa [ouL,ouL]at this
 rw[ouL,il _ _ hv.2 hs,X1R,szS]
 have key:∀v d,inD (ouS (.mk o c w q t a b bs) p D) v d↔tr1 o w a b p (inD D) v d:=by
  intro v d;rw[ouS_eq];by_cases h3:o=3
  · subst h3;rw[if_pos rfl,X5t (X2J a _ _ h).len (X2J b _ _ h).len,ia _ _ hv.1.1.2 h,ib _ _ hv.1.2 h,X46]
  rw[if_neg h3];by_cases h4:o=4
  · subst h4;rw[if_pos rfl,X5t h.len (X2J a _ _ h).len,ia _ _ hv.1.1.2 h,X5d];constructor
    · rintro(h1|⟨_,h1⟩|h1)
      · exact .inl h1
      · exact .inl h1
      exact .inr h1
    rintro(h1|h1)
    · exact .inl h1
    exact .inr (.inr h1)
  rw[if_neg h4,X5M h3 h4];by_cases h5:o=0∨o=5
  · rw[if_pos h5,set_in (by rw[h.len];exact hv.1.1.1.resolve_left fun h=>h h5)];by_cases e:v=w.toNat
    · subst e;simp[h5]
    simp[h5,e,Ne.symm e]
  rw[if_neg h5];simp[h5]
 have e:tr1 o w a b p (inD D)=inD (ouS (.mk o c w q t a b bs) p D):=by
  funext v d
  exact propext (key v d).symm
 rw[e]
theorem XaD {nv:Nat} {a:List St} {p:Nat} {D:Dfs} (hv:vaL nv a=true) (h:okD nv D):inD (Zf D (ouL a (p+1) D))=lpD a p (inD D):=by
 funext v d
 refine propext ?_;rw[X5t h.len (X2J a _ _ h).len,ouL_in a _ _ hv h];constructor
 · rintro(h1|⟨_,h1⟩|h1)
   · exact .inl h1
   · exact .inl h1
   exact .inr h1
 rintro(h1|h1)
 · exact .inl h1
 exact .inr (.inr h1)
theorem ouS_tr {nv:Nat} {o c w q:Int} {t:Tm} {a b:List St} {bs:List Int} {p:Nat} {D:Dfs} (hv:vaL nv [.mk o c w q t a b bs]=true) (h:okD nv D):inD (ouS (.mk o c w q t a b bs) p D)=tr1 o w a b p (inD D):=by
 funext v d
 refine propext ?_;have:=ouL_in (nv:=nv) [.mk o c w q t a b bs] p D hv h v d;rw[ouL,ouL,X1R,X28]at this;exact this
def ndE (n:Nat) (hats:List Ht) (s:St) (a:Nat) (Dn:Ds) (e:Dp):Prop:=
 if s.do_=5 then ∃h,hats[s.n.toNat]? =some h∧∃v∈tmV h.term,e=⟨(n:Int)+v,a,2⟩
 else ∃v∈tmV s.term,∃d:Nat,Dn v.toNat d∧e=⟨d,a,0⟩
theorem X6W {p:Nat} {D:Dfs} {t:Tm} {e:Dp}:e∈rdE p D t↔∃v∈tmV t,∃d:Nat,inD D v.toNat d∧e=⟨d,p,0⟩:=by
 unfold rdE;simp only[List.mem_flatMap,List.mem_map];refine exists_congr fun v=>and_congr Iff.rfl ?_;constructor
 · rintro⟨d,hd,rfl⟩;cases h:D[v.toNat]? with
   |none=>rw[h]at hd;simp at hd
   |some r=>rw[h]at hd;exact⟨d,⟨r,h,by simpa using hd⟩,rfl⟩
 rintro⟨d,⟨r,h,hd⟩,rfl⟩;exact⟨d,by rw[h];exact hd,rfl⟩
theorem X2Y {n p:Nat} {t:Tm} {e:Dp}:e∈rlE n p t↔∃v∈tmV t,e=⟨(n:Int)+v,p,2⟩:=by
 unfold rlE;simp only[List.mem_map];exact exists_congr fun v=>and_congr Iff.rfl eq_comm
def quL:List St→Bool
 |[]=>true
 | .mk o _ _ _ t a b _::l=>(decide (o=0∨o=1∨o=3∨o=4∨o=5)||decide (tmV t=[]))&&quL a&&quL b&&quL l
section
variable {N:List Nd} {steps:List St} {vars:List Vr} {nh:Nat}
def bkE (N:List Nd) (steps:List St) (n0:Nat) (hats:List Ht) (l:List St) (p k:Nat) (D:Ds) (e:Dp):Prop:=
 ∃(n:Nat) (Dn:Ds) (x:Nd) (a:Nat) (s:St),lcL l p k D n Dn∧N[n]? =some x∧x.k≠4∧x.a=(a:Int)∧steps[a]? =some s∧ndE n0 hats s a Dn e
theorem ed_mem {nv n0:Nat} {hats:List Ht}:∀l:List St,∀(c:Int) (p k after:Nat) (D:Dfs),Lies N steps vars nh l p k after→vaL nv l=true→quL l=true→okD nv D→∀e,
  e∈edL n0 hats l c p D↔e∈ctL l c p∨bkE N steps n0 hats l p k (inD D) e:=by
 apply St.lind
 · intro c p k after D _ _ _ _ e;simp[edL,ctL,bkE,lcL]
 intro o c' w q t a b bs l ia ib il c p k after D hl hv hq hD e;obtain⟨h1,h2⟩:=hl.cons;obtain⟨mid,hmid⟩:∃m,Wy l (k+wdS (.mk o c' w q t a b bs)) after=m:=⟨_,rfl⟩;rw[hmid]at h1;have hv0:=hv;simp only[vaL,Bool.and_eq_true]at hv;simp only[quL,Bool.and_eq_true,Bool.or_eq_true,decide_eq_true_eq]at hq
 have hs:okD nv (ouS (.mk o c' w q t a b bs) p D):=by
  have:=X2J (nv:=nv) [.mk o c' w q t a b bs] p D hD
  rwa [ouL,ouL]at this
 have htr:inD (ouS (.mk o c' w q t a b bs) p D)=tr1 o w a b p (inD D):=ouS_tr (nv:=nv) (by simp[vaL,hv.1.1.2,hv.1.2];simpa using hv.1.1.1) hD;have hL:=il c (p+(1+szL a+szL b)) (k+wdS (.mk o c' w q t a b bs)) after _ h2 hv.2 hq.2 hs e;rw[htr]at hL;rw[edL,ctL,szS,List.mem_append,hL];have hst:=h1.st
 -- the first step
 have key:e∈edS n0 hats (.mk o c' w q t a b bs) c p D↔(e∈ctE c p∨(e∈(if o=4 then [(⟨p,p,1⟩:Dp)] else [])∨(e∈ctL a p (p+1)∨e∈ctL b p (p+1+szL a))))∨
   ∃(n:Nat) (Dn:Ds) (x:Nd) (m:Nat) (s:St),(if o=3 then(n=k∧Dn=inD D)∨lcL a (p+1) (k+1) (inD D) n Dn∨lcL b (p+1+szL a) (k+1+wdL a) (inD D) n Dn
    else if o=4 then(n=k∧Dn=inD D)∨(n=k+1∧Dn=lpD a p (inD D))∨lcL a (p+1) (k+2) (lpD a p (inD D)) n Dn
    else n=k∧Dn=inD D)∧N[n]? =some x∧x.k≠4∧x.a=(m:Int)∧steps[m]? =some s∧ndE n0 hats s m Dn e:=by
  rw[edS,List.mem_append];by_cases h3:o=3
  · subst h3;obtain⟨_,la,lb⟩:=h1.if_ rfl;have hx:=h1.ifN;have hA:=ia p (p+1) (k+1) mid D la hv.1.1.2 hq.1.1.2 hD e;have hB:=ib p (p+1+szL a) (k+1+wdL a) mid D lb hv.1.2 hq.1.2 hD e;simp only[show ¬((3:Int)=0∨(3:Int)=1) by decide,show ¬(3:Int)=5 by decide,show ¬(3:Int)=4 by decide,if_true,if_false,List.mem_append,List.not_mem_nil,false_or];rw[hA,hB,X6W];constructor
    · rintro(h|h|(h|h)|(h|h))
      · exact .inl (.inl h)
      · exact .inr ⟨k,_,_,p,_,.inl ⟨rfl,rfl⟩,hx,by simp,rfl,hst,by simpa[ndE,St.do_,St.term]using h⟩
      · exact .inl (.inr (.inl h))
      · obtain⟨n,Dn,x,m,s,g1,g2⟩:=h;exact .inr ⟨n,Dn,x,m,s,.inr (.inl g1),g2⟩
      · exact .inl (.inr (.inr h))
      obtain⟨n,Dn,x,m,s,g1,g2⟩:=h;exact .inr ⟨n,Dn,x,m,s,.inr (.inr g1),g2⟩
    rintro((h|h|h)|⟨n,Dn,x,m,s,(⟨rfl,rfl⟩|g1|g1),g2⟩)
    · exact .inl h
    · exact .inr (.inr (.inl (.inl h)))
    · exact .inr (.inr (.inr (.inl h)))
    · obtain⟨g2,g3,g4,g5,g6⟩:=g2;rw[hx]at g2;cases g2;have:m=p:=by simp only at g4;omega
      subst this;rw[hst]at g5;cases g5;exact .inr (.inl (by simpa[ndE,St.do_,St.term]using g6))
    · exact .inr (.inr (.inl (.inr ⟨n,Dn,x,m,s,g1,g2⟩)))
    exact .inr (.inr (.inr (.inr ⟨n,Dn,x,m,s,g1,g2⟩)))
  by_cases h4:o=4
  · subst h4;obtain⟨_,_,la,hb⟩:=h1.loop rfl;subst hb;obtain⟨n1,n2⟩:=h1.loopN;have hE:okD nv (Zf D (ouL a (p+1) D)):=X5T hD (X2J a _ _ hD).len;have hA:=ia p (p+1) (k+2) (k+1) _ la hv.1.1.2 hq.1.1.2 hE e;rw[XaD hv.1.1.2 hD]at hA;simp only[show ¬((4:Int)=0∨(4:Int)=1) by decide,show ¬(4:Int)=5 by decide,show ¬(4:Int)=3 by decide,if_true,if_false,List.mem_append,List.mem_cons,List.not_mem_nil,or_false,ctL];rw[hA,X6W,XaD hv.1.1.2 hD];constructor
    · rintro(h|h|h|(h|h))
      · exact .inl (.inl h)
      · exact .inr ⟨k+1,_,_,p,_,.inr (.inl ⟨rfl,rfl⟩),n2,by simp,rfl,hst,by simpa[ndE,St.do_,St.term]using h⟩
      · exact .inl (.inr (.inl h))
      · exact .inl (.inr (.inr h))
      obtain⟨n,Dn,x,m,s,g1,g2⟩:=h;exact .inr ⟨n,Dn,x,m,s,.inr (.inr g1),g2⟩
    rintro((h|h|h)|⟨n,Dn,x,m,s,(⟨rfl,rfl⟩|⟨rfl,rfl⟩|g1),g2⟩)
    · exact .inl h
    · exact .inr (.inr (.inl h))
    · exact .inr (.inr (.inr (.inl h)))
    · rw[n1]at g2;obtain⟨g2,g3,_⟩:=g2;cases g2;exact absurd rfl g3
    · obtain⟨g2,g3,g4,g5,g6⟩:=g2;rw[n2]at g2;cases g2;have:m=p:=by simp only at g4;omega
      subst this;rw[hst]at g5;cases g5;exact .inr (.inl (by simpa[ndE,St.do_,St.term]using g6))
    exact .inr (.inr (.inr (.inr ⟨n,Dn,x,m,s,g1,g2⟩)))
  have hab:a=[]∧b=[]:=by
   have:=h1.g;simp only[gS,Bool.and_eq_true,Bool.or_eq_true,decide_eq_true_eq,List.isEmpty_iff]at this;rcases this.1 with(h|h)|h
   · exact absurd h h3
   · exact absurd h.1 h4
   exact⟨h.1,h.2⟩
  obtain⟨rfl,rfl⟩:=hab;have hx:=h1.leafN h3 h4;simp only[if_neg h3,if_neg h4,ctL,List.not_mem_nil,or_false]
  have hnd:(∃(n:Nat) (Dn:Ds) (x:Nd) (m:Nat) (s:St),(n=k∧Dn=inD D)∧N[n]? =some x∧x.k≠4∧x.a=(m:Int)∧steps[m]? =some s∧ndE n0 hats s m Dn e)↔ndE n0 hats (.mk o c' w q t [] [] bs) p (inD D) e:=by
   constructor
   · rintro⟨n,Dn,x,m,s,⟨rfl,rfl⟩,g2,g3,g4,g5,g6⟩;rw[hx]at g2;cases g2;have:m=p:=by simp only at g4;omega
     subst this;rw[hst]at g5;cases g5;exact g6
   intro h;exact⟨k,_,_,p,_,⟨rfl,rfl⟩,hx,by simp,rfl,hst,h⟩
  rw[hnd];refine or_congr Iff.rfl ?_
  have hnd2:ndE n0 hats (.mk o c' w q t [] [] bs) p (inD D) e↔(if o=5 then ∃h,hats[q.toNat]? =some h∧∃v∈tmV h.term,e=⟨(n0:Int)+v,p,2⟩
   else ∃v∈tmV t,∃d:Nat,inD D v.toNat d∧e=⟨d,p,0⟩):=Iff.rfl
  rw[hnd2];by_cases h01:o=0∨o=1
  · rw[if_pos h01,if_neg (by omega),X6W]
  rw[if_neg h01];by_cases h5:o=5
  · rw[if_pos h5,if_pos h5];cases hh:hats[q.toNat]? with
    |none=>simp
    | some h=>
      simp only[X2Y,Option.some.injEq,exists_eq_left']
  rw[if_neg h5,if_neg h5]
  have ht:tmV t=[]:=hq.1.1.1.resolve_left fun h=>by
   have e1:¬o=0:=fun h=>h01 (.inl h);have e2:¬o=1:=fun h=>h01 (.inr h);rcases h with h|h|h|h|h
   · exact e1 h
   · exact e2 h
   · exact h3 h
   · exact h4 h
   exact h5 h
  simp[ht]
 rw[key];simp only[List.mem_append]
 have hsp:bkE N steps n0 hats (.mk o c' w q t a b bs::l) p k (inD D) e↔(∃(n:Nat) (Dn:Ds) (x:Nd) (m:Nat) (s:St),(if o=3 then(n=k∧Dn=inD D)∨lcL a (p+1) (k+1) (inD D) n Dn∨lcL b (p+1+szL a) (k+1+wdL a) (inD D) n Dn
    else if o=4 then(n=k∧Dn=inD D)∨(n=k+1∧Dn=lpD a p (inD D))∨lcL a (p+1) (k+2) (lpD a p (inD D)) n Dn
    else n=k∧Dn=inD D)∧N[n]? =some x∧x.k≠4∧x.a=(m:Int)∧steps[m]? =some s∧ndE n0 hats s m Dn e)∨bkE N steps n0 hats l (p+(1+szL a+szL b)) (k+wdS (.mk o c' w q t a b bs)) (tr1 o w a b p (inD D)) e:=by
  unfold bkE;constructor
  · rintro⟨n,Dn,x,m,s,g1,g2⟩;unfold lcL at g1;rcases g1 with g1|g1
    · exact .inl ⟨n,Dn,x,m,s,g1,g2⟩
    exact .inr ⟨n,Dn,x,m,s,g1,g2⟩
  rintro(⟨n,Dn,x,m,s,g1,g2⟩|⟨n,Dn,x,m,s,g1,g2⟩)
  · exact⟨n,Dn,x,m,s,by unfold lcL;exact .inl g1,g2⟩
  exact⟨n,Dn,x,m,s,by unfold lcL;exact .inr g1,g2⟩
 rw[hsp];constructor
 · rintro(((h|h|h|h)|h)|(h|h))
   · exact .inl (.inl h)
   · exact .inl (.inr (.inl h))
   · exact .inl (.inr (.inr (.inl h)))
   · exact .inl (.inr (.inr (.inr (.inl h))))
   · exact .inr (.inl h)
   · exact .inl (.inr (.inr (.inr (.inr h))))
   exact .inr (.inr h)
 rintro((h|h|h|h|h)|(h|h))
 · exact .inl (.inl (.inl h))
 · exact .inl (.inl (.inr (.inl h)))
 · exact .inl (.inl (.inr (.inr (.inl h))))
 · exact .inl (.inl (.inr (.inr (.inr h))))
 · exact .inr (.inl h)
 · exact .inl (.inr h)
 exact .inr (.inr h)
end
end Go.Proofs.YtdajceakaakdoaaGreat

namespace Go.Proofs.YtdajceakaakdoaaGreat
open Go Go.Hl
def X1v (n0:Nat) (hats:List Ht) (steps:List St) (x:Nd) (row:List Nat):List Dp:=
 if x.a<0∨x.k=4 then [] else match steps[x.a.toNat]? with
  | some s=>if s.do_=5 then(match hats[s.n.toNat]? with|some h=>rlE n0 x.a.toNat h.term|none=>[])
    else(tmV s.term).flatMap fun v=>(row.filter fun d=>decide (Qi steps d=v)).map fun d:Nat=>(⟨(d:Int),(x.a.toNat:Int),0⟩:Dp)
  |none=>[]
def X2h (n0:Nat) (hats:List Ht) (steps:List St) (N:List Nd) (R:List (List Nat)):List Dp:=(N.zip R).flatMap fun p=>X1v n0 hats steps p.1 p.2
def D0 (n nv:Nat):Dfs:=(List.range nv).map fun x=>[n+x]
theorem D0_ok (n nv:Nat):okD nv (D0 n nv):=by
 refine⟨by simp[D0],fun r hr=>?_⟩;unfold D0 at hr;obtain⟨x,_,rfl⟩:=List.mem_map.1 hr;simp
theorem D0_in (n nv:Nat):inD (D0 n nv)=stD0 n nv:=by
 funext v d
 refine propext ?_;unfold inD stD0 D0;rw[List.getElem?_map];by_cases h:v<nv
 · rw[List.getElem?_range h];simp[h]
 rw[List.getElem?_eq_none (by simpa using h)];simp[h]
theorem wf_va {vars:List Vr} {nh:Nat}:∀l:List St,wfL vars nh l=true→vaL vars.length l=true:=by
 apply St.lind
 · intro _;simp[vaL]
 intro o c w q t a b bs l ia ib il h;simp only[wfL,wfS,Bool.and_eq_true]at h;simp only[vaL,Bool.and_eq_true];refine⟨⟨⟨?_,ia h.1.2.2.2.2.2.1⟩,ib h.1.2.2.2.2.2.2⟩,il h.2⟩;simp only[Bool.or_eq_true,Bool.not_eq_true',decide_eq_false_iff_not,decide_eq_true_eq];by_cases h5:o=0∨o=5
 · refine .inr ?_;have hw:=h.1.2.1;simp only[Bool.or_eq_true,Bool.and_eq_true,decide_eq_true_eq]at hw;have hl:=hw.resolve_left fun h=>by omega
   obtain⟨h0,x,hx⟩:=X6Q hl;exact(List.getElem?_eq_some_iff.1 hx).1
 exact .inl h5
theorem X8J {t:Tm} (h:WA t=true):tmV t=[]:=by
 obtain⟨o,n,ks⟩:=t;simp only[WA,Bool.and_eq_true,decide_eq_true_eq]at h;obtain⟨ho,_,hk⟩:=h;have hk:ks=[]:=List.eq_nil_of_length_eq_zero hk;simp[tmV,X0O,hk,ho]
theorem ss_qu {vars:List Vr} {nh:Nat}:∀l:List St,(∀q∈flL l,∃last,shB vars nh q.do_ q.var q.n q.term q.then_.length q.else_.length q.bounds last=true)→quL l=true:=by
 apply St.lind
 · intro _;simp[quL]
 intro o c w q t a b bs l ia ib il h;simp only[flL,flS,List.mem_append,List.mem_cons]at h;simp only[quL,Bool.and_eq_true];refine⟨⟨⟨?_,ia fun q hq=>h q (.inl (.inr (.inl hq)))⟩,ib fun q hq=>h q (.inl (.inr (.inr hq)))⟩,il fun q hq=>h q (.inr hq)⟩;obtain⟨last,hs⟩:=h (.mk o c w q t a b bs) (.inl (.inl rfl));simp only[St.do_,St.var,St.n,St.term,St.then_,St.else_,St.bounds]at hs;simp only[Bool.or_eq_true,decide_eq_true_eq];unfold shB at hs;by_cases h2:o=2
 · subst h2;simp only[Bool.and_eq_true,Int.reduceEq,if_false,if_true]at hs;exact .inr (X8J hs.2)
 by_cases h6:o=6
 · subst h6;simp only[Bool.and_eq_true,Int.reduceEq,if_false,if_true]at hs;exact .inr (X8J hs.1.2)
 refine .inl ?_;by_cases h0:o=0
 · exact .inl h0
 by_cases h1:o=1
 · exact .inr (.inl h1)
 by_cases h3:o=3
 · exact .inr (.inr (.inl h3))
 by_cases h4:o=4
 · exact .inr (.inr (.inr (.inl h4)))
 by_cases h5:o=5
 · exact .inr (.inr (.inr (.inr h5)))
 rw[if_neg h0,if_neg h1,if_neg h2,if_neg h3,if_neg h4,if_neg h5,if_neg h6]at hs;cases hs
theorem X7r {N:List Nd} {steps:List St} {nv n:Nat} {r:List Nat} (h:(rcL N steps nv)[n]? =some r) (d:Nat):d∈r↔d<steps.length+nv∧Rc N steps nv n d:=by
 classical
 have hlt:n<N.length:=by have:=(List.getElem?_eq_some_iff.1 h).1;simpa[rcL]using this
 have:(rcL N steps nv)[n]? =some ((List.range (steps.length+nv)).filter fun d=>decide (Rc N steps nv n d)):=by simp[rcL,hlt]
 rw[this]at h;cases h;rw[List.mem_filter,List.mem_range,decide_eq_true_eq]
theorem X0W {α β:Type}:∀{l:List α} {m:List β} {p:α×β},p∈l.zip m↔∃i:Nat,l[i]? =some p.1∧m[i]? =some p.2
 |[],m,p=>by simp
 |a::l,[],p=>by simp
 | a ::l,b::m,p=>by
   rw[List.zip_cons_cons,List.mem_cons,X0W];constructor
   · rintro(rfl|⟨i,h1,h2⟩)
     · exact⟨0,rfl,rfl⟩
     exact⟨i+1,by simpa using h1,by simpa using h2⟩
   rintro⟨i,h1,h2⟩;cases i with
   | zero=>
     simp only[List.getElem?_cons_zero,Option.some.injEq]at h1 h2;exact .inl (by obtain⟨x,y⟩:=p;simp only at h1 h2;rw[h1,h2])
   |succ i=>exact .inr ⟨i,by simpa using h1,by simpa using h2⟩
theorem dat_bk {f:Fl} (h:Sm f) (h0:XR f=0) (hvf:∀q∈flL f.body,∀v∈tmV q.term,0≤v) (e:Dp):
  e∈X2h (flL f.body).length f.hats (flL f.body) (grN f.body) (rcL (grN f.body) (flL f.body) f.vars.length)↔bkE (grN f.body) (flL f.body) (flL f.body).length f.hats f.body 0 1 (stD0 (flL f.body).length f.vars.length) e:=by
 have hg:=X0o h0;have hl:=X1Z h h0;have hok:=X5P hg;have hlen:=X0X hg;have hrl:(rcL (grN f.body) (flL f.body) f.vars.length).length=(grN f.body).length:=X3o _ _ _;unfold X2h bkE;simp only[List.mem_flatMap]
 have key:∀(n:Nat) (x:Nd) (r:List Nat) (Dn:Ds),(grN f.body)[n]? =some x→(rcL (grN f.body) (flL f.body) f.vars.length)[n]? =some r→lcL f.body 0 1 (stD0 (flL f.body).length f.vars.length) n Dn→0≤x.a→x.k≠4→∀s,(flL f.body)[x.a.toNat]? =some s→
   (e∈X1v (flL f.body).length f.hats (flL f.body) x r↔ndE (flL f.body).length f.hats s x.a.toNat Dn e):=by
  intro n x r Dn hx hr hD ha hk s hs;unfold X1v ndE;rw[if_neg (by omega),hs];simp only;split
  · cases hh:f.hats[s.n.toNat]? with
    |none=>simp
    |some hh=>simp only[X2Y,Option.some.injEq,exists_eq_left']
  simp only[List.mem_flatMap,List.mem_map,List.mem_filter,decide_eq_true_eq];constructor
  · rintro⟨v,hv,d,⟨hd,hvo⟩,rfl⟩;have hv0:=hvf s (List.mem_of_getElem? hs) v hv;refine⟨v,hv,d,(lc_rc h h0 hD _ _).2 ⟨((X7r hr d).1 hd).2,by rw[hvo];omega⟩,rfl⟩
  rintro⟨v,hv,d,hd,rfl⟩;have hv0:=hvf s (List.mem_of_getElem? hs) v hv;obtain⟨h1,h2⟩:=(lc_rc h h0 hD _ _).1 hd;refine⟨v,hv,d,⟨(X7r hr d).2 ⟨rc_lt (fun y hy hay=>?_) h1,h1⟩,by rw[h2];omega⟩,rfl⟩;rcases(hok y hy).ha with h5|⟨m,h5,h6⟩
  · simp[QJ,h5.1]at hay
  rw[h5,XY];simpa using h6
 constructor
 · rintro⟨⟨x,r⟩,hp,he⟩;obtain⟨n,hx,hr⟩:=X0W.1 hp;simp only at hx hr he
   have hnz:0≤x.a∧x.k≠4:=by
    by_cases hc:x.a<0∨x.k=4
    · unfold X1v at he;rw[if_pos hc]at he;cases he
    omega
   have hrange:1≤n∧n<1+wdL f.body:=by
    have hnl:=(List.getElem?_eq_some_iff.1 hx).1;rw[hlen]at hnl;refine⟨Nat.pos_of_ne_zero ?_,?_⟩
    · rintro rfl;unfold grN at hx;simp only[List.getElem?_cons_zero,Option.some.injEq]at hx;rw[←hx]at hnz;simp at hnz
    refine Nat.lt_of_le_of_ne (by omega) ?_;intro e'
    have:(grN f.body)[1+wdL f.body]? =some ⟨1,-1,-1,-1⟩:=by
     unfold grN;rw[Nat.add_comm,List.getElem?_cons_succ,List.getElem?_append_right (by rw[W4 _ _ _ _ hg];omega),W4 _ _ _ _ hg,Nat.sub_self];rfl
    rw[e',this]at hx;cases hx;simp at hnz
   obtain⟨Dn,hD⟩:=lc_all f.body 0 1 (stD0 (flL f.body).length f.vars.length) n hg hrange.1 hrange.2;obtain⟨m,hm1,hm2⟩:=((hok x (List.mem_of_getElem? hx)).ha).resolve_left fun h=>by omega
   rw[←XY]at hm2;have hs:(flL f.body)[x.a.toNat]? =some (flL f.body)[m]:=by rw[hm1,Int.toNat_natCast,List.getElem?_eq_getElem hm2]
   have:=(key n x r Dn hx hr hD hnz.1 hnz.2 _ hs).1 he;exact⟨n,Dn,x,x.a.toNat,_,hD,hx,hnz.2,by omega,hs,this⟩
 rintro⟨n,Dn,x,a,s,hD,hx,hk,ha,hs,he⟩;have hnl:=(List.getElem?_eq_some_iff.1 hx).1;obtain⟨r,hr,_⟩:=Xt (show n<(rcL (grN f.body) (flL f.body) f.vars.length).length by rw[hrl];exact hnl);have ha2:x.a.toNat=a:=by omega
 refine⟨(x,r),X0W.2 ⟨n,hx,hr⟩,?_⟩;exact(key n x r Dn hx hr hD (by omega) hk s (by rw[ha2];exact hs)).2 (by rw[ha2];exact he)
theorem prog_ref {f:Fl} (h:Sm f) (h0:XR f=0) (hvf:∀q∈flL f.body,∀v∈tmV q.term,0≤v) (e:Dp):
  e∈ctL f.body (-1) 0++X2h (flL f.body).length f.hats (flL f.body) (grN f.body) (rcL (grN f.body) (flL f.body) f.vars.length)↔e∈edL (flL f.body).length f.hats f.body (-1) 0 (D0 (flL f.body).length f.vars.length):=by
 have hl:=X1Z h h0;rw[List.mem_append,dat_bk h h0 hvf,ed_mem f.body (-1) 0 1 (1+wdL f.body) _ hl (wf_va _ hl.wf) (ss_qu _ (X1H f.body true (QS h0).2.2.2.1)) (D0_ok _ _),D0_in]
def tmP (cnd:St→Bool) (end_:Int) (steps:List St):List Dp:=(steps.zipIdx).flatMap fun s=>if cnd s.1=true then [⟨s.2,end_,1⟩] else []
theorem Xaz (cnd:St→Bool) (end_:Int) (steps:List St) (e:Dp):e∈tmP cnd end_ steps↔∃(i:Nat) (s:St),steps[i]? =some s∧cnd s=true∧e=⟨(i:Nat),end_,1⟩:=by
 unfold tmP;simp only[List.mem_flatMap];constructor
 · rintro⟨⟨s,i⟩,hs,he⟩;have hs':=List.mem_zipIdx_iff_getElem?.1 hs;simp only at he hs';split at he
   · rename_i hc;exact⟨i,s,hs',hc,by simpa using he⟩
   cases he
 rintro⟨i,s,hs,hc,rfl⟩;exact⟨(s,i),List.mem_zipIdx_iff_getElem?.2 hs,by simp[hc]⟩
def dpB (a b:Dp):Bool:=decide (a.f<b.f)||(decide (a.f=b.f)&&(decide (a.t<b.t)||(decide (a.t=b.t)&&decide (a.k<b.k))))
theorem Z0 {a b:Dp}:dpB a b=true↔a.f<b.f∨(a.f=b.f∧(a.t<b.t∨(a.t=b.t∧a.k<b.k))):=by simp[dpB]
theorem Xab:∀{l m:List Dp},l.Pairwise (fun a b=>dpB a b=true)→m.Pairwise (fun a b=>dpB a b=true)→(∀x,x∈l↔x∈m)→l=m
 |[],[],_,_,_=>rfl
 |[],b::m,_,_,h=>absurd ((h b).2 (by simp)) (by simp)
 |a::l,[],_,_,h=>absurd ((h a).1 (by simp)) (by simp)
 | a ::l,b::m,hl,hm,h=>by
   rw[List.pairwise_cons]at hl hm
   have hab:a=b:=by
    rcases List.mem_cons.1 ((h a).1 (by simp))with e|e
    · exact e
    rcases List.mem_cons.1 ((h b).2 (by simp))with e2|e2
    · exact e2.symm
    have h1:=Z0.1 (hm.1 a e);have h2:=Z0.1 (hl.1 b e2);omega
   subst hab;have irr:∀x:Dp,¬dpB x x=true:=fun x hx=>by have:=Z0.1 hx;omega
   congr 1;refine Xab hl.2 hm.2 fun x=>?_;constructor
   · intro hx;rcases List.mem_cons.1 ((h x).1 (by simp[hx]))with e|e
     · subst e;exact absurd (hl.1 x hx) (irr x)
     exact e
   intro hx;rcases List.mem_cons.1 ((h x).2 (by simp[hx]))with e|e
   · subst e;exact absurd (hm.1 x hx) (irr x)
   exact e
def WR (t:List Dp) (v:Dp):List Dp:=if v∈t then t else t++[v]
def XS:List Dp→List Dp→List Dp
 |[],t=>t
 |v::l,t=>XS l (WR t v)
theorem X0w (a b:List Dp):∀t,XS (a++b) t=XS b (XS a t):=by
 induction a with
 |nil=>intro t;rfl
 |cons v a ih=>intro t;exact ih _
theorem XbN (t:List Dp) (v x:Dp):x∈WR t v↔x∈t∨x=v:=by
 unfold WR;split
 · rename_i h;exact⟨.inl,fun h2=>h2.elim id fun e=>e▸h⟩
 simp
theorem QO (l:List Dp):∀(t:List Dp) (x:Dp),x∈XS l t↔x∈t∨x∈l:=by
 induction l with
 |nil=>intro t x;simp[XS]
 | cons v l ih=>
   intro t x;rw[XS,ih,XbN,List.mem_cons,or_assoc]
theorem X8c {t:List Dp} (h:t.Nodup) (v:Dp):(WR t v).Nodup:=by
 unfold WR;split
 · exact h
 rename_i hn;rw[List.nodup_append];exact⟨h,by simp,fun a ha b hb=>by rw[List.mem_singleton.1 hb];rintro rfl;exact hn ha⟩
theorem X0d (l:List Dp):∀(t:List Dp),t.Nodup→(XS l t).Nodup:=by
 induction l with
 |nil=>intro t h;exact h
 |cons v l ih=>intro t h;exact ih _ (X8c h v)
def Wr (l:List Dp):List Dp:=(XS l []).mergeSort fun a b=> !dpB b a
theorem Xcb (a b:Dp):(!dpB b a|| !dpB a b)=true:=by
 cases h1:dpB b a with
 |false=>rfl
 | true=>
   cases h2:dpB a b with
   |false=>rfl
   |true=>have:=Z0.1 h1;have:=Z0.1 h2;omega
theorem XbD (a b c:Dp) (h1:(!dpB b a)=true) (h2:(!dpB c b)=true):(!dpB c a)=true:=by
 simp only[Bool.not_eq_true',←Bool.not_eq_true]at*;rw[Z0]at*;omega
theorem ZO (l:List Dp) (x:Dp):x∈Wr l↔x∈l:=by
 rw[Wr,List.mem_mergeSort,QO];simp
theorem X0v (l:List Dp):(Wr l).Pairwise (fun a b=>dpB a b=true):=by
 have h3:=List.pairwise_mergeSort (le:=fun a b=> !dpB b a) (fun a b c=>XbD a b c) (fun a b=>Xcb a b) (XS l []);have h4:(Wr l).Nodup:=(List.mergeSort_perm _ _).nodup_iff.2 (X0d l [] (by simp));refine(List.pairwise_and_iff.2 ⟨h3,h4⟩).imp fun {a b} ⟨h5,h6⟩=>?_;simp only[Bool.not_eq_true',←Bool.not_eq_true]at h5;rw[Z0]at h5⊢;have h6:a≠b:=h6;have:¬(a.f=b.f∧a.t=b.t∧a.k=b.k):=fun⟨e1,e2,e3⟩=>h6 (by obtain⟨x,y,z⟩:=a;obtain⟨x',y',z'⟩:=b;simp only at e1 e2 e3;rw[e1,e2,e3]);omega
theorem X4r {l m:List Dp} (h:∀x,x∈l↔x∈m):Wr l=Wr m:=Xab (X0v l) (X0v m) fun x=>by rw[ZO,ZO,h]
theorem X9h {l m:List Dp} (h:m.Pairwise (fun a b=>dpB a b=true)) (hm:∀x,x∈m↔x∈l):m=Wr l:=Xab h (X0v l) fun x=>by rw[ZO,hm]
end Go.Proofs.YtdajceakaakdoaaGreat

namespace Go.Proofs.YtdajceakaakdoaaGreat
open Go Go.Hl Go.Shelf Go.Sort
def X9H:Ren:=⟨fun f=>if f=6 then 58 else if f=14 then 108 else if f=15 then 89 else if f=20 then 168 else if f=21 then 169 else if f=22 then 170 else if f=23 then 171 else if f=24 then 172 else if f=25 then 173 else if f=26 then 174 else if f=27 then 175 else if f=28 then 159 else if f=29 then 160 else if f=46 then 215 else if f=47 then 208 else if f=48 then 209 else if f=49 then 216 else if f=50 then 217 else if f=57 then 246 else f,fun t=>if t=0 then 0 else if t=3 then 3 else if t=4 then 4 else if t=5 then 5 else if t=9 then 9 else if t=22 then 37 else if t=25 then 126 else if t=39 then 162 else if t=45 then 216 else if t=46 then 217 else if t=50 then 142 else if t=53 then 223 else if t=55 then 225 else if t=66 then 273 else if t=70 then 277 else if t=76 then 304 else if t=77 then 227 else if t=24 then 51 else t,fun g=>g⟩
theorem sortDL:SlLaysF0.n6 Tryz.prog X9H where
 mixed:=by kernel_rfl
 f6:=⟨Tryz.f58.name,by kernel_rfl,by kernel_rfl⟩
 f14:=⟨Tryz.f108.name,by kernel_rfl,by kernel_rfl⟩
 f15:=by kernel_rfl
 f20:=⟨Tryz.f168.name,by kernel_rfl,by kernel_rfl⟩
 f21:=⟨Tryz.f169.name,by kernel_rfl,by kernel_rfl⟩
 f22:=⟨Tryz.f170.name,by kernel_rfl,by kernel_rfl⟩
 f23:=⟨Tryz.f171.name,by kernel_rfl,by kernel_rfl⟩
 f24:=⟨Tryz.f172.name,by kernel_rfl,by kernel_rfl⟩
 f25:=⟨Tryz.f173.name,by kernel_rfl,by kernel_rfl⟩
 f26:=⟨Tryz.f174.name,by kernel_rfl,by kernel_rfl⟩
 f27:=⟨Tryz.f175.name,by kernel_rfl,by kernel_rfl⟩
 f28:=by kernel_rfl
 f29:=by kernel_rfl
 f46:=⟨Tryz.f215.name,by kernel_rfl,by kernel_rfl⟩
 f47:=by kernel_rfl
 f48:=by kernel_rfl
 f49:=⟨Tryz.f216.name,by kernel_rfl,by kernel_rfl⟩
 f50:=⟨Tryz.f217.name,by kernel_rfl,by kernel_rfl⟩
 f57:=⟨Tryz.f246.name,by kernel_rfl,by kernel_rfl⟩
 t0:=by kernel_rfl
 a0:=fun w=>rfl
 z0:=fun w=>rfl
 v0:=fun w=>rfl
 t3:=by kernel_rfl
 a3:=fun w=>rfl
 z3:=fun w=>rfl
 v3:=fun w=>rfl
 t4:=by kernel_rfl
 a4:=fun w=>rfl
 z4:=fun w=>rfl
 v4:=fun w=>rfl
 t5:=by kernel_rfl
 a5:=fun w=>rfl
 z5:=fun w=>rfl
 v5:=fun w=>rfl
 t9:=by kernel_rfl
 a9:=fun w=>rfl
 z9:=fun w=>rfl
 v9:=fun w=>rfl
 t22:=by kernel_rfl
 a22:=fun w=>rfl
 z22:=fun w=>rfl
 v22:=fun w=>rfl
 t25:=by kernel_rfl
 a25:=fun w=>rfl
 z25:=fun w=>rfl
 v25:=fun w=>rfl
 t39:=by kernel_rfl
 a39:=fun w=>rfl
 z39:=fun w=>rfl
 v39:=fun w=>rfl
 t45:=by kernel_rfl
 a45:=fun w=>rfl
 z45:=fun w=>rfl
 v45:=fun w=>rfl
 t46:=by kernel_rfl
 a46:=fun w=>rfl
 z46:=fun w=>rfl
 v46:=fun w=>rfl
 t50:=by kernel_rfl
 a50:=fun w=>rfl
 z50:=fun w=>rfl
 v50:=fun w=>rfl
 t53:=by kernel_rfl
 a53:=fun w=>rfl
 z53:=fun w=>rfl
 v53:=fun w=>rfl
 t55:=by kernel_rfl
 a55:=fun w=>rfl
 z55:=fun w=>rfl
 v55:=fun w=>rfl
 t66:=by kernel_rfl
 a66:=fun w=>rfl
 z66:=fun w=>rfl
 v66:=fun w=>rfl
 t70:=by kernel_rfl
 a70:=fun w=>rfl
 z70:=fun w=>rfl
 v70:=fun w=>rfl
 t76:=by kernel_rfl
 a76:=fun w=>rfl
 z76:=fun w=>rfl
 v76:=fun w=>rfl
 t77:=by kernel_rfl
 a77:=fun w=>rfl
 z77:=fun w=>rfl
 v77:=fun w=>rfl
end Go.Proofs.YtdajceakaakdoaaGreat

namespace Go.Proofs.YtdajceakaakdoaaGreat
open Go Go.Hl
end Go.Proofs.YtdajceakaakdoaaGreat

namespace Go.Proofs.YtdajceakaakdoaaGreat
open Go Go.Hl
end Go.Proofs.YtdajceakaakdoaaGreat
