/- Part 9: contracts of functions of the program and of the reference, and plain facts about what they compute; used by the proof of the claimed statement. Conditions: as each theorem states. -/
import Derived.Test.YtdajceakaakdoaaGreatI7
import Derived.Test.YtdajceakaakdoaaGreatHmZQ
set_option linter.unusedSimpArgs false
set_option linter.unusedVariables false
set_option linter.unnecessarySimpa false
set_option maxRecDepth 100000
set_option maxHeartbeats 2000000
namespace Go.Proofs.YtdajceakaakdoaaGreat
open Go Go.Hl
def Dp.d3 (x:Dp):D3:=(x.f,x.t,x.k)
theorem Dp.d3_inj {x y:Dp} (h:x.d3=y.d3):x=y:=by
 obtain⟨a,b,c⟩:=x;obtain⟨a',b',c'⟩:=y;simp only[Dp.d3,Prod.mk.injEq]at h;rw[h.1,h.2.1,h.2.2]
def dpM (l:List Dp):List (Value×CD):=d3M (l.map Dp.d3)
theorem Xb1 (l:List Dp) (x:Dp):d3M (ins3 (l.map Dp.d3) x.d3)=dpM (WR l x):=by
 unfold ins3 WR dpM
 have:x.d3∈l.map Dp.d3↔x∈l:=by
  rw[List.mem_map];exact⟨fun⟨y,hy,he⟩=>Dp.d3_inj he▸hy,fun h=>⟨x,h,rfl⟩⟩
 by_cases h:x∈l
 · rw[if_pos h,if_pos (this.2 h)]
 rw[if_neg h,if_neg (fun h2=>h (this.1 h2))];simp
@[simp] theorem len_dpM (l:List Dp):(dpM l).length=l.length:=by simp[dpM,d3M]
def pdO (vars:List Vr) (hats:List Ht) (body st:List St) (dp:List Dp):List (Nat×Ob):=[(900001,.row 70 10 (X8 st)),(900002,.mp (dpM dp)),(1000001,.box [.c (.sl 5 (Xu vars)),.c (.sl 6 (Xv hats)),.c (.sl 10 (X8 body)),.own 900001,.own 900002])]
theorem pd_pin {vars:List Vr} {hats:List Ht} {body st:List St} {dp:List Dp}:∀n cs,lkp (pdO vars hats body st dp) n=some (.box cs)→1000000≤n:=by
 intro n cs h;simp only[pdO,lkp]at h
 repeat' split at h
 all_goals first|omega|cases h
def pdF (vars:List Vr) (hats:List Ht) (body st:List St) (dp:List Dp):List (Nat×Ob):=[(900002,.mp (dpM dp)),(1000001,.box [.c (.sl 5 (Xu vars)),.c (.sl 6 (Xv hats)),.c (.sl 10 (X8 body)),.c (.sl 10 (X8 st)),.own 900002])]
theorem X9B {vars:List Vr} {hats:List Ht} {body st:List St} {dp:List Dp}:∀n cs,lkp (pdF vars hats body st dp) n=some (.box cs)→1000000≤n:=by
 intro n cs h;simp only[pdF,lkp]at h
 repeat' split at h
 all_goals first|omega|cases h
abbrev pdC (vars:List Vr) (hats:List Ht) (body st:List St) (dp:List Dp):TV:=.one (.c (.ptr [.sl 5 (Xu vars),.sl 6 (Xv hats),.sl 10 (X8 body),.sl 10 (X8 st),.mp (dpM dp)]))
section
variable (vars:List Vr) (hats:List Ht) (body st:List St) (dp:List Dp)
theorem X7U (a b k:Int):X1g Tryz.prog 124 none (pdO vars hats body st dp) [.one (.at_ 1000001 0),li a,li b,li k] (fun _:Unit=>True) (fun _=>.tup []) (fun _=>pdO vars hats body st (WR dp ⟨a,b,k⟩)):=by
 refine Qq Tryz.func124 rfl (by kernel_rfl) (Nat.le_of_ble_eq_true rfl) pd_pin (fun v h=>by cases h) ?_;simp only[Tryz.f124];have hins:=Xb1 dp ⟨a,b,k⟩;simp only[Dp.d3]at hins;simp only[pdO];refine(XN ?_);refine RunsN.cutE 8 [] (by simp;rfl) trivial (le_refl _) ?_;refine RunsN.upd3 (l:=dp.map Dp.d3) (x:=(a,b,k)) rfl rfl rfl (by kernel_rfl) rfl rfl rfl rfl ?_;refine RunsN.doneE [] rfl trivial ?_;exact⟨.inl rfl,(),trivial,⟨⟨16,none⟩,[],[(900001,.row 70 10 (X8 st)),(900002,.mp (dpM (WR dp ⟨a,b,k⟩))),(1000001,.box [.c (.sl 5 (Xu vars)),.c (.sl 6 (Xv hats)),.c (.sl 10 (X8 body)),.own 900001,.own 900002])]⟩,Xx (fun n=>n) [] rfl (by simp) (by simp[←hins,ins,HS.put]) (by simp),⟨[],rfl,rfl⟩,fun n o h=>h⟩
theorem X5v (a b k:Int):X1g Tryz.prog 124 none (pdF vars hats body st dp) [.one (.at_ 1000001 0),li a,li b,li k] (fun _:Unit=>True) (fun _=>.tup []) (fun _=>pdF vars hats body st (WR dp ⟨a,b,k⟩)):=by
 refine Qq Tryz.func124 rfl (by kernel_rfl) (Nat.le_of_ble_eq_true rfl) X9B (fun v h=>by cases h) ?_;simp only[Tryz.f124];have hins:=Xb1 dp ⟨a,b,k⟩;simp only[Dp.d3]at hins;simp only[pdF];refine(XN ?_);refine RunsN.cutE 8 [] (by simp;rfl) trivial (le_refl _) ?_;refine RunsN.upd3 (l:=dp.map Dp.d3) (x:=(a,b,k)) rfl rfl rfl (by kernel_rfl) rfl rfl rfl rfl ?_;refine RunsN.doneE [] rfl trivial ?_;exact⟨.inl rfl,(),trivial,⟨⟨16,none⟩,[],[(900002,.mp (dpM (WR dp ⟨a,b,k⟩))),(1000001,.box [.c (.sl 5 (Xu vars)),.c (.sl 6 (Xv hats)),.c (.sl 10 (X8 body)),.c (.sl 10 (X8 st)),.own 900002])]⟩,Xx (fun n=>n) [] rfl (by simp) (by simp[←hins,ins,HS.put]) (by simp),⟨[],rfl,rfl⟩,fun n o h=>h⟩
theorem X2u (v:Int) (hv:0≤v) (hv2:v≤1000000) (hs:st.length≤1000000) (d:Nat):Con Tryz.prog 126 true [pdC vars hats body st dp,li v] (.v (li ((st.length:Int)+v))) none d:=by
 have hw:IntKind.i64.wrap ((st.length:Int)+v)=(st.length:Int)+v:=Xa (by omega) (by omega);refine X5 Tryz.func126 ?_;simp only[Tryz.f126];refine X1 ?_;refine X1 ?_;exact Xe
theorem X7H (e v:Int) (he:0≤e) (hv:0≤v) (hv2:v≤1000000) (hs:st.length≤1000000) (d:Nat):Con Tryz.prog 127 true [pdC vars hats body st dp,li e,li v] (.v (lb (decide (Qi st e.toNat=v)))) none d:=by
 have cs:=X2u vars hats body st dp v hv hv2 hs;obtain⟨e,rfl⟩:∃n:Nat,e=n:=⟨e.toNat,by omega⟩;rw[Int.toNat_natCast];by_cases hl:st.length≤e
 · have hvo:decide (Qi st e=v)=decide ((e:Int)=(st.length:Int)+v):=by
    unfold Qi;rw[List.getElem?_eq_none hl,Bool.eq_iff_iff,decide_eq_true_eq,decide_eq_true_eq];simp only;omega
   rw[hvo];refine X5 Tryz.func127 ?_;simp only[Tryz.f127];refine X1 ?_;refine X0<|X0<|X2 ?_;refine(Xc rfl (fun h2=>?_) fun h2=>?_)
   · (try simp only[BN]at h2);refine Xm [⟨true,.v (li ((st.length:Int)+v)),none⟩] ?_ ?_
     · first|exact cs _|exact trivial|simpa[*]using cs _
     exact Xe
   exfalso;simp at h2<;>omega
 obtain⟨s,he,_⟩:=Xt (show e<st.length by omega);have he':=Q5 he;have hvo:Qi st e=s.var:=by unfold Qi;rw[he]
 rw[hvo];obtain⟨so,sc,sv,sn,⟨to,tn,tk⟩,sa,sb,sbs⟩:=s;simp only[St.enc,Tm.enc,List.cons_append,List.nil_append]at he';simp only[St.var];have hl2:e+1≤st.length:=by omega
 clear he hvo hl;refine X5 Tryz.func127 ?_;simp only[Tryz.f127];refine X1 ?_;refine X0<|X0<|X2 ?_;refine(Xc rfl (fun h2=>?_) fun h2=>?_)
 · exfalso;simp at h2<;>omega
 (try simp only[BN]at h2);refine X1 ?_;exact Xe
end
mutual
def meV:Tm→List Int
 | .mk o n ks=>if o=24 then [n] else X32 ks
def X32:List Tm→List Int
 |[]=>[]
 |t::l=>meV t++X32 l
end
mutual
theorem meV_len:∀t:Tm,(meV t).length≤t.nodes
 | .mk o n ks=>by
   have:=X5r ks;simp only[meV,Tm.nodes];split<;>simp<;>omega
theorem X5r:∀l:List Tm,(X32 l).length≤Qb l
 |[]=>by simp[X32]
 |t::l=>by have:=meV_len t;have:=X5r l;simp only[X32,List.length_append,Qb];omega
end
mutual
theorem X6U {vars:List Vr} {inp:Bool}:∀t:Tm,QU vars inp t=true→meV t=tmV t
 | .mk o n ks,h=>by
   simp only[QU,Bool.and_eq_true]at h;have ih:=X8X ks h.2;simp only[meV,tmV];by_cases h24:o=24
   · subst h24;have h1:=h.1;unfold Q6 at h1;simp only[Bool.and_eq_true,Bool.not_eq_true',decide_eq_false_iff_not]at h1
     have hk:ks=[]:=by
      have:=h1.1.2.2;have e:(Qg 24).2=0:=by decide
      rw[e]at this;exact List.eq_nil_of_length_eq_zero (by omega)
     subst hk;simp[X0O]
   simp only[if_neg h24,List.nil_append];exact ih
theorem X8X {vars:List Vr} {inp:Bool}:∀l:List Tm,WL vars inp l=true→X32 l=X0O l
 |[],_=>by simp[X32,X0O]
 | t::l,h=>by
   simp only[WL,Bool.and_eq_true]at h;simp only[X32,X0O,X6U t h.1,X8X l h.2]
end
set_option maxHeartbeats 8000000 in
theorem X8j (t:Tm):t.nodes≤1000000→∀d,Con Tryz.prog 125 false [aT t] (.v (lI (meV t))) none d:=by
 induction t using Tm.ind with
 |h o n ks ih=>
 intro hn d;simp only[Tm.nodes]at hn;have hlen:=We ks;have hvl:=X5r ks;obtain⟨res,hres⟩:∃r,meV (.mk o n ks)=r:=⟨_,rfl⟩;rw[hres];by_cases h24:o=24
 · simp only[meV,if_pos h24]at hres;subst hres;subst h24;refine X5 Tryz.func125 ?_;simp only[Tryz.f125];simp only[aT,Tm.enc,List.map_cons,List.map_nil];refine X1 ?_;refine X0<|X0<|X2 ?_;refine(Xc rfl (fun h2=>?_) fun h2=>?_)
   · (try simp only[BN]at h2);refine X1 ?_;refine XH (QQ 11 rfl) ?_;exact Xe
   exact absurd h2 (by simp)
 simp only[meV,if_neg h24]at hres;refine X5 Tryz.func125 ?_;simp only[Tryz.f125];simp only[aT,Tm.enc,List.map_cons,List.map_nil];refine X1 ?_;refine X0<|X0<|X2 ?_;refine(Xc rfl (fun h2=>?_) fun h2=>?_)
 · exfalso;simp at h2<;>exact h24 h2
 (try simp only[BN]at h2);refine X1 ?_;refine X0<|X0<|X2 ?_;refine X3<|(Xf [13,14] (fun(y:Nat×List Int)=>[(3,.v (.one (.own 1003))),(15,.v (li y.1))]) (fun y=>[(1003,.row 3 1 (Xi y.2))]) (fun y=>y.1≤ks.length∧y.2++X32 (ks.drop y.1)=res∧y.2.length+(X32 (ks.drop y.1)).length≤(X32 ks).length) (fun y=>ks.length - y.1) (0,[]) ⟨Nat.zero_le _,by simpa using hres,by simp⟩ ?_ ?_)
 · exact X4 (fun n=>n) [1003]
 rintro⟨k,acc⟩ ⟨hk,hJ,hal⟩;simp only[upS,X6,XB]
 try simp only[X6,KN,Nat.reduceBEq,if_true,if_false,ins,Nat.reduceLT]
 simp only at hk hJ hal;clear hres;refine X1 ?_;refine X0<|(X7 rfl (fun h9=>Xb ?_) (fun h9=>?_))
 · (try simp only[BN]at h9);have hlt:k<ks.length:=by first|omega|simpa using h9
   obtain⟨t,he,hd⟩:=Xt hlt;have hw1:=XE hlt (by omega);have hk1:k+1≤ks.length:=hlt;have hmem:t∈ks:=List.mem_of_getElem? he;have hnm:=ZN hmem;rw[hd]at hJ hal;simp only[X32,List.length_append]at hJ hal;have he':=Wv he;have ct:=ih t hmem (by omega);obtain⟨to,tn,tk⟩:=t;obtain⟨A,hA⟩:∃x,meV (Tm.mk to tn tk)=x:=⟨_,rfl⟩;rw[hA]at ct hJ hal;simp only[Tm.enc]at he';simp only[aT,Tm.enc,List.map_cons,List.map_nil]at ct;have room1:Wa (acc.length+A.length) 8:=Qc (by omega) (by decide);have hJ2:(acc++A)++X32 (ks.drop (k+1))=res:=by rw[←hJ];simp
   clear hlt h9 ih hmem hd he hA hnm hJ;refine X0<|X3<|X0<|X2 ?_;refine(Xp [⟨false,.v (lI A),none⟩] ?_ ?_)
   · first|exact ct _|exact trivial|simpa[*]using ct _
   refine X2 ?_;exact⟨(k+1,acc++A),⟨hk1,hJ2,by simp only[List.length_append];omega⟩,by simp only;omega,X4 (fun n=>if n=1003 then 22 else n) []⟩
 try simp only[BN]at h9
 have hkl:k=ks.length:=by
  have:¬k<ks.length:=by simpa using h9
  omega
 subst hkl;simp only[List.drop_length,X32,List.append_nil]at hJ;subst hJ;clear h9;refine(Xg ?_);refine XH (QQ 1003 rfl) ?_;refine X1 ?_;exact Xe
end Go.Proofs.YtdajceakaakdoaaGreat

namespace Go.Proofs.YtdajceakaakdoaaGreat
open Go Go.Hl
def ms101:List (Nat×List Nat):=[(8191,[0,4,6]),(8190,[1,4,6]),(8175,[0,6]),(8127,[0,4]),(8188,[2,4,6]),(8174,[1,6]),(8126,[1,4]),(8111,[0]),(8184,[3,4,6]),(8172,[2,6]),(8124,[2,4]),(8110,[1]),(8176,[4,5,6]),(8168,[3,6]),(8120,[3,4]),(8108,[2]),(8160,[5,6]),(8144,[4,6]),(8112,[4,5]),(8104,[3]),(8128,[6]),(8096,[5]),(8080,[4]),(8064,[7]),(7936,[8,10]),(7680,[9,10]),(6912,[8,11]),(7168,[10]),(6656,[9,11]),(4864,[8,12]),(6144,[11]),(4608,[9,12]),(768,[8]),(4096,[12]),(512,[9])]
def X9g (regs:List (Nat×RV)) (o0 o6 o7 o9 oA oB:List (Nat×Ob)) (outs:List (Nat×Nat×RV)) (R:List Nat):HS:=
 {trS ⟨⟨55,none⟩,regs,[]⟩ outs R with objs:=if R.contains 6 then o0 else if R.contains 7 then o6 else if R.contains 9 then(if R.contains 12 then o7 else oA)else if R.contains 12 then o9 else oB}
theorem XbT (c:Int) (p:Nat) (l dp:List Dp):XS (ctE c p++l) dp=XS l (if 0≤c then WR dp ⟨c,p,1⟩ else dp):=by
 unfold ctE;split
 · rfl
 rfl
set_option maxHeartbeats 32000000 in
theorem Xba (vars:List Vr) (hats:List Ht) (body:List St) (l:List St):∀(outer:Int) (st:List St) (dp:List Dp),st.length+szL l≤1000000→
  X1g Tryz.prog 65 none (pdO vars hats body st dp) [.one (.at_ 1000001 0),lS l,li outer] (fun _:Unit=>True) (fun _=>.tup []) (fun _=>pdO vars hats body (st++flL l) (XS (ctL l outer st.length) dp)):=by
 revert l
 apply St.lists;intro l ih outer st0 dp0 hn0;have hlen:=X4P l;have hll:l.length≤1000000:=by omega
 obtain⟨R1,hR1⟩:∃x,st0++flL l=x:=⟨_,rfl⟩;obtain⟨R2,hR2⟩:∃x,XS (ctL l outer st0.length) dp0=x:=⟨_,rfl⟩;rw[hR1,hR2];refine Qq Tryz.func65 rfl (by kernel_rfl) (Nat.le_of_ble_eq_true rfl) pd_pin (fun v h=>by cases h) ?_;simp only[Tryz.f65];refine X1 ?_;refine X3<|(Xf [0,2,9,10] (fun(y:Nat×List St×List Dp)=>[(11,.v (li y.1))]) (fun y=>pdO vars hats body y.2.1 y.2.2) (fun y=>y.1≤l.length∧y.2.1++flL (l.drop y.1)=R1∧XS (ctL (l.drop y.1) outer y.2.1.length) y.2.2=R2∧y.2.1.length+szL (l.drop y.1)≤1000000) (fun y=>l.length - y.1) (0,st0,dp0) ⟨Nat.zero_le _,by simpa using hR1,by simpa using hR2,by simpa using hn0⟩ ?_ ?_)
 · exact Xx (fun n=>n) [] rfl (by simp[pdO, *,upS,X6,QL]) (by simp[pdO, *,upS]) (by simp[pdO,upS])
 rintro⟨k,st,dp⟩ ⟨hk,h1,h2,hsz⟩;simp only[upS,X6,XB]
 try simp only[X6,KN,Nat.reduceBEq,if_true,if_false,ins,Nat.reduceLT]
 simp only at hk h1 h2 hsz;clear hR1 hR2 hn0;simp only[pdO];refine X1 ?_;refine X0<|(X7 rfl (fun h3=>Xb ?_) (fun h3=>?_))
 · (try simp only[BN]at h3);have hlt:k<l.length:=by first|omega|simpa using h3
   obtain⟨s,he,hd⟩:=Xt hlt;have hw1:=XE hlt (by omega);have hk1:k+1≤l.length:=hlt;have hmem:s∈l:=List.mem_of_getElem? he;rw[hd]at h1 h2 hsz;simp only[flL,X9O]at h1;simp only[szL]at hsz;have he':=Q5 he;have iha:=(ih s hmem).1;have ihb:=(ih s hmem).2;obtain⟨so,sc,sv,sn,⟨to,tn,tk⟩,sa,sb,sbs⟩:=s;simp only[ctL]at h2;simp only[St.then_,St.else_]at iha ihb h1;simp only[szS]at hsz;have fa:=XY sa;have fb:=XY sb;obtain⟨d1,hd1⟩:∃x,(if 0≤outer then WR dp ⟨outer,st.length,1⟩ else dp)=x:=⟨_,rfl⟩;obtain⟨d2,hd2⟩:∃x,(if so=4 then WR d1 ⟨st.length,st.length,1⟩ else d1)=x:=⟨_,rfl⟩;rw[XbT,hd1,X0w]at h2
   have h2':XS (ctL sa (st.length:Int) (st.length+1)++(ctL sb (st.length:Int) (st.length+1+szL sa)++ctL (l.drop (k+1)) outer (st.length+(1+szL sa+szL sb)))) d2=R2:=by
    rw[←h2,←hd2];split<;>rfl
   rw[X0w,X0w]at h2';have iha:=iha (st.length:Int) (st++[St.mk so sc sv sn (Tm.mk to tn tk) sa sb sbs]) d2 (by simp;omega);have ihb:=ihb (st.length:Int) ((st++[St.mk so sc sv sn (Tm.mk to tn tk) sa sb sbs])++flL sa) (XS (ctL sa (st.length:Int) (st.length+1)) d2) (by simp[fa];omega);simp only[List.length_append,List.length_singleton,fa]at iha ihb;have hE1:(st++[St.mk so sc sv sn (Tm.mk to tn tk) sa sb sbs])++flL sa++flL sb++flL (l.drop (k+1))=R1:=by rw[←h1];simp
   have r1:Wa (st.length+1) 144:=Qc (by omega) (by decide)
   have hset:∀z:List CD,(X8 st++[z]).set st.length [iC so,iC sc,iC sv,iC sn,iC to,iC tn,.sl 3 (XI tk),.sl 10 (X8 sa),.sl 10 (X8 sb),.sl 1 (Xi sbs)]=X8 st++[[iC so,iC sc,iC sv,iC sn,iC to,iC tn,.sl 3 (XI tk),.sl 10 (X8 sa),.sl 10 (X8 sb),.sl 1 (Xi sbs)]]:=by
    intro z;rw[List.set_append,if_neg (by simp)];simp
   have hsn:X8 (st++[St.mk so sc sv sn (Tm.mk to tn tk) sa sb sbs])=X8 st++[[iC so,iC sc,iC sv,iC sn,iC to,iC tn,.sl 3 (XI tk),.sl 10 (X8 sa),.sl 10 (X8 sb),.sl 1 (Xi sbs)]]:=by
    rw[Qp];rfl
   simp only[St.enc,Tm.enc,List.cons_append,List.nil_append]at he';have ca:=X7U vars hats body (st++[St.mk so sc sv sn (Tm.mk to tn tk) sa sb sbs]) dp outer st.length 1;have cl:=X7U vars hats body (st++[St.mk so sc sv sn (Tm.mk to tn tk) sa sb sbs]) d1 st.length st.length 1;simp only[pdO]at ca cl iha ihb;obtain⟨S2,hS2⟩:∃x,(st++[St.mk so sc sv sn (Tm.mk to tn tk) sa sb sbs])=x:=⟨_,rfl⟩;rw[hS2]at iha ihb hE1 hsn ca cl;clear hlt h3 ih hmem he hd h1 h2;refine X0<|X3<|X0<|X2 ?_;refine X1 ?_;refine XH (s':=⟨⟨55,none⟩,[(0,.v (.one (.at_ 1000001 0))),(2,.v (li outer)),(7,.v (.one (.at_ 7 0))),(8,.v (li st.length)),(9,.v (lS l)),(10,.v (li l.length)),(11,.v (li k))],[(7,.box [.c (iC so),.c (iC sc),.c (iC sv),.c (iC sn),.c (iC to),.c (iC tn),.c (.sl 3 (XI tk)),.c (.sl 10 (X8 sa)),.c (.sl 10 (X8 sb)),.c (.sl 1 (Xi sbs))]),(900001,.row 70 10 (X8 st)),(900002,.mp (dpM dp)),(1000001,.box [.c (.sl 5 (Xu vars)),.c (.sl 6 (Xv hats)),.c (.sl 10 (X8 body)),.own 900001,.own 900002])]⟩) (Xx (fun n=>n) [] rfl (by simp[*]) (by simp[*]) (by simp)) ?_;refine X0<|(Z8 (X9g [(0,.v (.one (.at_ 1000001 0))),(2,.v (li outer)),(7,.v (.one (.at_ 7 0))),(8,.v (li st.length)),(9,.v (lS l)),(10,.v (li l.length)),(11,.v (li k))] [(7,.box [.c (iC so),.c (iC sc),.c (iC sv),.c (iC sn),.c (iC to),.c (iC tn),.c (.sl 3 (XI tk)),.c (.sl 10 (X8 sa)),.c (.sl 10 (X8 sb)),.c (.sl 1 (Xi sbs))]),(900001,.row 70 10 (X8 st)),(900002,.mp (dpM dp)),(1000001,.box [.c (.sl 5 (Xu vars)),.c (.sl 6 (Xv hats)),.c (.sl 10 (X8 body)),.own 900001,.own 900002])] [(7,.box [.c (iC so),.c (iC sc),.c (iC sv),.c (iC sn),.c (iC to),.c (iC tn),.c (.sl 3 (XI tk)),.c (.sl 10 (X8 sa)),.c (.sl 10 (X8 sb)),.c (.sl 1 (Xi sbs))]),(26,.row 70 10 ([[iC 0,iC 0,iC 0,iC 0,iC 0,iC 0,.lit XW,.lit XW,.lit XW,.lit XW]])),(900001,.row 70 10 (X8 st)),(900002,.mp (dpM dp)),(1000001,.box [.c (.sl 5 (Xu vars)),.c (.sl 6 (Xv hats)),.c (.sl 10 (X8 body)),.own 900001,.own 900002])] [(7,.box [.c (iC so),.c (iC sc),.c (iC sv),.c (iC sn),.c (iC to),.c (iC tn),.c (.sl 3 (XI tk)),.c (.sl 10 (X8 sa)),.c (.sl 10 (X8 sb)),.c (.sl 1 (Xi sbs))]),(26,.row 70 10 ([[iC 0,iC 0,iC 0,iC 0,iC 0,iC 0,.lit XW,.lit XW,.lit XW,.lit XW]])),(27,.row 70 10 (X8 st++[[iC 0,iC 0,iC 0,iC 0,iC 0,iC 0,.lit XW,.lit XW,.lit XW,.lit XW]])),(900002,.mp (dpM dp)),(1000001,.box [.c (.sl 5 (Xu vars)),.c (.sl 6 (Xv hats)),.c (.sl 10 (X8 body)),.own 900001,.own 900002])] [(7,.box [.c (iC so),.c (iC sc),.c (iC sv),.c (iC sn),.c (iC to),.c (iC tn),.c (.sl 3 (XI tk)),.c (.sl 10 (X8 sa)),.c (.sl 10 (X8 sb)),.c (.sl 1 (Xi sbs))]),(26,.row 70 10 ([[iC 0,iC 0,iC 0,iC 0,iC 0,iC 0,.lit XW,.lit XW,.lit XW,.lit XW]])),(27,.row 70 10 (X8 st++[[iC so,iC sc,iC sv,iC sn,iC to,iC tn,.sl 3 (XI tk),.sl 10 (X8 sa),.sl 10 (X8 sb),.sl 1 (Xi sbs)]])),(900002,.mp (dpM dp)),(1000001,.box [.c (.sl 5 (Xu vars)),.c (.sl 6 (Xv hats)),.c (.sl 10 (X8 body)),.own 900001,.own 900002])] [(7,.box [.c (iC so),.c (iC sc),.c (iC sv),.c (iC sn),.c (iC to),.c (iC tn),.c (.sl 3 (XI tk)),.c (.sl 10 (X8 sa)),.c (.sl 10 (X8 sb)),.c (.sl 1 (Xi sbs))]),(26,.row 70 10 ([[iC 0,iC 0,iC 0,iC 0,iC 0,iC 0,.lit XW,.lit XW,.lit XW,.lit XW]])),(27,.row 70 10 (X8 st++[[iC 0,iC 0,iC 0,iC 0,iC 0,iC 0,.lit XW,.lit XW,.lit XW,.lit XW]])),(900002,.mp (dpM dp)),(1000001,.box [.c (.sl 5 (Xu vars)),.c (.sl 6 (Xv hats)),.c (.sl 10 (X8 body)),.own 27,.own 900002])] [(7,.box [.c (iC so),.c (iC sc),.c (iC sv),.c (iC sn),.c (iC to),.c (iC tn),.c (.sl 3 (XI tk)),.c (.sl 10 (X8 sa)),.c (.sl 10 (X8 sb)),.c (.sl 1 (Xi sbs))]),(26,.row 70 10 ([[iC 0,iC 0,iC 0,iC 0,iC 0,iC 0,.lit XW,.lit XW,.lit XW,.lit XW]])),(27,.row 70 10 (X8 st++[[iC so,iC sc,iC sv,iC sn,iC to,iC tn,.sl 3 (XI tk),.sl 10 (X8 sa),.sl 10 (X8 sb),.sl 1 (Xi sbs)]])),(900002,.mp (dpM dp)),(1000001,.box [.c (.sl 5 (Xu vars)),.c (.sl 6 (Xv hats)),.c (.sl 10 (X8 body)),.own 27,.own 900002])] [(0,20,.v (.one (.at_ 1000001 0))),(1,21,.v (.one (.at_ 1000001 0))),(2,22,.v (.one (.at_ 1000001 3))),(3,23,.v (.one (.own 900001))),(4,24,.v (.agg [.c (iC so),.c (iC sc),.c (iC sv),.c (iC sn),.c (iC to),.c (iC tn),.c (.sl 3 (XI tk)),.c (.sl 10 (X8 sa)),.c (.sl 10 (X8 sb)),.c (.sl 1 (Xi sbs))])),(5,25,.v (li st.length)),(6,26,.v (.one (.own 26))),(7,27,.v (.one (.own 27))),(8,28,.v (.one (.el 27 10 st.length 0))),(10,29,.v (.one (.at_ 1000001 0))),(11,30,.v (.one (.at_ 1000001 3)))]) 13 8191 ms101 rfl (by kernel_rfl) (by kernel_rfl) (by kernel_rfl) (by kernel_rfl) (by simp[X9g,trS]) ?_ ?_)
   · simp only[ms101,X2i]
     repeat' apply And.intro
     all_goals(refine XX.evE rfl ?_;simp[X9g,trS,ins,WI,XO,QE,Q3,cellsOf,W8,WN,X07,WJ,Wh,Zg,lkp,del,r1,hset];done)
   refine XH (s':=⟨⟨55,none⟩,[(0,.v (.one (.at_ 1000001 0))),(2,.v (li outer)),(7,.v (.one (.at_ 7 0))),(8,.v (li st.length)),(9,.v (lS l)),(10,.v (li l.length)),(11,.v (li k))],[(7,.box [.c (iC so),.c (iC sc),.c (iC sv),.c (iC sn),.c (iC to),.c (iC tn),.c (.sl 3 (XI tk)),.c (.sl 10 (X8 sa)),.c (.sl 10 (X8 sb)),.c (.sl 1 (Xi sbs))]),(900001,.row 70 10 (X8 S2)),(900002,.mp (dpM (dp))),(1000001,.box [.c (.sl 5 (Xu vars)),.c (.sl 6 (Xv hats)),.c (.sl 10 (X8 body)),.own 900001,.own 900002])]⟩) (Xx (fun n=>if n=900001 then 27 else n) [] rfl (by simp[X9g,trS,ins]) (by simp[X9g,trS,ins,hsn]) (by simp)) ?_;clear hsn hset;refine(XV [0,2,7,8,9,10,11] (fun(z:Unit)=>[]) (fun(z:Unit)=>[(7,.box [.c (iC so),.c (iC sc),.c (iC sv),.c (iC sn),.c (iC to),.c (iC tn),.c (.sl 3 (XI tk)),.c (.sl 10 (X8 sa)),.c (.sl 10 (X8 sb)),.c (.sl 1 (Xi sbs))]),(900001,.row 70 10 (X8 S2)),(900002,.mp (dpM (d1))),(1000001,.box [.c (.sl 5 (Xu vars)),.c (.sl 6 (Xv hats)),.c (.sl 10 (X8 body)),.own 900001,.own 900002])]) (fun(z:Unit)=>True) ?_ ?_)
   ·
    refine X1 ?_;refine(Xc rfl (fun h9=>?_) fun h9=>?_)
    · (try simp only[BN]at h9);have ho:0≤outer:=by simpa using h9
      rw[if_pos ho]at hd1;refine(XN ?_);refine RunsN.cutE 3 [] (by simp;rfl) trivial (le_refl _) ?_;refine RunsN.callA (fun n=>n) (fun n=>if n=900001 then 900011 else if n=900002 then 900012 else n) ca fun _ _=>?_;refine RunsN.doneE [] rfl trivial ?_;rw[hd1];exact⟨(),trivial,Xx (fun n=>if n=900001 then 900011 else if n=900002 then 900012 else n) [] rfl (by simp[upS,X6,Qf,QP,del,ins,CV.ren,Ob.ren]) (by simp[upS,Qf,QP,del,ins,CV.ren,Ob.ren]) (by simp[upS])⟩
    (try simp only[BN]at h9);have ho:¬0≤outer:=by simpa using h9
    rw[if_neg ho]at hd1;subst hd1;exact⟨(),trivial,X4 (fun n=>n) []⟩
   rintro⟨⟩ hz;simp only[upS,X6,XB]
   try simp only[X6,KN,Nat.reduceBEq,if_true,if_false,ins,Nat.reduceLT]
   refine(XV [0,2,7,8,9,10,11] (fun(z:Unit)=>[]) (fun(z:Unit)=>[(7,.box [.c (iC so),.c (iC sc),.c (iC sv),.c (iC sn),.c (iC to),.c (iC tn),.c (.sl 3 (XI tk)),.c (.sl 10 (X8 sa)),.c (.sl 10 (X8 sb)),.c (.sl 1 (Xi sbs))]),(900001,.row 70 10 (X8 S2)),(900002,.mp (dpM (d2))),(1000001,.box [.c (.sl 5 (Xu vars)),.c (.sl 6 (Xv hats)),.c (.sl 10 (X8 body)),.own 900001,.own 900002])]) (fun(z:Unit)=>True) ?_ ?_)
   ·
    refine X1 ?_;refine(Xc rfl (fun h15=>?_) fun h15=>?_)
    · (try simp only[BN]at h15);have ho4:so=4:=by simpa using h15
      rw[if_pos ho4]at hd2;refine(XN ?_);refine RunsN.cutE 3 [] (by simp;rfl) trivial (le_refl _) ?_;refine RunsN.callA (fun n=>n) (fun n=>if n=900001 then 900011 else if n=900002 then 900012 else n) cl fun _ _=>?_;refine RunsN.doneE [] rfl trivial ?_;rw[hd2];exact⟨(),trivial,Xx (fun n=>if n=900001 then 900011 else if n=900002 then 900012 else n) [] rfl (by simp[upS,X6,Qf,QP,del,ins,CV.ren,Ob.ren]) (by simp[upS,Qf,QP,del,ins,CV.ren,Ob.ren]) (by simp[upS])⟩
    (try simp only[BN]at h15);have ho4:¬so=4:=by simpa using h15
    rw[if_neg ho4]at hd2;subst hd2;exact⟨(),trivial,X4 (fun n=>n) []⟩
   rintro⟨⟩ hz;simp only[upS,X6,XB]
   try simp only[X6,KN,Nat.reduceBEq,if_true,if_false,ins,Nat.reduceLT]
   obtain⟨S3,hS3⟩:∃x,S2++flL sa=x:=⟨_,rfl⟩;obtain⟨D3,hD3⟩:∃x,XS (ctL sa (st.length:Int) (st.length+1)) d2=x:=⟨_,rfl⟩;rw[hS3,hD3]at iha ihb;obtain⟨S4,hS4⟩:∃x,S3++flL sb=x:=⟨_,rfl⟩;obtain⟨D4,hD4⟩:∃x,XS (ctL sb (st.length:Int) (st.length+1+szL sa)) D3=x:=⟨_,rfl⟩;rw[hS4,hD4]at ihb;have hl4:S4.length=st.length+(1+szL sa+szL sb):=by rw[←hS4,←hS3,←hS2];simp[fa,fb];omega
   rw[hS3,hS4]at hE1;rw[hD3,hD4,←hl4]at h2';clear ca cl hd1 hd2 hS2 hS3 hS4 hD3 hD4;refine X0<|(XN ?_);refine RunsN.cutE 4 [] (by simp;rfl) trivial (le_refl _) ?_;refine RunsN.callA (fun n=>n) (fun n=>if n=900001 then 900011 else if n=900002 then 900012 else n) iha fun _ _=>?_;refine RunsN.doneE [] rfl trivial ?_;refine XH (s':=⟨⟨55,none⟩,[(0,.v (.one (.at_ 1000001 0))),(2,.v (li outer)),(7,.v (.one (.at_ 7 0))),(8,.v (li st.length)),(9,.v (lS l)),(10,.v (li l.length)),(11,.v (li k))],[(7,.box [.c (iC so),.c (iC sc),.c (iC sv),.c (iC sn),.c (iC to),.c (iC tn),.c (.sl 3 (XI tk)),.c (.sl 10 (X8 sa)),.c (.sl 10 (X8 sb)),.c (.sl 1 (Xi sbs))]),(900001,.row 70 10 (X8 S3)),(900002,.mp (dpM (D3))),(1000001,.box [.c (.sl 5 (Xu vars)),.c (.sl 6 (Xv hats)),.c (.sl 10 (X8 body)),.own 900001,.own 900002])]⟩) (Xx (fun n=>if n=900001 then 900011 else if n=900002 then 900012 else n) [] rfl (by simp[Qf,QP,del,ins,CV.ren,Ob.ren]) (by simp[Qf,QP,del,ins,CV.ren,Ob.ren]) (by simp)) ?_;refine(XN ?_);refine RunsN.cutE 4 [] (by simp;rfl) trivial (le_refl _) ?_;refine RunsN.callA (fun n=>n) (fun n=>if n=900001 then 900011 else if n=900002 then 900012 else n) ihb fun _ _=>?_;refine RunsN.doneE [] rfl trivial ?_;refine XH (s':=⟨⟨55,none⟩,[(0,.v (.one (.at_ 1000001 0))),(2,.v (li outer)),(7,.v (.one (.at_ 7 0))),(8,.v (li st.length)),(9,.v (lS l)),(10,.v (li l.length)),(11,.v (li k))],[(7,.box [.c (iC so),.c (iC sc),.c (iC sv),.c (iC sn),.c (iC to),.c (iC tn),.c (.sl 3 (XI tk)),.c (.sl 10 (X8 sa)),.c (.sl 10 (X8 sb)),.c (.sl 1 (Xi sbs))]),(900001,.row 70 10 (X8 S4)),(900002,.mp (dpM (D4))),(1000001,.box [.c (.sl 5 (Xu vars)),.c (.sl 6 (Xv hats)),.c (.sl 10 (X8 body)),.own 900001,.own 900002])]⟩) (Xx (fun n=>if n=900001 then 900011 else if n=900002 then 900012 else n) [] rfl (by simp[Qf,QP,del,ins,CV.ren,Ob.ren]) (by simp[Qf,QP,del,ins,CV.ren,Ob.ren]) (by simp)) ?_;refine X2 ?_;exact⟨(k+1,S4,D4),⟨hk1,hE1,h2',by simp only[hl4];omega⟩,by simp only;omega,X4 (fun n=>n) []⟩
 try simp only[BN]at h3
 have hkl:k=l.length:=by
  have:¬k<l.length:=by first|omega|simpa using h3
  omega
 subst hkl;simp only[List.drop_length,flL,ctL,XS,List.append_nil]at h1 h2;subst h1;subst h2;refine(Xg ?_);exact⟨.inl rfl,(),trivial,_,le_refl _,⟨[],rfl,rfl⟩,fun n o h=>h⟩
end Go.Proofs.YtdajceakaakdoaaGreat

namespace Go.Proofs.YtdajceakaakdoaaGreat
open Go Go.Hl
def ms102a:List (Nat×List Nat):=[(1023,[0,4,8]),(1022,[1,4,8]),(1007,[0,5,8]),(767,[0,4]),(1020,[2,4,8]),(1006,[1,5,8]),(766,[1,4]),(975,[0,8]),(751,[0,5]),(1016,[3,4,8]),(1004,[2,5,8]),(764,[2,4]),(974,[1,8]),(750,[1,5]),(719,[0]),(1008,[4,8]),(1000,[3,5,8]),(760,[3,4]),(972,[2,8]),(748,[2,5]),(718,[1]),(992,[5,8]),(752,[4]),(968,[3,8]),(744,[3,5]),(716,[2]),(960,[6,8]),(736,[5]),(712,[3]),(896,[7,8]),(704,[6]),(768,[8]),(640,[7]),(512,[9])]
def ms102b:List (Nat×List Nat):=[(8191,[0,5,12]),(8190,[1,5,12]),(8159,[0,6,12]),(4095,[0,5]),(8188,[2,5,12]),(8158,[1,6,12]),(4094,[1,5]),(8095,[0,12]),(4063,[0,6]),(8184,[3,5,12]),(8156,[2,6,12]),(4092,[2,5]),(8094,[1,12]),(4062,[1,6]),(3999,[0]),(8176,[4,5,12]),(8152,[3,6,12]),(4088,[3,5]),(8092,[2,12]),(4060,[2,6]),(3998,[1]),(8160,[5,12]),(8144,[4,6,12]),(4080,[4,5]),(8088,[3,12]),(4056,[3,6]),(3996,[2]),(8128,[6,12]),(4064,[5]),(8080,[4,12]),(4048,[4,6]),(3992,[3]),(8064,[7,12]),(4032,[6]),(3984,[4]),(7936,[8,12]),(3968,[7]),(7680,[9,12]),(3840,[8]),(7168,[10,12]),(3584,[9]),(6144,[11,12]),(3072,[10]),(4096,[12]),(2048,[11])]
def ms102c:List (Nat×List Nat):=[(127,[0,1,2,4]),(126,[1,2,4]),(125,[0,2,4]),(123,[0,1,4]),(111,[0,1,2,5]),(124,[2,4]),(122,[1,4]),(110,[1,2,5]),(121,[0,3,4]),(109,[0,2,5]),(107,[0,1,5]),(79,[0,1,2]),(120,[3,4]),(108,[2,5]),(106,[1,5]),(78,[1,2]),(113,[0,4]),(105,[0,3,5]),(77,[0,2]),(75,[0,1]),(112,[4]),(104,[3,5]),(76,[2]),(74,[1]),(97,[0,5]),(73,[0,3]),(96,[5]),(72,[3]),(65,[0]),(64,[6])]
def X8r (regs:List (Nat×RV)) (o7 o8 o9:List (Nat×Ob)) (outs:List (Nat×Nat×RV)) (R:List Nat):HS:=
 {trS ⟨⟨95,none⟩,regs,[]⟩ outs R with objs:=if R.contains 8 then o7 else if R.contains 9 then o8 else o9}
def X2C (regs:List (Nat×RV)) (o:List (Nat×Ob)) (outs:List (Nat×Nat×RV)) (R:List Nat):HS:={trS ⟨⟨95,none⟩,regs,[]⟩ outs R with objs:=o}
@[simp] def X1p (regs:List (Nat×RV)) (o o':List (Nat×Ob)) (outs:List (Nat×Nat×RV)) (R:List Nat):HS:={trS ⟨⟨95,none⟩,regs,[]⟩ outs R with objs:=if R.contains 6 then o else o'}
@[simp] theorem XbU {l:List Ht} {i:Nat} {x:Ht} (h:l[i]? =some x):(Xv l)[i]? =some x.enc:=by simp[Xv,h]
theorem XbK {l:List (List Nat)} {i:Nat} {x:List Nat} (h:l[i]? =some x):(WS l)[i]? =some [CD.sl 1 (WC x)]:=by simp[WS,h]
def deF (st:List St) (row:List Nat) (a:Nat) (v:Int):List Dp:=(row.filter fun d=>decide (Qi st d=v)).map fun d:Nat=>(⟨(d:Int),(a:Int),0⟩:Dp)
theorem deF_cons (st:List St) (d:Nat) (row:List Nat) (a:Nat) (v:Int):deF st (d::row) a v=if Qi st d=v then⟨d,a,0⟩::deF st row a v else deF st row a v:=by
 unfold deF;rw[List.filter_cons];by_cases h:Qi st d=v
 · simp[h]
 simp[h]
structure okN1 (hats:List Ht) (st:List St) (x:Nd):Prop where
 a:x.a<0∨∃a:Nat,x.a=a∧a<st.length
 h:∀(a:Nat) q,x.a=a→st[a]? =some q→q.do_=5→0≤q.n∧q.n.toNat<hats.length
set_option maxHeartbeats 64000000 in
theorem Xbz (vars:List Vr) (hats:List Ht) (body st:List St) (N:List Nd) (R:List (List Nat)) (dp0:List Dp) (hst:st.length≤100000) (hN:N.length≤100000) (hR:R.length=N.length) (hRl:∀r∈R,r.length≤100000∧∀d∈r,d≤1000000) (hok:∀x∈N,okN1 hats st x)
  (hme:∀q∈st,meV q.term=tmV q.term∧q.term.nodes≤100000∧∀v∈tmV q.term,0≤v∧v≤1000000) (hmh:∀h∈hats,meV h.term=tmV h.term∧h.term.nodes≤100000∧∀v∈tmV h.term,0≤v∧v≤1000000):
  X1g Tryz.prog 66 none (pdF vars hats body st dp0) [.one (.at_ 1000001 0),.agg [.c (.sl 4 (Qk N))],.one (.c (.sl 1 (WS R)))] (fun _:Unit=>True) (fun _=>.tup []) (fun _=>pdF vars hats body st (XS (X2h st.length hats st N R) dp0)):=by
 obtain⟨RES,hRES⟩:∃x,XS (X2h st.length hats st N R) dp0=x:=⟨_,rfl⟩;rw[hRES];unfold X2h at hRES;refine Qq Tryz.func66 rfl (by kernel_rfl) (Nat.le_of_ble_eq_true rfl) X9B (fun v h=>by cases h) ?_;simp only[Tryz.f66];simp only[pdF];refine X1 ?_;refine X1 ?_;refine X3<|(Xf [0,2,16,17] (fun(y:Nat×List Dp)=>[(18,.v (li y.1))]) (fun y=>[(900002,.mp (dpM y.2)),(1000001,.box [.c (.sl 5 (Xu vars)),.c (.sl 6 (Xv hats)),.c (.sl 10 (X8 body)),.c (.sl 10 (X8 st)),.own 900002])]) (fun y=>y.1≤N.length∧XS (((N.zip R).drop y.1).flatMap fun p=>X1v st.length hats st p.1 p.2) y.2=RES) (fun y=>N.length - y.1) (0,dp0) ⟨Nat.zero_le _,by simpa using hRES⟩ ?_ ?_)
 · exact X4 (fun n=>n) []
 rintro⟨i,dp⟩ ⟨hi,hD⟩;simp only[upS,X6,XB]
 try simp only[X6,KN,Nat.reduceBEq,if_true,if_false,ins,Nat.reduceLT]
 simp only at hi hD;clear hRES;refine X1 ?_;refine X0<|(X7 rfl (fun h4=>Xb ?_) (fun h4=>?_))
 · (try simp only[BN]at h4);have hlt:i<N.length:=by first|omega|simpa using h4
   have hw1:=XE hlt (by omega);have hi1:i+1≤N.length:=hlt;obtain⟨x,hx,_⟩:=Xt hlt;obtain⟨row,hrow,_⟩:=Xt (show i<R.length by omega);have hz:(N.zip R)[i]? =some (x,row):=by rw[List.getElem?_zip_eq_some];exact⟨hx,hrow⟩
   obtain⟨pz,hz1,hz2⟩:=Xt (show i<(N.zip R).length by rw[List.length_zip];omega);rw[hz]at hz1;cases hz1;rw[hz2,List.flatMap_cons,X0w]at hD;simp only at hD;have hxe:=X3D hx;have hre:=XbK hrow;have hxa:=(hok x (List.mem_of_getElem? hx)).a;have hxh:=(hok x (List.mem_of_getElem? hx)).h;obtain⟨hrl,hrd⟩:=hRl row (List.mem_of_getElem? hrow);obtain⟨xk,xa,xn,xo⟩:=x;simp only[Nd.enc]at hxe;simp only at hxa hxh;clear hlt h4 hx hrow hz hz2 hok hRl;refine X0<|X3<|X0<|X2 ?_;rcases hxa with hneg|⟨a,rfl,hal⟩
   · refine X0<|X0<|X2 ?_;refine(Xc rfl (fun h7=>?_) fun h7=>?_)
     · try simp only[BN]at h7
       have hD2:XS (((N.zip R).drop (i+1)).flatMap fun p=>X1v st.length hats st p.1 p.2) dp=RES:=by
        rw[X1v,if_pos (.inl hneg)]at hD;exact hD
       refine(Xg ?_);refine X2 ?_;exact⟨(i+1,dp),⟨hi1,hD2⟩,by simp only;omega,X4 (fun n=>n) []⟩
     exfalso;simp at h7<;>omega
   obtain⟨s,hs,_⟩:=Xt hal;have hse:=Q5 hs;have hal1:a+1≤st.length:=hal;have ha0:¬((a:Int)<0):=by omega
   have hxh:=hxh a s rfl hs;obtain⟨hm1,hm2,hm3⟩:=hme s (List.mem_of_getElem? hs);have cm:=X8j s.term (by omega);rw[hm1]at cm;have hlv:=X7d s.term;obtain⟨so,sc,sv,sn,⟨to,tn,tk⟩,sa,sb,sbs⟩:=s
   have hno:∀r,X1v st.length hats st ⟨xk,(a:Int),xn,xo⟩ r=if xk=4 then [] else(if so=5 then(match hats[sn.toNat]? with|some h=>rlE st.length a h.term|none=>[])else(tmV (Tm.mk to tn tk)).flatMap fun v=>deF st r a v):=by
    intro r;unfold X1v;by_cases h4:xk=4
    · rw[if_pos (.inr h4),if_pos h4]
    rw[if_neg (by simp only;omega),if_neg h4,Int.toNat_natCast,hs];rfl
   rw[hno]at hD;simp only[St.do_,St.n,St.term]at hxh hm3 cm hlv hm2;simp only[St.enc,Tm.enc,List.cons_append,List.nil_append]at hse;simp only[aT,Tm.enc,List.map_cons,List.map_nil]at cm;have cdf:=fun(d:List Dp) (e v:Int) (he:0≤e) (hv:0≤v∧v≤1000000)=>X7H vars hats body st d e v he hv.1 hv.2 (by omega);have cst:=fun(d:List Dp) (v:Int) (hv:0≤v∧v≤1000000)=>X2u vars hats body st d v hv.1 hv.2 (by omega);clear hal hs hno hm1 hme;refine X0<|X0<|X2 ?_;refine(Xc rfl (fun h7=>?_) fun h7=>?_)
   · try simp only[BN]at h7
     have hk4:xk=4:=by
      first
       |simpa using h7
       | (rcases(by simpa using h7:(a:Int)<0∨xk=4)with h|h
          · exact absurd h ha0
          exact h)
     have hD2:XS (((N.zip R).drop (i+1)).flatMap fun p=>X1v st.length hats st p.1 p.2) dp=RES:=by
      rw[if_pos hk4]at hD;exact hD
     refine(Xg ?_);refine X2 ?_;exact⟨(i+1,dp),⟨hi1,hD2⟩,by simp only;omega,X4 (fun n=>n) []⟩
   (try simp only[BN]at h7);have hk4:¬xk=4:=fun h=>by simp[h]at h7
   rw[if_neg hk4]at hD;clear h7;refine XH (s':=⟨⟨95,none⟩,[(0,.v (.one (.at_ 1000001 0))),(2,.v (.one (.c (.sl 1 (WS R))))),(6,.v (li i)),(7,.v (.one (.at_ 7 0))),(16,.v (.one (.c (.sl 4 (Qk N))))),(17,.v (li N.length)),(18,.v (li i))],[(7,.box [.c (iC xk),.c (iC (a:Int)),.c (iC xn),.c (iC xo)]),(900002,.mp (dpM dp)),(1000001,.box [.c (.sl 5 (Xu vars)),.c (.sl 6 (Xv hats)),.c (.sl 10 (X8 body)),.c (.sl 10 (X8 st)),.own 900002])]⟩) (Xx (fun n=>n) [] rfl (by simp[*]) (by simp[*]) (by simp)) ?_;refine X0<|(Z8 (X8r [(0,.v (.one (.at_ 1000001 0))),(2,.v (.one (.c (.sl 1 (WS R))))),(6,.v (li i)),(7,.v (.one (.at_ 7 0))),(16,.v (.one (.c (.sl 4 (Qk N))))),(17,.v (li N.length)),(18,.v (li i))] [(7,.box [.c (iC xk),.c (iC (a:Int)),.c (iC xn),.c (iC xo)]),(900002,.mp (dpM dp)),(1000001,.box [.c (.sl 5 (Xu vars)),.c (.sl 6 (Xv hats)),.c (.sl 10 (X8 body)),.c (.sl 10 (X8 st)),.own 900002])] [(7,.box [.c (iC xk),.c (iC (a:Int)),.c (iC xn),.c (iC xo)]),(8,.box [.c (iC 0),.c (iC 0),.c (iC 0),.c (iC 0),.c (iC 0),.c (iC 0),.c (.lit XW),.c (.lit XW),.c (.lit XW),.c (.lit XW)]),(900002,.mp (dpM dp)),(1000001,.box [.c (.sl 5 (Xu vars)),.c (.sl 6 (Xv hats)),.c (.sl 10 (X8 body)),.c (.sl 10 (X8 st)),.own 900002])] [(7,.box [.c (iC xk),.c (iC (a:Int)),.c (iC xn),.c (iC xo)]),(8,.box [.c (iC so),.c (iC sc),.c (iC sv),.c (iC sn),.c (iC to),.c (iC tn),.c (.sl 3 (XI tk)),.c (.sl 10 (X8 sa)),.c (.sl 10 (X8 sb)),.c (.sl 1 (Xi sbs))]),(900002,.mp (dpM dp)),(1000001,.box [.c (.sl 5 (Xu vars)),.c (.sl 6 (Xv hats)),.c (.sl 10 (X8 body)),.c (.sl 10 (X8 st)),.own 900002])] [(0,31,.v (.one (.at_ 1000001 0))),(1,32,.v (.one (.at_ 1000001 0))),(2,33,.v (.one (.at_ 1000001 3))),(3,34,.v (.one (.c (.sl 10 (X8 st))))),(4,35,.v (.one (.at_ 7 1))),(5,36,.v (li (a:Int))),(6,37,.v (.one (.c (.ptr [iC so,iC sc,iC sv,iC sn,iC to,iC tn,.sl 3 (XI tk),.sl 10 (X8 sa),.sl 10 (X8 sb),.sl 1 (Xi sbs)])))),(7,38,.v (.agg [.c (iC so),.c (iC sc),.c (iC sv),.c (iC sn),.c (iC to),.c (iC tn),.c (.sl 3 (XI tk)),.c (.sl 10 (X8 sa)),.c (.sl 10 (X8 sb)),.c (.sl 1 (Xi sbs))])),(8,8,.v (.one (.at_ 8 0)))]) 10 1023 ms102a rfl (by kernel_rfl) (by kernel_rfl) (by kernel_rfl) (by kernel_rfl) (by simp[X8r,trS]) ?_ ?_)
   · simp only[ms102a,X2i]
     repeat' apply And.intro
     all_goals first
      |(refine XX.evE rfl ?_;simp[X8r,trS,ins,lkp,del,XO,QE,Q3,cellsOf,W8,WN,X07,WJ,Wh,hse,hal1];done)
      |trivial
   refine XH (s':=⟨⟨95,none⟩,[(0,.v (.one (.at_ 1000001 0))),(2,.v (.one (.c (.sl 1 (WS R))))),(6,.v (li i)),(7,.v (.one (.at_ 7 0))),(8,.v (.one (.at_ 8 0))),(16,.v (.one (.c (.sl 4 (Qk N))))),(17,.v (li N.length)),(18,.v (li i))],[(7,.box [.c (iC xk),.c (iC (a:Int)),.c (iC xn),.c (iC xo)]),(8,.box [.c (iC so),.c (iC sc),.c (iC sv),.c (iC sn),.c (iC to),.c (iC tn),.c (.sl 3 (XI tk)),.c (.sl 10 (X8 sa)),.c (.sl 10 (X8 sb)),.c (.sl 1 (Xi sbs))]),(900002,.mp (dpM dp)),(1000001,.box [.c (.sl 5 (Xu vars)),.c (.sl 6 (Xv hats)),.c (.sl 10 (X8 body)),.c (.sl 10 (X8 st)),.own 900002])]⟩) (Xx (fun n=>n) [] rfl (by simp[X8r,trS]) (by simp[X8r,trS]) (by simp)) ?_;refine X0<|X0<|X2 ?_;refine(Xc rfl (fun h12=>?_) fun h12=>?_)
   · (try simp only[BN]at h12);have h5:so=5:=by simpa using h12
     obtain⟨hq1,hq2⟩:=hxh h5;obtain⟨h,hh,_⟩:=Xt hq2;have hhe:=XbU hh;obtain⟨hp1,hp2,hp3⟩:=hmh h (List.mem_of_getElem? hh);have ch:=X8j h.term (by omega);rw[hp1]at ch;have hlh:=X7d h.term;obtain⟨hm,hl,hhi,⟨ho,hn,hk⟩⟩:=h;simp only[Ht.enc,Tm.enc,List.cons_append,List.nil_append]at hhe;simp only at hp3 hlh hp2 ch hD;rw[if_pos h5,hh]at hD;simp only[rlE]at hD;simp only[aT,Tm.enc,List.map_cons,List.map_nil]at ch;obtain⟨V,hV⟩:∃x,tmV (Tm.mk ho hn hk)=x:=⟨_,rfl⟩;rw[hV]at hp3 hlh ch hD;have hsn0:((sn.toNat:Nat):Int)=sn:=by omega
     have hq3:sn.toNat+1≤hats.length:=hq2;have hq0:¬sn<0:=by omega
     clear cm hm3 hlv hV hh h12 hq2 hm2 cdf hrd hre;refine XH (s':=⟨⟨95,none⟩,[(0,.v (.one (.at_ 1000001 0))),(2,.v (.one (.c (.sl 1 (WS R))))),(6,.v (li i)),(7,.v (.one (.at_ 7 0))),(8,.v (.one (.at_ 8 0))),(16,.v (.one (.c (.sl 4 (Qk N))))),(17,.v (li N.length)),(18,.v (li i))],[(7,.box [.c (iC xk),.c (iC (a:Int)),.c (iC xn),.c (iC xo)]),(8,.box [.c (iC so),.c (iC sc),.c (iC sv),.c (iC sn),.c (iC to),.c (iC tn),.c (.sl 3 (XI tk)),.c (.sl 10 (X8 sa)),.c (.sl 10 (X8 sb)),.c (.sl 1 (Xi sbs))]),(900002,.mp (dpM dp)),(1000001,.box [.c (.sl 5 (Xu vars)),.c (.sl 6 (Xv hats)),.c (.sl 10 (X8 body)),.c (.sl 10 (X8 st)),.own 900002])]⟩) (Xx (fun n=>n) [] rfl (by simp) (by simp) (by simp)) ?_;refine X0<|X0<|(Z8 (X2C [(0,.v (.one (.at_ 1000001 0))),(2,.v (.one (.c (.sl 1 (WS R))))),(6,.v (li i)),(7,.v (.one (.at_ 7 0))),(8,.v (.one (.at_ 8 0))),(16,.v (.one (.c (.sl 4 (Qk N))))),(17,.v (li N.length)),(18,.v (li i))] [(7,.box [.c (iC xk),.c (iC (a:Int)),.c (iC xn),.c (iC xo)]),(8,.box [.c (iC so),.c (iC sc),.c (iC sv),.c (iC sn),.c (iC to),.c (iC tn),.c (.sl 3 (XI tk)),.c (.sl 10 (X8 sa)),.c (.sl 10 (X8 sb)),.c (.sl 1 (Xi sbs))]),(900002,.mp (dpM dp)),(1000001,.box [.c (.sl 5 (Xu vars)),.c (.sl 6 (Xv hats)),.c (.sl 10 (X8 body)),.c (.sl 10 (X8 st)),.own 900002])] [(0,42,.v (.one (.at_ 1000001 0))),(1,43,.v (.one (.at_ 1000001 0))),(2,44,.v (.one (.at_ 1000001 0))),(3,45,.v (.one (.at_ 1000001 1))),(4,46,.v (.one (.c (.sl 6 (Xv hats))))),(5,47,.v (.one (.at_ 8 3))),(6,48,.v (li sn)),(7,49,.v (.one (.c (.ptr [sC hm,iC hl,iC hhi,iC ho,iC hn,.sl 3 (XI hk)])))),(8,50,.v (.one (.c (.ptr [iC ho,iC hn,.sl 3 (XI hk)])))),(9,51,.v (.agg [.c (iC ho),.c (iC hn),.c (.sl 3 (XI hk))])),(10,52,.v (lI V)),(11,53,.v (li V.length)),(12,54,.v (li 0))]) 13 8191 ms102b rfl (by kernel_rfl) (by kernel_rfl) (by kernel_rfl) (by kernel_rfl) (by simp[X2C,trS]) ?_ ?_)
     · simp only[ms102b,X2i]
       repeat' apply And.intro
       all_goals first
        |(refine XX.evE rfl ?_;simp[X2C,trS,ins,lkp,del,XO,QE,Q3,cellsOf,W8,WN,X07,WJ,Wh,hhe,hq1,hq3,hq0];done)
        |(refine XX.ev [⟨false,.v (lI V),none⟩] rfl (by simp[X2C,trS,ins,lkp,del];first|exact⟨rfl,Iff.rfl⟩|exact⟨rfl,trivial⟩|rfl) ?_ (by simp[X2C,trS,ins]);first|exact ch _|simpa using ch _)
        |trivial
     refine XH (s':=⟨⟨95,none⟩,[(0,.v (.one (.at_ 1000001 0))),(2,.v (.one (.c (.sl 1 (WS R))))),(6,.v (li i)),(7,.v (.one (.at_ 7 0))),(16,.v (.one (.c (.sl 4 (Qk N))))),(17,.v (li N.length)),(18,.v (li i)),(52,.v (lI V)),(53,.v (li V.length)),(54,.v (li 0))],[(7,.box [.c (iC xk),.c (iC (a:Int)),.c (iC xn),.c (iC xo)]),(900002,.mp (dpM dp)),(1000001,.box [.c (.sl 5 (Xu vars)),.c (.sl 6 (Xv hats)),.c (.sl 10 (X8 body)),.c (.sl 10 (X8 st)),.own 900002])]⟩) (Xx (fun n=>n) [] rfl (by simp[X2C,trS]) (by simp[X2C,trS]) (by simp)) ?_;refine X3<|(Xf [0,2,7,16,17,18,52,53] (fun(y:Nat×List Dp)=>[(54,.v (li y.1))]) (fun y=>[(7,.box [.c (iC xk),.c (iC (a:Int)),.c (iC xn),.c (iC xo)]),(900002,.mp (dpM y.2)),(1000001,.box [.c (.sl 5 (Xu vars)),.c (.sl 6 (Xv hats)),.c (.sl 10 (X8 body)),.c (.sl 10 (X8 st)),.own 900002])]) (fun y=>y.1≤V.length∧XS (((N.zip R).drop (i+1)).flatMap fun p=>X1v st.length hats st p.1 p.2) (XS ((V.drop y.1).map fun v:Int=>(⟨(st.length:Int)+v,(a:Int),2⟩:Dp)) y.2)=RES) (fun y=>V.length - y.1) (0,dp) ⟨Nat.zero_le _,by simpa using hD⟩ ?_ ?_)
     · exact X4 (fun n=>n) []
     rintro⟨j,d1⟩ ⟨hj,hD1⟩;simp only[upS,X6,XB]
     try simp only[X6,KN,Nat.reduceBEq,if_true,if_false,ins,Nat.reduceLT]
     simp only at hj hD1;clear hD;refine X1 ?_;refine X0<|(X7 rfl (fun h16=>Xb ?_) (fun h16=>?_))
     · (try simp only[BN]at h16);have hlt:j<V.length:=by first|omega|simpa using h16
       have hw2:=XE hlt (by omega);have hj1:j+1≤V.length:=hlt;obtain⟨v,hv,hd⟩:=Xt hlt;have hve:(Xi V)[j]? =some [iC v]:=by simp[Xi,hv]
       rw[hd,List.map_cons,XS]at hD1;have hvb:=hp3 v (List.mem_of_getElem? hv);have cst:=cst d1 v hvb;have cad:=X5v vars hats body st d1 ((st.length:Int)+v) a 2;simp only[pdF]at cad;clear hlt h16 hv hd;refine X0<|X3<|X0<|X2 ?_;refine XH (s':=⟨⟨95,none⟩,[(0,.v (.one (.at_ 1000001 0))),(2,.v (.one (.c (.sl 1 (WS R))))),(7,.v (.one (.at_ 7 0))),(10,.v (li v)),(16,.v (.one (.c (.sl 4 (Qk N))))),(17,.v (li N.length)),(18,.v (li i)),(52,.v (lI V)),(53,.v (li V.length)),(54,.v (li j))],[(7,.box [.c (iC xk),.c (iC (a:Int)),.c (iC xn),.c (iC xo)]),(900002,.mp (dpM d1)),(1000001,.box [.c (.sl 5 (Xu vars)),.c (.sl 6 (Xv hats)),.c (.sl 10 (X8 body)),.c (.sl 10 (X8 st)),.own 900002])]⟩) (Xx (fun n=>n) [] rfl (by simp[*]) (by simp[*]) (by simp)) ?_;refine(Z8 (X1p [(0,.v (.one (.at_ 1000001 0))),(2,.v (.one (.c (.sl 1 (WS R))))),(7,.v (.one (.at_ 7 0))),(10,.v (li v)),(16,.v (.one (.c (.sl 4 (Qk N))))),(17,.v (li N.length)),(18,.v (li i)),(52,.v (lI V)),(53,.v (li V.length)),(54,.v (li j))] [(7,.box [.c (iC xk),.c (iC (a:Int)),.c (iC xn),.c (iC xo)]),(900002,.mp (dpM d1)),(1000001,.box [.c (.sl 5 (Xu vars)),.c (.sl 6 (Xv hats)),.c (.sl 10 (X8 body)),.c (.sl 10 (X8 st)),.own 900002])] [(7,.box [.c (iC xk),.c (iC (a:Int)),.c (iC xn),.c (iC xo)]),(900012,.mp (dpM (WR d1 ⟨(st.length:Int)+v,a,2⟩))),(1000001,.box [.c (.sl 5 (Xu vars)),.c (.sl 6 (Xv hats)),.c (.sl 10 (X8 body)),.c (.sl 10 (X8 st)),.own 900012])] [(0,58,.v (.one (.at_ 1000001 0))),(1,59,.v (.one (.at_ 1000001 0))),(2,60,.v (li v)),(3,61,.v (li ((st.length:Int)+v))),(4,62,.v (.one (.at_ 7 1))),(5,63,.v (li (a:Int))),(6,64,.tup [])]) 7 127 ms102c rfl (by kernel_rfl) (by kernel_rfl) (by kernel_rfl) (by kernel_rfl) (by simp[X1p,trS]) ?_ ?_)
       · simp only[ms102c,X2i]
         repeat' apply And.intro
         all_goals first
          |(refine XX.evE rfl ?_;simp[X1p,trS,ins,lkp,del];done)
          |(refine XX.ev [⟨true,.v (li ((st.length:Int)+v)),none⟩] rfl (by simp[X1p,trS,ins,lkp,del];first|exact⟨rfl,Iff.rfl⟩|exact⟨rfl,trivial⟩|rfl) ?_ (by simp[X1p,trS,ins]);first|exact cst _|simpa using cst _)
          | (refine XX.callA (fun n=>n) (fun n=>if n=900002 then 900012 else n) cad rfl fun _ _=>?_
             simp[X1p,trS,ins,Qf,QP,del,CV.ren,Ob.ren])
          |trivial
       refine XH (s':=⟨⟨95,none⟩,[(0,.v (.one (.at_ 1000001 0))),(2,.v (.one (.c (.sl 1 (WS R))))),(7,.v (.one (.at_ 7 0))),(16,.v (.one (.c (.sl 4 (Qk N))))),(17,.v (li N.length)),(18,.v (li i)),(52,.v (lI V)),(53,.v (li V.length)),(54,.v (li j))],[(7,.box [.c (iC xk),.c (iC (a:Int)),.c (iC xn),.c (iC xo)]),(900002,.mp (dpM (WR d1 ⟨(st.length:Int)+v,a,2⟩))),(1000001,.box [.c (.sl 5 (Xu vars)),.c (.sl 6 (Xv hats)),.c (.sl 10 (X8 body)),.c (.sl 10 (X8 st)),.own 900002])]⟩) (Xx (fun n=>if n=900002 then 900012 else n) [] rfl (by simp[X1p,trS]) (by simp[X1p,trS]) (by simp)) ?_;refine X2 ?_;exact⟨(j+1,WR d1 ⟨(st.length:Int)+v,a,2⟩),⟨hj1,hD1⟩,by simp only;omega,X4 (fun n=>n) []⟩
     try simp only[BN]at h16
     have hjl:j=V.length:=by
      have:¬j<V.length:=by first|omega|simpa using h16
      omega
     subst hjl;rw[List.drop_length]at hD1;simp only[List.map_nil,XS]at hD1;refine(Xg ?_);refine(Xg ?_);refine X2 ?_;exact⟨(i+1,d1),⟨hi1,hD1⟩,by simp only;omega,X4 (fun n=>n) []⟩
   (try simp only[BN]at h12);have h5:¬so=5:=by simpa using h12
   rw[if_neg h5]at hD;obtain⟨V,hV⟩:∃x,tmV (Tm.mk to tn tk)=x:=⟨_,rfl⟩;rw[hV]at hm3 hlv cm hD;clear hxh hmh hV h12 hse cst;refine Xm [⟨false,.v (lI V),none⟩] ?_ ?_
   · first|exact cm _|exact trivial|simpa[*]using cm _
   refine X3<|(Xf [0,2,6,7,16,17,18,68,69] (fun(y:Nat×List Dp)=>[(70,.v (li y.1))]) (fun y=>[(7,.box [.c (iC xk),.c (iC (a:Int)),.c (iC xn),.c (iC xo)]),(900002,.mp (dpM y.2)),(1000001,.box [.c (.sl 5 (Xu vars)),.c (.sl 6 (Xv hats)),.c (.sl 10 (X8 body)),.c (.sl 10 (X8 st)),.own 900002])]) (fun y=>y.1≤V.length∧XS (((N.zip R).drop (i+1)).flatMap fun p=>X1v st.length hats st p.1 p.2) (XS ((V.drop y.1).flatMap fun v=>deF st row a v) y.2)=RES) (fun y=>V.length - y.1) (0,dp) ⟨Nat.zero_le _,by simpa using hD⟩ ?_ ?_)
   · exact X4 (fun n=>n) []
   rintro⟨j,d1⟩ ⟨hj,hD1⟩;simp only[upS,X6,XB]
   try simp only[X6,KN,Nat.reduceBEq,if_true,if_false,ins,Nat.reduceLT]
   simp only at hj hD1;clear hD;refine X1 ?_;refine X0<|(X7 rfl (fun h26=>Xb ?_) (fun h26=>?_))
   · (try simp only[BN]at h26);have hlt:j<V.length:=by first|omega|simpa using h26
     have hw2:=XE hlt (by omega);have hj1:j+1≤V.length:=hlt;obtain⟨v,hv,hd⟩:=Xt hlt;have hve:(Xi V)[j]? =some [iC v]:=by simp[Xi,hv]
     rw[hd,List.flatMap_cons,X0w]at hD1;have hvb:=hm3 v (List.mem_of_getElem? hv);have hi2:i+1≤R.length:=by omega
     clear hlt h26 hv hd;refine X0<|X3<|X0<|X2 ?_;refine X1 ?_;refine X3<|(Xf [0,2,6,7,12,16,17,18,68,69,70,77,78] (fun(y:Nat×List Dp)=>[(79,.v (li y.1))]) (fun y=>[(7,.box [.c (iC xk),.c (iC (a:Int)),.c (iC xn),.c (iC xo)]),(900002,.mp (dpM y.2)),(1000001,.box [.c (.sl 5 (Xu vars)),.c (.sl 6 (Xv hats)),.c (.sl 10 (X8 body)),.c (.sl 10 (X8 st)),.own 900002])]) (fun y=>y.1≤row.length∧XS (((N.zip R).drop (i+1)).flatMap fun p=>X1v st.length hats st p.1 p.2) (XS ((V.drop (j+1)).flatMap fun v=>deF st row a v) (XS (deF st (row.drop y.1) a v) y.2))=RES) (fun y=>row.length - y.1) (0,d1) ⟨Nat.zero_le _,by simpa using hD1⟩ ?_ ?_)
     · exact X4 (fun n=>n) []
     rintro⟨m,d2⟩ ⟨hm,hD2⟩;simp only[upS,X6,XB]
     try simp only[X6,KN,Nat.reduceBEq,if_true,if_false,ins,Nat.reduceLT]
     simp only at hm hD2;clear hD1;refine X1 ?_;refine X0<|(X7 rfl (fun h31=>Xb ?_) (fun h31=>?_))
     · (try simp only[BN]at h31);have hlt:m<row.length:=by first|omega|simpa using h31
       have hw3:=XE hlt (by omega);have hm1:m+1≤row.length:=hlt;obtain⟨e,he,hd⟩:=Xt hlt;have hee:(WC row)[m]? =some [iC e]:=by simp[WC,he]
       rw[hd,deF_cons]at hD2;have cdf:=cdf d2 e v (by omega) hvb;rw[Int.toNat_natCast]at cdf;have cad:=X5v vars hats body st d2 e a 0;simp only[pdF]at cad;clear hlt h31 he hd;refine X0<|X3<|X0<|X2 ?_;refine Xm [⟨true,.v (lb (decide (Qi st e=v))),none⟩] ?_ ?_
       · first|exact cdf _|exact trivial|simpa[*]using cdf _
       refine(Xc rfl (fun h34=>?_) fun h34=>?_)
       · (try simp only[BN]at h34);have hvo:Qi st e=v:=by simpa using h34
         rw[if_pos hvo,XS]at hD2;clear h34;refine(XN ?_);refine RunsN.cutE 4 [] (by simp[*];rfl) trivial (le_refl _) ?_;refine RunsN.callA (fun n=>n) (fun n=>if n=900002 then 900012 else n) cad fun _ _=>?_;refine RunsN.doneE [] rfl trivial ?_;refine XH (s':=⟨⟨95,none⟩,[(0,.v (.one (.at_ 1000001 0))),(2,.v (.one (.c (.sl 1 (WS R))))),(6,.v (li i)),(7,.v (.one (.at_ 7 0))),(12,.v (li v)),(16,.v (.one (.c (.sl 4 (Qk N))))),(17,.v (li N.length)),(18,.v (li i)),(68,.v (lI V)),(69,.v (li V.length)),(70,.v (li j)),(77,.v (.one (.c (.sl 1 (WC row))))),(78,.v (li row.length)),(79,.v (li m))],[(7,.box [.c (iC xk),.c (iC (a:Int)),.c (iC xn),.c (iC xo)]),(900002,.mp (dpM (WR d2 ⟨(e:Int),a,0⟩))),(1000001,.box [.c (.sl 5 (Xu vars)),.c (.sl 6 (Xv hats)),.c (.sl 10 (X8 body)),.c (.sl 10 (X8 st)),.own 900002])]⟩) (Xx (fun n=>if n=900002 then 900012 else n) [] rfl (by simp[Qf,QP,del,ins,CV.ren,Ob.ren, *]) (by simp[Qf,QP,del,ins,CV.ren,Ob.ren, *]) (by simp)) ?_;refine X2 ?_;exact⟨(m+1,WR d2 ⟨(e:Int),a,0⟩),⟨hm1,hD2⟩,by simp only;omega,X4 (fun n=>n) []⟩
       (try simp only[BN]at h34);have hvo:¬Qi st e=v:=by simpa using h34
       rw[if_neg hvo]at hD2;clear h34;refine X2 ?_;exact⟨(m+1,d2),⟨hm1,hD2⟩,by simp only;omega,X4 (fun n=>n) []⟩
     try simp only[BN]at h31
     have hml:m=row.length:=by
      have:¬m<row.length:=by first|omega|simpa using h31
      omega
     subst hml;rw[List.drop_length]at hD2;simp only[deF,List.filter_nil,List.map_nil,XS]at hD2;refine(Xg ?_);refine X2 ?_;exact⟨(j+1,d2),⟨hj1,hD2⟩,by simp only;omega,X4 (fun n=>n) []⟩
   try simp only[BN]at h26
   have hjl:j=V.length:=by
    have:¬j<V.length:=by first|omega|simpa using h26
    omega
   subst hjl;rw[List.drop_length]at hD1;simp only[List.flatMap_nil,XS]at hD1;refine(Xg ?_);refine X2 ?_;exact⟨(i+1,d1),⟨hi1,hD1⟩,by simp only;omega,X4 (fun n=>n) []⟩
 try simp only[BN]at h4
 have hil:i=N.length:=by
  have:¬i<N.length:=by first|omega|simpa using h4
  omega
 subst hil;rw[List.drop_eq_nil_of_le (by rw[List.length_zip];omega)]at hD;simp only[List.flatMap_nil,XS]at hD;subst hD;refine(Xg ?_);exact⟨.inl rfl,(),trivial,_,le_refl _,⟨[],rfl,rfl⟩,fun n o h=>h⟩
end Go.Proofs.YtdajceakaakdoaaGreat

namespace Go.Proofs.YtdajceakaakdoaaGreat
open Go Go.Hl
variable {n:Nat} {L:List (List Nat)}
theorem X3h {s:List Int} (hs:s.Pairwise (· ≤ ·)):∀m:Nat,m≤s.length→(Lib.compactUpTo s.toArray m).Pairwise (· < ·)∧∀x,x∈Lib.compactUpTo s.toArray m↔∃j,j<m∧s[j]? =some x
 | 0,_=>by
   have:Lib.compactUpTo s.toArray 0=[]:=rfl;rw[this];exact⟨List.Pairwise.nil,fun x=>⟨fun h=>by simp at h,fun⟨j,h,_⟩=>absurd h (Nat.not_lt_zero _)⟩⟩
 | m + 1,hm=>by
   obtain⟨h1,h2⟩:=X3h hs m (by omega);have hle:∀i j (hi:i<s.length) (hj:j<s.length),i<j→s[i]≤s[j]:=fun i j hi hj hij=>List.pairwise_iff_getElem.1 hs i j hi hj hij;have hd:∀j (hj:j<s.length),s.toArray[j]! =s[j]:=fun j hj=>by simp[hj]
   rw[Lib.compactUpTo_succ,hd m (by omega)];by_cases hk:Lib.keeps s.toArray m=true
   · rw [if_pos hk];refine⟨List.pairwise_append.2 ⟨h1,List.pairwise_singleton ..,fun a ha b hb=>?_⟩,fun x=>?_⟩
     · obtain⟨j,hj,he⟩:=(h2 a).1 ha;have hb':b=s[m]:=by simpa using hb
       subst hb';obtain⟨hj',rfl⟩:=List.getElem?_eq_some_iff.1 he
       have hk':m=0∨s[m]≠s[m - 1]:=by
        unfold Lib.keeps at hk;rw[hd m (by omega),hd (m - 1) (by omega)]at hk;simpa using hk
       rcases hk' with hk'|hk'
       · omega
       have a1:=hle (m - 1) m (by omega) (by omega) (by omega);rcases Nat.lt_or_ge j (m - 1)with h3|h3
       · have:=hle j (m - 1) hj' (by omega) h3;omega
       have:j=m - 1:=by omega
       subst this;omega
     simp only[List.mem_append,List.mem_singleton,h2 x];constructor
     · rintro(⟨j,hj,he⟩|rfl)
       · exact⟨j,by omega,he⟩
       exact⟨m,by omega,List.getElem?_eq_getElem _⟩
     rintro⟨j,hj,he⟩;rcases Nat.lt_or_ge j m with h3|h3
     · exact .inl ⟨j,h3,he⟩
     have:j=m:=by omega
     subst this;obtain⟨_,rfl⟩:=List.getElem?_eq_some_iff.1 he;exact .inr rfl
   rw[if_neg hk,List.append_nil];refine⟨h1,fun x=>?_⟩;rw[h2 x];constructor
   · rintro⟨j,hj,he⟩;exact⟨j,by omega,he⟩
   rintro⟨j,hj,he⟩;rcases Nat.lt_or_ge j m with h3|h3
   · exact⟨j,h3,he⟩
   have:j=m:=by omega
   subst this
   have hk':¬(j=0∨s[j]≠s[j - 1]):=by
    unfold Lib.keeps at hk;rw[hd j (by omega),hd (j - 1) (by omega)]at hk;simpa using hk
   obtain⟨_,rfl⟩:=List.getElem?_eq_some_iff.1 he;have h0:j≠0:=fun h=>hk' (.inl h);refine⟨j - 1,by omega,?_⟩;rw[List.getElem?_eq_getElem (by omega)];exact congrArg some (Classical.byContradiction fun h=>hk' (.inr fun k=>h k.symm))
theorem X5Z {s:List Int} (hs:s.Pairwise (· ≤ ·)):(Lib.compact s).Pairwise (· < ·)∧∀x,x∈Lib.compact s↔x∈s:=by
 obtain⟨h1,h2⟩:=X3h hs s.length (Nat.le_refl _);unfold Lib.compact;refine⟨h1,fun x=>?_⟩;rw[h2 x,List.mem_iff_getElem?];exact⟨fun⟨j,_,h⟩=>⟨j,h⟩,fun⟨j,h⟩=>⟨j,(List.getElem?_eq_some_iff.1 h).1,h⟩⟩
theorem Xbu (l:List Int):(l.mergeSort fun x y=>decide (x≤y)).Pairwise (· ≤ ·):=by
 have:=List.pairwise_mergeSort (le:=fun x y:Int=>decide (x≤y)) (fun a b c h1 h2=>by simp only[decide_eq_true_eq]at*;omega) (fun a b=>by simp only[Bool.or_eq_true,decide_eq_true_eq];omega) l;exact this.imp fun h=>by simpa using h
end Go.Proofs.YtdajceakaakdoaaGreat
