/- Part 11: contracts of functions of the program and of the reference, and plain facts about what they compute; used by the proof of the claimed statement. Conditions: as each theorem states. -/
import Derived.Test.YtdajceakaakdoaaGreatI9
import Derived.Test.YtdajceakaakdoaaGreatI3
import Derived.Test.YtdajceakaakdoaaGreatI8
import Derived.Test.YtdajceakaakdoaaGreatI7
import Derived.Test.YtdajceakaakdoaaGreatI10
import Derived.Test.YtdajceakaakdoaaGreatRows
set_option linter.unusedSimpArgs false
set_option linter.unusedVariables false
set_option linter.unnecessarySimpa false
set_option maxRecDepth 100000
set_option maxHeartbeats 2000000
namespace Go.Proofs.YtdajceakaakdoaaGreat
open Go Go.Hl
def stlB (f:Fl):Bool:=match f.body.getLast? with
 |some s=>decide (s.do_=6)&&decide ((bdL CP f.body ⟨0,0,0⟩).t≤(s.bounds[0]?).getD 0)
 |none=>false
set_option maxHeartbeats 8000000 in
theorem Xbs (f:Fl) (hv:f.vars.length≤1000000) (hh:f.hats.length≤1000000) (hn:Xl f.body+Qr f.hats≤900000000) (hb:Z3 f.body=true) (hc:XR f=0) (hl:f.body.length≤1000000) (hb6:∀s∈f.body,s.do_=6→s.bounds≠[]) (d:Nat):Con Tryz.prog 128 true [aF f] (.v (lb (stlB f))) none d:=by
 have cb:=X86 f hv hh hn hb hc;clear hv hh hn hb hc;obtain⟨vars,hats,body⟩:=f;simp only at cb hb6 hl⊢;unfold stlB;simp only;obtain⟨⟨bs,bo,bt⟩,hB⟩:∃x,bdL CP body ⟨0,0,0⟩=x:=⟨_,rfl⟩;rw[hB]at cb⊢;clear hB;cases hlast:body.getLast? with
 | none=>
   have hnil:body=[]:=by simpa using hlast
   subst hnil;clear hlast hb6 hl;refine X5 Tryz.func128 ?_;simp only[Tryz.f128];simp only[aF,Fl.enc,List.map_cons,List.map_nil]at cb⊢;refine X1 ?_;refine X0<|X0<|X2 ?_;refine(Xc rfl (fun h2=>?_) fun h2=>?_)
   · (try simp only[BN]at h2);refine X1 ?_;exact Xe
   exact absurd h2 (by simp)
 | some s=>
   have hpos:body.length≠0:=by intro h;rw[List.eq_nil_of_length_eq_zero h]at hlast;cases hlast
   have hs:body[body.length - 1]? =some s:=by rw[←hlast,List.getLast?_eq_getElem?]
   have hw1:IntKind.i64.wrap ((body.length:Int) - 1)=((body.length - 1:Nat):Int):=by simp[IntKind.wrap,IntKind.bits,IntKind.signed];omega
   have hb7:=hb6 s (List.mem_of_getElem? hs);have hse:=Q5 hs;clear hb6 hlast;obtain⟨so,sc,sv,sn,⟨po,tn,tk⟩,sa,sb,sbs⟩:=s;simp only[St.do_,St.bounds]at hb7⊢;simp only[St.enc,Tm.enc,List.cons_append,List.nil_append]at hse;have hp1:¬((body.length:Int)=0):=by omega
   by_cases h6:so=6
   · match sbs,hb7 h6 with
     | b0::sb1,_=>
       clear hb7;subst h6;refine X5 Tryz.func128 ?_;simp only[Tryz.f128];simp only[aF,Fl.enc,List.map_cons,List.map_nil]at cb⊢;refine X1 ?_;refine X0<|X0<|X2 ?_;refine(Xc rfl (fun h2=>?_) fun h2=>?_)
       · exact absurd (by simpa using h2) hp1
       (try simp only[BN]at h2);refine X1 ?_;refine Xm [⟨true,.tup [li bs,li bo,li bt,li 0],none⟩] ?_ ?_
       · first|exact cb _|exact trivial|simpa[*]using cb _
       refine X1 ?_;exact Xe
   clear hb7;cases sbs with
   | nil=>
     refine X5 Tryz.func128 ?_;simp only[Tryz.f128];simp only[aF,Fl.enc,List.map_cons,List.map_nil]at cb⊢;refine X1 ?_;refine X0<|X0<|X2 ?_;refine(Xc rfl (fun h2=>?_) fun h2=>?_)
     · exact absurd (by simpa using h2) hp1
     (try simp only[BN]at h2);refine X1 ?_;refine Xm [⟨true,.tup [li bs,li bo,li bt,li 0],none⟩] ?_ ?_
     · first|exact cb _|exact trivial|simpa[*]using cb _
     refine X1 ?_;exact Xe
   | cons b0 sb1=>
     refine X5 Tryz.func128 ?_;simp only[Tryz.f128];simp only[aF,Fl.enc,List.map_cons,List.map_nil]at cb⊢;refine X1 ?_;refine X0<|X0<|X2 ?_;refine(Xc rfl (fun h2=>?_) fun h2=>?_)
     · exact absurd (by simpa using h2) hp1
     (try simp only[BN]at h2);refine X1 ?_;refine Xm [⟨true,.tup [li bs,li bo,li bt,li 0],none⟩] ?_ ?_
     · first|exact cb _|exact trivial|simpa[*]using cb _
     refine X1 ?_;exact Xe
end Go.Proofs.YtdajceakaakdoaaGreat

namespace Go.Proofs.YtdajceakaakdoaaGreat
open Go Go.Hl
theorem X51 (l:List St) (hn:Xl l≤1000000000) (d:Nat):Con Tryz.prog 129 true [lS l] (.tup [li (spL l (0,0)).1,lb (decide ((spL l (0,0)).1=(spL l (0,0)).2))]) none d:=by
 have cs:=XbB l hn;obtain⟨p,hp⟩:∃x,spL l (0,0)=x:=⟨_,rfl⟩;rw[hp]at cs⊢;obtain⟨x,y⟩:=p;simp only at cs⊢;clear hp;refine X5 Tryz.func129 ?_;simp only[Tryz.f129];refine X1 ?_;refine Xm [⟨true,.tup [li x,li y],none⟩] ?_ ?_
 · first|exact cs _|exact trivial|simpa[*]using cs _
 refine X1 ?_;exact Xe
def cndQ (so x:Int) (ex:Bool) (y:Int) (ey:Bool) (po:Int):Bool:=(decide (so=3)&& !(ex&&(ey&&decide (x=y))))||(decide (so=4)&& !(ex&&decide (po=0)))
def cndP:St→Bool
 | .mk o _ _ _ (.mk po _ _) a b _=>cndQ o (spL a (0,0)).1 (decide ((spL a (0,0)).1=(spL a (0,0)).2)) (spL b (0,0)).1 (decide ((spL b (0,0)).1=(spL b (0,0)).2)) po
theorem tmP_drop (cnd:St→Bool) (e:Int) (st:List St) (k:Nat) (s:St) (h:st[k]? =some s):((st.zipIdx).drop k).flatMap (fun s=>if cnd s.1=true then [(⟨s.2,e,1⟩:Dp)] else [])=(if cnd s=true then [(⟨k,e,1⟩:Dp)] else [])++((st.zipIdx).drop (k+1)).flatMap (fun s=>if cnd s.1=true then [(⟨s.2,e,1⟩:Dp)] else []):=by
 have hz:st.zipIdx[k]? =some (s,k):=by simp[List.getElem?_zipIdx,h]
 obtain⟨p,h1,h2⟩:=Xt (show k<st.zipIdx.length by simpa using(List.getElem?_eq_some_iff.1 h).1);rw[hz]at h1;cases h1;rw[h2,List.flatMap_cons]
set_option maxHeartbeats 32000000 in
theorem XbC (vars:List Vr) (hats:List Ht) (body st:List St) (dp0:List Dp) (hv:vars.length≤100000) (hst:st.length≤100000) (hn:∀s∈st,Xl s.then_≤1000000000∧Xl s.else_≤1000000000)
  (cs:∀d,Con Tryz.prog 128 true [aF ⟨vars,hats,body⟩] (.v (lb (stlB ⟨vars,hats,body⟩))) none d):
  X1g Tryz.prog 67 none (pdF vars hats body st dp0) [.one (.at_ 1000001 0)] (fun _:Unit=>True) (fun _=>.tup []) (fun _=>pdF vars hats body st (XS (if stlB ⟨vars,hats,body⟩=true then [] else tmP cndP ((st.length:Int)+vars.length) st) dp0)):=by
 obtain⟨sb,hsb⟩:∃x,stlB ⟨vars,hats,body⟩=x:=⟨_,rfl⟩;rw[hsb]at cs⊢;simp only[aF,Fl.enc,List.map_cons,List.map_nil]at cs;refine Qq Tryz.func67 rfl (by kernel_rfl) (Nat.le_of_ble_eq_true rfl) X9B (fun v h=>by cases h) ?_;simp only[Tryz.f67];cases sb with
 | true=>
   simp only[pdF];refine X0<|X0<|(Xp [⟨true,.v (lb true),none⟩] ?_ ?_)
   · first|exact cs _|exact trivial|simpa[*]using cs _
   refine(Xc rfl (fun h1=>?_) fun h1=>?_)
   · (try simp only[BN]at h1);exact Qm ⟨.inr rfl,(),trivial,_,le_refl _,⟨[],rfl,rfl⟩,fun n o h=>h⟩
   cases h1
 | false =>
   obtain⟨RES,hRES⟩:∃x,XS (tmP cndP ((st.length:Int)+vars.length) st) dp0=x:=⟨_,rfl⟩;simp only[Bool.false_eq_true,if_false,hRES];unfold tmP at hRES;have cst:=X2u vars hats body st dp0 vars.length (by omega) (by omega) (by omega);simp only[pdF];refine X0<|X0<|(Xp [⟨true,.v (lb false),none⟩] ?_ ?_)
   · first|exact cs _|exact trivial|simpa[*]using cs _
   refine(Xc rfl (fun h1=>?_) fun h1=>?_)
   · cases h1
   (try simp only[BN]at h1);refine Xm [⟨true,.v (li ((st.length:Int)+vars.length)),none⟩] ?_ ?_
   · first|exact cst _|exact trivial|simpa[*]using cst _
   refine X1 ?_;refine X3<|(Xf [0,2,25,26] (fun(y:Nat×List Dp)=>[(27,.v (li y.1))]) (fun y=>[(900002,.mp (dpM y.2)),(1000001,.box [.c (.sl 5 (Xu vars)),.c (.sl 6 (Xv hats)),.c (.sl 10 (X8 body)),.c (.sl 10 (X8 st)),.own 900002])]) (fun y=>y.1≤st.length∧XS (((st.zipIdx).drop y.1).flatMap fun s=>if cndP s.1=true then [(⟨s.2,(st.length:Int)+vars.length,1⟩:Dp)] else []) y.2=RES) (fun y=>st.length - y.1) (0,dp0) ⟨Nat.zero_le _,by simpa using hRES⟩ ?_ ?_)
   · exact X4 (fun n=>n) []
   rintro⟨i,dp⟩ ⟨hi,hD⟩;simp only[upS,X6,XB]
   try simp only[X6,KN,Nat.reduceBEq,if_true,if_false,ins,Nat.reduceLT]
   simp only at hi hD;clear hRES cs cst;refine X1 ?_;refine X0<|(X7 rfl (fun h7=>Xb ?_) (fun h7=>?_))
   · (try simp only[BN]at h7);have hlt:i<st.length:=by first|omega|simpa using h7
     have hw1:=XE hlt (by omega);have hi1:i+1≤st.length:=hlt;obtain⟨s,hs,_⟩:=Xt hlt;have hse:=Q5 hs;rw[tmP_drop _ _ _ _ _ hs]at hD;obtain⟨n1,n2⟩:=hn s (List.mem_of_getElem? hs);obtain⟨so,sc,sv,sn,⟨po,tn,tk⟩,sa,sb,sbs⟩:=s;simp only[St.then_,St.else_]at n1 n2;have ca:=X51 sa n1;have cb:=X51 sb n2;simp only[St.enc,Tm.enc,List.cons_append,List.nil_append]at hse;have hcd:cndP (St.mk so sc sv sn (Tm.mk po tn tk) sa sb sbs)=cndQ so (spL sa (0,0)).1 (decide ((spL sa (0,0)).1=(spL sa (0,0)).2)) (spL sb (0,0)).1 (decide ((spL sb (0,0)).1=(spL sb (0,0)).2)) po:=by rw[cndP]
     obtain⟨cn,hcn⟩:∃c,cndP (St.mk so sc sv sn (Tm.mk po tn tk) sa sb sbs)=c:=⟨_,rfl⟩;rw[hcn]at hD;rw[hcd]at hcn;clear hcd;obtain⟨⟨x,x2⟩,hX⟩:∃z,spL sa (0,0)=z:=⟨_,rfl⟩;obtain⟨⟨y,y2⟩,hY⟩:∃z,spL sb (0,0)=z:=⟨_,rfl⟩;rw[hX]at ca hcn;rw[hY]at cb hcn;simp only at ca cb hcn;obtain⟨ex,hex⟩:∃e,decide (x=x2)=e:=⟨_,rfl⟩;obtain⟨ey,hey⟩:∃e,decide (y=y2)=e:=⟨_,rfl⟩;rw[hex]at ca hcn;rw[hey]at cb hcn;clear hX hY hex hey;unfold cndQ at hcn;clear hlt h7 hs;refine X0<|X3<|X0<|X2 ?_;refine Xm [⟨true,.tup [li x,lb ex],none⟩] ?_ ?_
     · first|exact ca _|exact trivial|simpa[*]using ca _
     refine Xm [⟨true,.tup [li y,lb ey],none⟩] ?_ ?_
     · first|exact cb _|exact trivial|simpa[*]using cb _
     refine XV [0,2,3,25,26,27] (fun(q:Bool)=>[(73,.v (lb q))]) (fun(q:Bool)=>[(900002,.mp (dpM dp)),(1000001,.box [.c (.sl 5 (Xu vars)),.c (.sl 6 (Xv hats)),.c (.sl 10 (X8 body)),.c (.sl 10 (X8 st)),.own 900002])]) (fun(q:Bool)=>q=cn) ?_ ?_
     · clear ca cb hD hse;by_cases h3:so=3
       · subst h3;cases ex with
         |false=>(refine Xq (by simp;rfl) ?_;exact⟨true,by rw[←hcn];simp,Xx (fun n=>n) [] rfl (by simp[upS,X6]) (by simp[upS]) (by simp[upS])⟩)
         | true=>
           cases ey with
           |false=>(refine Xq (by simp;rfl) ?_;exact⟨true,by rw[←hcn];simp,Xx (fun n=>n) [] rfl (by simp[upS,X6]) (by simp[upS]) (by simp[upS])⟩)
           | true=>
             by_cases hxy:x=y
             · subst hxy
               (refine Xq (by simp;rfl) ?_;exact⟨false,by rw[←hcn];simp,Xx (fun n=>n) [] rfl (by simp[upS,X6]) (by simp[upS]) (by simp[upS])⟩)
             (refine Xq (by simp[hxy];rfl) ?_;exact⟨true,by rw[←hcn];simp[hxy],Xx (fun n=>n) [] rfl (by simp[upS,X6]) (by simp[upS]) (by simp[upS])⟩)
       by_cases h4:so=4
       · subst h4;cases ex with
         |false=>(refine Xq (by simp;rfl) ?_;exact⟨true,by rw[←hcn];simp,Xx (fun n=>n) [] rfl (by simp[upS,X6]) (by simp[upS]) (by simp[upS])⟩)
         | true=>
           by_cases ht:po=0
           · subst ht
             (refine Xq (by simp;rfl) ?_;exact⟨false,by rw[←hcn];simp,Xx (fun n=>n) [] rfl (by simp[upS,X6]) (by simp[upS]) (by simp[upS])⟩)
           (refine Xq (by simp[ht];rfl) ?_;exact⟨true,by rw[←hcn];simp[ht],Xx (fun n=>n) [] rfl (by simp[upS,X6]) (by simp[upS]) (by simp[upS])⟩)
       (refine Xq (by simp[h3,h4];rfl) ?_;exact⟨false,by rw[←hcn];simp[h3,h4],Xx (fun n=>n) [] rfl (by simp[upS,X6]) (by simp[upS]) (by simp[upS])⟩)
     rintro q hq;simp only[upS,X6,XB]
     try simp only[X6,KN,Nat.reduceBEq,if_true,if_false,ins,Nat.reduceLT]
     refine(Xc rfl (fun h12=>?_) fun h12=>?_)
     · (try simp only[BN]at h12);have hq1:cn=true:=by rw[←hq];simpa using h12
       rw[hq1,if_pos rfl]at hD;simp only[List.cons_append,List.nil_append,XS]at hD;have cad:=X5v vars hats body st dp i ((st.length:Int)+vars.length) 1;simp only[pdF]at cad;clear h12 hq hq1 hcn ca cb hse;refine(XN ?_);refine RunsN.cutE 3 [] (by simp;rfl) trivial (le_refl _) ?_;refine RunsN.callA (fun n=>n) (fun n=>if n=900002 then 900012 else n) cad fun _ _=>?_;refine RunsN.doneE [] rfl trivial ?_;refine XH (s':=⟨⟨79,none⟩,[(0,.v (.one (.at_ 1000001 0))),(2,.v (li ((st.length:Int)+vars.length))),(25,.v (.one (.c (.sl 10 (X8 st))))),(26,.v (li st.length)),(27,.v (li i))],[(900002,.mp (dpM (WR dp ⟨i,(st.length:Int)+vars.length,1⟩))),(1000001,.box [.c (.sl 5 (Xu vars)),.c (.sl 6 (Xv hats)),.c (.sl 10 (X8 body)),.c (.sl 10 (X8 st)),.own 900002])]⟩) (Xx (fun n=>if n=900002 then 900012 else n) [] rfl (by simp[Qf,QP,del,ins,CV.ren,Ob.ren]) (by simp[Qf,QP,del,ins,CV.ren,Ob.ren]) (by simp)) ?_;refine X2 ?_;exact⟨(i+1,WR dp ⟨i,(st.length:Int)+vars.length,1⟩),⟨hi1,hD⟩,by simp only;omega,X4 (fun n=>n) []⟩
     (try simp only[BN]at h12);have hq1:cn=false:=by rw[←hq];simpa using h12
     rw[hq1]at hD;simp only[Bool.false_eq_true,if_false,List.nil_append]at hD;clear h12 hq hq1 hcn ca cb hse;refine X2 ?_;exact⟨(i+1,dp),⟨hi1,hD⟩,by simp only;omega,X4 (fun n=>n) []⟩
   try simp only[BN]at h7
   have hil:i=st.length:=by
    have:¬i<st.length:=by first|omega|simpa using h7
    omega
   subst hil;rw[List.drop_eq_nil_of_le (by simp)]at hD;simp only[List.flatMap_nil,XS]at hD;subst hD;refine(Xg ?_);exact⟨.inl rfl,(),trivial,_,le_refl _,⟨[],rfl,rfl⟩,fun n o h=>h⟩
end Go.Proofs.YtdajceakaakdoaaGreat

namespace Go.Proofs.YtdajceakaakdoaaGreat
open Go Go.Hl
theorem mem_flL {l:List St} {s:St} (h:s∈l):s∈flL l:=by
 induction l with
 |nil=>cases h
 | cons a l ih=>
   simp only[flL,List.mem_append];rcases List.mem_cons.1 h with rfl|h
   · left;obtain⟨o,c,v,n,t,a,b,bs⟩:=s;simp[flS]
   exact .inr (ih h)
structure PdOK (f:Fl):Prop where
 nd:∀x∈grN f.body,okN1 f.hats (flL f.body) x
 st:∀q∈flL f.body,meV q.term=tmV q.term∧q.term.nodes≤100000∧∀v∈tmV q.term,0≤v∧v≤1000000
 ht:∀h∈f.hats,meV h.term=tmV h.term∧h.term.nodes≤100000∧∀v∈tmV h.term,0≤v∧v≤1000000
 rl:∀r∈rcL (grN f.body) (flL f.body) f.vars.length,r.length≤100000∧∀d∈r,d≤1000000
 sz:∀s∈flL f.body,Xl s.then_≤1000000000∧Xl s.else_≤1000000000
theorem stl_b6 {f:Fl} (h0:XR f=0):∀s∈f.body,s.do_=6→s.bounds≠[]:=by
 intro s hs h6;obtain⟨last,hsh⟩:=X1H f.body true (QS h0).2.2.2.1 s (mem_flL hs);unfold shB at hsh;rw[h6]at hsh;simp only[Int.reduceEq,if_false,if_true,Bool.and_eq_true]at hsh;intro e;rw[e]at hsh;exact absurd hsh.2 (by decide)
theorem stld_con {f:Fl} (h:Sm f) (h0:XR f=0) (d:Nat):Con Tryz.prog 128 true [aF f] (.v (lb (stlB f))) none d:=
 Xbs f (by have:=h.vars;omega) (by have:=h.hats;omega) (by have:=h.nodes;omega) h.bnd h0 (by have:=X4P f.body;have:=h.sz;omega) (stl_b6 h0) d
noncomputable def X1b (f:Fl):List Dp:=XS (if stlB f=true then [] else tmP cndP (((flL f.body).length:Int)+f.vars.length) (flL f.body)) (XS (X2h (flL f.body).length f.hats (flL f.body) (grN f.body) (rcL (grN f.body) (flL f.body) f.vars.length)) (XS (ctL f.body (-1) 0) []))
theorem X2E (f:Fl):(X1b f).Nodup:=X0d _ _ (X0d _ _ (X0d _ _ List.nodup_nil))
end Go.Proofs.YtdajceakaakdoaaGreat

namespace Go.Proofs.YtdajceakaakdoaaGreat
open Go Go.Hl
noncomputable def bdR (f:Fl):RV:=.tup [.agg (if XR f=0 then [.c (iC (flL f.body).length),.c (iC f.vars.length),.c (.sl 3 (Qn (Wr (X1b f))))] else [.c (iC 0),.c (iC 0),.c (.lit XW)]),li (XR f)]
theorem get_dpM {l:List Dp} {j:Nat} {k:Value} {v:CD} (h:(dpM l)[j]? =some (k,v)):∃x,l[j]? =some x∧k=d3V x.d3∧v=.lit (.bool true):=by
 unfold dpM d3M at h;simp only[List.getElem?_map]at h;cases hx:l[j]? with
 |none=>rw[hx]at h;cases h
 |some x=>rw[hx]at h;cases h;exact⟨x,rfl,rfl,rfl⟩
theorem Xcg {t:List Dp} (hnd:t.Nodup) {i j:Nat} {x:Dp} (hi:t[i]? =some x) (hj:t[j]? =some x):j=i:=by
 obtain⟨h1,h2⟩:=List.getElem?_eq_some_iff.1 hi;obtain⟨h3,h4⟩:=List.getElem?_eq_some_iff.1 hj;rcases Nat.lt_trichotomy i j with h|h|h
 · exact absurd (h2.trans h4.symm) (List.pairwise_iff_getElem.1 hnd i j h1 h3 h)
 · exact h.symm
 exact absurd (h4.trans h2.symm) (List.pairwise_iff_getElem.1 hnd j i h3 h1 h)
theorem X55 (g:FuncId) (d:Nat):Con Tryz.prog 58 true [.one (.c (.sl 3 [])),.one (.fn g [])] (.tup []) none d:=by
 refine⟨by kernel_rfl,fun F w vs hF hsz hargs=>?_⟩;obtain⟨l⟩:=vs
 match l,hsz with
 | [v0,v1],_=>
   have a0:CRel F w (.sl 3 []) v0:=hargs 0 _ v0 rfl rfl
   have key:∃p cap,v0=.slice p 0 cap:=by
    cases a0 with
    |nil=>exact⟨_,_,rfl⟩
    |emp a cap=>exact⟨_,_,rfl⟩
    |sl rows b o cap cells=>exact⟨_,_,rfl⟩
   obtain⟨p,cap,rfl⟩:=key;have a1:Xn F noγ w (.fn g []) v1:=hargs 1 _ v1 rfl rfl;obtain⟨us,rfl,hl,_⟩:=a1;have hus':us=[]:=List.eq_nil_of_length_eq_zero hl;subst hus';refine(X7O p cap g w).mono ?_;rintro e w' ⟨rfl,rfl⟩;exact⟨_,fun _=>False,noγ,rfl,⟨rfl,rfl,rfl,Nat.le_refl _,fun _ _=>rfl⟩,fun b hb=>hb.elim,⟨#[],rfl,rfl,fun j t u h1 h2=>by simp at h1⟩,fun o ho=>by cases ho⟩
set_option maxHeartbeats 32000000 in
theorem X9Z (f:Fl) (h:Sm f) (hok:XR f=0→PdOK f∧(X1b f).length≤20000000) (d:Nat):Con Tryz.prog 23 false [aF f] (bdR f) none d:=by
 have cc:=X1f f (by have:=h.vars;omega) (by have:=h.hats;omega) (by have:=h.nodes;omega) h.bnd;have cb:=X7o f h;unfold bdR;by_cases h0:XR f=0
 · have cr:=X7p f h h0;obtain⟨⟨hnd,hst,hht,hrl,hsz⟩,hDl⟩:=hok h0;have cst:=stld_con h h0;have hlen:=h.sz;have hfl:=XY f.body;have cl:=Xba f.vars f.hats f.body f.body (-1) [] [] (by simp only[List.length_nil];omega);have cd:=Xbz f.vars f.hats f.body (flL f.body) (grN f.body) (rcL (grN f.body) (flL f.body) f.vars.length) (XS (ctL f.body (-1) 0) []) (by omega) (by have:=X0X (X0o h0);have:=X3Q f.body;omega) (X3o _ _ _) hrl hnd hst hht;have ct:=XbC f.vars f.hats f.body (flL f.body) (XS (X2h (flL f.body).length f.hats (flL f.body) (grN f.body) (rcL (grN f.body) (flL f.body) f.vars.length)) (XS (ctL f.body (-1) 0) [])) (by have:=h.vars;omega) (by omega) hsz cst;have hD:X1b f=XS (if stlB f=true then [] else tmP cndP (((flL f.body).length:Int)+f.vars.length) (flL f.body)) (XS (X2h (flL f.body).length f.hats (flL f.body) (grN f.body) (rcL (grN f.body) (flL f.body) f.vars.length)) (XS (ctL f.body (-1) 0) [])):=rfl;have hDn:=X2E f;rw[←hD]at ct;rw[h0]at cc cb⊢;simp only[if_true,List.nil_append,List.length_nil]at cb cl⊢;have hv1:=h.vars;clear h hok h0 cst hnd hst hht hrl hsz hD;obtain⟨D,hD⟩:∃x,X1b f=x:=⟨_,rfl⟩;rw[hD]at ct hDn hDl⊢;clear hD;obtain⟨D1,hD1⟩:∃x,XS (ctL f.body (-1) 0) []=x:=⟨_,rfl⟩;rw[hD1]at cl cd ct;clear hD1;obtain⟨D2,hD2⟩:∃x,XS (X2h (flL f.body).length f.hats (flL f.body) (grN f.body) (rcL (grN f.body) (flL f.body) f.vars.length)) D1=x:=⟨_,rfl⟩;rw[hD2]at cd ct;clear hD2;obtain⟨RR,hRR⟩:∃x,rcL (grN f.body) (flL f.body) f.vars.length=x:=⟨_,rfl⟩;rw[hRR]at cd cr;clear hRR;obtain⟨vars,hats,body⟩:=f;simp only[aF,Fl.enc,List.map_cons,List.map_nil,grC]at cc cb cr cl cd ct hv1 hlen hfl⊢;obtain⟨G,hG⟩:∃x,grN body=x:=⟨_,rfl⟩;rw[hG]at cb cr cd;clear hG;obtain⟨Q,hQ⟩:∃x,flL body=x:=⟨_,rfl⟩;rw[hQ]at cl cd ct hfl⊢;clear hQ;have hQl:Q.length≤1000:=by omega
   clear hlen hfl;have dp0:dpM []=[]:=rfl;have es0:X8 []=[]:=rfl;simp only[pdO,pdF,dp0,es0]at cl cd ct;refine X5 Tryz.func23 ?_;simp only[Tryz.f23];refine X1 ?_;refine X0<|X0<|(Xp [⟨true,.v (li 0),none⟩] ?_ ?_)
   · first|exact cc _|exact trivial|simpa[*]using cc _
   refine X1 ?_;refine(Xc rfl (fun h3=>?_) fun h3=>?_)
   · exact absurd h3 (by simp)
   (try simp only[BN]at h3);refine Xm [⟨false,.tup [.agg [.c (.sl 4 (Qk G))],li 0],none⟩] ?_ ?_
   · first|exact cb _|exact trivial|simpa[*]using cb _
   refine X0<|X0<|X2 ?_;refine(Xc rfl (fun h8=>?_) fun h8=>?_)
   · exact absurd h8 (by simp)
   (try simp only[BN]at h8);refine Xm [⟨false,.tup [.one (.c (.sl 1 (WS RR))),li 0],none⟩] ?_ ?_
   · first|exact cr _|exact trivial|simpa[*]using cr _
   refine X0<|X0<|X2 ?_;refine(Xc rfl (fun h13=>?_) fun h13=>?_)
   · exact absurd h13 (by simp)
   (try simp only[BN]at h13);refine X1 ?_;refine XH (s':=⟨⟨78,none⟩,[(1,.v (.one (.at_ 1 0))),(2,.v (.one (.at_ 2 0))),(5,.v (.one (.at_ 5 0))),(7,.v (.one (.c (.sl 1 (WS RR))))),(8,.v (.one (.at_ 39 0)))],[(1,.box [.c (.sl 5 (Xu vars)),.c (.sl 6 (Xv hats)),.c (.sl 10 (X8 body))]),(2,.box [.c (iC 0),.c (iC 0),.c (.lit XW)]),(5,.box [.c (.sl 4 (Qk G))]),(39,.box [.c (.sl 5 (Xu vars)),.c (.sl 6 (Xv hats)),.c (.sl 10 (X8 body)),.own 900001,.own 900002]),(900001,.row 70 10 []),(900002,.mp [])]⟩) (Xx (fun n=>if n=900002 then 37 else n) [900001] rfl (by simp[upS,X6]) (by simp[upS,XW]) (by simp[upS])) ?_;refine X0<|(XN ?_);refine RunsN.cutE 3 [] (by simp;rfl) trivial (le_refl _) ?_;refine RunsN.callA (fun n=>if n=1000001 then 39 else n) (fun n=>if n=1000001 then 39 else if n=900001 then 900011 else if n=900002 then 900012 else n) cl fun _ _=>?_;refine RunsN.doneE [] rfl trivial ?_;refine XH (s':=⟨⟨78,none⟩,[(1,.v (.one (.at_ 1 0))),(2,.v (.one (.at_ 2 0))),(5,.v (.one (.at_ 5 0))),(7,.v (.one (.c (.sl 1 (WS RR))))),(8,.v (.one (.at_ 39 0)))],[(1,.box [.c (.sl 5 (Xu vars)),.c (.sl 6 (Xv hats)),.c (.sl 10 (X8 body))]),(2,.box [.c (iC 0),.c (iC 0),.c (.lit XW)]),(5,.box [.c (.sl 4 (Qk G))]),(39,.box [.c (.sl 5 (Xu vars)),.c (.sl 6 (Xv hats)),.c (.sl 10 (X8 body)),.own 900001,.own 900002]),(900001,.row 70 10 (X8 Q)),(900002,.mp (dpM D1))]⟩) (Xx (fun n=>if n=900001 then 900011 else if n=900002 then 900012 else n) [] rfl (by simp[upS,X6,Qf,QP,del,ins,CV.ren,Ob.ren]) (by simp[upS,X6,Qf,QP,del,ins,CV.ren,Ob.ren]) (by simp[upS])) ?_;refine XH (QQ 900001 rfl) ?_;refine X0<|(XN ?_);refine RunsN.cutE 3 [] (by simp;rfl) trivial (le_refl _) ?_;refine RunsN.callA (fun n=>if n=1000001 then 39 else n) (fun n=>if n=1000001 then 39 else if n=900002 then 900012 else n) cd fun _ _=>?_;refine RunsN.doneE [] rfl trivial ?_;refine XH (s':=⟨⟨78,none⟩,[(1,.v (.one (.at_ 1 0))),(2,.v (.one (.at_ 2 0))),(8,.v (.one (.at_ 39 0)))],[(1,.box [.c (.sl 5 (Xu vars)),.c (.sl 6 (Xv hats)),.c (.sl 10 (X8 body))]),(2,.box [.c (iC 0),.c (iC 0),.c (.lit XW)]),(39,.box [.c (.sl 5 (Xu vars)),.c (.sl 6 (Xv hats)),.c (.sl 10 (X8 body)),.c (.sl 10 (X8 Q)),.own 900002]),(900002,.mp (dpM D2))]⟩) (Xx (fun n=>if n=900002 then 900012 else n) [] rfl (by simp[upS,X6,Qf,QP,del,ins,CV.ren,Ob.ren]) (by simp[upS,X6,Qf,QP,del,ins,CV.ren,Ob.ren]) (by simp[upS])) ?_;refine X0<|(XN ?_);refine RunsN.cutE 1 [] (by simp;rfl) trivial (le_refl _) ?_;refine RunsN.callA (fun n=>if n=1000001 then 39 else n) (fun n=>if n=1000001 then 39 else if n=900002 then 900012 else n) ct fun _ _=>?_;refine RunsN.doneE [] rfl trivial ?_;refine XH (s':=⟨⟨78,none⟩,[(1,.v (.one (.at_ 1 0))),(2,.v (.one (.at_ 2 0))),(8,.v (.one (.at_ 39 0)))],[(1,.box [.c (.sl 5 (Xu vars)),.c (.sl 6 (Xv hats)),.c (.sl 10 (X8 body))]),(2,.box [.c (iC 0),.c (iC 0),.c (.lit XW)]),(39,.box [.c (.sl 5 (Xu vars)),.c (.sl 6 (Xv hats)),.c (.sl 10 (X8 body)),.c (.sl 10 (X8 Q)),.own 900002]),(900002,.mp (dpM D))]⟩) (Xx (fun n=>if n=900002 then 900012 else n) [] rfl (by simp[upS,X6,Qf,QP,del,ins,CV.ren,Ob.ren]) (by simp[upS,X6,Qf,QP,del,ins,CV.ren,Ob.ren]) (by simp[upS])) ?_;refine XH (le_frzP 900002 rfl) ?_;refine X0<|(Qe (by kernel_rfl) (by kernel_rfl) (by rfl) (by simp[*];rfl) ?_);refine X0<|X0<|X2 ?_;refine X3<|(Xf [2,9,63] (fun(y:List Nat×List Dp)=>[(2,.v (.one (.at_ 2 0))),(9,.v (.one (.at_ 9 0)))]) (fun y=>[(2,.box [.c (iC 0),.c (iC 0),.c (.lit XW)]),(9,.box [.c (iC Q.length),.c (iC vars.length),.own 1003]),(63,.it (dpM D) y.1),(1003,.row 51 3 (Qn y.2))]) (fun y=>y.1.Nodup∧X2O y.1 D.length∧(∀d,d∈y.2↔∃j∈y.1,D[j]? =some d)∧y.2.Nodup∧y.2.length≤y.1.length) (fun y=>D.length - y.1.length) ([],[]) ⟨List.nodup_nil,by simp[X2O],by simp,List.nodup_nil,Nat.le_refl _⟩ ?_ ?_)
   · exact X4 (fun n=>n) [1003]
   rintro⟨seen,out⟩ ⟨j1,j2,j3,j4,j5⟩;simp only[upS,X6,XB]
   try simp only[X6,KN,Nat.reduceBEq,if_true,if_false,ins,Nat.reduceLT]
   simp only at j1 j2 j3 j4 j5;refine X5w (fun j k v hj hn=>?_) (fun hall=>?_)
   skip
   · (try simp only[BN]at h24);obtain⟨x,hd,rfl,rfl⟩:=get_dpM hj;have hjl:j<D.length:=(List.getElem?_eq_some_iff.1 hd).1
     have hnd2:(seen++[j]).Nodup:=by
      rw[List.nodup_append];exact⟨j1,by simp,fun a ha b hb=>by rw[List.mem_singleton.1 hb];exact fun e=>hn (e▸ha)⟩
     have hin:X2O (seen++[j]) D.length:=fun i hi=>by
      rcases List.mem_append.1 hi with h|h
      · exact j2 i h
      rw[List.mem_singleton.1 h];exact hjl
     have hnew:(out++[x]).Nodup:=by
      rw[List.nodup_append];refine⟨j4,by simp,fun a ha b hb=>?_⟩;rw[List.mem_singleton.1 hb];rintro rfl;obtain⟨i,hi,he⟩:=(j3 a).1 ha;exact hn (Xcg hDn hd he▸hi)
     have hmem:∀y,y∈out++[x]↔∃i∈seen++[j],D[i]? =some y:=by
      intro y;rw[List.mem_append,j3,List.mem_singleton];constructor
      · rintro(⟨i,h1,h2⟩|rfl)
        · exact⟨i,List.mem_append_left _ h1,h2⟩
        exact⟨j,by simp,hd⟩
      rintro⟨i,h1,h2⟩;rcases List.mem_append.1 h1 with h1|h1
      · exact .inl ⟨i,h1,h2⟩
      rw[List.mem_singleton.1 h1,hd]at h2;exact .inr (Option.some.inj h2).symm
     have hap:Qn (out++[x])=Qn out++[[CD.lit (.int .i64 x.d3.1),CD.lit (.int .i64 x.d3.2.1),CD.lit (.int .i64 x.d3.2.2)]]:=by rw[Xc5];rfl
     have hsn:Qn [x]=[[iC x.f,iC x.t,iC x.k]]:=rfl;have hle:=Wp hnd2 hin;simp only[List.length_append,List.length_singleton]at hle;have hroom:Wa (out.length+1) 24:=⟨by unfold maxLen;omega,by omega⟩;clear hjl;refine X3<|X0<|(XN ?_);refine RunsN.cutE 2 [] (by simp[*];rfl) trivial (le_d3 67 x.d3 rfl) ?_;refine RunsN.doneE [] (by simp[d3C];rfl) trivial ?_;refine X2 ?_;exact⟨(seen++[j],out++[x]),⟨hnd2,hin,hmem,hnew,by simp only[List.length_append,List.length_singleton];omega⟩,by simp only[List.length_append,List.length_singleton];omega,X4 (fun n=>if n=1003 then 72 else n) []⟩
   try simp only[BN]at h24
   have hout:∀d,d∈out↔d∈D:=by
    intro d;rw[j3];constructor
    · rintro⟨i,_,h⟩;exact List.mem_of_getElem? h
    intro h;obtain⟨i,hi⟩:=List.mem_iff_getElem?.1 h;exact⟨i,hall i (by rw[len_dpM];exact(List.getElem?_eq_some_iff.1 hi).1),hi⟩
   have hfin:Wr out=Wr D:=X4r hout;have hsl:=Wp j1 j2;obtain⟨res,hres⟩:∃y,Wr D=y:=⟨_,rfl⟩;rw[hres]at hfin⊢;clear hall j1 j2 j3 hout hres;refine(Xg ?_);rcases out with _|⟨a0,o⟩
   · refine XH (QQ 1003 rfl) ?_;have hr0:res=[]:=by rw[←hfin];simp[Wr,XS]
     subst hr0;refine Xm [⟨true,.tup [],none⟩] ?_ ?_
     · first|exact X55 _ _|exact trivial|simpa[*]using X55 _ _
     refine X1 ?_;exact Xe
   have cs:=Xb6 (a0::o) j4 (by simp) (by omega);rw[hfin]at cs;refine X0<|(XN ?_);refine RunsN.cutE 2 [] (by simp;rfl) trivial (le_refl _) ?_;refine RunsN.rowG (by simp[rowGP,X2r];exact⟨rfl,rfl⟩) cs ?_;refine RunsN.doneE [] rfl trivial ?_;refine XH (QQ 1003 rfl) ?_;refine X1 ?_;exact Xe
 rw[if_neg h0];obtain⟨C,hC⟩:∃x,XR f=x:=⟨_,rfl⟩;rw[hC]at cc h0⊢;clear cb h hok hC;obtain⟨vars,hats,body⟩:=f;simp only[aF,Fl.enc,List.map_cons,List.map_nil]at cc⊢;refine X5 Tryz.func23 ?_;simp only[Tryz.f23];refine X1 ?_;refine X0<|X0<|(Xp [⟨true,.v (li C),none⟩] ?_ ?_)
 · first|exact cc _|exact trivial|simpa[*]using cc _
 refine X1 ?_;refine(Xc rfl (fun h3=>?_) fun h3=>?_)
 · (try simp only[BN]at h3);refine X1 ?_;exact Xe
 exact absurd (by simpa using h3) h0
end Go.Proofs.YtdajceakaakdoaaGreat

namespace Go.Proofs.YtdajceakaakdoaaGreat
open Go Go.Hl
theorem rc_rl {f:Fl} (h:Sm f):∀r∈rcL (grN f.body) (flL f.body) f.vars.length,r.length≤100000∧∀d∈r,d≤1000000:=by
 have hs:=h.sz;have hv:=h.vars;have hl:=XY f.body;intro r hr;unfold rcL at hr;obtain⟨i,_,rfl⟩:=List.mem_map.1 hr;refine⟨Nat.le_trans (List.length_filter_le _ _) (by simp;omega),fun d hd=>?_⟩;have:=(List.mem_filter.1 hd).1;have:=List.mem_range.1 this;omega
end Go.Proofs.YtdajceakaakdoaaGreat

namespace Go.Proofs.YtdajceakaakdoaaGreat
open Go Go.Hl
mutual
theorem X5e {vars:List Vr} {inp:Bool}:∀t:Tm,QU vars inp t=true→∀v∈tmV t,0≤v∧v<vars.length
 | .mk o n ks,h,v,hv=>by
   simp only[QU,Bool.and_eq_true]at h;simp only[tmV,List.mem_append]at hv;rcases hv with hv|hv
   · split at hv
     · rename_i h24;rw[List.mem_singleton.1 hv];subst h24;have h1:=h.1;unfold Q6 at h1;simp only[Bool.and_eq_true,show ¬(24:Int)=0 by decide,if_false,if_true]at h1;have h2:=h1.2;unfold ZT at h2;simp only[Bool.and_eq_true,decide_eq_true_eq]at h2;refine⟨h2.1,?_⟩;cases hx:vars[n.toNat]? with
       |none=>rw[hx]at h2;exact absurd h2.2 (by simp)
       |some x=>have:=(List.getElem?_eq_some_iff.1 hx).1;omega
     cases hv
   exact Xas ks h.2 v hv
theorem Xas {vars:List Vr} {inp:Bool}:∀l:List Tm,WL vars inp l=true→∀v∈X0O l,0≤v∧v<vars.length
 |[],_,v,hv=>by simp[X0O]at hv
 | t::l,h,v,hv=>by
   simp only[WL,Bool.and_eq_true]at h;simp only[X0O,List.mem_append]at hv;rcases hv with hv|hv
   · exact X5e t h.1 v hv
   exact Xas l h.2 v hv
end
theorem X1N {vars:List Vr} {nh:Nat}:∀(l:List St) (top:Bool),ssC vars nh l top=0→∀q∈flL l,QU vars false q.term=true
 |[],_,_,q,hq=>by simp[flL]at hq
 | .mk d c v n t a b bs::l,top,h,q,hq=>by
   have hs:QU vars false t=true:=by
    simp only[ssC]at h;split at h
    · rename_i h0;unfold stC at h0;split at h0
      · cases h0
      split at h0
      · cases h0
      exact X2L h0
    rename_i h0;exact absurd h h0
   have hr:ssC vars nh a false=0∧ssC vars nh b false=0∧ssC vars nh l top=0:=by
    simp only[ssC]at h;split at h
    · split at h
      · split at h
        · rename_i ha hb;exact⟨ha,hb,h⟩
        rename_i hb;exact absurd h hb
      rename_i ha;exact absurd h ha
    rename_i h0;exact absurd h h0
   simp only[flL,flS,List.cons_append,List.mem_cons,List.mem_append]at hq;rcases hq with rfl|(hq|hq)|hq
   · exact hs
   · exact X1N a false hr.1 q hq
   · exact X1N b false hr.2.1 q hq
   exact X1N l top hr.2.2 q hq
theorem X1T:∀(l:List St),∀q∈flL l,q.term.nodes+Xl q.then_+Xl q.else_≤Xl l
 |[],q,hq=>by simp[flL]at hq
 | .mk d c v n t a b bs::l,q,hq=>by
   simp only[flL,flS,List.cons_append,List.mem_cons,List.mem_append]at hq;simp only[Xl,St.nodes];rcases hq with rfl|(hq|hq)|hq
   · simp only[St.term,St.then_,St.else_];omega
   · have:=X1T a q hq;omega
   · have:=X1T b q hq;omega
   have:=X1T l q hq;omega
theorem XaI {vars:List Vr} {nh:Nat} {q:St} {last:Bool} (h:shB vars nh q.do_ q.var q.n q.term q.then_.length q.else_.length q.bounds last=true) (h5:q.do_=5):0≤q.n∧q.n<nh:=by
 unfold shB at h;rw[h5]at h;simp only[show ¬(5:Int)=0 by decide,show ¬(5:Int)=1 by decide,show ¬(5:Int)=2 by decide,show ¬(5:Int)=3 by decide,show ¬(5:Int)=4 by decide,if_false,if_true,Bool.and_eq_true,decide_eq_true_eq]at h;exact⟨h.1.1.1.2,h.1.1.2⟩
theorem pd_ok {f:Fl} (h:Sm f) (h0:XR f=0):PdOK f:=by
 have hc:=QS h0;have hs:=h.sz;have hv:=h.vars;have hn:=h.nodes;have hsh:=X1H f.body true hc.2.2.2.1;have hfm:=X1N f.body true hc.2.2.2.1;refine⟨fun x hx=>⟨?_,fun a q ha hq h5=>?_⟩,fun q hq=>?_,fun q hq=>?_,rc_rl h,fun q hq=>?_⟩
 · rcases(X5P (X0o h0) x hx).ha with h1|⟨t,h1,h2⟩
   · exact .inl (by omega)
   exact .inr ⟨t,h1,by rw[XY];exact h2⟩
 · obtain⟨last,h1⟩:=hsh q (List.mem_of_getElem? hq);have:=XaI h1 h5;omega
 · have h1:=X1T f.body q hq;exact⟨X6U q.term (hfm q hq),by omega,fun v hv=>by have:=X5e q.term (hfm q hq) v hv;omega⟩
 · have h1:=X1G f.hats [] hc.2.2.1 q hq;have h2:=X18 hq;exact⟨X6U q.term h1,by omega,fun v hv=>by have:=X5e q.term h1 v hv;omega⟩
 have h1:=X1T f.body q hq;omega
def okDp (N:Int) (e:Dp):Prop:=(0≤e.f∧e.f≤N)∧(0≤e.t∧e.t≤N)∧(e.k=0∨e.k=1∨e.k=2)
theorem ctL_rng {N:Int}:∀l:List St,∀(c:Int) (p:Nat),c<N→(p:Int)+szL l≤N→∀e∈ctL l c p,okDp N e:=by
 apply St.lind
 · intro c p _ _ e he;simp[ctL]at he
 intro o c' w q t a b bs l ia ib il c p hc hp e he;simp only[szL,szS]at hp;simp only[ctL,List.mem_append]at he;rcases he with he|he|he|he|he
 · unfold ctE at he;split at he
   · rw[List.mem_singleton.1 he];exact⟨⟨by assumption,by simp only;omega⟩,⟨by simp only;omega,by simp only;omega⟩,.inr (.inl rfl)⟩
   cases he
 · split at he
   · rw[List.mem_singleton.1 he];exact⟨⟨by simp only;omega,by simp only;omega⟩,⟨by simp only;omega,by simp only;omega⟩,.inr (.inl rfl)⟩
   cases he
 · exact ia p (p+1) (by omega) (by omega) e he
 · exact ib p (p+1+szL a) (by omega) (by omega) e he
 exact il c _ hc (by omega) e he
theorem XaX {f:Fl} (h:Sm f) (h0:XR f=0):∀e∈X1b f,okDp (((flL f.body).length:Int)+f.vars.length) e:=by
 have hc:=QS h0;have hfm:=X1N f.body true hc.2.2.2.1;have hhm:=X1G f.hats [] hc.2.2.1;have hl:=XY f.body;intro e he;unfold X1b at he;rw[QO,QO,QO]at he;rcases he with(((he|he)|he)|he)
 · cases he
 · exact ctL_rng f.body (-1) 0 (by omega) (by omega) e he
 · unfold X2h at he;obtain⟨⟨x,r⟩,hp,he⟩:=List.mem_flatMap.1 he;obtain⟨n,hx,hr⟩:=X0W.1 hp;simp only at hx hr he;unfold X1v at he;split at he
   · cases he
   rename_i hxa;split at he
   · rename_i s hs;have ha:=(List.getElem?_eq_some_iff.1 hs).1;split at he
     · split at he
       · rename_i hh hhe;obtain⟨v,hv,rfl⟩:=X2Y.1 he;have:=X5e _ (hhm hh (List.mem_of_getElem? hhe)) v hv;exact⟨⟨by simp only;omega,by simp only;omega⟩,⟨by simp only;omega,by simp only;omega⟩,.inr (.inr rfl)⟩
       cases he
     obtain⟨v,hv,he⟩:=List.mem_flatMap.1 he;obtain⟨d,hd,rfl⟩:=List.mem_map.1 he;have hd:=(List.mem_filter.1 hd).1;unfold rcL at hr;obtain⟨k,hk1,hk2⟩:=List.mem_map.1 (List.mem_of_getElem? hr);rw[←hk2]at hd;have:=List.mem_range.1 (List.mem_filter.1 hd).1;exact⟨⟨by simp only;omega,by simp only;omega⟩,⟨by simp only;omega,by simp only;omega⟩,.inl rfl⟩
   cases he
 split at he
 · cases he
 obtain⟨i,s,hs,_,rfl⟩:=(Xaz _ _ _ _).1 he;have ha:=(List.getElem?_eq_some_iff.1 hs).1;exact⟨⟨by simp only;omega,by simp only;omega⟩,⟨by simp only;omega,by simp only;omega⟩,.inr (.inl rfl)⟩
theorem dp_few {N:Nat} {l:List Dp} (hn:l.Nodup) (h:∀e∈l,okDp N e):l.length≤(N+1)*(N+1)*3:=by
 have h1:Nb ((N+1)*(N+1)*3) (l.map fun e=>(e.f.toNat*(N+1)+e.t.toNat)*3+e.k.toNat):=by
  refine⟨?_,?_⟩
  · rw[List.nodup_iff_pairwise_ne,List.pairwise_map];refine List.Pairwise.imp_of_mem ?_ (List.nodup_iff_pairwise_ne.1 hn);intro a b ha hb hab e;obtain⟨⟨a1,a2⟩,⟨a3,a4⟩,a5⟩:=h a ha;obtain⟨⟨b1,b2⟩,⟨b3,b4⟩,b5⟩:=h b hb;apply hab;have e1:a.k.toNat=b.k.toNat:=by omega
    have e2:a.f.toNat*(N+1)+a.t.toNat=b.f.toNat*(N+1)+b.t.toNat:=by omega
    have e3:a.t.toNat=b.t.toNat:=by
     have:=congrArg (· %(N+1)) e2;simp only[Nat.mul_add_mod_self_right]at this
     rwa [Nat.mod_eq_of_lt (by omega),Nat.mod_eq_of_lt (by omega)]at this
    have e4:a.f.toNat=b.f.toNat:=Nat.eq_of_mul_eq_mul_right (show 0<N+1 by omega) (by omega);obtain⟨af,at_,ak⟩:=a;obtain⟨bf,bt,bk⟩:=b;simp only at*;have:af=bf:=by omega
    have:at_=bt:=by omega
    have:ak=bk:=by omega
    subst_vars
    rfl
  intro d hd;obtain⟨e,he,rfl⟩:=List.mem_map.1 hd;obtain⟨⟨a1,a2⟩,⟨a3,a4⟩,a5⟩:=h e he;have h3:e.f.toNat*(N+1)≤N*(N+1):=Nat.mul_le_mul_right _ (by omega);have h4:(N+1)*(N+1)=N*(N+1)+(N+1):=Nat.succ_mul ..;omega
 have:=h1.len
 rwa [List.length_map]at this
theorem Xay {f:Fl} (h:Sm f) (h0:XR f=0):(X1b f).length≤20000000:=by
 have h1:=dp_few (N:=(flL f.body).length+f.vars.length) (X2E f) (by have:=XaX h h0;simpa using this);have hs:=h.sz;have hv:=h.vars;have hl:=XY f.body;have h2:((flL f.body).length+f.vars.length+1)*((flL f.body).length+f.vars.length+1)≤2001*2001:=Nat.mul_le_mul (by omega) (by omega);omega
theorem X1E (f:Fl) (h:Sm f) (d:Nat):Con Tryz.prog 23 false [aF f] (bdR f) none d:=X9Z f h (fun h0=>⟨pd_ok h h0,Xay h h0⟩) d
end Go.Proofs.YtdajceakaakdoaaGreat

namespace Go.Proofs.YtdajceakaakdoaaGreat
open Go Go.Hl
section
variable {vars:List Vr} {hv:List Int}
end
end Go.Proofs.YtdajceakaakdoaaGreat

namespace Go.Proofs.YtdajceakaakdoaaGreat
open Go Go.Hl
end Go.Proofs.YtdajceakaakdoaaGreat

namespace Go.Proofs.YtdajceakaakdoaaGreat
open Go Go.Hl
inductive Cz (P:List (Int×Int)) (R:Int→Prop):Int→Prop
 |base {n:Int}:R n→Cz P R n
 |step {a b:Int}:(a,b)∈P→Cz P R a→Cz P R b
def prs (back rel:Bool) (E:List Dp):List (Int×Int):=(E.filter fun x=>rel||decide (x.k≠2)).map fun x=>if back=true then(x.t,x.f)else(x.f,x.t)
theorem X0h {back rel:Bool} {E:List Dp} {p:Int×Int}:p∈prs back rel E↔∃x∈E,(rel=true∨x.k≠2)∧p=if back=true then(x.t,x.f)else(x.f,x.t):=by
 unfold prs;simp only[List.mem_map,List.mem_filter,Bool.or_eq_true,decide_eq_true_eq];constructor
 · rintro⟨x,⟨h1,h2⟩,rfl⟩;exact⟨x,h1,h2,rfl⟩
 rintro⟨x,h1,h2,rfl⟩;exact⟨x,⟨h1,h2⟩,rfl⟩
theorem Cz.mono {P Q:List (Int×Int)} {R:Int→Prop} (h:∀p∈P,p∈Q) {n:Int} (hc:Cz P R n):Cz Q R n:=by
 induction hc with
 |base h1=>exact .base h1
 |step h1 _ ih=>exact .step (h _ h1) ih
theorem Cz.dep {E:List Dp} {R:Int→Prop} {x:Dp} (hx:x∈E) (h:Cz (prs true true E) R x.t):Cz (prs true true E) R x.f:=.step (X0h.2 ⟨x,hx,.inl rfl,rfl⟩) h
theorem ct_mem:∀l:List St,∀(c:Int) (p i:Nat) (a:Int),(arL l c p)[i]? =some a→0≤a→(⟨a,(p+i:Nat),1⟩:Dp)∈ctL l c p:=by
 apply St.lind
 · intro c p i a h;simp[arL]at h
 intro o c' w q t a b bs l ia ib il c p i x h hx
 have e:arL (.mk o c' w q t a b bs::l) c p=c::((arL a p (p+1)++arL b p (p+1+szL a))++arL l c (p+(1+szL a+szL b))):=by
  simp[arL,arS,szS]
 rw[e]at h;simp only[ctL,List.mem_append];have la:=X39 a p (p+1);have lb:=X39 b p (p+1+szL a);cases i with
 | zero=>
   cases h;exact .inl (by unfold ctE;rw[if_pos hx];simp)
 | succ i=>
   rw[List.getElem?_cons_succ]at h;by_cases h5:i<szL a
   · rw[List.getElem?_append_left (by simp;omega),List.getElem?_append_left (by omega)]at h;have:=ia p (p+1) i x h hx;exact .inr (.inr (.inl (by rwa [show p+(i+1)=p+1+i by omega])))
   by_cases h6:i<szL a+szL b
   · rw[List.getElem?_append_left (by simp;omega),List.getElem?_append_right (by omega),la]at h;have:=ib p (p+1+szL a) (i - szL a) x h hx;exact .inr (.inr (.inr (.inl (by rwa [show p+(i+1)=p+1+szL a+(i - szL a) by omega]))))
   rw[List.getElem?_append_right (by simp;omega),List.length_append,la,lb]at h;have:=il c (p+(1+szL a+szL b)) (i - (szL a+szL b)) x h hx;exact .inr (.inr (.inr (.inr (by rwa [show p+(i+1)=p+(1+szL a+szL b)+(i - (szL a+szL b)) by omega]))))
structure Dps (f:Fl) (E:List Dp):Prop where
 ctl:∀(j:Nat) a,(arL f.body (-1) 0)[j]? =some a→0≤a→(⟨a,j,1⟩:Dp)∈E
 dat:∀(o:Nat) q,(flL f.body)[o]? =some q→q.do_≠5→∀(k:Nat) (x:Nd),(grN f.body)[k]? =some x→x.k≠4→x.a=(o:Int)→∀d,Rc (grN f.body) (flL f.body) f.vars.length k d→Qi (flL f.body) d∈tmV q.term→(⟨d,o,0⟩:Dp)∈E
 rel:∀(o:Nat) q,(flL f.body)[o]? =some q→q.do_=5→∀g,f.hats[q.n.toNat]? =some g→∀v∈tmV g.term,(⟨((flL f.body).length:Int)+v,o,2⟩:Dp)∈E
theorem node_at {f:Fl} (h:Sm f) (h0:XR f=0) {o:Nat} {q:St} (hq:(flL f.body)[o]? =some q):∃(k:Nat) (x:Nd),(grN f.body)[k]? =some x∧x.k≠4∧x.a=(o:Int):=by
 have key:∀l:List St,∀(p k after:Nat),Lies (grN f.body) (flL f.body) f.vars f.hats.length l p k after→∀i,i<szL l→∃(n:Nat) (x:Nd),(grN f.body)[n]? =some x∧x.k≠4∧x.a=((p+i:Nat):Int):=by
  apply St.lind
  · intro p k after _ i hi;simp[szL]at hi
  intro o c w q t a b bs l ia ib il p k after hl i hi;obtain⟨h1,h2⟩:=hl.cons;simp only[szL,szS]at hi;cases i with
  | zero=>
    by_cases h3:o=3
    · subst h3;exact⟨_,_,h1.ifN,by simp,by simp⟩
    by_cases h4:o=4
    · subst h4;exact⟨_,_,h1.loopN.2,by simp,by simp⟩
    exact⟨_,_,h1.leafN h3 h4,by simp,by simp⟩
  | succ i=>
    by_cases h6:i<szL a+szL b
    · by_cases h3:o=3
      · obtain⟨_,la,lb⟩:=h1.if_ h3;by_cases h5:i<szL a
        · obtain⟨n,x,e1,e2,e3⟩:=ia _ _ _ la i h5;exact⟨n,x,e1,e2,by rw[e3];omega⟩
        obtain⟨n,x,e1,e2,e3⟩:=ib _ _ _ lb (i - szL a) (by omega);exact⟨n,x,e1,e2,by rw[e3];omega⟩
      by_cases h4:o=4
      · obtain⟨_,_,la,hb⟩:=h1.loop h4;rw[hb]at h6;simp only[szL]at h6;obtain⟨n,x,e1,e2,e3⟩:=ia _ _ _ la i (by omega);exact⟨n,x,e1,e2,by rw[e3];omega⟩
      exfalso;have:=h1.g;simp only[gS,Bool.and_eq_true,Bool.or_eq_true,decide_eq_true_eq,List.isEmpty_iff]at this;rcases this.1 with(h|h)|h
      · exact h3 h
      · exact h4 h.1
      rw[h.1,h.2]at h6;simp[szL]at h6
    obtain⟨n,x,e1,e2,e3⟩:=il _ _ _ h2 (i - (szL a+szL b)) (by omega);exact⟨n,x,e1,e2,by rw[e3];omega⟩
 have hlt:=(List.getElem?_eq_some_iff.1 hq).1;rw[XY]at hlt;obtain⟨n,x,e1,e2,e3⟩:=key f.body 0 1 (1+wdL f.body) (X1Z h h0) o hlt;exact⟨n,x,e1,e2,by rw[e3];omega⟩
theorem dps_of {f:Fl} (h:Sm f) (h0:XR f=0) {E:List Dp} (hE:∀x,x∈ctL f.body (-1) 0++X2h (flL f.body).length f.hats (flL f.body) (grN f.body) (rcL (grN f.body) (flL f.body) f.vars.length)→x∈E):Dps f E where
 ctl:=fun j a ha h1=>hE _ (List.mem_append_left _ (by have:=ct_mem f.body (-1) 0 j a ha h1;rwa [Nat.zero_add]at this))
 dat:=fun o q hq hq5 k x hx hk hxa d hd hv=>hE _ (List.mem_append_right _ (by
  have hlt:=(List.getElem?_eq_some_iff.1 hx).1;obtain⟨r,hr,_⟩:=Xt (show k<(rcL (grN f.body) (flL f.body) f.vars.length).length by rw[X3o];exact hlt);unfold X2h;refine List.mem_flatMap.2 ⟨(x,r),X0W.2 ⟨k,hx,hr⟩,?_⟩;unfold X1v;simp only;rw[if_neg (by omega),hxa,Int.toNat_natCast,hq];simp only;rw[if_neg hq5];refine List.mem_flatMap.2 ⟨_,hv,List.mem_map.2 ⟨d,List.mem_filter.2 ⟨(X7r hr d).2 ⟨rc_lt (fun y hy hay=>?_) hd,hd⟩,by simp⟩,rfl⟩⟩;rcases(X5P (X0o h0) y hy).ha with h5|⟨m,h5,h6⟩
  · simp[QJ,h5.1]at hay
  rw[h5,XY];simpa using h6))
 rel:=fun o q hq hq5 g hg v hv=>hE _ (List.mem_append_right _ (by
  obtain⟨k,x,hx,hk,hxa⟩:=node_at h h0 hq;have hlt:=(List.getElem?_eq_some_iff.1 hx).1;obtain⟨r,hr,_⟩:=Xt (show k<(rcL (grN f.body) (flL f.body) f.vars.length).length by rw[X3o];exact hlt);unfold X2h;refine List.mem_flatMap.2 ⟨(x,r),X0W.2 ⟨k,hx,hr⟩,?_⟩;unfold X1v;simp only;rw[if_neg (by omega),hxa,Int.toNat_natCast,hq];simp only;rw[if_pos hq5,hg]
  exact X2Y.2 ⟨v,hv,rfl⟩))
section
variable {f:Fl} {E:List Dp} {R:Int→Prop}
open Classical in
end
end Go.Proofs.YtdajceakaakdoaaGreat

namespace Go.Proofs.YtdajceakaakdoaaGreat
open Go Go.Hl
open Classical in
noncomputable def czL (P:List (Int×Int)) (R:List Int) (N:Nat):List Bool:=(List.range N).map fun n:Nat=>decide (Cz P (fun x=>x∈R) (n:Int))
theorem X4T (P:List (Int×Int)) (R:List Int) (N:Nat):(czL P R N).length=N:=by simp[czL]
theorem X7F {P:List (Int×Int)} {R:List Int} {N n:Nat} (h:n<N):(czL P R N)[n]? =some true↔Cz P (fun x=>x∈R) (n:Int):=by
 unfold czL;rw[List.getElem?_map,List.getElem?_range h];simp
theorem X9A {P:List (Int×Int)} {R:List Int} {N:Nat} {S:List Bool} (hl:S.length=N) (h:∀n:Nat,n<N→(S[n]? =some true↔Cz P (fun x=>x∈R) (n:Int))):S=czL P R N:=by
 apply List.ext_getElem?;intro n;by_cases hn:n<N
 · obtain⟨a,h1,_⟩:=Xt (show n<S.length by omega);obtain⟨b,h2,_⟩:=Xt (show n<(czL P R N).length by rw[X4T];exact hn);have h3:=(h n hn).trans (X7F (P:=P) (R:=R) hn).symm;rw[h1,h2]at h3⊢;cases a<;>cases b<;>simp_all
 rw[List.getElem?_eq_none (by omega),List.getElem?_eq_none (by rw[X4T];omega)]
def cfS:List Bool→Nat
 |[]=>0
 |b::l=>(if b=true then 0 else 1)+cfS l
theorem X7t:∀{S:List Bool} {k:Nat},S[k]? =some false→cfS (S.set k true)+1=cfS S
 |[],_,h=>by simp at h
 |b::S,0,h=>by cases h;simp[cfS];omega
 |b::S,k+1,h=>by have:=X7t (S:=S) (k:=k) (by simpa using h);simp only[List.set_cons_succ,cfS];omega
theorem cf_rep (N:Nat):cfS (List.replicate N false)=N:=by
 induction N with
 |zero=>rfl
 |succ N ih=>rw[List.replicate_succ,cfS,ih];simp;omega
theorem ZE {S:List Bool} {k:Nat} (h:k<S.length) (n:Nat):(S.set k true)[n]? =some true↔n=k∨S[n]? =some true:=by
 rw[List.getElem?_set];by_cases e:k=n
 · subst e;simp[h]
 rw[if_neg e];constructor
 · exact .inr
 rintro(h1|h1)
 · exact absurd h1.symm e
 exact h1
def nxF (P:List (Int×Int)) (n:Int):List Int:=(P.filter fun p=>decide (p.1=n)).map (·.2)
theorem X7b {P:List (Int×Int)} {n x:Int}:x∈nxF P n↔(n,x)∈P:=by
 unfold nxF;rw[List.mem_map];constructor
 · rintro⟨⟨a,b⟩,h,rfl⟩;obtain⟨h1,h2⟩:=List.mem_filter.1 h;have h2:a=n:=by simpa using h2
   exact h2▸h1
 intro h;exact⟨(n,x),List.mem_filter.2 ⟨h,by simp⟩,rfl⟩
theorem X3q (P:List (Int×Int)) (n:Int):(nxF P n).length≤P.length:=by rw[nxF,List.length_map];exact List.length_filter_le ..
theorem X9e (P:List (Int×Int)) (a b n:Int):nxF (P++[(a,b)]) n=if a=n then nxF P n++[b] else nxF P n:=by
 unfold nxF;rw[List.filter_append,List.map_append];by_cases h:a=n<;>simp[h]
def inP (N:Nat) (P:List (Int×Int)):Prop:=∀p∈P,(0≤p.1∧p.1<N)∧(0≤p.2∧p.2<N)
structure Wk (N:Nat) (P:List (Int×Int)) (R:List Int) (S:List Bool) (W:List Int):Prop where
 len:S.length=N
 snd:∀n:Nat,S[n]? =some true→Cz P (fun x=>x∈R) (n:Int)
 wk:∀x∈W,(0≤x∧x<N)∧Cz P (fun x=>x∈R) x
 base:∀x∈R,x∈W∨S[x.toNat]? =some true
 cls:∀a b:Int,(a,b)∈P→S[a.toNat]? =some true→b∈W∨S[b.toNat]? =some true
 bd:cfS S*(P.length+1)+W.length≤N*(P.length+1)+R.length
theorem Wk.init {N:Nat} {P:List (Int×Int)} {R:List Int} (hR:∀x∈R,0≤x∧x<N):Wk N P R (List.replicate N false) R where
 len:=by simp
 snd:=fun n h=>by have:=List.mem_of_getElem? h;simp at this
 wk:=fun x hx=>⟨hR x hx,.base hx⟩
 base:=fun x hx=>.inl hx
 cls:=fun a b _ h=>by have:=List.mem_of_getElem? h;simp at this
 bd:=by rw[cf_rep];exact Nat.le_refl _
theorem Wk.skip {N:Nat} {P:List (Int×Int)} {R:List Int} {S:List Bool} {W:List Int} {x:Int} (h:Wk N P R S (W++[x])) (hx:S[x.toNat]? =some true):Wk N P R S W where
 len:=h.len
 snd:=h.snd
 wk:=fun y hy=>h.wk y (by simp[hy])
 base:=fun y hy=>by
  rcases h.base y hy with h1|h1
  · rcases List.mem_append.1 h1 with h1|h1
    · exact .inl h1
    rw[List.mem_singleton.1 h1];exact .inr hx
  exact .inr h1
 cls:=fun a b hab ha=>by
  rcases h.cls a b hab ha with h1|h1
  · rcases List.mem_append.1 h1 with h1|h1
    · exact .inl h1
    rw[List.mem_singleton.1 h1];exact .inr hx
  exact .inr h1
 bd:=by have:=h.bd;rw[List.length_append,List.length_singleton]at this;omega
theorem Wk.add {N:Nat} {P:List (Int×Int)} {R:List Int} {S:List Bool} {W:List Int} {x:Int} (hP:inP N P) (h:Wk N P R S (W++[x])) (hx:S[x.toNat]? =some false):Wk N P R (S.set x.toNat true) (W++nxF P x):=by
 obtain⟨⟨h0,h1⟩,hc⟩:=h.wk x (by simp);have hlt:x.toNat<S.length:=by rw[h.len];omega
 have hxx:((x.toNat:Nat):Int)=x:=by omega
 have hcf:=X7t hx;have hbd:=h.bd;have hnx:=X3q P x;refine⟨by rw[List.length_set];exact h.len,fun n hn=>?_,fun y hy=>?_,fun y hy=>?_,fun a b hab ha=>?_,?_⟩
 · rcases(ZE hlt n).1 hn with rfl|hn
   · rw[hxx];exact hc
   exact h.snd n hn
 · rcases List.mem_append.1 hy with hy|hy
   · exact h.wk y (by simp[hy])
   exact⟨(hP _ (X7b.1 hy)).2,.step (X7b.1 hy) hc⟩
 · rcases h.base y hy with h2|h2
   · rcases List.mem_append.1 h2 with h2|h2
     · exact .inl (by simp[h2])
     rw[List.mem_singleton.1 h2];exact .inr ((ZE hlt _).2 (.inl rfl))
   exact .inr ((ZE hlt _).2 (.inr h2))
 · rcases(ZE hlt _).1 ha with e|ha
   · have:=(hP _ hab).1;have e:a=x:=by simp only at this;omega
     subst e;exact .inl (List.mem_append_right _ (X7b.2 hab))
   rcases h.cls a b hab ha with h2|h2
   · rcases List.mem_append.1 h2 with h2|h2
     · exact .inl (by simp[h2])
     rw[List.mem_singleton.1 h2];exact .inr ((ZE hlt _).2 (.inl rfl))
   exact .inr ((ZE hlt _).2 (.inr h2))
 rw[←hcf,Nat.add_mul,List.length_append,List.length_singleton]at hbd;rw[List.length_append];omega
theorem Wk.lt {N:Nat} {P:List (Int×Int)} {R:List Int} {S:List Bool} {W:List Int} {x:Int} (hx:S[x.toNat]? =some false):cfS (S.set x.toNat true)*(P.length+1)+(W++nxF P x).length<cfS S*(P.length+1)+(W++[x]).length:=by
 have hcf:=X7t hx;have hnx:=X3q P x;rw[←hcf,Nat.add_mul,List.length_append,List.length_append,List.length_singleton];omega
theorem Wk.done {N:Nat} {P:List (Int×Int)} {R:List Int} {S:List Bool} (hP:inP N P) (hR:∀x∈R,0≤x∧x<N) (h:Wk N P R S []):S=czL P R N:=by
 refine X9A h.len fun n hn=>⟨h.snd n,fun hc=>?_⟩
 have key:∀{x:Int},Cz P (fun x=>x∈R) x→S[x.toNat]? =some true:=by
  intro x hx
  induction hx with
  |base hb=>exact(h.base _ hb).resolve_left (by simp)
  |step hab _ ih=>exact(h.cls _ _ hab ih).resolve_left (by simp)
 simpa using key hc
structure Rn (N:Nat) (P:List (Int×Int)) (R:List Int) (S:List Bool):Prop where
 len:S.length=N
 snd:∀n:Nat,S[n]? =some true→Cz P (fun x=>x∈R) (n:Int)
 base:∀x∈R,S[x.toNat]? =some true
theorem Rn.add {N:Nat} {P:List (Int×Int)} {R:List Int} {S:List Bool} {a b:Int} (hP:inP N P) (h:Rn N P R S) (hab:(a,b)∈P) (ha:S[a.toNat]? =some true):Rn N P R (S.set b.toNat true):=by
 obtain⟨⟨h0,h1⟩,h2,h3⟩:=hP _ hab;simp only at h0 h1 h2 h3;have hlt:b.toNat<S.length:=by rw[h.len];omega
 have hbb:((b.toNat:Nat):Int)=b:=by omega
 have haa:((a.toNat:Nat):Int)=a:=by omega
 refine⟨by rw[List.length_set];exact h.len,fun n hn=>?_,fun y hy=>(ZE hlt _).2 (.inr (h.base y hy))⟩;rcases(ZE hlt n).1 hn with rfl|hn
 · rw[hbb];exact .step hab (haa▸h.snd _ ha)
 exact h.snd n hn
structure Ri (N:Nat) (P:List (Int×Int)) (R:List Int) (S0 S:List Bool) (grown:Bool) (Q:List (Int×Int)):Prop where
 rn:Rn N P R S
 le:cfS S≤cfS S0
 up:grown=true→cfS S<cfS S0
 same:grown=false→S=S0∧∀a b,(a,b)∈Q→S[a.toNat]? =some true→S[b.toNat]? =some true
theorem Ri.mono {N:Nat} {P:List (Int×Int)} {R:List Int} {S0 S:List Bool} {g:Bool} {Q Q':List (Int×Int)} (h:Ri N P R S0 S g Q) (hq:∀a b,(a,b)∈Q'→(a,b)∈Q∨¬S[a.toNat]? =some true∨S[b.toNat]? =some true):Ri N P R S0 S g Q':=by
 refine⟨h.rn,h.le,h.up,fun hg=>⟨(h.same hg).1,fun a b hab ha=>?_⟩⟩;rcases hq a b hab with h1|h1|h1
 · exact(h.same hg).2 a b h1 ha
 · exact absurd ha h1
 exact h1
theorem Ri.add {N:Nat} {P:List (Int×Int)} {R:List Int} {S0 S:List Bool} {g:Bool} {Q Q':List (Int×Int)} {a b:Int} (hP:inP N P) (h:Ri N P R S0 S g Q) (hab:(a,b)∈P) (ha:S[a.toNat]? =some true) (hb:S[b.toNat]? =some false):Ri N P R S0 (S.set b.toNat true) true Q':=by
 have:=X7t hb;have:=h.le;exact⟨h.rn.add hP hab ha,by omega,fun _=>by omega,fun hg=>by cases hg⟩
theorem Ri.done {N:Nat} {P:List (Int×Int)} {R:List Int} {S0 S:List Bool} (h:Ri N P R S0 S false P):S=czL P R N:=by
 refine X9A h.rn.len fun n hn=>⟨h.rn.snd n,fun hc=>?_⟩
 have key:∀{x:Int},Cz P (fun x=>x∈R) x→S[x.toNat]? =some true:=by
  intro x hx
  induction hx with
  |base hb=>exact h.rn.base _ hb
  |step hab _ ih=>exact(h.same rfl).2 _ _ hab ih
 simpa using key hc
theorem prs_snoc (back rel:Bool) (E:List Dp) (x:Dp):prs back rel (E++[x])=prs back rel E++(if(rel||decide (x.k≠2))=true then [if back=true then(x.t,x.f)else(x.f,x.t)] else []):=by
 unfold prs;rw[List.filter_append,List.map_append];by_cases h:(rel||decide (x.k≠2))=true
 · simp only[List.filter_cons,h,if_true,List.filter_nil,List.map_cons,List.map_nil]
 simp only[List.filter_cons,h,if_false,List.filter_nil,List.map_nil];simp
theorem X7A (back rel:Bool) (E:List Dp):(prs back rel E).length≤E.length:=by rw[prs,List.length_map];exact List.length_filter_le ..
theorem prs_in {back rel:Bool} {E:List Dp} {N:Nat} (h:∀e∈E,(0≤e.f∧e.f<N)∧(0≤e.t∧e.t<N)):inP N (prs back rel E):=by
 intro p hp;obtain⟨x,hx,_,rfl⟩:=X0h.1 hp;have:=h x hx;cases back
 · exact⟨this.1,this.2⟩
 exact⟨this.2,this.1⟩
end Go.Proofs.YtdajceakaakdoaaGreat

namespace Go.Proofs.YtdajceakaakdoaaGreat
open Go Go.Hl
def depQ (f:Fl):List Dp:=edL (flL f.body).length f.hats f.body (-1) 0 (D0 (flL f.body).length f.vars.length)++(if stlB f=true then [] else tmP cndP (((flL f.body).length:Int)+f.vars.length) (flL f.body))
theorem depP_ref {f:Fl} (h:Sm f) (h0:XR f=0) (x:Dp):x∈X1b f↔x∈depQ f:=by
 have hvf:∀q∈flL f.body,∀v∈tmV q.term,0≤v:=fun q hq v hv=>((pd_ok h h0).st q hq).2.2 v hv |>.1;have h1:=prog_ref h h0 hvf x;unfold X1b depQ;rw[QO,QO,QO,List.mem_append,←h1,List.mem_append];simp only[List.not_mem_nil,false_or]
theorem sort_ref {f:Fl} (h:Sm f) (h0:XR f=0):Wr (X1b f)=Wr (depQ f):=X4r (depP_ref h h0)
def dsB (m l:List Dp):Bool:=(m.all fun x=>decide (x∈l))&&(l.all fun x=>decide (x∈m))
def ascB:List Dp→Bool
 |a::b::l=>dpB a b&&ascB (b::l)
 |_=>true
theorem dpB_tr {a b c:Dp} (h1:dpB a b=true) (h2:dpB b c=true):dpB a c=true:=by
 rw[Z0]at*;omega
theorem XaN:∀{l:List Dp},ascB l=true→l.Pairwise (fun a b=>dpB a b=true)
 |[],_=>.nil
 |[a],_=>by simp
 | a::b::l,h=>by
   simp only[ascB,Bool.and_eq_true]at h;have ih:=XaN h.2;refine .cons (fun c hc=>?_) ih;rcases List.mem_cons.1 hc with rfl|hc
   · exact h.1
   exact dpB_tr h.1 ((List.pairwise_cons.1 ih).1 c hc)
theorem Xbp {l m:List Dp} (h1:ascB m=true) (h2:dsB m l=true):Wr l=m:=by
 unfold dsB at h2;simp only[Bool.and_eq_true,List.all_eq_true,decide_eq_true_eq]at h2;exact(X9h (XaN h1) fun x=>⟨h2.1 x,h2.2 x⟩).symm
def ordB (P:List (Int×Int)) (R:List Int):List Int→List Int→Bool
 |_,[]=>true
 |s,x::l=>(decide (x∈R)||P.any fun p=>decide (p.2=x)&&decide (p.1∈s))&&ordB P R (x::s) l
theorem ord_cz {P:List (Int×Int)} {R:List Int}:∀(o s:List Int),ordB P R s o=true→(∀x∈s,Cz P (fun x=>x∈R) x)→∀x∈o,Cz P (fun x=>x∈R) x
 |[],_,_,_,x,hx=>by cases hx
 | y::o,s,h,hs,x,hx=>by
   simp only[ordB,Bool.and_eq_true,Bool.or_eq_true,decide_eq_true_eq,List.any_eq_true]at h
   have hy:Cz P (fun x=>x∈R) y:=by
    rcases h.1 with h1|⟨⟨a,b⟩,h1,h2,h3⟩
    · exact .base h1
    simp only at h2 h3;exact .step (h2▸h1) (hs a h3)
   rcases List.mem_cons.1 hx with rfl|hx
   · exact hy
   exact ord_cz o (y::s) h.2 (fun z hz=>by
    rcases List.mem_cons.1 hz with rfl|hz
    · exact hy
    exact hs z hz) x hx
theorem czL_run {P:List (Int×Int)} {R:List Int} {N:Nat} (o:List Int) (h1:ordB P R [] o=true) (h2:(R.all fun x=>decide (x∈o))=true) (h3:(P.all fun p=> !decide (p.1∈o)||decide (p.2∈o))=true):czL P R N=(List.range N).map fun n:Nat=>decide ((n:Int)∈o):=by
 refine(X9A (by simp) fun n hn=>?_).symm;rw[List.getElem?_map,List.getElem?_range hn];simp only[Option.map_some,Option.some.injEq,decide_eq_true_eq];simp only[List.all_eq_true,Bool.or_eq_true,Bool.not_eq_true',decide_eq_false_iff_not,decide_eq_true_eq]at h2 h3;refine⟨ord_cz o [] h1 (fun x hx=>by cases hx) n,fun hc=>?_⟩
 have key:∀{x:Int},Cz P (fun x=>x∈R) x→x∈o:=by
  intro x hx
  induction hx with
  |base hb=>exact h2 _ hb
  |step hab _ ih=>exact(h3 _ hab).resolve_left fun h=>h ih
 exact key hc
def rfT (n:Int):Tm:=⟨24,n,[]⟩
def exP:Fl:=⟨[⟨⟨#[120]⟩,1,0,1,0⟩,⟨⟨#[121]⟩,0,0,1,0⟩,⟨⟨#[122]⟩,0,0,1,0⟩],[⟨⟨#[104]⟩,0,1,rfT 0⟩],
 [.mk 0 0 1 0 (rfT 0) [] [] [],.mk 3 0 0 0 (rfT 1) [.mk 0 1 2 0 ⟨0,1,[]⟩ [] [] []] [] [],.mk 1 0 0 0 (rfT 2) [] [] [],.mk 5 0 1 0 ⟨0,0,[]⟩ [] [] [],.mk 1 0 0 0 (rfT 1) [] [] []]⟩
def exW:List Dp:=[⟨0,1,0⟩,⟨1,2,1⟩,⟨1,9,1⟩,⟨2,3,0⟩,⟨4,5,0⟩,⟨6,0,0⟩,⟨6,4,2⟩,⟨8,3,0⟩]
theorem X5S:XR exP=0:=by
 simp only[exP,rfT,XR,X12,sdL,Wx,ssC];kernel_rfl
theorem X9P:Sm exP:=⟨by decide,by decide,by decide,by decide⟩
theorem X7f (a b:List Nat) (l:List Nat) (h:l.Pairwise (· < ·)) (ha:a.Pairwise (· < ·)) (hm:∀x,x∈l↔x∈a∨x∈b):uniL a b=l:=
 X6Z (X8G b ha) h fun x=>by rw[X8l,hm]
theorem exP_q:depQ exP=[⟨6,0,0⟩,⟨0,1,0⟩,⟨1,2,1⟩,⟨2,3,0⟩,⟨8,3,0⟩,⟨6,4,2⟩,⟨4,5,0⟩,⟨1,9,1⟩]:=by
 have j1:Zf [[6],[0],[2]] [[6],[0],[8]]=[[6],[0],[2,8]]:=by
  simp only[Zf];rw[X7f [6] [6] [6] (by simp) (by simp) (by simp),X7f [0] [0] [0] (by simp) (by simp) (by simp),X7f [2] [8] [2,8] (by simp) (by simp) (by simp)]
 have e:edL 6 exP.hats exP.body (-1) 0 (D0 6 3)=[⟨6,0,0⟩,⟨0,1,0⟩,⟨1,2,1⟩]++edL 6 exP.hats (exP.body.drop 2) (-1) 3 (Zf [[6],[0],[2]] [[6],[0],[8]]):=by kernel_rfl
 have e2:edL 6 exP.hats (exP.body.drop 2) (-1) 3 [[6],[0],[2,8]]=[⟨2,3,0⟩,⟨8,3,0⟩,⟨6,4,2⟩,⟨4,5,0⟩]:=by kernel_rfl
 have e3:(if stlB exP=true then [] else tmP cndP (((flL exP.body).length:Int)+exP.vars.length) (flL exP.body))=[⟨1,9,1⟩]:=by kernel_rfl
 unfold depQ;rw[show(flL exP.body).length=6 from rfl,show exP.vars.length=3 from rfl]at*;rw[e,j1,e2,e3];rfl
theorem XaL:Wr (X1b exP)=exW:=by
 rw[sort_ref X9P X5S];rw[exP_q];exact Xbp (by kernel_rfl) (by kernel_rfl)
theorem exP_src:czL (prs true false exW) [5] 10=[false,false,false,false,true,true,false,false,false,false]:=by
 rw[czL_run [5,4] (by kernel_rfl) (by kernel_rfl) (by kernel_rfl)];kernel_rfl
end Go.Proofs.YtdajceakaakdoaaGreat

namespace Go.Proofs.YtdajceakaakdoaaGreat
open Go Go.Hl Go.Sort Go.Lib Go.Joins Go.Shelf
theorem X8P {F:Nat→Prop} {w:World} {x:Dp} {v:Value} (h:XD F noγ w (.agg [.c (iC x.f),.c (iC x.t),.c (iC x.k)]) v):v=.agg (dpE x).toArray:=by
 obtain⟨vs,rfl,hc⟩:=h;obtain⟨l⟩:=vs;obtain⟨hs,hc⟩:=hc
 match l,hs with
 | [a,b,c],_=>
   have e1:=hc 0 _ a rfl rfl;have e2:=hc 1 _ b rfl rfl;have e3:=hc 2 _ c rfl rfl;cases e1;cases e2;cases e3;rfl
theorem cmp_con (x y:Dp) (d:Nat):Con Tryz.prog 61 true [.agg [.c (iC x.f),.c (iC x.t),.c (iC x.k)],.agg [.c (iC y.f),.c (iC y.t),.c (iC y.k)]] (.v (li (X4I x y))) none d:=by
 refine⟨by kernel_rfl,fun F w vs hF hsz hargs=>?_⟩;obtain⟨l⟩:=vs
 match l,hsz with
 | [v0,v1],_=>
   have a0:=X8P (hargs 0 _ v0 rfl rfl);have a1:=X8P (hargs 1 _ v1 rfl rfl);subst a0;subst a1;refine(X7P x y w).mono ?_;rintro e w' ⟨rfl,q,os',rfl⟩;exact⟨_,fun _=>False,noγ,rfl,⟨rfl,rfl,rfl,by show w.heap.size≤(w.heap++os').size;rw[Array.size_append];omega,fun j hj=>heap_grow_old (w.drewN q) os' (k:=j) hj⟩,fun b hb=>hb.elim,.lit _,fun o ho=>by cases ho⟩
def aPd (ns nv:Int) (E:List Dp):TV:=.agg [.c (iC ns),.c (iC nv),.c (.sl 3 (Qn E))]
theorem lt_cmpD' (x y:Dp):decide (X4I x y<0)=dpB x y:=X2U x y
end Go.Proofs.YtdajceakaakdoaaGreat

namespace Go.Proofs.YtdajceakaakdoaaGreat
open Go Go.Hl
def X5H (N:Int) (x:Dp):Bool:=(decide (0≤x.f)&&decide (x.f≤N))&&(decide (0≤x.t)&&decide (x.t≤N))
def kdB (x:Dp):Bool:=decide (x.k=0)||(decide (x.k=1)||decide (x.k=2))
def pvD (E:List Dp) (k:Nat):Option Dp:=if k=0 then none else E[k - 1]?
def ordF (p:Option Dp) (x:Dp):Bool:=match p with
 |some q=>dpB q x
 |none=>true
def chL (N:Int) (p:Option Dp):List Dp→Int
 |[]=>0
 |x::l=>if X5H N x=false then 3 else if kdB x=false then 1 else if ordF p x=false then 10 else chL N (some x) l
def hdB (ns nv:Int):Bool:=(decide (0≤ns)&&decide (ns≤1024))&&(decide (0≤nv)&&decide (nv≤64))
def chF (ns nv:Int) (E:List Dp):Int:=if hdB ns nv=false then 3 else chL (ns+nv) none E
theorem chL_at {N:Int} {E:List Dp} {k:Nat} {x:Dp} (hx:E[k]? =some x) (hd:E.drop k=x::E.drop (k+1)):chL N (pvD E k) (E.drop k)=if X5H N x=false then 3 else if kdB x=false then 1 else if ordF (pvD E k) x=false then 10 else chL N (pvD E (k+1)) (E.drop (k+1)):=by
 rw[hd,chL];have:pvD E (k+1)=some x:=by unfold pvD;rw[if_neg (by omega)];simpa using hx
 rw[this]
theorem hd_in {ns nv:Int} (h:hdB ns nv=true):(0≤ns∧ns≤1024)∧(0≤nv∧nv≤64):=by
 unfold hdB at h;simpa using h
set_option maxHeartbeats 16000000 in
theorem chkP_con (ns nv:Int) (E:List Dp) (hl:E.length≤20000000) (d:Nat):Con Tryz.prog 21 true [aPd ns nv E] (.v (li (chF ns nv E))) none d:=by
 unfold aPd chF;by_cases hh:hdB ns nv=true
 · rw [if_neg (by rw[hh];decide)];obtain⟨⟨n0,n1⟩,v0,v1⟩:=hd_in hh;have hwN:IntKind.i64.wrap (ns+nv)=ns+nv:=Xa (by omega) (by omega);obtain⟨res,hres⟩:∃r,chL (ns+nv) none E=r:=⟨_,rfl⟩;rw[hres];clear hh;refine X5 Tryz.func21 ?_;simp only[Tryz.f21];refine X1 ?_;refine X0<|X0<|X2 ?_;refine(Xc rfl (fun h2=>?_) fun h2=>?_)
   · exfalso;simp at h2<;>omega
   (try simp only[BN]at h2);refine X1 ?_;refine X0<|X0<|X2 ?_;refine X3<|(Xf [1,3,30,31] (fun(y:Nat)=>[(32,.v (li y))]) (fun y=>[(1,.box [.c (iC ns),.c (iC nv),.c (.sl 3 (Qn E))])]) (fun y=>y≤E.length∧chL (ns+nv) (pvD E y) (E.drop y)=res) (fun y=>E.length - y) (0:Nat) ⟨Nat.zero_le _,hres⟩ ?_ ?_)
   · exact X4 (fun n=>n) []
   rintro y ⟨hy,hj⟩;simp only[upS,X6,XB]
   try simp only[X6,KN,Nat.reduceBEq,if_true,if_false,ins,Nat.reduceLT]
   refine X1 ?_;refine X0<|(X7 rfl (fun h9=>Xb ?_) (fun h9=>?_))
   · (try simp only[BN]at h9);have hlt:y<E.length:=by omega
     have hw1:=XE hlt (by omega);obtain⟨x,hx,hdr⟩:=Xt hlt;have hxe:=X0x hx;rw[chL_at hx hdr]at hj;clear hdr;obtain⟨xf,xt,xk⟩:=x;simp only[Dp.enc]at hxe;have hlt2:y+1≤E.length:=hlt;clear h9 hlt;refine X0<|X3<|X0<|X2 ?_;refine X3<|X0<|X2 ?_;refine(X7 rfl (fun h12=>?_) (fun h12=>?_))
     · try simp only[BN]at h12
       have hr:X5H (ns+nv) ⟨xf,xt,xk⟩=false:=by
        rw[←Bool.not_eq_true];intro h;simp[X5H]at h h12;omega
       rw[if_pos hr]at hj;subst hj;refine X1 ?_;exact Xe
     try simp only[BN]at h12
     have hr:X5H (ns+nv) ⟨xf,xt,xk⟩=true:=by
      simp[X5H]at h12⊢;omega
     rw[if_neg (by rw[hr];decide)]at hj;clear h12;refine X1 ?_;refine(X7 rfl (fun h16=>?_) (fun h16=>?_))
     · try simp only[BN]at h16
       have hr:kdB ⟨xf,xt,xk⟩=false:=by
        rw[←Bool.not_eq_true];intro h;simp[kdB]at h h16;omega
       rw[if_pos hr]at hj;subst hj;refine X1 ?_;exact Xe
     try simp only[BN]at h16
     have hr:kdB ⟨xf,xt,xk⟩=true:=by
      simp[kdB]at h16⊢;omega
     rw[if_neg (by rw[hr];decide)]at hj;clear h16;rcases y with _|k
     · have hw0:IntKind.i64.wrap 1=1:=by decide
       refine X0<|(X23 [none] (by kernel_rfl) (by kernel_rfl) (by rfl) (by simp[*];first|exact⟨rfl,Iff.rfl⟩|exact⟨rfl,trivial⟩|rfl) ?_ ?_)
       · trivial
       refine(Xc rfl (fun h20=>?_) fun h20=>?_)
       · (try simp only[BN]at h20);refine X1 ?_;exact Xe
       (try simp only[BN]at h20);rw[if_neg (by simp[pvD,ordF])]at hj;refine X2 ?_;exact⟨1,⟨hlt2,hj⟩,by omega,X4 (fun n=>n) []⟩
     obtain⟨q,hq,hdq⟩:=Xt (show k<E.length by omega);have hqe:=X0x hq;have cq:=cmp_con q ⟨xf,xt,xk⟩;have hpv:pvD E (k+1)=some q:=hq;have hlq:=lt_cmpD' q ⟨xf,xt,xk⟩;rw[hpv]at hj;simp only[ordF,←hlq]at hj;obtain⟨c,hc⟩:∃c,X4I q ⟨xf,xt,xk⟩=c:=⟨_,rfl⟩;rw[hc]at cq hj;obtain⟨qf,qt,qk⟩:=q;simp only[Dp.enc]at hqe cq;have hw2:IntKind.i64.wrap (((k+1:Nat):Int) - 1)=(k:Int):=by rw[Xa (by omega) (by omega)];omega
     have hk1:(0:Int)<(k:Int)+1:=by omega
     have hw4:IntKind.i64.wrap ((k:Int)+1+1)=(k:Int)+1+1:=Xa (by omega) (by omega);have hw3:IntKind.i64.wrap (k:Int)=(k:Int):=Xa (by omega) (by omega);clear hc hlq hpv hq hdq;refine X0<|(X23 [some ⟨true,.v (li c),none⟩] (by kernel_rfl) (by kernel_rfl) (by rfl) (by simp[*];first|exact⟨rfl,Iff.rfl⟩|exact⟨rfl,trivial⟩|rfl) ?_ ?_)
     · first|exact cq _|simpa using cq _
     refine(Xc rfl (fun h20=>?_) fun h20=>?_)
     · try simp only[BN]at h20
       have hr:res=10:=by
        rw[←hj,if_pos];simp at h20⊢;omega
       subst hr;refine X1 ?_;exact Xe
     (try simp only[BN]at h20);rw[if_neg (by simp at h20⊢;omega)]at hj;refine X2 ?_;exact⟨k+1+1,⟨hlt2,hj⟩,by omega,X4 (fun n=>n) []⟩
   try simp only[BN]at h9
   have hr:res=0:=by
    rw[←hj,List.drop_eq_nil_of_le (by omega),chL]
   subst hr;refine(Xg ?_);refine X1 ?_;exact Xe
 have hh:hdB ns nv=false:=by simpa using hh
 rw[if_pos hh]
 have hneg:¬((0≤ns∧ns≤1024)∧(0≤nv∧nv≤64)):=by
  intro h;have:hdB ns nv=true:=by unfold hdB;simpa using h
  rw[hh]at this;cases this
 refine X5 Tryz.func21 ?_;simp only[Tryz.f21];refine X1 ?_;refine X0<|X0<|X2 ?_;refine(Xc rfl (fun h2=>?_) fun h2=>?_)
 · (try simp only[BN]at h2);refine X1 ?_;exact Xe
 exfalso;simp at h2<;>omega
end Go.Proofs.YtdajceakaakdoaaGreat

namespace Go.Proofs.YtdajceakaakdoaaGreat
open Go Go.Hl
def edgE (E:List Dp):List (List CD):=E.map fun x=>[iC x.f,iC x.t]
@[simp] theorem edgE_len (E:List Dp):(edgE E).length=E.length:=by simp[edgE]
@[simp] theorem edgE_nil:edgE []=[]:=rfl
theorem ch_hd {ns nv:Int} {E:List Dp} (h:chF ns nv E=0):hdB ns nv=true:=by
 unfold chF at h;split at h
 · cases h
 rename_i h1;simpa using h1
end Go.Proofs.YtdajceakaakdoaaGreat

namespace Go.Proofs.YtdajceakaakdoaaGreat
open Go Go.Hl
def X0a (S:List (List Int)):List (Option (List (List CD))):=S.map fun l=>some (Xi l)
@[simp] theorem rowI_len (S:List (List Int)):(X0a S).length=S.length:=by simp[X0a]
theorem X8x {S:List (List Int)} {i:Nat} {l:List Int} (h:S[i]? =some l):(X0a S)[i]? =some (some (Xi l)):=by simp[X0a,h]
theorem X91 (S:List (List Int)) (i:Nat) (l:List Int) (d:Int):(X0a S).set i (some (Xi l++[[iC d]]))=X0a (S.set i (l++[d])):=by
 simp only[X0a,List.map_set];congr 2;simp[Xi]
def nxM (N:Nat) (P:List (Int×Int)):List (List Int):=(List.range N).map fun n:Nat=>nxF P n
@[simp] theorem nxM_len (N:Nat) (P:List (Int×Int)):(nxM N P).length=N:=by simp[nxM]
theorem X76 {N n:Nat} (P:List (Int×Int)) (h:n<N):(nxM N P)[n]? =some (nxF P n):=by simp[nxM,h]
theorem XaT {N a:Nat} (P:List (Int×Int)) (b:Int):(nxM N P).set a (nxF P a++[b])=nxM N (P++[((a:Int),b)]):=by
 apply List.ext_getElem?;intro k;rw[List.getElem?_set];unfold nxM;simp only[List.length_map,List.length_range,List.getElem?_map];by_cases e:a=k
 · subst e;by_cases h:a<N
   · simp[h,X9e]
   simp[h]
 rw[if_neg e];by_cases h:k<N
 · rw[List.getElem?_range h];simp only[Option.map_some,Option.some.injEq];rw[X9e,if_neg (by omega)]
 rw[List.getElem?_eq_none (by simpa using h)];rfl
theorem nxM_nil (N:Nat):X0a (nxM N [])=List.replicate N (some []):=by
 apply List.ext_getElem?;intro k;simp only[X0a,nxM,List.getElem?_map,List.getElem?_replicate];by_cases h:k<N
 · simp[h,nxF,Xi]
 simp[h]
theorem take_prs {E:List Dp} {y:Nat} {x:Dp} (hx:E[y]? =some x) (back rel:Bool):prs back rel (E.take (y+1))=prs back rel (E.take y)++(if(rel||decide (x.k≠2))=true then [if back=true then(x.t,x.f)else(x.f,x.t)] else []):=by
 rw[List.take_add_one,hx];exact prs_snoc ..
def X4u (S:List (List Int)):List (List CD):=S.map fun l=>[.sl 1 (Xi l)]
@[simp] theorem encII_len (S:List (List Int)):(X4u S).length=S.length:=by simp[X4u]
theorem XbL {S:List (List Int)} {i:Nat} {l:List Int} (h:S[i]? =some l):(X4u S)[i]? =some [.sl 1 (Xi l)]:=by simp[X4u,h]
theorem rowI_mat (S:List (List Int)):(X0a S).map (fun r=>[X4G 1 r])=X4u S:=by simp[X0a,X4u,X4G]
theorem snoc_of {l:List Int} (h:l≠[]):∃W x,l=W++[x]:=⟨l.dropLast,l.getLast h,(List.dropLast_concat_getLast h).symm⟩
theorem X9u (l:List Int) (hl:l.length≤1000000000) (d:Nat) (hd:d<1000000):Con Tryz.prog 72 false [lI l] (.v (.one (.own d))) (some (.row 3 1 (Xi l))) d:=by
 have hroom:Wa l.length 8:=⟨by unfold maxLen;omega,by omega⟩;cases l with
 | nil=>
   refine Xav ?_ ?_
   · refine X5 Tryz.func72 ?_;simp only[Tryz.f72];refine X1 ?_;refine X0<|X0<|X2 ?_;refine(Xc rfl (fun h2=>?_) fun h2=>?_)
     · (try simp only[BN]at h2);refine X1 ?_;exact Qm ⟨.inr rfl,_,le_nameN 2 d 3 1 rfl (by decide) hd,⟨⟨_,by simp;rfl,by simp[XK]⟩,by simp,fun h=>by cases h⟩⟩
     exact absurd h2 (by simp)
   intro a cap;refine X5 Tryz.func72 ?_;simp only[Tryz.f72];refine X1 ?_;refine X0<|X0<|X2 ?_;refine(Xc rfl (fun h2=>?_) fun h2=>?_)
   · exact absurd h2 (by simp)
   (try simp only[BN]at h2);refine XH (le_emp 0 1 rfl) ?_;refine X1 ?_;exact Qm ⟨.inr rfl,_,X3I 2 7 d rfl rfl hd,⟨⟨_,by simp;rfl,by simp[XK]⟩,by simp,fun h=>by cases h⟩⟩
 | cons v r=>
   refine X5 Tryz.func72 ?_;simp only[Tryz.f72];rw[List.length_cons]at hroom;refine X1 ?_;refine X0<|X0<|X2 ?_;refine(Xc rfl (fun h2=>?_) fun h2=>?_)
   · exact absurd h2 (by simp)
   (try simp only[BN]at h2);refine X1 ?_;exact Qm ⟨.inr rfl,_,X3I 2 7 d rfl rfl hd,⟨⟨_,by simp;rfl,by simp[XK]⟩,by simp,fun h=>by cases h⟩⟩
set_option maxHeartbeats 64000000 in
theorem X4n (ns nv:Int) (E:List Dp) (nodes:List Int) (back rel:Bool) (g:FuncId) (N:Nat) (hN:ns+nv+1=N) (n0:0≤ns) (v0:0≤nv) (hN2:N≤100000) (hl:E.length≤20000000) (hE:∀e∈E,(0≤e.f∧e.f<N)∧(0≤e.t∧e.t<N)) (hnl:nodes.length≤1000000) (hR:∀x∈nodes,0≤x∧x<N)
  (hg:∀(k:Int) d,Con Tryz.prog g true [li k] (.v (lb (rel||decide (k≠2)))) none d) (d:Nat):Con Tryz.prog 43 false [aPd ns nv E,lI nodes,lb back,.one (.fn g [])] (.v (lBl (czL (prs back rel E) nodes N))) none d:=by
 have hP:=prs_in (back:=back) (rel:=rel) hE;have hPl:=X7A back rel E;have hdone:=fun S=>Wk.done (S:=S) hP hR;have hinit:=Wk.init (P:=prs back rel E) hR;obtain⟨res,hres⟩:∃r,czL (prs back rel E) nodes N=r:=⟨_,rfl⟩;simp only[hres]at hdone⊢;clear hres;have hw1:IntKind.i64.wrap (ns+nv)=ns+nv:=Xa (by omega) (by omega);have hw2:IntKind.i64.wrap (ns+nv+1)=N:=by rw[hN];exact Xa (by omega) (by omega)
 have hwN:IntKind.i64.wrap (N:Int)=N:=Xa (by omega) (by omega);have ccl:=X9u nodes (by omega);have hbig:(8:Int)*N≤281474976710656:=by omega
 have hbig2:(N:Int)≤281474976710656:=by omega
 have hbig3:(24:Int)*N≤281474976710656:=by omega
 have hmx:N≤maxLen:=by unfold maxLen;omega
 have hnil:=nxM_nil N;have hrep:=XbF N;unfold aPd;refine X5 Tryz.func43 ?_;simp only[Tryz.f43];refine X1 ?_;refine X1 ?_;refine XH (le_mat 21 3 1 (by decide) (by decide) rfl rfl rfl) ?_;refine XH (le_matE 21 900001 rfl rfl) ?_;refine XH (s':=⟨⟨95,none⟩,[(1,.v (.one (.c (.sl 1 (Xi nodes))))),(2,.v (lb back)),(3,.v (.one (.fn g []))),(4,.v (.one (.at_ 4 0))),(9,.v (.one (.own 900001)))],[(4,.box [.c (iC ns),.c (iC nv),.c (.sl 3 (Qn E))]),(900001,.mat 29 3 1 (X0a (nxM N (prs back rel (E.take 0)))))]⟩) (Xx (fun n=>n) [] rfl (by simp[Ws,RV.mv,TV.mv,CV.mv]) (by simp[Ws,Ob.mv,CV.mv,ins,del,prs,hnil]) (by simp)) ?_;refine X0<|X0<|X2 ?_;refine X3<|(Xf [1,2,3,9,23,24] (fun(y:Nat)=>[(25,.v (li y)),(9,.v (.one (.own 900001)))]) (fun y=>[(900001,.mat 29 3 1 (X0a (nxM N (prs back rel (E.take y)))))]) (fun y=>y≤E.length) (fun y=>E.length - y) (0:Nat) (Nat.zero_le _) ?_ ?_)
 · exact X4 (fun n=>n) []
 rintro y hy;simp only[upS,X6,XB]
 try simp only[X6,KN,Nat.reduceBEq,if_true,if_false,ins,Nat.reduceLT]
 refine X1 ?_;refine X0<|(X7 rfl (fun h5=>Xb ?_) (fun h5=>?_))
 · (try simp only[BN]at h5);have hlt:y<E.length:=by omega
   have hw3:=XE hlt (by omega);obtain⟨x,hx,_⟩:=Xt hlt;have hxe:=X0x hx;have htp:=take_prs hx back rel;obtain⟨⟨f0,f1⟩,t0,t1⟩:=hE x (List.mem_of_getElem? hx);obtain⟨xf,xt,xk⟩:=x;simp only at f0 f1 t0 t1;obtain⟨f,rfl⟩:∃f:Nat,xf=f:=⟨xf.toNat,by omega⟩;obtain⟨t,rfl⟩:∃t:Nat,xt=t:=⟨xt.toNat,by omega⟩;simp only[Dp.enc]at hxe;simp only at htp;have hlt2:y+1≤E.length:=hlt;clear h5 hlt;refine X0<|X3<|X0<|X2 ?_;refine X0<|X0<|(Xp [⟨true,.v (lb (rel||decide (xk≠2))),none⟩] ?_ ?_)
   · first|exact hg xk _|exact trivial|simpa[*]using hg xk _
   refine(Xc rfl (fun h8=>?_) fun h8=>?_)
   · (try simp only[BN]at h8);have hu:(rel||decide (xk≠2))=false:=by simpa using h8
     rw[hu]at htp;simp only[Bool.false_eq_true,if_false,List.append_nil]at htp;clear h8 hu;refine(Xg ?_);refine X2 ?_;exact⟨y+1,hlt2,by omega,X4 (fun n=>n) []⟩
   try simp only[BN]at h8
   have hu:(rel||decide (xk≠2))=true:=by
    rcases Bool.eq_false_or_eq_true (rel||decide (xk≠2))with h|h
    · exact h
    exfalso;simp at h h8;rcases h8 with e|e
    · rw[h.1]at e;cases e
    exact e h.2
   rw[hu]at htp;simp only[if_true]at htp;clear h8 hu;refine X1 ?_;refine(X7 rfl (fun h12=>?_) (fun h12=>?_))
   · (try simp only[BN]at h12);have hb:back=true:=by simpa using h12
     subst hb;simp only[if_true]at htp;have hrg:=X8x (X76 (prs true rel (E.take y)) (show t<N by omega));have hrs:=X91 (nxM N (prs true rel (E.take y))) t (nxF (prs true rel (E.take y)) t) f;rw[XaT,←htp]at hrs;have ht1:t+1≤(X0a (nxM N (prs true rel (E.take y)))).length:=by simp;omega
     have hroom:Wa ((nxF (prs true rel (E.take y)) t).length+1) 8:=by
      have h1:=X3q (prs true rel (E.take y)) t;have h2:=X7A true rel (E.take y);have h3:(E.take y).length≤E.length:=by simp;omega
      exact⟨by unfold maxLen;omega,by omega⟩
     clear h12;refine XH (s':=⟨⟨95,none⟩,[(1,.v (.one (.c (.sl 1 (Xi nodes))))),(2,.v (lb true)),(3,.v (.one (.fn g []))),(9,.v (.one (.own 900001))),(11,.v (.one (.at_ 11 0))),(23,.v (.one (.c (.sl 3 (Qn E))))),(24,.v (li E.length)),(25,.v (li y))],[(11,.box [.c (iC f),.c (iC t),.c (iC xk)]),(900001,.mat 29 3 1 (X0a (nxM N (prs true rel (E.take y)))))]⟩) (Xx (fun n=>n) [] rfl (by simp) (by simp) (by simp)) ?_;refine(rg114_13 (Xi nodes) (Qn E) E.length g (X0a (nxM N (prs true rel (E.take y)))) (Xi (nxF (prs true rel (E.take y)) t)) y f t xk hrg ht1 (by simpa using hroom) ?_);refine XH (s':=⟨⟨95,none⟩,[(1,.v (.one (.c (.sl 1 (Xi nodes))))),(2,.v (lb true)),(3,.v (.one (.fn g []))),(9,.v (.one (.own 900001))),(23,.v (.one (.c (.sl 3 (Qn E))))),(24,.v (li E.length)),(25,.v (li y))],[(900001,.mat 29 3 1 (X0a (nxM N (prs true rel (E.take (y+1))))))]⟩) (Xx (fun n=>if n=900001 then 46 else n) [] rfl (by simp[Qz,trS,Ws,RV.mv,TV.mv,CV.mv,ins]) (by simp[Ws,Ob.mv,CV.mv,hrs,del,ins]) (by simp)) ?_;refine X2 ?_;exact⟨y+1,hlt2,by omega,X4 (fun n=>n) []⟩
   (try simp only[BN]at h12);have hb:back=false:=by simpa using h12
   subst hb;simp only[Bool.false_eq_true,if_false]at htp;have hrg:=X8x (X76 (prs false rel (E.take y)) (show f<N by omega));have hrs:=X91 (nxM N (prs false rel (E.take y))) f (nxF (prs false rel (E.take y)) f) t;rw[XaT,←htp]at hrs;have ht1:f+1≤(X0a (nxM N (prs false rel (E.take y)))).length:=by simp;omega
   have hroom:Wa ((nxF (prs false rel (E.take y)) f).length+1) 8:=by
    have h1:=X3q (prs false rel (E.take y)) f;have h2:=X7A false rel (E.take y);have h3:(E.take y).length≤E.length:=by simp;omega
    exact⟨by unfold maxLen;omega,by omega⟩
   clear h12;refine XH (s':=⟨⟨95,none⟩,[(1,.v (.one (.c (.sl 1 (Xi nodes))))),(2,.v (lb false)),(3,.v (.one (.fn g []))),(9,.v (.one (.own 900001))),(11,.v (.one (.at_ 11 0))),(23,.v (.one (.c (.sl 3 (Qn E))))),(24,.v (li E.length)),(25,.v (li y))],[(11,.box [.c (iC f),.c (iC t),.c (iC xk)]),(900001,.mat 29 3 1 (X0a (nxM N (prs false rel (E.take y)))))]⟩) (Xx (fun n=>n) [] rfl (by simp) (by simp) (by simp)) ?_;refine(rg114_16 (Xi nodes) (Qn E) E.length g (X0a (nxM N (prs false rel (E.take y)))) (Xi (nxF (prs false rel (E.take y)) f)) y f t xk hrg ht1 (by simpa using hroom) ?_);refine XH (s':=⟨⟨95,none⟩,[(1,.v (.one (.c (.sl 1 (Xi nodes))))),(2,.v (lb false)),(3,.v (.one (.fn g []))),(9,.v (.one (.own 900001))),(23,.v (.one (.c (.sl 3 (Qn E))))),(24,.v (li E.length)),(25,.v (li y))],[(900001,.mat 29 3 1 (X0a (nxM N (prs false rel (E.take (y+1))))))]⟩) (Xx (fun n=>if n=900001 then 59 else n) [] rfl (by simp[Qz,trS,Ws,RV.mv,TV.mv,CV.mv,ins]) (by simp[Ws,Ob.mv,CV.mv,hrs,del,ins]) (by simp)) ?_;refine X2 ?_;exact⟨y+1,hlt2,by omega,X4 (fun n=>n) []⟩
 (try simp only[BN]at h5);have hyl:y=E.length:=by omega
 subst hyl;have hte:E.take E.length=E:=List.take_length;rw[hte];clear h5;obtain⟨P,hPP⟩:∃p,prs back rel E=p:=⟨_,rfl⟩;rw[hPP]at hP hPl hdone hinit⊢;have hmat:=rowI_mat (nxM N P);clear hPP hte;refine(Xg ?_);refine XH (le_frzM 900001 rfl) ?_;refine XH (s':=⟨⟨95,none⟩,[(1,.v (.one (.c (.sl 1 (Xi nodes))))),(9,.v (.one (.c (.sl 1 (X4u (nxM N P))))))],[]⟩) (Xx (fun n=>n) [] rfl (by simp[HS.frz,X0a,X4u]) (by simp[HS.frz]) (by simp)) ?_;refine X1 ?_;refine Xm [⟨false,.v (.one (.own 66)),some (.row 3 1 (Xi nodes))⟩] ?_ ?_
 · first|exact ccl _ (by decide)|exact trivial|simpa[*]using ccl _ (by decide)
 refine X0<|X3<|(Xf [9,12] (fun(y:List Bool×List Int)=>[(13,.v (.one (.own 1013)))]) (fun y=>[(64,.row 4 1 (X1z y.1)),(1013,.row 3 1 (Xi y.2))]) (fun y=>Wk N P nodes y.1 y.2) (fun y=>cfS y.1*(P.length+1)+y.2.length) (List.replicate N false,nodes) hinit ?_ ?_)
 · exact X4 (fun n=>if n=1013 then 66 else n) []
 rintro⟨S,W0⟩ hj;simp only[upS,X6,XB]
 try simp only[X6,KN,Nat.reduceBEq,if_true,if_false,ins,Nat.reduceLT]
 simp only at hj;have hbd:=hj.bd
 have hWl:W0.length≤3000000000000:=by
  have h1:N*(P.length+1)≤100000*20000001:=Nat.mul_le_mul hN2 (by omega);omega
 clear hbd;refine X0<|X0<|X2 ?_;refine(X7 rfl (fun h23=>Xb ?_) (fun h23=>?_))
 · (try simp only[BN]at h23);obtain⟨W,x,rfl⟩:=snoc_of (l:=W0) (by rintro rfl;simp at h23);obtain⟨⟨x0,x1⟩,_⟩:=hj.wk x (by simp);obtain⟨k,rfl⟩:∃k:Nat,x=k:=⟨x.toNat,by omega⟩;have hkN:k<N:=by omega
   have hSl:=hj.len;obtain⟨b,hb,_⟩:=Xt (show k<S.length by omega);have hbe:=X20 hb;have hwx:(Xi (W++[(k:Int)]))[W.length]? =some [iC k]:=by simp[Xi]
   have hwl:(Xi (W++[(k:Int)])).length=W.length+1:=by simp
   have hwt:(Xi (W++[(k:Int)])).take W.length=Xi W:=by simp[Xi]
   have hw4:IntKind.i64.wrap ((W.length:Int)+1 - 1)=W.length:=by rw[List.length_append]at hWl;simp only[List.length_singleton]at hWl;rw[Xa (by omega) (by omega)];omega
   have hw5:IntKind.i64.wrap (W.length:Int)=W.length:=by rw[List.length_append]at hWl;simp only[List.length_singleton]at hWl;exact Xa (by omega) (by omega)
   have hroomW:Wa (W.length+(nxF P k).length) 8:=by
    have h1:=X3q P k;rw[List.length_append]at hWl;simp only[List.length_singleton]at hWl;exact⟨by unfold maxLen;omega,by omega⟩
   have hne:=XbL (X76 P hkN);have hset:=Xbo S k true;clear h23 hkN hSl x1;refine X3<|X0<|X2 ?_;refine X0<|(XN ?_);refine RunsN.cutE 4 [] (by simp[*];rfl) trivial (le_refl _) ?_;refine RunsN.cutR (l:=0) (hi:=W.length) rfl rfl rfl rfl rfl rfl rfl rfl rfl rfl rfl (by simp[X0H, *]) (Nat.zero_le _) (by simp) ?_;refine RunsN.doneE [] (by simp[*];rfl) trivial ?_;refine X0<|X0<|X2 ?_;refine(Xc rfl (fun h27=>?_) fun h27=>?_)
   · (try simp only[BN]at h27);have hbt:b=true:=by simpa using h27
     subst hbt;have hj2:=hj.skip (by simpa using hb);have hlt3:cfS S*(P.length+1)+W.length<cfS S*(P.length+1)+(W++[(k:Int)]).length:=by simp
     clear hj;refine(Xg ?_);exact⟨(S,W),hj2,hlt3,X4 (fun n=>if n=1013 then 80 else n) []⟩
   (try simp only[BN]at h27);have hbt:b=false:=by simpa using h27
   subst hbt;have hb2:S[(k:Int).toNat]? =some false:=by simpa using hb
   have hj2:=hj.add hP hb2;have hlt3:=Wk.lt (N:=N) (R:=nodes) (P:=P) (W:=W) hb2;simp only[Int.toNat_natCast]at hj2 hlt3;clear hj;refine X1 ?_;refine X2 ?_;exact⟨(S.set k true,W++nxF P k),hj2,hlt3,X4 (fun n=>if n=1013 then 93 else n) []⟩
 try simp only[BN]at h23
 have hW0:W0=[]:=by
  rcases W0 with _|⟨a,W0⟩
  · rfl
  simp at h23<;>omega
 subst hW0;have hS:=hdone S hj;rw[hS];refine(Xg ?_);refine XH (QQ 64 rfl) ?_;refine X1 ?_;exact Xe
end Go.Proofs.YtdajceakaakdoaaGreat

namespace Go.Proofs.YtdajceakaakdoaaGreat
open Go Go.Hl
theorem XaU {N:Int}:∀{l:List Dp} {p:Option Dp},chL N p l=0→∀e∈l,X5H N e=true
 |[],_,_,e,he=>by cases he
 | x::l,p,h,e,he=>by
   simp only[chL]at h;split at h
   · cases h
   split at h
   · cases h
   split at h
   · cases h
   rename_i h1 _ _;rcases List.mem_cons.1 he with rfl|he
   · simpa using h1
   exact XaU h e he
theorem ch_all {ns nv:Int} {E:List Dp} (h:chF ns nv E=0):∀e∈E,X5H (ns+nv) e=true:=by
 unfold chF at h;split at h
 · cases h
 exact XaU h
theorem ch_in {ns nv:Int} {E:List Dp} {N:Nat} (hN:ns+nv+1=N) (h:chF ns nv E=0):∀e∈E,(0≤e.f∧e.f<N)∧(0≤e.t∧e.t<N):=by
 intro e he;have h1:=ch_all h e he;simp only[X5H,Bool.and_eq_true,decide_eq_true_eq]at h1;omega
theorem all_con (k:Int) (d:Nat):Con Tryz.prog 131 true [li k] (.v (lb (true||decide (k≠2)))) none d:=by
 refine X5 Tryz.func131 ?_;simp only[Tryz.f131];refine X1 ?_;refine X1 ?_;exact Xe
theorem X9V (k:Int) (d:Nat):Con Tryz.prog 44 true [li k] (.v (lb (false||decide (k≠2)))) none d:=by
 refine X5 Tryz.func44 ?_;simp only[Tryz.f44];refine X1 ?_;refine X1 ?_;exact Xe
def X48 (N:Int) (l:List Int):Bool:=l.all fun x=>decide (0≤x)&&decide (x<N)
theorem nodB_at {N:Int} {l:List Int} {y:Nat} {x:Int} (hd:l.drop y=x::l.drop (y+1)):X48 N (l.drop y)=((decide (0≤x)&&decide (x<N))&&X48 N (l.drop (y+1))):=by
 rw[hd];rfl
theorem nodB_mem {N:Int} {l:List Int} (h:X48 N l=true):∀x∈l,0≤x∧x<N:=by
 intro x hx;unfold X48 at h;simpa using List.all_eq_true.1 h x hx
noncomputable def wkR (back:Bool) (ns nv:Int) (E:List Dp) (nodes:List Int):RV:=
 .tup [if chF ns nv E=0∧X48 (ns+nv+1) nodes=true then lBl (czL (prs back true E) nodes (ns+nv+1).toNat)else .one (.c (.lit XW)),li (if chF ns nv E=0 then(if X48 (ns+nv+1) nodes=true then 0 else 3)else 1)]
theorem clos_con (back:Bool) (ns nv:Int) (E:List Dp) (nodes:List Int) (hl:E.length≤20000000) (hnl:nodes.length≤1000000) (d:Nat):Con Tryz.prog 70 false [aPd ns nv E,lI nodes,lb back] (wkR back ns nv E nodes) none d:=by
 have cc:=chkP_con ns nv E hl;unfold wkR;by_cases h0:chF ns nv E=0
 · obtain⟨⟨n0,n1⟩,v0,v1⟩:=hd_in (ch_hd h0);obtain⟨N,hN⟩:∃N:Nat,ns+nv+1=N:=⟨(ns+nv+1).toNat,by omega⟩;have cr:=fun hR=>X4n ns nv E nodes back true 131 N hN n0 v0 (by omega) hl (ch_in hN h0) hnl hR all_con;have hw1:IntKind.i64.wrap (ns+nv)=ns+nv:=Xa (by omega) (by omega);rw[h0]at cc;simp only[h0,if_true,true_and,hN,Int.toNat_natCast];have hmem:=nodB_mem (N:=(N:Int)) (l:=nodes);obtain⟨B,hB⟩:∃b,X48 (N:Int) nodes=b:=⟨_,rfl⟩;rw[hB]at hmem⊢;obtain⟨Z,hZ⟩:∃z,czL (prs back true E) nodes N=z:=⟨_,rfl⟩;rw[hZ]at cr⊢;clear h0 hZ;unfold aPd at cc cr⊢;refine X5 Tryz.func70 ?_;simp only[Tryz.f70];refine X1 ?_;refine X0<|X0<|(Xp [⟨true,.v (li 0),none⟩] ?_ ?_)
   · first|exact cc _|exact trivial|simpa[*]using cc _
   refine(Xc rfl (fun h2=>?_) fun h2=>?_)
   · exact absurd h2 (by simp)
   (try simp only[BN]at h2);refine X0<|X0<|X2 ?_;refine X3<|(Xf [1,2,3,13,14] (fun(y:Nat)=>[(15,.v (li y))]) (fun y=>[(3,.box [.c (iC ns),.c (iC nv),.c (.sl 3 (Qn E))])]) (fun y=>y≤nodes.length∧X48 (N:Int) (nodes.drop y)=B) (fun y=>nodes.length - y) (0:Nat) ⟨Nat.zero_le _,hB⟩ ?_ ?_)
   · exact X4 (fun n=>n) []
   rintro y ⟨hy,hj⟩;simp only[upS,X6,XB]
   try simp only[X6,KN,Nat.reduceBEq,if_true,if_false,ins,Nat.reduceLT]
   refine X1 ?_;refine X0<|(X7 rfl (fun h8=>Xb ?_) (fun h8=>?_))
   · (try simp only[BN]at h8);have hlt:y<nodes.length:=by omega
     have hw2:=XE hlt (by omega);obtain⟨x,hx,hdr⟩:=Xt hlt;rw[nodB_at hdr]at hj;have hlt2:y+1≤nodes.length:=hlt;clear h8 hlt hdr;refine X0<|X3<|X0<|X2 ?_;refine X1 ?_;refine(Xc rfl (fun h11=>?_) fun h11=>?_)
     · try simp only[BN]at h11
       have hb:B=false:=by
        rw[←hj]
        have h12:¬(0≤x∧x<(N:Int)):=by
         try simp at h11
         omega
        rw[show(decide (0≤x)&&decide (x<(N:Int)))=false by rw[←Bool.not_eq_true];simpa using h12];rfl
       subst hb;refine X1 ?_;exact Xe
     try simp only[BN]at h11
     have hb:X48 (N:Int) (nodes.drop (y+1))=B:=by
      rw[←hj]
      have h12:0≤x∧x<(N:Int):=by
       try simp at h11
       omega
      rw[show(decide (0≤x)&&decide (x<(N:Int)))=true by simpa using h12];rfl
     clear h11;refine X2 ?_;exact⟨y+1,⟨hlt2,hb⟩,by omega,X4 (fun n=>n) []⟩
   (try simp only[BN]at h8);have hyl:y=nodes.length:=by omega
   subst hyl
   have hb:B=true:=by
    rw[←hj,List.drop_length];rfl
   subst hb;have cr:=cr (hmem rfl);refine(Xg ?_);refine Xm [⟨false,.v (lBl Z),none⟩] ?_ ?_
   · first|exact cr _|exact trivial|simpa[*]using cr _
   exact Xe
 obtain⟨C,hC⟩:∃x,chF ns nv E=x:=⟨_,rfl⟩;rw[hC]at cc h0;simp only[hC,if_neg h0,h0,false_and,if_false];clear hC;unfold aPd at cc⊢;refine X5 Tryz.func70 ?_;simp only[Tryz.f70];refine X1 ?_;refine X0<|X0<|(Xp [⟨true,.v (li C),none⟩] ?_ ?_)
 · first|exact cc _|exact trivial|simpa[*]using cc _
 refine(Xc rfl (fun h2=>?_) fun h2=>?_)
 · (try simp only[BN]at h2);refine X1 ?_;exact Xe
 exact absurd (by simpa using h2) h0
theorem back_con (ns nv:Int) (E:List Dp) (nodes:List Int) (hl:E.length≤20000000) (hnl:nodes.length≤1000000) (d:Nat):Con Tryz.prog 28 false [aPd ns nv E,lI nodes] (wkR true ns nv E nodes) none d:=by
 have cc:=clos_con true ns nv E nodes hl hnl;unfold wkR at cc⊢;obtain⟨A,hA⟩:∃x,(if chF ns nv E=0∧X48 (ns+nv+1) nodes=true then lBl (czL (prs true true E) nodes (ns+nv+1).toNat)else .one (.c (.lit XW)))=x:=⟨_,rfl⟩;obtain⟨C,hC⟩:∃x,(if chF ns nv E=0 then(if X48 (ns+nv+1) nodes=true then(0:Int)else 3)else 1)=x:=⟨_,rfl⟩;have hAd:∃D:CD,A=.one (.c D):=by rw[←hA];split<;>exact⟨_,rfl⟩
 rw[hA,hC]at cc⊢;obtain⟨D,rfl⟩:=hAd;clear hA hC;unfold aPd at cc⊢;refine X5 Tryz.func28 ?_;simp only[Tryz.f28];refine X1 ?_;refine Xm [⟨false,.tup [.one (.c D),li C],none⟩] ?_ ?_
 · first|exact cc _|exact trivial|simpa[*]using cc _
 exact Xe
end Go.Proofs.YtdajceakaakdoaaGreat

namespace Go.Proofs.YtdajceakaakdoaaGreat
open Go Go.Hl
theorem fnd_flL:∀l:List St,∀i:Int,0≤i→Zi l i=(flL l)[i.toNat]? :=by
 apply St.lind
 · intro i _;rw[X3n];simp[flL]
 intro d c v n t a b bs l ia ib il i hi;rw[X0B];simp only[flL,flS,List.cons_append,List.append_assoc];split
 · rename_i h0;subst h0;simp
 rename_i h0;have e1:i.toNat=(i - 1).toNat+1:=by omega
 rw[e1,List.getElem?_cons_succ];by_cases h1:i - 1<szL a
 · rw[ia (i - 1) (by omega),List.getElem?_append_left (by rw[XY];omega)];have hl:(i - 1).toNat<(flL a).length:=by rw[XY];omega
   rw[List.getElem?_eq_getElem hl]
 rw[X0t a _ (by omega)];simp only;rw[List.getElem?_append_right (by rw[XY];omega),XY];have e2:(i - 1).toNat - szL a=(i - 1 - szL a).toNat:=by omega
 rw[e2];by_cases h2:i - 1 - szL a<szL b
 · rw[ib (i - 1 - szL a) (by omega),List.getElem?_append_left (by rw[XY];omega)];have hl:(i - 1 - szL a).toNat<(flL b).length:=by rw[XY];omega
   rw[List.getElem?_eq_getElem hl]
 rw[X0t b _ (by omega)];simp only;rw[List.getElem?_append_right (by rw[XY];omega),XY];have e3:(i - 1 - szL a).toNat - szL b=(i - 1 - szL a - szL b).toNat:=by omega
 rw[e3,il _ (by omega)]
end Go.Proofs.YtdajceakaakdoaaGreat

namespace Go.Proofs.YtdajceakaakdoaaGreat
open Go Go.Hl
theorem X2Z (d:Nat):Con Tryz.prog 47 false [lI []] (.v (lI [])) none d:=by
 refine X5 Tryz.func47 ?_;simp only[Tryz.f47];refine X1 ?_;refine X0<|X0<|X2 ?_;refine(Xc rfl (fun h2=>?_) fun h2=>?_)
 · (try simp only[BN]at h2);refine X1 ?_;exact Xe
 exact absurd h2 (by simp)
def kdV (vars:List Vr) (v:Nat):Bool:=match vars[v]? with
 |some x=>decide (x.kind≠0)
 |none=>false
def X0V (vars:List Vr) (S:List Bool) (n y:Nat):List Int:=((List.range y).filter fun v=>kdV vars v&&(S[n+v]?.getD false)).map fun v:Nat=>(v:Int)
theorem Xbi (vars:List Vr) (S:List Bool) (n y:Nat):X0V vars S n (y+1)=X0V vars S n y++(if(kdV vars y&&(S[n+y]?.getD false))=true then [(y:Int)] else []):=by
 unfold X0V;rw[List.range_succ,List.filter_append,List.map_append];congr 1;by_cases h:(kdV vars y&&(S[n+y]?.getD false))=true
 · simp only[List.filter_cons,h,if_true,List.filter_nil,List.map_cons,List.map_nil]
 simp only[List.filter_cons,h,if_false,List.filter_nil,List.map_nil];simp
theorem X8v (vars:List Vr) (S:List Bool) (n y:Nat):(X0V vars S n y).length≤y:=by
 unfold X0V;rw[List.length_map];exact Nat.le_trans (List.length_filter_le _ _) (by simp)
@[simp] theorem srcI_zero (vars:List Vr) (S:List Bool) (n:Nat):X0V vars S n 0=[]:=rfl
def rlS (steps:List St) (S:List Bool) (i:Nat):Bool:=match steps[i]? with
 |some s=>decide (s.do_=5)&&(S[i]?.getD false)
 |none=>false
def stN (steps:List St) (i:Nat):Int:=match steps[i]? with
 |some s=>s.n
 |none=>0
def X0l (steps:List St) (S:List Bool) (y:Nat):List Int:=((List.range y).filter fun i=>rlS steps S i).map fun i=>stN steps i
theorem XbE (steps:List St) (S:List Bool) (y:Nat):X0l steps S (y+1)=X0l steps S y++(if rlS steps S y=true then [stN steps y] else []):=by
 unfold X0l;rw[List.range_succ,List.filter_append,List.map_append];congr 1;by_cases h:rlS steps S y=true
 · simp only[List.filter_cons,h,if_true,List.filter_nil,List.map_cons,List.map_nil]
 simp only[List.filter_cons,h,if_false,List.filter_nil,List.map_nil];simp
@[simp] theorem hatS_zero (steps:List St) (S:List Bool):X0l steps S 0=[]:=rfl
theorem X62 (steps:List St) (S:List Bool) (y:Nat):(X0l steps S y).length≤y:=by
 unfold X0l;rw[List.length_map];exact Nat.le_trans (List.length_filter_le _ _) (by simp)
def X2g (l:List Int):List Int:=Lib.compact (l.mergeSort fun x y=>decide (x≤y))
noncomputable def X06 (f:Fl):List Dp:=Wr (X1b f)
noncomputable def X0P (f:Fl) (node:Int):List Bool:=czL (prs true false (X06 f)) [node] ((flL f.body).length+f.vars.length+1)
noncomputable def srcR (f:Fl) (node:Int):RV:=
 .tup (if XR f=0 then(if 0≤node∧node≤((flL f.body).length:Int)+f.vars.length then [lI (X0V f.vars (X0P f node) (flL f.body).length f.vars.length),lI (X2g (X0l (flL f.body) (X0P f node) (flL f.body).length)),li 0] else [.one (.c (.lit XW)),.one (.c (.lit XW)),li 3])
  else [.one (.c (.lit XW)),.one (.c (.lit XW)),li (XR f)])
theorem X87 {f:Fl} (h:Sm f) (h0:XR f=0):(X06 f).length≤20000000:=by
 unfold X06;rw[X6r _ (X2E f)];exact Xay h h0
theorem X8m {f:Fl} (h:Sm f) (h0:XR f=0):∀e∈X06 f,okDp (((flL f.body).length:Int)+f.vars.length) e:=fun e he=>XaX h h0 e ((ZO _ _).1 he)
theorem depL_in {f:Fl} (h:Sm f) (h0:XR f=0):∀e∈X06 f,(0≤e.f∧e.f<(((flL f.body).length+f.vars.length+1:Nat):Int))∧(0≤e.t∧e.t<(((flL f.body).length+f.vars.length+1:Nat):Int)):=by
 intro e he;have:=X8m h h0 e he;unfold okDp at this;omega
set_option maxHeartbeats 16000000 in
theorem X2k (f:Fl) (h:Sm f) (node:Int) (d:Nat):Con Tryz.prog 14 false [aF f,li node] (srcR f node) none d:=by
 have cb:=X1E f h;have hat:=fun(i:Nat) (s:St) (hs:(flL f.body)[i]? =some s)=>atP_con f (by have:=h.nodes;omega) h.bnd i s (by rw[fnd_flL f.body i (by omega)];simpa using hs);unfold srcR;unfold bdR at cb;by_cases h0:XR f=0
 · rw [h0]at cb;simp only[h0,if_true]at cb⊢;have hv:=h.vars;have hsz:=h.sz;have hfl:=XY f.body;have hEl:=X87 h h0;have hEi:=depL_in h h0;have cr:=fun hR=>X4n ((flL f.body).length:Int) f.vars.length (X06 f) [node] true false 44 ((flL f.body).length+f.vars.length+1) (by omega) (by omega) (by omega) (by omega) hEl hEi (by simp) hR X9V;have hZl:(X0P f node).length=(flL f.body).length+f.vars.length+1:=X4T ..;have hdz:czL (prs true false (X06 f)) [node] ((flL f.body).length+f.vars.length+1)=X0P f node:=rfl;rw[hdz]at cr;have hdl:Wr (X1b f)=X06 f:=rfl;rw[hdl]at cb;clear hdz hdl hEi h h0;obtain⟨Z,hZ⟩:∃z,X0P f node=z:=⟨_,rfl⟩;rw[hZ]at cr hZl⊢;obtain⟨E,hE⟩:∃z,X06 f=z:=⟨_,rfl⟩;rw[hE]at cr cb hEl;clear hZ hE;obtain⟨vars,hats,body⟩:=f;simp only[aF,Fl.enc,List.map_cons,List.map_nil]at*;obtain⟨st,hst⟩:∃z,flL body=z:=⟨_,rfl⟩;rw[hst]at hat cb cr hZl hfl⊢;obtain⟨n,hn⟩:∃n,st.length=n:=⟨_,rfl⟩;obtain⟨V,hV⟩:∃n,vars.length=n:=⟨_,rfl⟩;rw[hn]at cb cr hZl hfl⊢;rw[hV]at cb cr hZl hv⊢;have hn1:n≤1000:=by omega
   clear hfl hsz hst;have hw1:IntKind.i64.wrap ((n:Int)+V)=n+V:=Xa (by omega) (by omega);unfold aPd at cr;by_cases hr:0≤node∧node≤(n:Int)+V
   · simp only[hr,and_self,if_true];have cr:=cr (by intro x hx;rw[List.mem_singleton.1 hx];omega);refine X5 Tryz.func14 ?_;simp only[Tryz.f14];refine X1 ?_;refine Xm [⟨false,.tup [.agg [.c (iC n),.c (iC V),.c (.sl 3 (Qn E))],li 0],none⟩] ?_ ?_
     · first|exact cb _|exact trivial|simpa[*]using cb _
     refine X0<|X0<|X2 ?_;refine(Xc rfl (fun h3=>?_) fun h3=>?_)
     · exact absurd h3 (by simp)
     (try simp only[BN]at h3);refine X0<|X0<|X2 ?_;refine(Xc rfl (fun h7=>?_) fun h7=>?_)
     · exfalso;simp at h7<;>omega
     (try simp only[BN]at h7);have hnd:Xi [node]=[[iC node]]:=rfl;refine X0<|(X6X 3 [] [⟨false,.v (lBl Z),none⟩] (by simp[*];rfl) trivial (QQ 38 rfl) (by simp[*];first|exact⟨rfl,Iff.rfl⟩|exact⟨rfl,trivial⟩|rfl) ?_ ?_)
     · first|exact cr _|simpa using cr _
     refine X1 ?_;refine X0<|X0<|X2 ?_;refine X3<|(Xf [2,7,9,11,41,42] (fun(y:Nat)=>[(10,.v (.one (.own 1010))),(43,.v (li y))]) (fun y=>[(2,.box [.c (.sl 5 (Xu vars)),.c (.sl 6 (Xv hats)),.c (.sl 10 (X8 body))]),(7,.box [.c (iC n),.c (iC V),.c (.sl 3 (Qn E))]),(1010,.row 3 1 (Xi (X0V vars Z n y)))]) (fun y=>y≤V) (fun y=>V - y) (0:Nat) (Nat.zero_le _) ?_ ?_)
     · exact X4 (fun n=>n) [1010]
     rintro y hy;simp only[upS,X6,XB]
     try simp only[X6,KN,Nat.reduceBEq,if_true,if_false,ins,Nat.reduceLT]
     refine X1 ?_;refine X0<|(X7 rfl (fun h15=>Xb ?_) (fun h15=>?_))
     · (try simp only[BN]at h15);have hlt:y<V:=by omega
       have hw3:=XE hlt (by omega);obtain⟨x,hx,_⟩:=Xt (show y<vars.length by omega);obtain⟨b,hb,_⟩:=Xt (show n+y<Z.length by omega);have hbe:=X20 hb;have hw4:IntKind.i64.wrap ((n:Int)+y)=((n+y:Nat):Int):=by rw[Xa (by omega) (by omega)];omega
       have hsc:=Xbi vars Z n y;have hkd:kdV vars y=decide (x.kind≠0):=by unfold kdV;rw[hx]
       rw[hkd,hb]at hsc;simp only[Option.getD_some]at hsc;have hll:=X8v vars Z n y;have hroom:Wa ((X0V vars Z n y).length+1) 8:=Qc (by omega) (by decide);have hlt2:y+1≤V:=hlt;obtain⟨k,hk⟩:∃k,n+y=k:=⟨_,rfl⟩;rw[hk]at hw4 hbe;obtain⟨xn,xk,xl,xh,xi⟩:=x;replace hsc:X0V vars Z n (y+1)=X0V vars Z n y++(if(decide (xk≠0)&&b)=true then [(y:Int)] else []):=hsc;have hsn:Xi [(y:Int)]=[[iC y]]:=rfl;clear h15 hlt hb hk hkd hll;refine X0<|X3<|X0<|X2 ?_;refine X1 ?_;refine(Xc rfl (fun h18=>?_) fun h18=>?_)
       · (try simp only[BN]at h18);have hu:(decide (xk≠0)&&b)=true:=by simpa using h18
         simp only[hu,if_true]at hsc;refine X2 ?_;refine X2 ?_;exact⟨y+1,hlt2,by omega,X4 (fun n=>if n=1010 then 63 else n) []⟩
       (try simp only[BN]at h18);have hu:(decide (xk≠0)&&b)=false:=by rcases h18 with e|e<;>simp[e]
       simp only[hu,Bool.false_eq_true,if_false,List.append_nil]at hsc;refine X2 ?_;exact⟨y+1,hlt2,by omega,X4 (fun n=>n) []⟩
     (try simp only[BN]at h15);obtain rfl:y=V:=by omega
     clear h15;refine(Xg ?_);refine X0<|X0<|X2 ?_;refine X3<|(Xf [2,9,10,66] (fun(z:Nat)=>[(11,.v (.one (.own 1011))),(67,.v (li z))]) (fun z=>[(2,.box [.c (.sl 5 (Xu vars)),.c (.sl 6 (Xv hats)),.c (.sl 10 (X8 body))]),(1010,.row 3 1 (Xi (X0V vars Z n y))),(1011,.row 3 1 (Xi (X0l st Z z)))]) (fun z=>z≤n) (fun z=>n - z) (0:Nat) (Nat.zero_le _) ?_ ?_)
     · exact X4 (fun n=>n) [1011]
     rintro z hz;simp only[upS,X6,XB]
     try simp only[X6,KN,Nat.reduceBEq,if_true,if_false,ins,Nat.reduceLT]
     refine X1 ?_;refine X0<|(X7 rfl (fun h27=>Xb ?_) (fun h27=>?_))
     · try simp only[BN]at h27
       have hlt:z<n:=by
        have:(z:Int)<n:=by simpa using h27
        omega
       have hw3:=XE hlt (by omega);obtain⟨s,hs,_⟩:=Xt (show z<st.length by omega);have ca:=hat z s hs;obtain⟨b,hb,_⟩:=Xt (show z<Z.length by omega);have hbe:=X20 hb;have hsc:=XbE st Z z;have hkd:rlS st Z z=(decide (s.do_=5)&&b):=by unfold rlS;rw[hs,hb];rfl
       have hkn:stN st z=s.n:=by unfold stN;rw[hs]
       rw[hkd,hkn]at hsc;have hll:=X62 st Z z;have hroom:Wa ((X0l st Z z).length+1) 8:=Qc (by omega) (by decide);have hlt2:z+1≤n:=hlt;obtain⟨so,sc,sv,sn,⟨po,tn,tk⟩,sa,sb,sbs⟩:=s;simp only[aS,St.enc,Tm.enc,List.cons_append,List.nil_append,List.map_cons,List.map_nil]at ca;replace hsc:X0l st Z (z+1)=X0l st Z z++(if(decide (so=5)&&b)=true then [sn] else []):=hsc;have hsn:Xi [sn]=[[iC sn]]:=rfl;clear h27 hlt hs hb hkd hkn hll hat;refine X0<|X3<|X0<|X2 ?_;refine Xm [⟨false,.tup [.agg [.c (iC so),.c (iC sc),.c (iC sv),.c (iC sn),.c (iC po),.c (iC tn),.c (.sl 3 (XI tk)),.c (.sl 10 (X8 sa)),.c (.sl 10 (X8 sb)),.c (.sl 1 (Xi sbs))],li 0],none⟩] ?_ ?_
       · first|exact ca _|exact trivial|simpa[*]using ca _
       refine X1 ?_;refine(Xc rfl (fun h31=>?_) fun h31=>?_)
       · (try simp only[BN]at h31);have hu:(decide (so=5)&&b)=true:=by simpa using h31
         simp only[hu,if_true]at hsc;refine X2 ?_;refine X2 ?_;exact⟨z+1,hlt2,by omega,X4 (fun n=>if n=1011 then 89 else n) []⟩
       (try simp only[BN]at h31);have hu:(decide (so=5)&&b)=false:=by rcases h31 with e|e<;>simp[e]
       simp only[hu,Bool.false_eq_true,if_false,List.append_nil]at hsc;refine X2 ?_;exact⟨z+1,hlt2,by omega,X4 (fun n=>n) []⟩
     try simp only[BN]at h27
     obtain rfl:z=n:=by
      have:¬(z:Int)<n:=by simpa using h27
      omega
     have hll:=X62 st Z z;obtain⟨H,hH⟩:∃H,X0l st Z z=H:=⟨_,rfl⟩;rw[hH]at hll⊢;clear h27 hH;refine(Xg ?_);rcases H with _|⟨a0,o⟩
     · refine XH (QQ 1010 rfl) ?_;refine XH (QQ 1011 rfl) ?_;have hc0:X2g []=[]:=by simp[X2g,Lib.compact,Lib.compactUpTo]
       rw[hc0];refine Xm [⟨true,.tup [],none⟩] ?_ ?_
       · first|exact X4h _|exact trivial|simpa[*]using X4h _
       refine Xm [⟨false,.v (lI []),none⟩] ?_ ?_
       · first|exact X2Z _|exact trivial|simpa[*]using X2Z _
       exact Xe
     refine XH (QQ 1010 rfl) ?_;have cs1:=X6E (a0::o) (by simp) (by omega);have cs2:=X8O ((a0::o).mergeSort fun x y=>decide (x≤y)) (by rw[List.length_mergeSort];simp) (by rw[List.length_mergeSort];omega);have hcc:Lib.compact ((a0::o).mergeSort fun x y=>decide (x≤y))=X2g (a0::o):=rfl;rw[hcc]at cs2;obtain⟨S1,hS1⟩:∃x,((a0::o).mergeSort fun x y=>decide (x≤y))=x:=⟨_,rfl⟩;rw[hS1]at cs1 cs2;obtain⟨S2,hS2⟩:∃x,X2g (a0::o)=x:=⟨_,rfl⟩;rw[hS2]at cs2⊢;clear hcc hS1 hS2;refine X0<|(XN ?_);refine RunsN.cutE 1 [] (by simp;rfl) trivial (le_refl _) ?_;refine RunsN.rowA (by simp[rowAP,X2r];exact⟨rfl,rfl⟩) cs1 ?_;refine RunsN.doneE [] rfl trivial ?_;refine X0<|(XN ?_);refine RunsN.cutE 2 [] (by simp;rfl) trivial (le_refl _) ?_;refine RunsN.callA (fun n=>if n=900001 then 1011 else n) (fun n=>if n=900001 then 1016 else n) cs2.toN fun _ _=>?_;refine RunsN.doneE [] rfl trivial ?_;refine XH (QQ 1016 rfl) ?_;exact Xe
   simp only[if_neg hr];refine X5 Tryz.func14 ?_;simp only[Tryz.f14];refine X1 ?_;refine Xm [⟨false,.tup [.agg [.c (iC n),.c (iC V),.c (.sl 3 (Qn E))],li 0],none⟩] ?_ ?_
   · first|exact cb _|exact trivial|simpa[*]using cb _
   refine X0<|X0<|X2 ?_;refine(Xc rfl (fun h3=>?_) fun h3=>?_)
   · exact absurd h3 (by simp)
   (try simp only[BN]at h3);refine X0<|X0<|X2 ?_;refine(Xc rfl (fun h7=>?_) fun h7=>?_)
   · (try simp only[BN]at h7);refine X1 ?_;exact Xe
   exfalso;simp at h7<;>omega
 obtain⟨C,hC⟩:∃x,XR f=x:=⟨_,rfl⟩;rw[hC]at cb h0;simp only[hC,if_neg h0]at cb⊢;clear hC hat h;obtain⟨vars,hats,body⟩:=f;simp only[aF,Fl.enc,List.map_cons,List.map_nil]at*;refine X5 Tryz.func14 ?_;simp only[Tryz.f14];refine X1 ?_;refine Xm [⟨false,.tup [.agg [.c (iC 0),.c (iC 0),.c (.lit XW)],li C],none⟩] ?_ ?_
 · first|exact cb _|exact trivial|simpa[*]using cb _
 refine X0<|X0<|X2 ?_;refine(Xc rfl (fun h3=>?_) fun h3=>?_)
 · (try simp only[BN]at h3);refine X1 ?_;exact Xe
 exact absurd (by simpa using h3) h0
end Go.Proofs.YtdajceakaakdoaaGreat

namespace Go.Proofs.YtdajceakaakdoaaGreat
open Go Go.Hl
theorem X5V (l:List Int) (x:Int):x∈X2g l↔x∈l:=by
 unfold X2g;rw[(X5Z (Xbu l)).2,List.mem_mergeSort]
theorem ctL_t:∀l:List St,∀(c:Int) (p:Nat),∀e∈ctL l c p,e.k=1∧∃i:Nat,e.t=i∧i<p+szL l:=by
 apply St.lind
 · intro c p e he;simp[ctL]at he
 intro o c' w q t a b bs l ia ib il c p e he;simp only[szL,szS];simp only[ctL,List.mem_append]at he;rcases he with he|he|he|he|he
 · unfold ctE at he;split at he
   · rw[List.mem_singleton.1 he];exact⟨rfl,p,rfl,by omega⟩
   cases he
 · split at he
   · rw[List.mem_singleton.1 he];exact⟨rfl,p,rfl,by omega⟩
   cases he
 · obtain⟨h1,i,h2,h3⟩:=ia p (p+1) e he;exact⟨h1,i,h2,by omega⟩
 · obtain⟨h1,i,h2,h3⟩:=ib p (p+1+szL a) e he;exact⟨h1,i,h2,by omega⟩
 obtain⟨h1,i,h2,h3⟩:=il c _ e he;exact⟨h1,i,h2,by omega⟩
def relD (f:Fl) (e:Dp):Prop:=∃(i:Nat) (s:St) (g:Ht) (v:Int),(flL f.body)[i]? =some s∧s.do_=5∧f.hats[s.n.toNat]? =some g∧v∈tmV g.term∧(0≤v∧v<f.vars.length)∧e=⟨((flL f.body).length:Int)+v,i,2⟩
theorem X6H {f:Fl} (h:Sm f) (h0:XR f=0) {e:Dp} (he:e∈X1b f):(e.k≠2∧((∃i:Nat,e.t=i∧i<(flL f.body).length)∨e.t=((flL f.body).length:Int)+f.vars.length))∨relD f e:=by
 have hc:=QS h0;have hhm:=X1G f.hats [] hc.2.2.1;have hl:=XY f.body;unfold X1b at he;rw[QO,QO,QO]at he;rcases he with(((he|he)|he)|he)
 · cases he
 · obtain⟨h1,i,h2,h3⟩:=ctL_t f.body (-1) 0 e he;exact .inl ⟨by rw[h1];decide,.inl ⟨i,h2,by omega⟩⟩
 · unfold X2h at he;obtain⟨⟨x,r⟩,hp,he⟩:=List.mem_flatMap.1 he;obtain⟨n,hx,hr⟩:=X0W.1 hp;simp only at hx hr he;unfold X1v at he;split at he
   · cases he
   rename_i hxa;split at he
   · rename_i s hs;have ha:=(List.getElem?_eq_some_iff.1 hs).1;split at he
     · rename_i h5;split at he
       · rename_i hh hhe;obtain⟨v,hv,rfl⟩:=X2Y.1 he;exact .inr ⟨x.a.toNat,s,hh,v,hs,h5,hhe,hv,X5e _ (hhm hh (List.mem_of_getElem? hhe)) v hv,rfl⟩
       cases he
     obtain⟨v,hv,he⟩:=List.mem_flatMap.1 he;obtain⟨d,hd,rfl⟩:=List.mem_map.1 he;exact .inl ⟨show(0:Int)≠2 by decide,.inl ⟨x.a.toNat,rfl,ha⟩⟩
   cases he
 split at he
 · cases he
 obtain⟨i,s,hs,_,rfl⟩:=(Xaz _ _ _ _).1 he;exact .inl ⟨show(1:Int)≠2 by decide,.inr rfl⟩
theorem X5Q (f:Fl) (e:Dp):e∈X06 f↔e∈X1b f:=ZO _ _
theorem depP_sub (f:Fl):∀x,x∈ctL f.body (-1) 0++X2h (flL f.body).length f.hats (flL f.body) (grN f.body) (rcL (grN f.body) (flL f.body) f.vars.length)→x∈X06 f:=by
 intro x hx;rw[X5Q,X1b,QO,QO,QO];rcases List.mem_append.1 hx with hx|hx
 · exact .inl (.inl (.inr hx))
 exact .inl (.inr hx)
theorem X4Z {vars:List Vr} {S:List Bool} {n y:Nat} {x:Int}:x∈X0V vars S n y↔∃v:Nat,x=v∧v<y∧kdV vars v=true∧S[n+v]? =some true:=by
 unfold X0V;simp only[List.mem_map,List.mem_filter,List.mem_range,Bool.and_eq_true];constructor
 · rintro⟨v,⟨h1,h2,h3⟩,rfl⟩;refine⟨v,rfl,h1,h2,?_⟩;cases hs:S[n+v]? with
   |none=>rw[hs]at h3;cases h3
   |some b=>rw[hs]at h3;simpa using h3
 rintro⟨v,rfl,h1,h2,h3⟩;exact⟨v,⟨h1,h2,by rw[h3];rfl⟩,rfl⟩
theorem X5a {st:List St} {S:List Bool} {y:Nat} {x:Int}:x∈X0l st S y↔∃(i:Nat) (s:St),i<y∧st[i]? =some s∧s.do_=5∧S[i]? =some true∧x=s.n:=by
 unfold X0l;simp only[List.mem_map,List.mem_filter,List.mem_range];constructor
 · rintro⟨i,⟨h1,h2⟩,rfl⟩;unfold rlS at h2;split at h2
   · rename_i s hs;simp only[Bool.and_eq_true,decide_eq_true_eq]at h2;refine⟨i,s,h1,hs,h2.1,?_,by unfold stN;rw[hs]⟩;cases hS:S[i]? with
     |none=>rw[hS]at h2;exact absurd h2.2 (by simp)
     |some b=>rw[hS]at h2;simpa using h2.2
   cases h2
 rintro⟨i,s,h1,hs,h5,hS,rfl⟩;refine⟨i,⟨h1,?_⟩,by unfold stN;rw[hs]⟩;unfold rlS;rw[hs,hS];simp[h5]
theorem X6B {f:Fl} (h:Sm f) (h0:XR f=0) {R:Int→Prop} {c:Int} (hc:Cz (prs true true (X06 f)) R c):(c<((flL f.body).length:Int)∨c=((flL f.body).length:Int)+f.vars.length)→Cz (prs true false (X06 f)) R c:=by
 induction hc with
 |base hb=>exact fun _=>.base hb
 | @step a b hab hca ih=>
   intro hb;obtain⟨e,he,_,hp⟩:=X0h.1 hab;simp only[if_true]at hp;cases hp;rcases X6H h h0 ((X5Q f e).1 he)with⟨h2,ht⟩|⟨i,s,g,v,hs,h5,hg,hv,hvr,rfl⟩
   · refine .step (X0h.2 ⟨e,he,.inr h2,by simp⟩) (ih ?_);rcases ht with⟨i,h1,h3⟩|h1
     · exact .inl (by omega)
     exact .inr h1
   simp only at hb;omega
theorem XaG {E:List Dp} {R:Int→Prop} {c:Int} (hc:Cz (prs true false E) R c):Cz (prs true true E) R c:=by
 refine Cz.mono (fun p hp=>?_) hc;obtain⟨x,hx,_,rfl⟩:=X0h.1 hp;exact X0h.2 ⟨x,hx,.inl rfl,rfl⟩
theorem hat_rng {f:Fl} (h0:XR f=0) {i:Nat} {s:St} (hs:(flL f.body)[i]? =some s) (h5:s.do_=5):0≤s.n∧s.n<f.hats.length:=by
 obtain⟨last,h1⟩:=X1H f.body true (QS h0).2.2.2.1 s (List.mem_of_getElem? hs);exact XaI h1 h5
theorem X7n {f:Fl} (h:Sm f) (h0:XR f=0) (k:Int) {x:Nat} (hx:x<f.vars.length) (hk:kdV f.vars x=true):
  (czL (prs true true (X06 f)) [k] ((flL f.body).length+f.vars.length+1))[(flL f.body).length+x]? =some true↔
   (x:Int)∈X0V f.vars (X0P f k) (flL f.body).length f.vars.length∨∃y∈X2g (X0l (flL f.body) (X0P f k) (flL f.body).length),∃g,f.hats[y.toNat]? =some g∧(x:Int)∈tmV g.term:=by
 have hd:=dps_of h h0 (depP_sub f);have hZ:∀n:Nat,n<(flL f.body).length+f.vars.length+1→((X0P f k)[n]? =some true↔Cz (prs true false (X06 f)) (fun x=>x∈[k]) (n:Int)):=fun n hn=>X7F hn;rw[X7F (by omega)];constructor
 · intro hc;cases hc with
   |base hb=>exact .inl (X4Z.2 ⟨x,rfl,hx,hk,(hZ _ (by omega)).2 (.base hb)⟩)
   | @step a _ hab hca=>
     obtain⟨e,he,_,hp⟩:=X0h.1 hab;simp only[if_true,Prod.mk.injEq]at hp;obtain⟨rfl,hp2⟩:=hp;rcases X6H h h0 ((X5Q f e).1 he)with⟨h2,ht⟩|⟨i,s,g,v,hs,h5,hg,hv,hvr,rfl⟩
     · have hd1:=X6B h h0 hca (by
        rcases ht with⟨i,h1,h3⟩|h1
        · exact .inl (by omega)
        exact .inr h1)
       exact .inl (X4Z.2 ⟨x,rfl,hx,hk,(hZ _ (by omega)).2 (hp2▸ .step (X0h.2 ⟨e,he,.inr h2,by simp⟩) hd1)⟩)
     right;have hi:=(List.getElem?_eq_some_iff.1 hs).1;have hd1:=X6B h h0 hca (.inl (by simp only;omega));have hvx:v=x:=by simp only at hp2;omega
     subst hvx;exact⟨s.n,(X5V _ _).2 (X5a.2 ⟨i,s,hi,hs,h5,(hZ i (by omega)).2 hd1,rfl⟩),g,hg,hv⟩
 rintro(hI|⟨y,hy,g,hg,hxg⟩)
 · obtain⟨v,hv,_,_,hS⟩:=X4Z.1 hI;have hvx:v=x:=by omega
   subst hvx;exact XaG ((hZ _ (by omega)).1 hS)
 obtain⟨i,s,hi,hs,h5,hS,rfl⟩:=X5a.1 ((X5V _ _).1 hy);have h1:=Cz.dep (hd.rel i s hs h5 g hg x hxg) (XaG ((hZ i (by omega)).1 hS));exact h1
theorem hats_rng {f:Fl} (h0:XR f=0) {k:Int}:∀y∈X2g (X0l (flL f.body) (X0P f k) (flL f.body).length),0≤y∧y<f.hats.length:=by
 intro y hy;obtain⟨i,s,hi,hs,h5,hS,rfl⟩:=X5a.1 ((X5V _ _).1 hy);exact hat_rng h0 hs h5
theorem chL_ok {N:Int}:∀(l:List Dp) (p:Option Dp),(∀e∈l,X5H N e=true∧kdB e=true)→l.Pairwise (fun a b=>dpB a b=true)→(∀q,p=some q→∀e∈l,dpB q e=true)→chL N p l=0
 |[],_,_,_,_=>rfl
 | x::l,p,h1,h2,h3=>by
   obtain⟨hr,hk⟩:=h1 x (by simp)
   have ho:ordF p x=true:=by
    cases p with
    |none=>rfl
    |some q=>exact h3 q rfl x (by simp)
   rw[chL,if_neg (by rw[hr];decide),if_neg (by rw[hk];decide),if_neg (by rw[ho];decide)];obtain⟨h4,h5⟩:=List.pairwise_cons.1 h2;exact chL_ok l (some x) (fun e he=>h1 e (by simp[he])) h5 fun q hq e he=>by cases hq;exact h4 e he
theorem ch_dep {f:Fl} (h:Sm f) (h0:XR f=0) (h1:(flL f.body).length≤1024) (h2:f.vars.length≤64):chF (flL f.body).length f.vars.length (X06 f)=0:=by
 have hb:hdB ((flL f.body).length:Int) f.vars.length=true:=by simp[hdB];omega
 rw[chF,if_neg (by rw[hb];decide)];refine chL_ok _ _ (fun e he=>?_) (X0v _) fun q hq=>by cases hq
 have h3:=X8m h h0 e he;unfold okDp at h3;simp only[X5H,kdB,Bool.and_eq_true,Bool.or_eq_true,decide_eq_true_eq];omega
end Go.Proofs.YtdajceakaakdoaaGreat

namespace Go.Proofs.YtdajceakaakdoaaGreat
open Go Go.Hl
theorem eqGA {α:Type} (a b:List α) (hl:a.length=b.length) (h:∀j:Nat,j<a.length→a[j]? =b[j]?):a=b:=by
 apply List.ext_getElem?;intro i;by_cases hi:i<a.length
 · exact h i hi
 rw[List.getElem?_eq_none (by omega),List.getElem?_eq_none (by omega)]
@[simp] theorem fsDp:X65 Tryz.prog 51=some [true,true,true]:=by kernel_rfl
@[simp] theorem arDp:arrI Tryz.prog 51=none:=by kernel_rfl
def lDp (l:List Dp):TV:=.one (.c (.sl 3 (Qn l)))
theorem eqDp_con (a b:List Dp) (ha:a.length≤1000000000) (hb:b.length≤1000000000) (d:Nat):Con Tryz.prog 24 true [lDp a,lDp b] (.v (lb (decide (a=b)))) none d:=by
 obtain⟨res,hres⟩:∃r,decide (a=b)=r:=⟨_,rfl⟩;rw[hres];simp only[lBl,lDp];refine X5 Tryz.func24 ?_;simp only[Tryz.f24];refine X1 ?_;refine X0<|X0<|X2 ?_;refine(Xc rfl (fun h2=>?_) fun h2=>?_)
 · try simp only[BN]at h2
   have hz:res=false:=by
    rw[←hres,decide_eq_false_iff_not];intro h;subst h;simp at h2
   subst hz;refine X1 ?_;exact Xe
 (try simp only[BN]at h2);have hle:a.length=b.length:=by omega
 clear h2;refine X0<|X0<|X2 ?_;refine X3<|(Xf [0,1,12] (fun(z:Nat)=>[(13,.v (li z))]) (fun z=>[]) (fun z=>z≤a.length∧∀k:Nat,k<z→a[k]? =b[k]?) (fun z=>a.length - z) (0:Nat) ⟨Nat.zero_le _,fun k hk=>absurd hk (Nat.not_lt_zero k)⟩ ?_ ?_)
 · exact X4 (fun n=>n) []
 rintro k ⟨hk,hall⟩;simp only[upS,X6,XB]
 try simp only[X6,KN,Nat.reduceBEq,if_true,if_false,ins,Nat.reduceLT]
 refine X1 ?_;refine X0<|(X7 rfl (fun h8=>Xb ?_) (fun h8=>?_))
 · (try simp only[BN]at h8);have hlt:k<a.length:=by omega
   obtain⟨x,he,_⟩:=Xt hlt;obtain⟨y,hey,_⟩:=Xt (show k<b.length by omega);have hw1:=XE hlt (by omega);have hk1:k+1≤a.length:=hlt;have hxe:=X0x he;have hye:=X0x hey;obtain⟨xf,xt,xk⟩:=x;obtain⟨yf,yt,yk⟩:=y;simp only[Dp.enc]at hxe hye;clear hlt h8;refine X0<|X3<|X0<|X2 ?_;refine X0<|(Qe (by kernel_rfl) (by kernel_rfl) (by rfl) (by simp[*];rfl) ?_);refine(Xc rfl (fun h11=>?_) fun h11=>?_)
   · try simp only[BN]at h11
     have hz:res=false:=by
      rw[←hres,decide_eq_false_iff_not];intro h;subst h;rw[he]at hey;cases hey;simp at h11
     subst hz;refine X1 ?_;exact Xe
   (try simp only[BN]at h11);refine X2 ?_
   exact⟨k+1,⟨hk1,fun j hj=>by
    rcases Nat.lt_or_eq_of_le (Nat.le_of_lt_succ hj)with h|h
    · exact hall j h
    rw[h,he,hey];have:xf=yf∧xt=yt∧xk=yk:=by simpa using h11
    rw[this.1,this.2.1,this.2.2]⟩,by omega,X4 (fun n=>n) []⟩
 try simp only[BN]at h8
 have hz:res=true:=by
  rw[←hres,decide_eq_true_eq];exact eqGA a b hle fun j hj=>hall j (by omega)
 subst hz;refine(Xg ?_);refine X1 ?_;exact Xe
theorem X4k (n:Int) (d:Nat):Con Tryz.prog 85 false [li n] (.v (aT (rfT n))) none d:=by
 simp only[aT,rfT,Tm.enc,XI,List.map_cons,List.map_nil];refine X5 Tryz.func85 ?_;simp only[Tryz.f85];refine X1 ?_;refine X0<|(X6X 2 [] [] (by simp[XO,QE,Q3];rfl) trivial (X1J 4 [.c (iC 24),.c (iC n),.c (.sl 3 [])] rfl (by(repeat'(first|exact LWk.nil|apply LWk.cons|exact CWk.refl _|exact CWk.nil _)))) (by simp;rfl) trivial ?_);exact Xe
set_option maxHeartbeats 8000000 in
theorem X7E (d:Nat):Con Tryz.prog 40 false [] (.v (aF exP)) none d:=by
 have c0:=X4k 0;have c1:=X4k 1;have c2:=X4k 2;have hq1:Wa 1 144:=Qc (by decide) (by decide);have hq2:Wa 5 144:=Qc (by decide) (by decide);have hq3:Wa 3 48:=Qc (by decide) (by decide);have hq4:Wa 1 72:=Qc (by decide) (by decide);simp only[exP,rfT,aF,aT,Fl.enc,Vr.enc,Ht.enc,Xu,Xv,Xi,X8,XI,St.enc,Tm.enc,List.map_cons,List.map_nil,List.cons_append,List.nil_append]at c0 c1 c2⊢;refine X5 Tryz.func40 ?_;simp only[Tryz.f40];refine X1 ?_;refine X1 ?_;refine X0<|(XN ?_);refine RunsN.cutE 6 [⟨false,.v (.agg [.c (iC 24),.c (iC 0),.c (.sl 3 [])]),none⟩] (by simp[*,XO,QE,Q3];first|exact⟨rfl,Iff.rfl⟩|exact⟨rfl,trivial⟩|rfl) (by first|exact c0 _|simpa using c0 _) (le_refl _) ?_;refine RunsN.cutE 5 [⟨false,.v (.agg [.c (iC 24),.c (iC 0),.c (.sl 3 [])]),none⟩] (by simp[*,XO,QE,Q3];first|exact⟨rfl,Iff.rfl⟩|exact⟨rfl,trivial⟩|rfl) (by first|exact c0 _|simpa using c0 _) (X1J 12 [.c (iC 0),.c (iC 0),.c (iC 1),.c (iC 0),.c (iC 24),.c (iC 0),.c (.sl 3 []),.c (.sl 10 []),.c (.sl 10 []),.c (.sl 1 [])] rfl (by(repeat'(first|exact LWk.nil|apply LWk.cons|exact CWk.refl _|exact CWk.nil _)))) ?_;refine RunsN.cutE 4 [⟨false,.v (.agg [.c (iC 24),.c (iC 1),.c (.sl 3 [])]),none⟩] (by simp[*,XO,QE,Q3];first|exact⟨rfl,Iff.rfl⟩|exact⟨rfl,trivial⟩|rfl) (by first|exact c1 _|simpa using c1 _) (X1J 16 [.c (iC 0),.c (iC 1),.c (iC 2),.c (iC 0),.c (iC 0),.c (iC 1),.c (.sl 3 []),.c (.sl 10 []),.c (.sl 10 []),.c (.sl 1 [])] rfl (by(repeat'(first|exact LWk.nil|apply LWk.cons|exact CWk.refl _|exact CWk.nil _)))) ?_;refine RunsN.cutE 1 [] (by simp[*,XO,QE,Q3];rfl) trivial (QQ 17 rfl) ?_;refine RunsN.cutE 1 [] (by simp[*,XO,QE,Q3];rfl) trivial (X1J 18 [.c (iC 3),.c (iC 0),.c (iC 0),.c (iC 0),.c (iC 24),.c (iC 1),.c (.sl 3 []),.c (.sl 10 [[iC 0,iC 1,iC 2,iC 0,iC 0,iC 1,.sl 3 [],.sl 10 [],.sl 10 [],.sl 1 []]]),.c (.sl 10 []),.c (.sl 1 [])] rfl (by(repeat'(first|exact LWk.nil|apply LWk.cons|exact CWk.refl _|exact CWk.nil _)))) ?_;refine RunsN.cutE 3 [⟨false,.v (.agg [.c (iC 24),.c (iC 2),.c (.sl 3 [])]),none⟩] (by simp[*,XO,QE,Q3];first|exact⟨rfl,Iff.rfl⟩|exact⟨rfl,trivial⟩|rfl) (by first|exact c2 _|simpa using c2 _) (X1J 21 [.c (iC 1),.c (iC 0),.c (iC 0),.c (iC 0),.c (iC 24),.c (iC 2),.c (.sl 3 []),.c (.sl 10 []),.c (.sl 10 []),.c (.sl 1 [])] rfl (by(repeat'(first|exact LWk.nil|apply LWk.cons|exact CWk.refl _|exact CWk.nil _)))) ?_;refine RunsN.cutE 1 [] (by simp[*,XO,QE,Q3];rfl) trivial (X1J 22 [.c (iC 5),.c (iC 0),.c (iC 1),.c (iC 0),.c (iC 0),.c (iC 0),.c (.sl 3 []),.c (.sl 10 []),.c (.sl 10 []),.c (.sl 1 [])] rfl (by(repeat'(first|exact LWk.nil|apply LWk.cons|exact CWk.refl _|exact CWk.nil _)))) ?_;refine RunsN.cutE 3 [⟨false,.v (.agg [.c (iC 24),.c (iC 1),.c (.sl 3 [])]),none⟩] (by simp[*,XO,QE,Q3];first|exact⟨rfl,Iff.rfl⟩|exact⟨rfl,trivial⟩|rfl) (by first|exact c1 _|simpa using c1 _) (X1J 25 [.c (iC 1),.c (iC 0),.c (iC 0),.c (iC 0),.c (iC 24),.c (iC 1),.c (.sl 3 []),.c (.sl 10 []),.c (.sl 10 []),.c (.sl 1 [])] rfl (by(repeat'(first|exact LWk.nil|apply LWk.cons|exact CWk.refl _|exact CWk.nil _)))) ?_;refine RunsN.cutE 1 [] (by simp[*,XO,QE,Q3];rfl) trivial (le_trans (QQ 5 rfl) (le_trans (QQ 9 rfl) (QQ 26 rfl))) ?_;refine RunsN.cutE 1 [] (by simp[*,XO,QE,Q3];rfl) trivial (X1J 27 [.c (.sl 5 [[sC ⟨#[120]⟩,iC 1,iC 0,iC 1,iC 0],[sC ⟨#[121]⟩,iC 0,iC 0,iC 1,iC 0],[sC ⟨#[122]⟩,iC 0,iC 0,iC 1,iC 0]]),.c (.sl 6 [[sC ⟨#[104]⟩,iC 0,iC 1,iC 24,iC 0,.sl 3 []]]),.c (.sl 10 [[iC 0,iC 0,iC 1,iC 0,iC 24,iC 0,.sl 3 [],.sl 10 [],.sl 10 [],.sl 1 []],[iC 3,iC 0,iC 0,iC 0,iC 24,iC 1,.sl 3 [],.sl 10 [[iC 0,iC 1,iC 2,iC 0,iC 0,iC 1,.sl 3 [],.sl 10 [],.sl 10 [],.sl 1 []]],.sl 10 [],.sl 1 []],[iC 1,iC 0,iC 0,iC 0,iC 24,iC 2,.sl 3 [],.sl 10 [],.sl 10 [],.sl 1 []],[iC 5,iC 0,iC 1,iC 0,iC 0,iC 0,.sl 3 [],.sl 10 [],.sl 10 [],.sl 1 []],[iC 1,iC 0,iC 0,iC 0,iC 24,iC 1,.sl 3 [],.sl 10 [],.sl 10 [],.sl 1 []]])] rfl (by(repeat'(first|exact LWk.nil|apply LWk.cons|exact CWk.refl _|exact CWk.nil _)))) ?_;refine RunsN.doneE [] (by simp[*,XO,QE,Q3];rfl) trivial ?_;exact Xe
theorem ex_dirZ:X0P exP 5=[false,false,false,false,true,true,false,false,false,false]:=by
 unfold X0P X06;rw[XaL];exact exP_src
set_option maxHeartbeats 16000000 in
theorem X8W (d:Nat):Con Tryz.prog 12 false [] (.v (lb true)) none d:=by
 have ce:=X7E;have cb:=X1E exP X9P;have cs:=X2k exP X9P 5;have e1:=eqDp_con exW exW (by decide) (by decide);have e2:=eqSl_con [0] [0] (by decide) (by decide)
 have hb:bdR exP=.tup [.agg [.c (iC 6),.c (iC 3),.c (.sl 3 (Qn exW))],li 0]:=by
  unfold bdR;rw[X5S,XaL];rfl
 have hs:srcR exP 5=.tup [lI [],lI [0],li 0]:=by
  unfold srcR;rw[X5S,ex_dirZ];have e1:X0V exP.vars [false,false,false,false,true,true,false,false,false,false] (flL exP.body).length exP.vars.length=[]:=by kernel_rfl
  have e2:X0l (flL exP.body) [false,false,false,false,true,true,false,false,false,false] (flL exP.body).length=[0]:=by kernel_rfl
  rw[e1,e2];have e3:X2g [0]=[0]:=by unfold X2g;rw[List.mergeSort_singleton];rfl
  rw[e3];rfl
 rw[hb]at cb;rw[hs]at cs;have hq1:Wa 8 24:=Qc (by decide) (by decide);have hq2:Wa 1 8:=Qc (by decide) (by decide);simp only[exW,lDp,Qn,Dp.enc,exP,rfT,aF,aT,Fl.enc,Vr.enc,Ht.enc,Xu,Xv,Xi,X8,XI,St.enc,Tm.enc,List.map_cons,List.map_nil,List.cons_append,List.nil_append,if_true,decide_true,Bool.and_true,lI]at ce cb cs e1 e2;clear hb hs;refine X5 Tryz.func12 ?_;simp only[Tryz.f12];refine X1 ?_;refine Xm [⟨false,.v (.agg [.c (.sl 5 [[sC ⟨#[120]⟩,iC 1,iC 0,iC 1,iC 0],[sC ⟨#[121]⟩,iC 0,iC 0,iC 1,iC 0],[sC ⟨#[122]⟩,iC 0,iC 0,iC 1,iC 0]]),.c (.sl 6 [[sC ⟨#[104]⟩,iC 0,iC 1,iC 24,iC 0,.sl 3 []]]),.c (.sl 10 [[iC 0,iC 0,iC 1,iC 0,iC 24,iC 0,.sl 3 [],.sl 10 [],.sl 10 [],.sl 1 []],[iC 3,iC 0,iC 0,iC 0,iC 24,iC 1,.sl 3 [],.sl 10 [[iC 0,iC 1,iC 2,iC 0,iC 0,iC 1,.sl 3 [],.sl 10 [],.sl 10 [],.sl 1 []]],.sl 10 [],.sl 1 []],[iC 1,iC 0,iC 0,iC 0,iC 24,iC 2,.sl 3 [],.sl 10 [],.sl 10 [],.sl 1 []],[iC 5,iC 0,iC 1,iC 0,iC 0,iC 0,.sl 3 [],.sl 10 [],.sl 10 [],.sl 1 []],[iC 1,iC 0,iC 0,iC 0,iC 24,iC 1,.sl 3 [],.sl 10 [],.sl 10 [],.sl 1 []]])]),none⟩,⟨false,.tup [.agg [.c (iC 6),.c (iC 3),.c (.sl 3 [[iC 0,iC 1,iC 0],[iC 1,iC 2,iC 1],[iC 1,iC 9,iC 1],[iC 2,iC 3,iC 0],[iC 4,iC 5,iC 0],[iC 6,iC 0,iC 0],[iC 6,iC 4,iC 2],[iC 8,iC 3,iC 0]])],li 0],none⟩] ?_ ?_
 · first|exact⟨ce _,cb _⟩|exact trivial|(repeat' first|exact trivial|exact ce _|exact cb _|apply And.intro)
 refine X0<|(Xq (by simp[*,XO,QE,Q3,cellsOf,W8];rfl) ?_);refine Xm [⟨false,.v (.agg [.c (.sl 5 [[sC ⟨#[120]⟩,iC 1,iC 0,iC 1,iC 0],[sC ⟨#[121]⟩,iC 0,iC 0,iC 1,iC 0],[sC ⟨#[122]⟩,iC 0,iC 0,iC 1,iC 0]]),.c (.sl 6 [[sC ⟨#[104]⟩,iC 0,iC 1,iC 24,iC 0,.sl 3 []]]),.c (.sl 10 [[iC 0,iC 0,iC 1,iC 0,iC 24,iC 0,.sl 3 [],.sl 10 [],.sl 10 [],.sl 1 []],[iC 3,iC 0,iC 0,iC 0,iC 24,iC 1,.sl 3 [],.sl 10 [[iC 0,iC 1,iC 2,iC 0,iC 0,iC 1,.sl 3 [],.sl 10 [],.sl 10 [],.sl 1 []]],.sl 10 [],.sl 1 []],[iC 1,iC 0,iC 0,iC 0,iC 24,iC 2,.sl 3 [],.sl 10 [],.sl 10 [],.sl 1 []],[iC 5,iC 0,iC 1,iC 0,iC 0,iC 0,.sl 3 [],.sl 10 [],.sl 10 [],.sl 1 []],[iC 1,iC 0,iC 0,iC 0,iC 24,iC 1,.sl 3 [],.sl 10 [],.sl 10 [],.sl 1 []]])]),none⟩,⟨false,.tup [.one (.c (.sl 1 [])),.one (.c (.sl 1 [[iC 0]])),li 0],none⟩] ?_ ?_
 · first|exact⟨ce _,cs _⟩|exact trivial|(repeat' first|exact trivial|exact ce _|exact cs _|apply And.intro)
 refine Xm [⟨true,.v (lb true),none⟩,⟨true,.v (lb true),none⟩] ?_ ?_
 · first|exact⟨e1 _,e2 _⟩|exact trivial|(repeat' first|exact trivial|exact e1 _|exact e2 _|apply And.intro)
 exact Xe
end Go.Proofs.YtdajceakaakdoaaGreat

namespace Go.Proofs.YtdajceakaakdoaaGreat
open Go Go.Hl
end Go.Proofs.YtdajceakaakdoaaGreat

namespace Go.Proofs.YtdajceakaakdoaaGreat
open Go Go.Hl
theorem tmV_cons (t:Tm) (l:List Tm) (x:Int):decide (x∈X0O (t::l))=(decide (x∈tmV t)||decide (x∈X0O l)):=by
 simp[X0O]
theorem X7a (x:Int) (t:Tm):t.nodes≤1000000→∀d,Con Tryz.prog 37 true [aT t,li x] (.v (lb (decide (x∈tmV t)))) none d:=by
 induction t using Tm.ind with
 |h o n ks ih=>
 intro hn d;simp only[Tm.nodes]at hn;have hlen:=We ks;obtain⟨res,hres⟩:∃r,decide (x∈tmV (.mk o n ks))=r:=⟨_,rfl⟩;rw[hres];by_cases h24:o=24∧n=x
 · have hr:res=true:=by rw[←hres];simp[tmV,h24.1,h24.2]
   subst hr;obtain⟨rfl,rfl⟩:=h24;refine X5 Tryz.func37 ?_;simp only[Tryz.f37];simp only[aT,Tm.enc,List.map_cons,List.map_nil];refine X1 ?_;refine X0<|X0<|X2 ?_;refine(Xc rfl (fun h2=>?_) fun h2=>?_)
   · (try simp only[BN]at h2);refine X1 ?_;exact Xe
   exact absurd h2 (by simp)
 have hj0:decide (x∈X0O (ks.drop 0))=res:=by
  rw[←hres,List.drop_zero];simp only[tmV,List.mem_append,decide_eq_decide];constructor
  · exact .inr
  rintro(h|h)
  · split at h
    · rename_i h1;exact absurd ⟨h1,(List.mem_singleton.1 h).symm⟩ h24
    cases h
  exact h
 refine X5 Tryz.func37 ?_;simp only[Tryz.f37];simp only[aT,Tm.enc,List.map_cons,List.map_nil];refine X1 ?_;refine X0<|X0<|X2 ?_;refine(Xc rfl (fun h2=>?_) fun h2=>?_)
 · exfalso;exact h24 (by simpa using h2)
 (try simp only[BN]at h2);refine X0<|X0<|X2 ?_;refine X3<|(Xf [1,17,18] (fun(y:Nat)=>[(19,.v (li y))]) (fun y=>[]) (fun y=>y≤ks.length∧decide (x∈X0O (ks.drop y))=res) (fun y=>ks.length - y) (0:Nat) ⟨Nat.zero_le _,hj0⟩ ?_ ?_)
 · exact X4 (fun n=>n) []
 rintro y ⟨hy,hj⟩;simp only[upS,X6,XB]
 try simp only[X6,KN,Nat.reduceBEq,if_true,if_false,ins,Nat.reduceLT]
 clear hj0;refine X1 ?_;refine X0<|(X7 rfl (fun h8=>Xb ?_) (fun h8=>?_))
 · (try simp only[BN]at h8);have hlt:y<ks.length:=by first|omega|simpa using h8
   obtain⟨t,he,hd⟩:=Xt hlt;have hw1:=XE hlt (by omega);have hk1:y+1≤ks.length:=hlt;have hmem:t∈ks:=List.mem_of_getElem? he;have hnm:=ZN hmem;rw[hd,tmV_cons]at hj;have he':=Wv he;have ct:=ih t hmem (by omega);obtain⟨to0,tn,tk⟩:=t;obtain⟨A,hA⟩:∃z,decide (x∈tmV (Tm.mk to0 tn tk))=z:=⟨_,rfl⟩;rw[hA]at ct hj;simp only[Tm.enc]at he';simp only[aT,Tm.enc,List.map_cons,List.map_nil]at ct;clear hlt h8 ih hmem hd he hA hnm;refine X0<|X3<|X0<|X2 ?_;refine Xm [⟨true,.v (lb A),none⟩] ?_ ?_
   · first|exact ct _|exact trivial|simpa[*]using ct _
   refine(Xc rfl (fun h11=>?_) fun h11=>?_)
   · (try simp only[BN]at h11);have hA:A=true:=by simpa using h11
     subst hA;have hr:res=true:=by rw[←hj];rfl
     subst hr;refine X1 ?_;exact Xe
   (try simp only[BN]at h11);have hA:A=false:=by simpa using h11
   subst hA;have hj2:decide (x∈X0O (ks.drop (y+1)))=res:=by rw[←hj];rfl
   refine X2 ?_;exact⟨y+1,⟨hk1,hj2⟩,by omega,X4 (fun n=>n) []⟩
 try simp only[BN]at h8
 have hr:res=false:=by
  rw[←hj,List.drop_eq_nil_of_le (by omega)];simp[X0O]
 subst hr;refine(Xg ?_);refine X1 ?_;exact Xe
theorem few_sm12 {f:Fl} (h:fewB f 12 120=true):Sm f∧f.vars.length≤12∧f.hats.length≤12∧Xl f.body+Qr f.hats≤120:=by
 obtain⟨h1,h2,h3,h4⟩:=fewB_in (by omega) h;exact⟨⟨by omega,by omega,by omega,h4⟩,by omega,by omega,by omega⟩
theorem menH_iff {hats:List Ht} {x:Int} {l:List Int}:X4M hats x l=true↔∃y∈l,∃g,hats[y.toNat]? =some g∧x∈tmV g.term:=by
 unfold X4M;rw[List.any_eq_true];refine exists_congr fun y=>and_congr Iff.rfl ?_;cases h:hats[y.toNat]? with
 |none=>simp
 |some g=>simp
theorem X7Y {f:Fl} (h:Sm f) (h0:XR f=0) (k:Int) {x:Nat} (hx:x<f.vars.length) (hk:kdV f.vars x=true) {b:Bool}
  (hb:(czL (prs true true (X06 f)) [k] ((flL f.body).length+f.vars.length+1))[(flL f.body).length+x]? =some b):
  b=(decide ((x:Int)∈X0V f.vars (X0P f k) (flL f.body).length f.vars.length)||X4M f.hats x (X2g (X0l (flL f.body) (X0P f k) (flL f.body).length))):=by
 have h1:=X7n h h0 k hx hk;rw[hb,←menH_iff]at h1;rw[Bool.eq_iff_iff,Bool.or_eq_true,decide_eq_true_eq,←h1];simp
theorem srcR_ok {f:Fl} (h0:XR f=0) {k:Int} (hk:0≤k∧k≤((flL f.body).length:Int)+f.vars.length):srcR f k=.tup [lI (X0V f.vars (X0P f k) (flL f.body).length f.vars.length),lI (X2g (X0l (flL f.body) (X0P f k) (flL f.body).length)),li 0]:=by
 unfold srcR;rw[if_pos h0,if_pos hk]
theorem hatC_len (l:List Int):(X2g l).length≤l.length:=by
 unfold X2g Lib.compact Lib.compactUpTo;rw[List.length_map];exact Nat.le_trans (List.length_filter_le _ _) (by simp)
set_option maxHeartbeats 32000000 in
theorem X7i (f:Fl) (nd:Nat) (hnd:nd<256) (d:Nat):Con Tryz.prog 10 true [aF f,l8 nd] (.v (lb true)) none d:=by
 have ck:=X8W;have cf:=few_con f 12 120 (by omega) (by omega);by_cases hfew:fewB f 12 120=true
 · rw [hfew]at cf;obtain⟨hS,hv1,hh1,hn1⟩:=few_sm12 hfew;have cc:=Xae f (by omega) (by omega) (by omega) hS.bnd;by_cases h0:XR f=0
   · have csz:=Xc4 f.body (by omega);have hfl:=XY f.body;have hsn:=X13 f.body;rw[←hfl]at csz;have hN0:(flL f.body).length+f.vars.length+1≤1000:=by omega
     have hkM:=Nat.mod_lt nd (show 0<(flL f.body).length+f.vars.length+1 by omega)
     have m1:((nd:Int).tmod (((flL f.body).length+f.vars.length+1:Nat):Int))=((nd%((flL f.body).length+f.vars.length+1):Nat):Int):=by
      rw[Int.tmod_eq_emod_of_nonneg (by omega)];exact(Int.natCast_emod nd _).symm
     obtain⟨k,hk⟩:∃k,nd%((flL f.body).length+f.vars.length+1)=k:=⟨_,rfl⟩;rw[hk]at m1 hkM;have cs:=X2k f hS k;rw[srcR_ok h0 ⟨by omega,by omega⟩]at cs;have cb:=X1E f hS;unfold bdR at cb;have hdl:Wr (X1b f)=X06 f:=rfl;rw[h0,hdl]at cb;simp only[if_true]at cb;have cB:=back_con ((flL f.body).length:Int) f.vars.length (X06 f) [(k:Int)] (X87 hS h0) (by simp);unfold wkR at cB;have hnb:X48 (((flL f.body).length:Int)+f.vars.length+1) [(k:Int)]=true:=by simp[X48];omega
     have hN:(((flL f.body).length:Int)+f.vars.length+1).toNat=(flL f.body).length+f.vars.length+1:=by omega
     simp only[ch_dep hS h0 (by omega) (by omega),hnb,and_self,if_true,hN]at cB;have hin:=fun(x:Nat) (hx:x<f.vars.length) hk2 b hb=>X7Y hS h0 (k:Int) (x:=x) hx hk2 (b:=b) hb;have hZl:(czL (prs true true (X06 f)) [(k:Int)] ((flL f.body).length+f.vars.length+1)).length=(flL f.body).length+f.vars.length+1:=X4T ..;have hHr:=hats_rng (k:=(k:Int)) h0;have hIl:=X8v f.vars (X0P f k) (flL f.body).length f.vars.length;have hHl:=hatC_len (X0l (flL f.body) (X0P f k) (flL f.body).length);have hHl2:=X62 (flL f.body) (X0P f k) (flL f.body).length;obtain⟨I,hI⟩:∃z,X0V f.vars (X0P f k) (flL f.body).length f.vars.length=z:=⟨_,rfl⟩;obtain⟨H,hH⟩:∃z,X2g (X0l (flL f.body) (X0P f k) (flL f.body).length)=z:=⟨_,rfl⟩;obtain⟨Z,hZ⟩:∃z,czL (prs true true (X06 f)) [(k:Int)] ((flL f.body).length+f.vars.length+1)=z:=⟨_,rfl⟩;obtain⟨E,hE⟩:∃z,X06 f=z:=⟨_,rfl⟩;simp only[hI,hH]at cs hin hHr hIl hHl;simp only[hZ]at cB hin hZl;simp only[hE]at cb cB;have hHn:H.length≤(flL f.body).length:=by omega
     clear hHl hHl2;have hmen:=fun(h:Ht) (hh:h∈f.hats) (x:Int)=>X7a x h.term (by have:=X18 hh;omega);rw[h0]at cc;obtain⟨n,hn⟩:∃n,(flL f.body).length=n:=⟨_,rfl⟩;rw[hn]at csz hN0 m1 hkM cb cB hZl hHn;simp only[hn]at hin;clear hfew hS h0 hfl hsn hk hdl hnb hN hI hH hZ hE hn hn1;obtain⟨vars,hats,body⟩:=f;simp only[aF,Fl.enc,List.map_cons,List.map_nil,aPd]at*;obtain⟨V,hV⟩:∃n,vars.length=n:=⟨_,rfl⟩;rw[hV]at hv1 hN0 m1 hkM cb cB hZl hIl;simp only[hV]at hin;obtain⟨M,hM⟩:∃M,n+V+1=M:=⟨_,rfl⟩;rw[hM]at hN0 m1 hkM hZl;exact X9f vars hats body nd k n V M I H Z (Qn E) ck cf cc csz cs cb cB hmen hnd hV hv1 hh1 hM hN0 hkM m1 hZl hIl hHn hHr (fun x hx v hv hk b hb=>hin x hx (by unfold kdV;rw[hv];simpa using hk) b hb) d
   obtain⟨C,hC⟩:∃x,XR f=x:=⟨_,rfl⟩;rw[hC]at h0 cc;clear hC hfew hS;obtain⟨vars,hats,body⟩:=f;simp only[aF,Fl.enc,List.map_cons,List.map_nil]at*;refine X5 Tryz.func10 ?_;simp only[Tryz.f10];refine X1 ?_;refine X0<|X0<|(Xp [⟨false,.v (lb true),none⟩] ?_ ?_)
   · first|exact ck _|exact trivial|simpa[*]using ck _
   refine(Xc rfl (fun h2=>?_) fun h2=>?_)
   · exact absurd h2 (by simp)
   (try simp only[BN]at h2);refine X0<|X0<|(Xp [⟨true,.v (lb true),none⟩,⟨true,.v (li C),none⟩] ?_ ?_)
   · first|exact⟨cf _,cc _⟩|exact trivial|(repeat' first|exact trivial|exact cf _|exact cc _|apply And.intro)
   refine(Xc rfl (fun h6=>?_) fun h6=>?_)
   · (try simp only[BN]at h6);refine X1 ?_;exact Xe
   exact absurd h6 (by simp[h0])
 have hfew:fewB f 12 120=false:=by simpa using hfew
 rw[hfew]at cf;obtain⟨vars,hats,body⟩:=f;simp only[aF,Fl.enc,List.map_cons,List.map_nil]at*;refine X5 Tryz.func10 ?_;simp only[Tryz.f10];refine X1 ?_;refine X0<|X0<|(Xp [⟨false,.v (lb true),none⟩] ?_ ?_)
 · first|exact ck _|exact trivial|simpa[*]using ck _
 refine(Xc rfl (fun h2=>?_) fun h2=>?_)
 · exact absurd h2 (by simp)
 (try simp only[BN]at h2);refine X0<|X0<|(X0F [some ⟨true,.v (lb false),none⟩,none] (by simp[*];first|exact⟨rfl,Iff.rfl⟩|exact⟨rfl,trivial⟩|rfl) ?_ ?_)
 · first|exact trivial|exact cf _|simpa using cf _
 refine(Xc rfl (fun h6=>?_) fun h6=>?_)
 · (try simp only[BN]at h6);refine X1 ?_;exact Xe
 exact absurd h6 (by simp)
end Go.Proofs.YtdajceakaakdoaaGreat

namespace Go.Proofs.YtdajceakaakdoaaGreat
open Go Go.Hl Go.RowKit Go.ChangeShapes Go.Proofs.YtdajceakaakdoaaGreat
theorem tiled:X8R Tryz.prog:=tiled_mk (by kernel_rfl)
theorem own:ownKnob Tryz.prog.godebug=none:=by kernel_rfl
theorem laidOut:laidOutB Tryz.prog=true:=by kernel_rfl
section
variable {P:Program} {k:Nat} {t:TypeId} {ds:List CD}
theorem Zo {α:Type} {enc:α→List CD} {e:TypeId} {c:Nat} (hu:P.underlying t=some (.slice e)) (hc:P.cellsOf e=c) (he:∀k',k'<k→∀r,QA P k' e r→∃x,r=enc x) (h:QA P k t ds):∃xs:List α,ds=[.sl c (xs.map enc)]:=by
 cases k with
 |zero=>exact h.elim
 | succ k=>
   unfold QA at h;rw[hu]at h;obtain⟨rows,h1,_,h3⟩:=h;obtain⟨xs,hxs⟩:=X93 (enc:=enc) fun r hr=>he k (Nat.lt_succ_self k) r (h3 r hr).2;subst hxs;exact⟨xs,by rw[h1,hc]⟩
theorem WQ {fs:Array Field} {l:List (Nat×Nat×TypeId)} {c:Nat} (hu:P.underlying t=some (.struct fs)) (hl:X8Y P fs=l) (hc:P.cellsOf t=c) (h:QA P k t ds):ds.length=c∧∃k',k'<k∧∀x∈l,QA P k' x.2.2 ((ds.drop x.1).take x.2.1):=by
 cases k with
 |zero=>exact h.elim
 | succ k=>
   unfold QA at h;rw[hu]at h;have h':ds.length=P.cellsOf t∧∀x∈X8Y P fs,QA P k x.2.2 ((ds.drop x.1).take x.2.1):=h;exact⟨hc▸h'.1,k,Nat.lt_succ_self k,fun x hx=>h'.2 x (hl▸hx)⟩
end
theorem X0K {k:Nat} {t:TypeId} {ds:List CD} (hu:Tryz.prog.underlying t=some (.int .i64)) (h:QA Tryz.prog k t ds):∃n:Int,ds=[iC n]:=by
 obtain⟨n,h1,_⟩:=X6F hu h;exact⟨n,h1⟩
theorem dec_s {k:Nat} {ds:List CD} (h:QA Tryz.prog k 9 ds):∃s:ByteArray,ds=[sC s]:=by
 obtain⟨s,h1,_⟩:=Xce Tryz.underlying9 h;exact⟨s,h1⟩
theorem dec_I {k:Nat} {ds:List CD} (h:QA Tryz.prog k 29 ds):∃l:List Int,ds=[.sl 1 (Xi l)]:=
 Zo (enc:=fun x=>[iC x]) Tryz.underlying29 (by kernel_rfl:Tryz.prog.cellsOf 3=1) (fun _ _ _ hr=>X0K Tryz.underlying3 hr) h
theorem dec_T:∀(k:Nat) (ds:List CD),QA Tryz.prog k 68 ds→∃t:Tm,ds=t.enc:=by
 intro k
 induction k using Nat.strongRecOn with
 | ind k ih=>
   intro ds h;obtain⟨hl,k1,hk1,hx⟩:=WQ (l:=[(0,1,65),(1,1,3),(2,1,66)]) Tryz.underlying68 (by kernel_rfl) (by kernel_rfl:Tryz.prog.cellsOf 68=3) h
   match ds,hl with
   | [a,b,c],_=>
     obtain⟨n1,h1⟩:=X0K Tryz.underlying65 (hx (0,1,65) (by simp));obtain⟨n2,h2⟩:=X0K Tryz.underlying3 (hx (1,1,3) (by simp));obtain⟨ks,h3⟩:=Zo (enc:=Tm.enc) Tryz.underlying66 (by kernel_rfl:Tryz.prog.cellsOf 68=3) (fun k' hk' r hr=>ih k' (by omega) r hr) (hx (2,1,66) (by simp));simp only[List.drop,List.take,List.cons.injEq,and_true]at h1 h2 h3;subst h1 h2 h3;exact⟨.mk n1 n2 ks,by simp only[Tm.enc,X0I]⟩
theorem dec_S:∀(k:Nat) (ds:List CD),QA Tryz.prog k 70 ds→∃s:St,ds=s.enc:=by
 intro k
 induction k using Nat.strongRecOn with
 | ind k ih=>
   intro ds h;obtain⟨hl,k1,hk1,hx⟩:=WQ (l:=[(0,1,64),(1,1,3),(2,1,3),(3,1,3),(4,3,68),(7,1,24),(8,1,24),(9,1,29)]) Tryz.underlying70 (by kernel_rfl) (by kernel_rfl:Tryz.prog.cellsOf 70=10) h
   match ds,hl with
   | [a0,a1,a2,a3,a4,a5,a6,a7,a8,a9],_=>
     obtain⟨n0,h0⟩:=X0K Tryz.underlying64 (hx (0,1,64) (by simp));obtain⟨n1,h1⟩:=X0K Tryz.underlying3 (hx (1,1,3) (by simp));obtain⟨n2,h2⟩:=X0K Tryz.underlying3 (hx (2,1,3) (by simp));obtain⟨n3,h3⟩:=X0K Tryz.underlying3 (hx (3,1,3) (by simp));obtain⟨t,h4⟩:=dec_T _ _ (hx (4,3,68) (by simp));obtain⟨la,h7⟩:=Zo (enc:=St.enc) Tryz.underlying24 (by kernel_rfl:Tryz.prog.cellsOf 70=10) (fun k' hk' r hr=>ih k' (by omega) r hr) (hx (7,1,24) (by simp));obtain⟨lb',h8⟩:=Zo (enc:=St.enc) Tryz.underlying24 (by kernel_rfl:Tryz.prog.cellsOf 70=10) (fun k' hk' r hr=>ih k' (by omega) r hr) (hx (8,1,24) (by simp));obtain⟨lc,h9⟩:=dec_I (hx (9,1,29) (by simp));simp only[List.drop,List.take,List.cons.injEq,and_true]at h0 h1 h2 h3 h4 h7 h8 h9;subst h0 h1 h2 h3 h7 h8 h9;refine⟨.mk n0 n1 n2 n3 t la lb' lc,?_⟩;simp only[St.enc,WD,←h4,List.cons_append,List.nil_append]
theorem dec_V {k:Nat} {ds:List CD} (h:QA Tryz.prog k 89 ds):∃v:Vr,ds=v.enc:=by
 obtain⟨hl,k1,_,hx⟩:=WQ (l:=[(0,1,9),(1,1,87),(2,1,3),(3,1,3),(4,1,3)]) Tryz.underlying89 (by kernel_rfl) (by kernel_rfl:Tryz.prog.cellsOf 89=5) h
 match ds,hl with
 | [a0,a1,a2,a3,a4],_=>
   obtain⟨n0,h0⟩:=dec_s (hx (0,1,9) (by simp));obtain⟨n1,h1⟩:=X0K Tryz.underlying87 (hx (1,1,87) (by simp));obtain⟨n2,h2⟩:=X0K Tryz.underlying3 (hx (2,1,3) (by simp));obtain⟨n3,h3⟩:=X0K Tryz.underlying3 (hx (3,1,3) (by simp));obtain⟨n4,h4⟩:=X0K Tryz.underlying3 (hx (4,1,3) (by simp));simp only[List.drop,List.take,List.cons.injEq,and_true]at h0 h1 h2 h3 h4;subst h0 h1 h2 h3 h4;exact⟨⟨n0,n1,n2,n3,n4⟩,rfl⟩
theorem dec_H {k:Nat} {ds:List CD} (h:QA Tryz.prog k 93 ds):∃v:Ht,ds=v.enc:=by
 obtain⟨hl,k1,_,hx⟩:=WQ (l:=[(0,1,9),(1,1,3),(2,1,3),(3,3,68)]) Tryz.underlying93 (by kernel_rfl) (by kernel_rfl:Tryz.prog.cellsOf 93=6) h
 match ds,hl with
 | [a0,a1,a2,a3,a4,a5],_=>
   obtain⟨n0,h0⟩:=dec_s (hx (0,1,9) (by simp));obtain⟨n1,h1⟩:=X0K Tryz.underlying3 (hx (1,1,3) (by simp));obtain⟨n2,h2⟩:=X0K Tryz.underlying3 (hx (2,1,3) (by simp));obtain⟨t,h3⟩:=dec_T _ _ (hx (3,3,68) (by simp));simp only[List.drop,List.take,List.cons.injEq,and_true]at h0 h1 h2 h3;subst h0 h1 h2;exact⟨⟨n0,n1,n2,t⟩,by simp only[Ht.enc,←h3,List.cons_append,List.nil_append]⟩
theorem dec_F {k:Nat} {ds:List CD} (h:QA Tryz.prog k 26 ds):∃f:Fl,ds=f.enc:=by
 obtain⟨hl,k1,_,hx⟩:=WQ (l:=[(0,1,22),(1,1,23),(2,1,24)]) Tryz.underlying26 (by kernel_rfl) (by kernel_rfl:Tryz.prog.cellsOf 26=3) h
 match ds,hl with
 | [a0,a1,a2],_=>
   obtain⟨lv,h0⟩:=Zo (enc:=Vr.enc) Tryz.underlying22 (by kernel_rfl:Tryz.prog.cellsOf 89=5) (fun _ _ _ hr=>dec_V hr) (hx (0,1,22) (by simp));obtain⟨lh,h1⟩:=Zo (enc:=Ht.enc) Tryz.underlying23 (by kernel_rfl:Tryz.prog.cellsOf 93=6) (fun _ _ _ hr=>dec_H hr) (hx (1,1,23) (by simp));obtain⟨ls,h2⟩:=Zo (enc:=St.enc) Tryz.underlying24 (by kernel_rfl:Tryz.prog.cellsOf 70=10) (fun k' _ r hr=>dec_S k' r hr) (hx (2,1,24) (by simp));simp only[List.drop,List.take,List.cons.injEq,and_true]at h0 h1 h2;subst h0 h1 h2;exact⟨⟨lv,lh,ls⟩,by simp only[Fl.enc,Xu,Xv,WD]⟩
theorem aggF:aggT Tryz.prog 26=true:=by unfold aggT;rw[Tryz.underlying26]
end Go.Proofs.YtdajceakaakdoaaGreat

namespace Go.Proofs.YtdajceakaakdoaaGreat
open Go Go.Hl Go.RowKit Go.ChangeShapes Go.Proofs.YtdajceakaakdoaaGreat
end Go.Proofs.YtdajceakaakdoaaGreat
