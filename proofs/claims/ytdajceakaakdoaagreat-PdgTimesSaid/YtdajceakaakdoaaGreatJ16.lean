/- Contracts of functions and plain facts about what they compute. Conditions: as each theorem states. -/
import Derived.Test.YtdajceakaakdoaaGreatJ15
import Derived.Test.YtdajceakaakdoaaGreatH7
import Derived.Test.YtdajceakaakdoaaGreatJ13
import Derived.Test.YtdajceakaakdoaaGreatJ5
import Derived.Test.YtdajceakaakdoaaGreatJ14
import Derived.Test.YtdajceakaakdoaaGreatJ10
import Derived.Test.YtdajceakaakdoaaGreatJ11
import Derived.Test.YtdajceakaakdoaaGreatH5
import Derived.Test.YtdajceakaakdoaaGreatJ7
set_option linter.unusedSimpArgs false
set_option linter.unusedVariables false
set_option linter.unnecessarySimpa false
set_option maxRecDepth 100000
set_option maxHeartbeats 2000000
namespace Go.Proofs.YtdajceakaakdoaaGreat
open Go Go.Hl Go.Sort Go.Lib Go.Joins Go.Shelf
open Tryz(prog)
theorem Xdr {f c:FuncId} (hcall:Q0 prog f=true) (zs ys:List Dp) (hz:0<zs.length) (hle:ys.length=zs.length)
  (key:∀(g o cap:Nat) (w:World),HoldsK dpE 3 w g o zs.toArray->g<w.heap.size->zs.length<=cap->cap<=maxLen->Calls prog f #[.slice (some ⟨g,o,none⟩) zs.length cap,.func (.func c) #[] #[]] w fun e w'=>e=.returned (.tuple #[])/\RowOutD w w' g o ys):
  ConG2 prog f c 51 3 (Qp zs) (Qp ys):=by
 refine⟨hcall,fun F B w v hro hF hvF=>?_⟩;obtain⟨h0,hrs,xs,⟨hxl,hown⟩,hx1,hc⟩:=hro;rcases hown with⟨_,hn⟩|⟨g,o,cap,cur,rfl,hB,hg,hcap,hmax,hcs,htake⟩
 .rw[X0b]at hn;omega
 rw[X0b]at hxl hcap htake⊢
 have hcur:∀k j y,zs[k]? =some y->j<3->cur[o+(k*3+j)]? =some (dpE y)[j]! :=by
  intro k j y hk hj;obtain⟨u,hu,hr⟩:=hc k j _ (getRC_D' hk hj);cases hr;have hlt:=(N6.1 hk).1;have:xs[k*3+j]? =cur[o+(k*3+j)]? :=by rw[<-htake,NE,N8 (by omega),Nx,D8]
  rw[<-this];exact hu
 have hH:HoldsK dpE 3 w g o zs.toArray:=by
  intro t ht;have ht':t<zs.length*3:=by simpa using ht
  have hk:t/3<zs.length:=by omega
  refine⟨?_,?_⟩
  .have h1:w.cell? ⟨g,o+t,none⟩=cur[o+t]? :=by simp[World.cell?,hg]
   have h2:=hcur (t/3) (t%3) _ (Nz hk) (by omega);rw[show t/3*3+t%3=t by omega]at h2;have h3:=X22 zs (t/3) (t%3) _ (Nz hk) (by omega);rw[show t/3*3+t%3=t by omega]at h3;rw[h1,h2,h3];rfl
  simp[World.frozen?,hg]
 have hgs:g<w.heap.size:=(NM.1 hg).1;refine(key g o cap w hH hgs hcap hmax).mono ?_;rintro e w' ⟨rfl,hout⟩;obtain⟨cur',hg',hcs',hcell⟩:=hout.cells cur _ _ hg
 have hcell2:∀k j y,ys[k]? =some y->j<3->((cur'.toList.drop o).take (ys.length*3))[k*3+j]? =some (dpE y)[j]! :=by
  intro k j y hk hj;have hlt:=(N6.1 hk).1;rw[NE,N8 (by omega),Nx,D8,hcell k j y hk hj (by omega),Xce y j hj]
 refine⟨rfl,hout.os,hout.tape,hout.output,hout.size,fun k hk hne=>hout.other k hk fun e=>hne (by rw[e];rfl),by decide,?_,(cur'.toList.drop o).take (ys.length*3),⟨?_,.inr ⟨g,o,cap,cur',?_,hB,hg',by rw[X0b];omega,hmax,by omega,by rw[X0b]⟩⟩,?_,?_⟩
 .intro r hr;simp only[Qp,NG]at hr;obtain⟨n,_,rfl⟩:=hr;rfl
 .simp only[NF,Dg,Array.length_toList,X0b];omega
 .rw[X0b,hle]
 .intro u hu;obtain⟨t,ht⟩:=List.getElem?_of_mem hu
  have hlt:t<ys.length*3:=by
   have:=(N6.1 ht).1;simp only[NF]at this;omega
  have hk:t/3<ys.length:=by omega
  have h2:=hcell2 (t/3) (t%3) _ (Nz hk) (by omega);rw[show t/3*3+t%3=t by omega,ht]at h2;cases h2;exact Xcn _ _ (mem_dpE _ _ (by omega))
 intro a b d hd;obtain⟨hb,y,hy,rfl⟩:=getRC_D hd;exact⟨_,hcell2 a b y hy hb,CRel.lit _⟩
theorem Xe9 (zs:List Dp) (hn:zs.Nodup) (hz:0<zs.length) (hl:zs.length<=17592186044416):
  ConG2 prog 58 61 51 3 (Qp zs) (Qp (WH zs)):=
 Xdr (by kernel_rfl) zs _ hz (X7d zs hn) fun g o cap w hH hg hcap hmax=>Xat zs hn hl g o cap w hH hg
end Go.Proofs.YtdajceakaakdoaaGreat
namespace Go.Proofs.YtdajceakaakdoaaGreat
open Go Go.Hl
open Tryz(prog)
def X5y (f:Fl):Bool:=match f.body.getLast? with
 |some s=>decide (s.do_=6)&&decide ((bdL CP f.body ⟨0,0,0⟩).t<=(s.bounds[0]?).getD 0)
 |none=>false
set_option maxHeartbeats 8000000 in
theorem Xdh (f:Fl) (hv:f.vars.length<=1000000) (hh:f.hats.length<=1000000) (hn:Xl f.body+QD f.hats<=900000000) (hb:Z9 f.body=true) (hc:XR f=0) (hl:f.body.length<=1000000) (hb6:∀s∈f.body,s.do_=6->s.bounds≠[]) (d:Nat):Con prog 128 true [aF f] (.v (lb (X5y f))) none d:=by
 have cb:=Xaq f hv hh hn hb hc;clear hv hh hn hb hc;obtain⟨vars,hats,body⟩:=f;simp only at cb hb6 hl⊢;unfold X5y;simp only;obtain⟨⟨bs,bo,bt⟩,hB⟩:∃x,bdL CP body ⟨0,0,0⟩=x:=⟨_,rfl⟩;rw[hB]at cb⊢;clear hB;cases hlast:body.getLast? with
 | none=>
   have hnil:body=[]:=by simpa using hlast
   subst hnil;clear hlast hb6 hl;refine X5 Tryz.func128 ?_;simp only[Tryz.f128];simp only[aF,Fl.enc,Nk,Nr]at cb⊢;refine X2 ?_;refine X0<|X0<|X1 ?_;refine(Xb rfl (fun h2=>?_) fun h2=>?_)
   ·simp only at h2;refine X2 ?_;exact Xc
   exact absurd h2 (by simp)
 | some s=>
   have hpos:body.length≠0:=by intro h;rw[Ns h]at hlast;cases hlast
   have hs:body[body.length - 1]? =some s:=by rw[<-hlast,List.getLast?_eq_getElem?]
   have hw1:IntKind.i64.wrap ((body.length:Int) - 1)=((body.length - 1:Nat):Int):=by simp[IntKind.wrap,IntKind.bits,IntKind.signed];omega
   have hb7:=hb6 s (N4 hs);have hse:=Q4 hs;clear hb6 hlast;obtain⟨so,sc,sv,sn,⟨po,tn,tk⟩,sa,sb,sbs⟩:=s;simp only[St.do_,St.bounds]at hb7⊢;simp only[St.enc,Tm.enc,List.cons_append,List.nil_append]at hse;have hp1:¬((body.length:Int)=0):=by omega
   by_cases h6:so=6
   .match sbs,hb7 h6 with
    | b0::sb1,_=>
      clear hb7;subst h6;refine X5 Tryz.func128 ?_;simp only[Tryz.f128];simp only[aF,Fl.enc,Nk,Nr]at cb⊢;refine X2 ?_;refine X0<|X0<|X1 ?_;refine(Xb rfl (fun h2=>?_) fun h2=>?_)
      .exact absurd (by simpa using h2) hp1
      simp only at h2;refine X2 ?_;refine Xh [⟨true,.tup [li bs,li bo,li bt,li 0],none⟩] ?_ ?_
      .first|exact cb _|exact trivial|simpa[*]using cb _
      refine X2 ?_;exact Xc
   clear hb7;cases sbs with
   | nil=>
     refine X5 Tryz.func128 ?_;simp only[Tryz.f128];simp only[aF,Fl.enc,Nk,Nr]at cb⊢;refine X2 ?_;refine X0<|X0<|X1 ?_;refine(Xb rfl (fun h2=>?_) fun h2=>?_)
     .exact absurd (by simpa using h2) hp1
     simp only at h2;refine X2 ?_;refine Xh [⟨true,.tup [li bs,li bo,li bt,li 0],none⟩] ?_ ?_
     .first|exact cb _|exact trivial|simpa[*]using cb _
     refine X2 ?_;exact Xc
   | cons b0 sb1=>
     refine X5 Tryz.func128 ?_;simp only[Tryz.f128];simp only[aF,Fl.enc,Nk,Nr]at cb⊢;refine X2 ?_;refine X0<|X0<|X1 ?_;refine(Xb rfl (fun h2=>?_) fun h2=>?_)
     .exact absurd (by simpa using h2) hp1
     simp only at h2;refine X2 ?_;refine Xh [⟨true,.tup [li bs,li bo,li bt,li 0],none⟩] ?_ ?_
     .first|exact cb _|exact trivial|simpa[*]using cb _
     refine X2 ?_;exact Xc
theorem X6A (l:List St) (hn:Xl l<=1000000000) (d:Nat):Con prog 129 true [lS l] (.tup [li (spL l (0,0)).1,lb (decide ((spL l (0,0)).1=(spL l (0,0)).2))]) none d:=by
 have cs:=Xeg l hn;obtain⟨p,hp⟩:∃x,spL l (0,0)=x:=⟨_,rfl⟩;rw[hp]at cs⊢;obtain⟨x,y⟩:=p;simp only at cs⊢;clear hp;refine X5 Tryz.func129 ?_;simp only[Tryz.f129];refine X2 ?_;refine Xh [⟨true,.tup [li x,li y],none⟩] ?_ ?_
 .first|exact cs _|exact trivial|simpa[*]using cs _
 refine X2 ?_;exact Xc
def cndQ (so x:Int) (ex:Bool) (y:Int) (ey:Bool) (po:Int):Bool:=(decide (so=3)&& !(ex&&(ey&&decide (x=y))))||(decide (so=4)&& !(ex&&decide (po=0)))
def X32:St->Bool
 | .mk o _ _ _ (.mk po _ _) a b _=>cndQ o (spL a (0,0)).1 (decide ((spL a (0,0)).1=(spL a (0,0)).2)) (spL b (0,0)).1 (decide ((spL b (0,0)).1=(spL b (0,0)).2)) po
theorem tmP_drop (cnd:St->Bool) (e:Int) (st:List St) (k:Nat) (s:St) (h:st[k]? =some s):((st.zipIdx).drop k).flatMap (fun s=>if cnd s.1=true then [(⟨s.2,e,1⟩:Dp)] else [])=(if cnd s=true then [(⟨k,e,1⟩:Dp)] else [])++((st.zipIdx).drop (k+1)).flatMap (fun s=>if cnd s.1=true then [(⟨s.2,e,1⟩:Dp)] else []):=by
 have hz:st.zipIdx[k]? =some (s,k):=by simp[List.getElem?_zipIdx,h]
 obtain⟨p,h1,h2⟩:=Xt (show k<st.zipIdx.length by simpa using(N6.1 h).1);rw[hz]at h1;cases h1;rw[h2,List.flatMap_cons]
set_option maxHeartbeats 32000000 in
theorem Xdv (vars:List Vr) (hats:List Ht) (body st:List St) (dp0:List Dp) (hv:vars.length<=100000) (hst:st.length<=100000) (hn:∀s∈st,Xl s.then_<=1000000000/\Xl s.else_<=1000000000)
  (cs:∀d,Con prog 128 true [aF ⟨vars,hats,body⟩] (.v (lb (X5y ⟨vars,hats,body⟩))) none d):
  X0V prog 67 none (pdF vars hats body st dp0) [.one (.at_ 1000001 0)] (fun _:Unit=>True) (fun _=>.tup []) (fun _=>pdF vars hats body st (XV (if X5y ⟨vars,hats,body⟩=true then [] else tmP X32 ((st.length:Int)+vars.length) st) dp0)):=by
 obtain⟨sb,hsb⟩:∃x,X5y ⟨vars,hats,body⟩=x:=⟨_,rfl⟩;rw[hsb]at cs⊢;simp only[aF,Fl.enc,Nk,Nr]at cs;refine Qn Tryz.func67 rfl (by kernel_rfl) (NL rfl) XbI (fun v h=>by cases h) ?_;simp only[Tryz.f67];cases sb with
 | true=>
   simp only[pdF];refine X0<|X0<|(Xo [⟨true,.v (lb true),none⟩] ?_ ?_)
   .first|exact cs _|exact trivial|simpa[*]using cs _
   refine(Xb rfl (fun h1=>?_) fun h1=>?_)
   ·simp only at h1;exact XZ ⟨.inr rfl,(),trivial,_,le_refl _,⟨[],rfl,rfl⟩,fun n o h=>h⟩
   cases h1
 | false =>
   obtain⟨RES,hRES⟩:∃x,XV (tmP X32 ((st.length:Int)+vars.length) st) dp0=x:=⟨_,rfl⟩;simp only[NB,Nc,hRES];unfold tmP at hRES;have cst:=X3e vars hats body st dp0 vars.length (by omega) (by omega) (by omega);simp only[pdF];refine X0<|X0<|(Xo [⟨true,.v (lb false),none⟩] ?_ ?_)
   .first|exact cs _|exact trivial|simpa[*]using cs _
   refine(Xb rfl (fun h1=>?_) fun h1=>?_)
   .cases h1
   simp only at h1;refine Xh [⟨true,.v (li ((st.length:Int)+vars.length)),none⟩] ?_ ?_
   .first|exact cst _|exact trivial|simpa[*]using cst _
   refine X2 ?_;refine X3<|(Xg [0,2,25,26] (fun(y:Nat×List Dp)=>[(27,.v (li y.1))]) (fun y=>[(900002,.mp (dpM y.2)),(1000001,.box [.c (.sl 5 (Xk vars)),.c (.sl 6 (Xn hats)),.c (.sl 10 (X7 body)),.c (.sl 10 (X7 st)),.own 900002])]) (fun y=>y.1<=st.length/\XV (((st.zipIdx).drop y.1).flatMap fun s=>if X32 s.1=true then [(⟨s.2,(st.length:Int)+vars.length,1⟩:Dp)] else []) y.2=RES) (fun y=>st.length - y.1) (0,dp0) ⟨Nq _,by simpa using hRES⟩ ?_ ?_)
   .exact X4 (fun n=>n) []
   rintro⟨i,dp⟩ ⟨hi,hD⟩;simp only[upS,X8,Xz]
   simp only[KN,Nat.reduceBEq,Nj,Nc,ins,Nat.reduceLT]
   simp only at hi hD;clear hRES cs cst;refine X2 ?_;refine X0<|(X6 rfl (fun h7=>Xe ?_) (fun h7=>?_))
   ·simp only[BN]at h7;have hlt:i<st.length:=by first|omega|simpa using h7
    have hw1:=XD hlt (by omega);have hi1:i+1<=st.length:=hlt;obtain⟨s,hs,_⟩:=Xt hlt;have hse:=Q4 hs;rw[tmP_drop _ _ _ _ _ hs]at hD;obtain⟨n1,n2⟩:=hn s (N4 hs);obtain⟨so,sc,sv,sn,⟨po,tn,tk⟩,sa,sb,sbs⟩:=s;simp only[St.then_,St.else_]at n1 n2;have ca:=X6A sa n1;have cb:=X6A sb n2;simp only[St.enc,Tm.enc,List.cons_append,List.nil_append]at hse;have hcd:X32 (St.mk so sc sv sn (Tm.mk po tn tk) sa sb sbs)=cndQ so (spL sa (0,0)).1 (decide ((spL sa (0,0)).1=(spL sa (0,0)).2)) (spL sb (0,0)).1 (decide ((spL sb (0,0)).1=(spL sb (0,0)).2)) po:=by rw[X32]
    obtain⟨cn,hcn⟩:∃c,X32 (St.mk so sc sv sn (Tm.mk po tn tk) sa sb sbs)=c:=⟨_,rfl⟩;rw[hcn]at hD;rw[hcd]at hcn;clear hcd;obtain⟨⟨x,x2⟩,hX⟩:∃z,spL sa (0,0)=z:=⟨_,rfl⟩;obtain⟨⟨y,y2⟩,hY⟩:∃z,spL sb (0,0)=z:=⟨_,rfl⟩;rw[hX]at ca hcn;rw[hY]at cb hcn;simp only at ca cb hcn;obtain⟨ex,hex⟩:∃e,decide (x=x2)=e:=⟨_,rfl⟩;obtain⟨ey,hey⟩:∃e,decide (y=y2)=e:=⟨_,rfl⟩;rw[hex]at ca hcn;rw[hey]at cb hcn;clear hX hY hex hey;unfold cndQ at hcn;clear hlt h7 hs;refine X0<|X3<|X0<|X1 ?_;refine Xh [⟨true,.tup [li x,lb ex],none⟩] ?_ ?_
    .first|exact ca _|exact trivial|simpa[*]using ca _
    refine Xh [⟨true,.tup [li y,lb ey],none⟩] ?_ ?_
    .first|exact cb _|exact trivial|simpa[*]using cb _
    refine XT [0,2,3,25,26,27] (fun(q:Bool)=>[(73,.v (lb q))]) (fun(q:Bool)=>[(900002,.mp (dpM dp)),(1000001,.box [.c (.sl 5 (Xk vars)),.c (.sl 6 (Xn hats)),.c (.sl 10 (X7 body)),.c (.sl 10 (X7 st)),.own 900002])]) (fun(q:Bool)=>q=cn) ?_ ?_
    .clear ca cb hD hse;by_cases h3:so=3
     .subst h3;cases ex with
      |false=>(refine Xs (by simp;rfl) ?_;exact⟨true,by rw[<-hcn];simp,Xw (fun n=>n) [] rfl (by simp[upS,X8]) (by simp[upS]) (by simp[upS])⟩)
      | true=>
        cases ey with
        |false=>(refine Xs (by simp;rfl) ?_;exact⟨true,by rw[<-hcn];simp,Xw (fun n=>n) [] rfl (by simp[upS,X8]) (by simp[upS]) (by simp[upS])⟩)
        | true=>
          by_cases hxy:x=y
          .subst hxy
           (refine Xs (by simp;rfl) ?_;exact⟨false,by rw[<-hcn];simp,Xw (fun n=>n) [] rfl (by simp[upS,X8]) (by simp[upS]) (by simp[upS])⟩)
          (refine Xs (by simp[hxy];rfl) ?_;exact⟨true,by rw[<-hcn];simp[hxy],Xw (fun n=>n) [] rfl (by simp[upS,X8]) (by simp[upS]) (by simp[upS])⟩)
     by_cases h4:so=4
     .subst h4;cases ex with
      |false=>(refine Xs (by simp;rfl) ?_;exact⟨true,by rw[<-hcn];simp,Xw (fun n=>n) [] rfl (by simp[upS,X8]) (by simp[upS]) (by simp[upS])⟩)
      | true=>
        by_cases ht:po=0
        .subst ht
         (refine Xs (by simp;rfl) ?_;exact⟨false,by rw[<-hcn];simp,Xw (fun n=>n) [] rfl (by simp[upS,X8]) (by simp[upS]) (by simp[upS])⟩)
        (refine Xs (by simp[ht];rfl) ?_;exact⟨true,by rw[<-hcn];simp[ht],Xw (fun n=>n) [] rfl (by simp[upS,X8]) (by simp[upS]) (by simp[upS])⟩)
     (refine Xs (by simp[h3,h4];rfl) ?_;exact⟨false,by rw[<-hcn];simp[h3,h4],Xw (fun n=>n) [] rfl (by simp[upS,X8]) (by simp[upS]) (by simp[upS])⟩)
    rintro q hq;simp only[upS,X8,Xz]
    simp only[KN,Nat.reduceBEq,Nj,Nc,ins,Nat.reduceLT]
    refine(Xb rfl (fun h12=>?_) fun h12=>?_)
    ·have hq1:cn=true:=by rw[<-hq];simpa using h12
     rw[hq1,N8 rfl]at hD;simp only[List.cons_append,List.nil_append,XV]at hD;have cad:=X6G vars hats body st dp i ((st.length:Int)+vars.length) 1;simp only[pdF]at cad;clear h12 hq hq1 hcn ca cb hse;refine(XJ ?_);refine RunsN.cutE 3 [] (by simp;rfl) trivial (le_refl _) ?_;refine RunsN.callA (fun n=>n) (fun n=>if n=900002 then 900012 else n) cad fun _ _=>?_;refine RunsN.doneE [] rfl trivial ?_;refine XC (s':=⟨⟨79,none⟩,[(0,.v (.one (.at_ 1000001 0))),(2,.v (li ((st.length:Int)+vars.length))),(25,.v (.one (.c (.sl 10 (X7 st))))),(26,.v (li st.length)),(27,.v (li i))],[(900002,.mp (dpM (Z5 dp ⟨i,(st.length:Int)+vars.length,1⟩))),(1000001,.box [.c (.sl 5 (Xk vars)),.c (.sl 6 (Xn hats)),.c (.sl 10 (X7 body)),.c (.sl 10 (X7 st)),.own 900002])]⟩) (Xw (fun n=>if n=900002 then 900012 else n) [] rfl (by simp[Qa,QE,del,ins,CV.ren,Ob.ren]) (by simp[Qa,QE,del,ins,CV.ren,Ob.ren]) (by simp)) ?_;refine X1 ?_;exact⟨(i+1,Z5 dp ⟨i,(st.length:Int)+vars.length,1⟩),⟨hi1,hD⟩,by simp only;omega,X4 (fun n=>n) []⟩
    have hq1:cn=false:=by rw[<-hq];simpa using h12
    rw[hq1]at hD;simp only[NB,Nc,List.nil_append]at hD;clear h12 hq hq1 hcn ca cb hse;refine X1 ?_;exact⟨(i+1,dp),⟨hi1,hD⟩,by simp only;omega,X4 (fun n=>n) []⟩
   simp only[BN]at h7
   have hil:i=st.length:=by
    have:¬i<st.length:=by first|omega|simpa using h7
    omega
   subst hil;rw[List.drop_eq_nil_of_le (by simp)]at hD;simp only[List.flatMap_nil,XV]at hD;subst hD;refine(Xi ?_);exact⟨.inl rfl,(),trivial,_,le_refl _,⟨[],rfl,rfl⟩,fun n o h=>h⟩
section
variable {vars:List Vr} {hv:List Int}
theorem X1s {d v n:Int} {t:Tm} {bs:List Int} {s s':Sta} (h:s.vals=s'.vals):(QV vars hv d v n t bs s).vals=(QV vars hv d v n t bs s').vals:=by
 unfold QV
 (repeat' split)<;>simp only[h]
end
inductive Cz (P:List (Int×Int)) (R:Int->Prop):Int->Prop
 |base {n:Int}:R n->Cz P R n
 |step {a b:Int}:(a,b)∈P->Cz P R a->Cz P R b
def prs (back rel:Bool) (E:List Dp):List (Int×Int):=(E.filter fun x=>rel||decide (x.k≠2)).map fun x=>if back=true then(x.t,x.f)else(x.f,x.t)
theorem X8L {back rel:Bool} {E:List Dp} {p:Int×Int}:p∈prs back rel E↔∃x∈E,(rel=true\/x.k≠2)/\p=if back=true then(x.t,x.f)else(x.f,x.t):=by
 unfold prs;simp only[NG,NN,Nf,N5];constructor
 .rintro⟨x,⟨h1,h2⟩,rfl⟩;exact⟨x,h1,h2,rfl⟩
 rintro⟨x,h1,h2,rfl⟩;exact⟨x,⟨h1,h2⟩,rfl⟩
theorem Cz.mono {P Q:List (Int×Int)} {R:Int->Prop} (h:∀p∈P,p∈Q) {n:Int} (hc:Cz P R n):Cz Q R n:=by
 induction hc with
 |base h1=>exact .base h1
 |step h1 _ ih=>exact .step (h _ h1) ih
theorem Cz.dep {E:List Dp} {R:Int->Prop} {x:Dp} (hx:x∈E) (h:Cz (prs true true E) R x.t):Cz (prs true true E) R x.f:=.step (X8L.2 ⟨x,hx,.inl rfl,rfl⟩) h
theorem ct_mem:∀l:List St,∀(c:Int) (p i:Nat) (a:Int),(arL l c p)[i]? =some a->0<=a->(⟨a,(p+i:Nat),1⟩:Dp)∈ctL l c p:=by
 apply St.lind
 .intro c p i a h;simp[arL]at h
 intro o c' w q t a b bs l ia ib il c p i x h hx
 have e:arL (.mk o c' w q t a b bs::l) c p=c::((arL a p (p+1)++arL b p (p+1+szL a))++arL l c (p+(1+szL a+szL b))):=by
  simp[arL,arS,szS]
 rw[e]at h;simp only[ctL,Ni];have la:=X0F a p (p+1);have lb:=X0F b p (p+1+szL a);cases i with
 | zero=>
   cases h;exact .inl (by unfold ctE;rw[N8 hx];simp)
 | succ i=>
   rw[List.getElem?_cons_succ]at h;by_cases h5:i<szL a
   .rw[Nv (by simp;omega),Nv (by omega)]at h;have:=ia p (p+1) i x h hx;exact .inr (.inr (.inl (by rwa [show p+(i+1)=p+1+i by omega])))
   by_cases h6:i<szL a+szL b
   .rw[Nv (by simp;omega),Np (by omega),la]at h;have:=ib p (p+1+szL a) (i - szL a) x h hx;exact .inr (.inr (.inr (.inl (by rwa [show p+(i+1)=p+1+szL a+(i - szL a) by omega]))))
   rw[Np (by simp;omega),Na,la,lb]at h;have:=il c (p+(1+szL a+szL b)) (i - (szL a+szL b)) x h hx;exact .inr (.inr (.inr (.inr (by rwa [show p+(i+1)=p+(1+szL a+szL b)+(i - (szL a+szL b)) by omega]))))
structure Dps (f:Fl) (E:List Dp):Prop where
 ctl:∀(j:Nat) a,(arL f.body (-1) 0)[j]? =some a->0<=a->(⟨a,j,1⟩:Dp)∈E
 dat:∀(o:Nat) q,(flL f.body)[o]? =some q->q.do_≠5->∀(k:Nat) (x:Nd),(grN f.body)[k]? =some x->x.k≠4->x.a=(o:Int)->∀d,Rc (grN f.body) (flL f.body) f.vars.length k d->Qk (flL f.body) d∈tmV q.term->(⟨d,o,0⟩:Dp)∈E
 rel:∀(o:Nat) q,(flL f.body)[o]? =some q->q.do_=5->∀g,f.hats[q.n.toNat]? =some g->∀v∈tmV g.term,(⟨((flL f.body).length:Int)+v,o,2⟩:Dp)∈E
theorem node_at {f:Fl} (h:Sm f) (h0:XR f=0) {o:Nat} {q:St} (hq:(flL f.body)[o]? =some q):∃(k:Nat) (x:Nd),(grN f.body)[k]? =some x/\x.k≠4/\x.a=(o:Int):=by
 have key:∀l:List St,∀(p k after:Nat),Lies (grN f.body) (flL f.body) f.vars f.hats.length l p k after->∀i,i<szL l->∃(n:Nat) (x:Nd),(grN f.body)[n]? =some x/\x.k≠4/\x.a=((p+i:Nat):Int):=by
  apply St.lind
  .intro p k after _ i hi;simp[szL]at hi
  intro o c w q t a b bs l ia ib il p k after hl i hi;obtain⟨h1,h2⟩:=hl.cons;simp only[szL,szS]at hi;cases i with
  | zero=>
    by_cases h3:o=3
    .subst h3;exact⟨_,_,h1.ifN,by simp,by simp⟩
    by_cases h4:o=4
    .subst h4;exact⟨_,_,h1.loopN.2,by simp,by simp⟩
    exact⟨_,_,h1.leafN h3 h4,by simp,by simp⟩
  | succ i=>
    by_cases h6:i<szL a+szL b
    .by_cases h3:o=3
     .obtain⟨_,la,lb⟩:=h1.if_ h3;by_cases h5:i<szL a
      .obtain⟨n,x,e1,e2,e3⟩:=ia _ _ _ la i h5;exact⟨n,x,e1,e2,by rw[e3];omega⟩
      obtain⟨n,x,e1,e2,e3⟩:=ib _ _ _ lb (i - szL a) (by omega);exact⟨n,x,e1,e2,by rw[e3];omega⟩
     by_cases h4:o=4
     .obtain⟨_,_,la,hb⟩:=h1.loop h4;rw[hb]at h6;simp only[szL]at h6;obtain⟨n,x,e1,e2,e3⟩:=ia _ _ _ la i (by omega);exact⟨n,x,e1,e2,by rw[e3];omega⟩
     exfalso;have:=h1.g;simp only[gS,N3,Nf,N5,De]at this;rcases this.1 with(h|h)|h
     .exact h3 h
     .exact h4 h.1
     rw[h.1,h.2]at h6;simp[szL]at h6
    obtain⟨n,x,e1,e2,e3⟩:=il _ _ _ h2 (i - (szL a+szL b)) (by omega);exact⟨n,x,e1,e2,by rw[e3];omega⟩
 have hlt:=(N6.1 hq).1;rw[Q2]at hlt;obtain⟨n,x,e1,e2,e3⟩:=key f.body 0 1 (1+wdL f.body) (X0g h h0) o hlt;exact⟨n,x,e1,e2,by rw[e3];omega⟩
theorem dps_of {f:Fl} (h:Sm f) (h0:XR f=0) {E:List Dp} (hE:∀x,x∈ctL f.body (-1) 0++X2R (flL f.body).length f.hats (flL f.body) (grN f.body) (rcL (grN f.body) (flL f.body) f.vars.length)->x∈E):Dps f E where
 ctl:=fun j a ha h1=>hE _ (List.mem_append_left _ (by have:=ct_mem f.body (-1) 0 j a ha h1;rwa [Nat.zero_add]at this))
 dat:=fun o q hq hq5 k x hx hk hxa d hd hv=>hE _ (List.mem_append_right _ (by
  have hlt:=(N6.1 hx).1;obtain⟨r,hr,_⟩:=Xt (show k<(rcL (grN f.body) (flL f.body) f.vars.length).length by rw[X3S];exact hlt);unfold X2R;refine List.mem_flatMap.2 ⟨(x,r),X2E.2 ⟨k,hx,hr⟩,?_⟩;unfold X2S;simp only;rw[N7 (by omega),hxa,Int.toNat_natCast,hq];simp only;rw[N7 hq5];refine List.mem_flatMap.2 ⟨_,hv,NG.2 ⟨d,NN.2 ⟨(X8R hr d).2 ⟨rc_lt (fun y hy hay=>?_) hd,hd⟩,by simp⟩,rfl⟩⟩;rcases(X6L (X0T h0) y hy).ha with h5|⟨m,h5,h6⟩
  .simp[QK,h5.1]at hay
  rw[h5,Q2];simpa using h6))
 rel:=fun o q hq hq5 g hg v hv=>hE _ (List.mem_append_right _ (by
  obtain⟨k,x,hx,hk,hxa⟩:=node_at h h0 hq;have hlt:=(N6.1 hx).1;obtain⟨r,hr,_⟩:=Xt (show k<(rcL (grN f.body) (flL f.body) f.vars.length).length by rw[X3S];exact hlt);unfold X2R;refine List.mem_flatMap.2 ⟨(x,r),X2E.2 ⟨k,hx,hr⟩,?_⟩;unfold X2S;simp only;rw[N7 (by omega),hxa,Int.toNat_natCast,hq];simp only;rw[N8 hq5,hg]
  exact X5F.2 ⟨v,hv,rfl⟩))
section
variable {f:Fl} {E:List Dp} {R:Int->Prop}
open Classical in
noncomputable def Kz (E:List Dp) (R:Int->Prop) (o:Nat):Bool:=decide (Cz (prs true true E) R (o:Int))
theorem X04 {o:Nat}:Kz E R o=true↔Cz (prs true true E) R (o:Int):=by
 classical
 unfold Kz;simp only[N5]
theorem XcK (hd:Dps f E) (hpl:∀q∈flL f.body,q.do_=5->tmV q.term=[]):Slc (grN f.body) (flL f.body) f.vars.length (arL f.body (-1) 0) (Kz E R) where
 src:=fun o q hK hq k x hx h4 hxa d hr hv _=>by
  by_cases h5:q.do_=5
  .rw[hpl q (N4 hq) h5]at hv;cases hv
  exact X04.2 (Cz.dep (hd.dat o q hq h5 k x hx h4 hxa d hr hv) (X04.1 hK))
 up:=fun j a ha h0 hK=>by
  refine X04.2 ?_;have:=Cz.dep (hd.ctl j a ha h0) (X04.1 hK)
  rwa [show((a.toNat:Nat):Int)=a by omega]
theorem XaT (hd:Dps f E) (hpl:∀q∈flL f.body,q.do_=5->tmV q.term=[]) (hhf:∀h∈f.hats,Qu f.vars true h.term=true) {a m:List Int} (hm:∀v,v<f.vars.length->Kz E R ((flL f.body).length+v)=true->a[v]? =m[v]?):
  Need (grN f.body) (flL f.body) f.vars.length (Kz E R) (fun v=>Kz E R ((flL f.body).length+v)) (QY a f.hats) (QY m f.hats):=by
 refine⟨fun o s hk hs k x hx h4 hxa d hr hv hdl=>?_,fun o s hk hs h5=>?_⟩
 .by_cases h5:s.do_=5
  .rw[hpl s (N4 hs) h5]at hv;cases hv
  have:=Cz.dep (hd.dat o s hs h5 k x hx h4 hxa d hr hv) (X04.1 hk);refine X04.2 ?_
  rwa [show(flL f.body).length+(d - (flL f.body).length)=d by omega]
 unfold QY;rw[Nn,Nn];cases hh:f.hats[s.n.toNat]? with
 |none=>rfl
 | some g=>
   simp only[Option.map_some,Option.getD_some];rw[X6E (vs:=a) (ws:=m) g.term fun w hw=>?_];obtain⟨w0,w1⟩:=X8O g.term (hhf g (N4 hh)) w hw;refine hm w.toNat (by omega) (X04.2 ?_);have:=Cz.dep (hd.rel o s hs h5 g hh w hw) (X04.1 hk)
   rwa [show(((flL f.body).length+w.toNat:Nat):Int)=((flL f.body).length:Int)+w by omega]
end
theorem X7U {f:Fl} (h0:XR f=0):∀q∈flL f.body,q.do_=5->tmV q.term=[]:=by
 intro q hq h5;obtain⟨last,hs⟩:=X2e f.body true (Q6 h0).2.2.2.1 q hq;unfold shB at hs;rw[h5]at hs;simp only[N3,Int.reduceEq,Nc,Nj]at hs;exact X68 hs.2
end Go.Proofs.YtdajceakaakdoaaGreat
namespace Go.Proofs.YtdajceakaakdoaaGreat
open Go Go.Hl
open Tryz(prog)
open Classical in
noncomputable def czL (P:List (Int×Int)) (R:List Int) (N:Nat):List Bool:=(List.range N).map fun n:Nat=>decide (Cz P (fun x=>x∈R) (n:Int))
theorem X2P (P:List (Int×Int)) (R:List Int) (N:Nat):(czL P R N).length=N:=by simp[czL]
theorem X8g {P:List (Int×Int)} {R:List Int} {N n:Nat} (h:n<N):(czL P R N)[n]? =some true↔Cz P (fun x=>x∈R) (n:Int):=by
 unfold czL;rw[Nn,List.getElem?_range h];simp
theorem Xba {P:List (Int×Int)} {R:List Int} {N:Nat} {S:List Bool} (hl:S.length=N) (h:∀n:Nat,n<N->(S[n]? =some true↔Cz P (fun x=>x∈R) (n:Int))):S=czL P R N:=by
 apply NX;intro n;by_cases hn:n<N
 .obtain⟨a,h1,_⟩:=Xt (show n<S.length by omega);obtain⟨b,h2,_⟩:=Xt (show n<(czL P R N).length by rw[X2P];exact hn);have h3:=(h n hn).trans (X8g (P:=P) (R:=R) hn).symm;rw[h1,h2]at h3⊢;cases a<;>cases b<;>simp_all
 rw[Ny (by omega),Ny (by rw[X2P];omega)]
def cfS:List Bool->Nat
 |[]=>0
 |b::l=>(if b=true then 0 else 1)+cfS l
theorem X8J:∀{S:List Bool} {k:Nat},S[k]? =some false->cfS (S.set k true)+1=cfS S
 |[],_,h=>by simp at h
 |b::S,0,h=>by cases h;simp[cfS];omega
 |b::S,k+1,h=>by have:=X8J (S:=S) (k:=k) (by simpa using h);simp only[List.set_cons_succ,cfS];omega
theorem cf_rep (N:Nat):cfS (List.replicate N false)=N:=by
 induction N with
 |zero=>rfl
 |succ N ih=>rw[List.replicate_succ,cfS,ih];simp;omega
theorem ZX {S:List Bool} {k:Nat} (h:k<S.length) (n:Nat):(S.set k true)[n]? =some true↔n=k\/S[n]? =some true:=by
 rw[NY];by_cases e:k=n
 .subst e;simp[h]
 rw[N7 e];constructor
 .exact .inr
 rintro(h1|h1)
 .exact absurd h1.symm e
 exact h1
def nxF (P:List (Int×Int)) (n:Int):List Int:=(P.filter fun p=>decide (p.1=n)).map (·.2)
theorem X8Q {P:List (Int×Int)} {n x:Int}:x∈nxF P n↔(n,x)∈P:=by
 unfold nxF;rw[NG];constructor
 .rintro⟨⟨a,b⟩,h,rfl⟩;obtain⟨h1,h2⟩:=NN.1 h;have h2:a=n:=by simpa using h2
  exact h2▸h1
 intro h;exact⟨(n,x),NN.2 ⟨h,by simp⟩,rfl⟩
theorem X4c (P:List (Int×Int)) (n:Int):(nxF P n).length<=P.length:=by rw[nxF,NW];exact Dh ..
theorem Xay (P:List (Int×Int)) (a b n:Int):nxF (P++[(a,b)]) n=if a=n then nxF P n++[b] else nxF P n:=by
 unfold nxF;rw[Da,DA];by_cases h:a=n<;>simp[h]
def inP (N:Nat) (P:List (Int×Int)):Prop:=∀p∈P,(0<=p.1/\p.1<N)/\(0<=p.2/\p.2<N)
structure Wk (N:Nat) (P:List (Int×Int)) (R:List Int) (S:List Bool) (W:List Int):Prop where
 len:S.length=N
 snd:∀n:Nat,S[n]? =some true->Cz P (fun x=>x∈R) (n:Int)
 wk:∀x∈W,(0<=x/\x<N)/\Cz P (fun x=>x∈R) x
 base:∀x∈R,x∈W\/S[x.toNat]? =some true
 cls:∀a b:Int,(a,b)∈P->S[a.toNat]? =some true->b∈W\/S[b.toNat]? =some true
 bd:cfS S*(P.length+1)+W.length<=N*(P.length+1)+R.length
theorem Wk.init {N:Nat} {P:List (Int×Int)} {R:List Int} (hR:∀x∈R,0<=x/\x<N):Wk N P R (List.replicate N false) R where
 len:=by simp
 snd:=fun n h=>by have:=N4 h;simp at this
 wk:=fun x hx=>⟨hR x hx,.base hx⟩
 base:=fun x hx=>.inl hx
 cls:=fun a b _ h=>by have:=N4 h;simp at this
 bd:=by rw[cf_rep];exact NI _
theorem Wk.skip {N:Nat} {P:List (Int×Int)} {R:List Int} {S:List Bool} {W:List Int} {x:Int} (h:Wk N P R S (W++[x])) (hx:S[x.toNat]? =some true):Wk N P R S W where
 len:=h.len
 snd:=h.snd
 wk:=fun y hy=>h.wk y (by simp[hy])
 base:=fun y hy=>by
  rcases h.base y hy with h1|h1
  .rcases Ni.1 h1 with h1|h1
   .exact .inl h1
   rw[Nl.1 h1];exact .inr hx
  exact .inr h1
 cls:=fun a b hab ha=>by
  rcases h.cls a b hab ha with h1|h1
  .rcases Ni.1 h1 with h1|h1
   .exact .inl h1
   rw[Nl.1 h1];exact .inr hx
  exact .inr h1
 bd:=by have:=h.bd;rw[Na,List.length_singleton]at this;omega
theorem Wk.add {N:Nat} {P:List (Int×Int)} {R:List Int} {S:List Bool} {W:List Int} {x:Int} (hP:inP N P) (h:Wk N P R S (W++[x])) (hx:S[x.toNat]? =some false):Wk N P R (S.set x.toNat true) (W++nxF P x):=by
 obtain⟨⟨h0,h1⟩,hc⟩:=h.wk x (by simp);have hlt:x.toNat<S.length:=by rw[h.len];omega
 have hxx:((x.toNat:Nat):Int)=x:=by omega
 have hcf:=X8J hx;have hbd:=h.bd;have hnx:=X4c P x;refine⟨by rw[DI];exact h.len,fun n hn=>?_,fun y hy=>?_,fun y hy=>?_,fun a b hab ha=>?_,?_⟩
 .rcases(ZX hlt n).1 hn with rfl|hn
  .rw[hxx];exact hc
  exact h.snd n hn
 .rcases Ni.1 hy with hy|hy
  .exact h.wk y (by simp[hy])
  exact⟨(hP _ (X8Q.1 hy)).2,.step (X8Q.1 hy) hc⟩
 .rcases h.base y hy with h2|h2
  .rcases Ni.1 h2 with h2|h2
   .exact .inl (by simp[h2])
   rw[Nl.1 h2];exact .inr ((ZX hlt _).2 (.inl rfl))
  exact .inr ((ZX hlt _).2 (.inr h2))
 .rcases(ZX hlt _).1 ha with e|ha
  .have:=(hP _ hab).1;have e:a=x:=by simp only at this;omega
   subst e;exact .inl (List.mem_append_right _ (X8Q.2 hab))
  rcases h.cls a b hab ha with h2|h2
  .rcases Ni.1 h2 with h2|h2
   .exact .inl (by simp[h2])
   rw[Nl.1 h2];exact .inr ((ZX hlt _).2 (.inl rfl))
  exact .inr ((ZX hlt _).2 (.inr h2))
 rw[<-hcf,D9,Na,List.length_singleton]at hbd;rw[Na];omega
theorem Wk.lt {N:Nat} {P:List (Int×Int)} {R:List Int} {S:List Bool} {W:List Int} {x:Int} (hx:S[x.toNat]? =some false):cfS (S.set x.toNat true)*(P.length+1)+(W++nxF P x).length<cfS S*(P.length+1)+(W++[x]).length:=by
 have hcf:=X8J hx;have hnx:=X4c P x;rw[<-hcf,D9,Na,Na,List.length_singleton];omega
theorem Wk.done {N:Nat} {P:List (Int×Int)} {R:List Int} {S:List Bool} (hP:inP N P) (hR:∀x∈R,0<=x/\x<N) (h:Wk N P R S []):S=czL P R N:=by
 refine Xba h.len fun n hn=>⟨h.snd n,fun hc=>?_⟩
 have key:∀{x:Int},Cz P (fun x=>x∈R) x->S[x.toNat]? =some true:=by
  intro x hx
  induction hx with
  |base hb=>exact(h.base _ hb).resolve_left (by simp)
  |step hab _ ih=>exact(h.cls _ _ hab ih).resolve_left (by simp)
 simpa using key hc
structure Rn (N:Nat) (P:List (Int×Int)) (R:List Int) (S:List Bool):Prop where
 len:S.length=N
 snd:∀n:Nat,S[n]? =some true->Cz P (fun x=>x∈R) (n:Int)
 base:∀x∈R,S[x.toNat]? =some true
theorem Rn.add {N:Nat} {P:List (Int×Int)} {R:List Int} {S:List Bool} {a b:Int} (hP:inP N P) (h:Rn N P R S) (hab:(a,b)∈P) (ha:S[a.toNat]? =some true):Rn N P R (S.set b.toNat true):=by
 obtain⟨⟨h0,h1⟩,h2,h3⟩:=hP _ hab;simp only at h0 h1 h2 h3;have hlt:b.toNat<S.length:=by rw[h.len];omega
 have hbb:((b.toNat:Nat):Int)=b:=by omega
 have haa:((a.toNat:Nat):Int)=a:=by omega
 refine⟨by rw[DI];exact h.len,fun n hn=>?_,fun y hy=>(ZX hlt _).2 (.inr (h.base y hy))⟩;rcases(ZX hlt n).1 hn with rfl|hn
 .rw[hbb];exact .step hab (haa▸h.snd _ ha)
 exact h.snd n hn
structure Ri (N:Nat) (P:List (Int×Int)) (R:List Int) (S0 S:List Bool) (grown:Bool) (Q:List (Int×Int)):Prop where
 rn:Rn N P R S
 le:cfS S<=cfS S0
 up:grown=true->cfS S<cfS S0
 same:grown=false->S=S0/\∀a b,(a,b)∈Q->S[a.toNat]? =some true->S[b.toNat]? =some true
theorem Ri.mono {N:Nat} {P:List (Int×Int)} {R:List Int} {S0 S:List Bool} {g:Bool} {Q Q':List (Int×Int)} (h:Ri N P R S0 S g Q) (hq:∀a b,(a,b)∈Q'->(a,b)∈Q\/¬S[a.toNat]? =some true\/S[b.toNat]? =some true):Ri N P R S0 S g Q':=by
 refine⟨h.rn,h.le,h.up,fun hg=>⟨(h.same hg).1,fun a b hab ha=>?_⟩⟩;rcases hq a b hab with h1|h1|h1
 .exact(h.same hg).2 a b h1 ha
 .exact absurd ha h1
 exact h1
theorem Ri.add {N:Nat} {P:List (Int×Int)} {R:List Int} {S0 S:List Bool} {g:Bool} {Q Q':List (Int×Int)} {a b:Int} (hP:inP N P) (h:Ri N P R S0 S g Q) (hab:(a,b)∈P) (ha:S[a.toNat]? =some true) (hb:S[b.toNat]? =some false):Ri N P R S0 (S.set b.toNat true) true Q':=by
 have:=X8J hb;have:=h.le;exact⟨h.rn.add hP hab ha,by omega,fun _=>by omega,fun hg=>by cases hg⟩
theorem Ri.done {N:Nat} {P:List (Int×Int)} {R:List Int} {S0 S:List Bool} (h:Ri N P R S0 S false P):S=czL P R N:=by
 refine Xba h.rn.len fun n hn=>⟨h.rn.snd n,fun hc=>?_⟩
 have key:∀{x:Int},Cz P (fun x=>x∈R) x->S[x.toNat]? =some true:=by
  intro x hx
  induction hx with
  |base hb=>exact h.rn.base _ hb
  |step hab _ ih=>exact(h.same rfl).2 _ _ hab ih
 simpa using key hc
theorem prs_snoc (back rel:Bool) (E:List Dp) (x:Dp):prs back rel (E++[x])=prs back rel E++(if(rel||decide (x.k≠2))=true then [if back=true then(x.t,x.f)else(x.f,x.t)] else []):=by
 unfold prs;rw[Da,DA];by_cases h:(rel||decide (x.k≠2))=true
 .simp only[List.filter_cons,h,Nj,List.filter_nil,Nk,Nr]
 simp only[List.filter_cons,h,List.filter_nil];simp
theorem X8x (back rel:Bool) (E:List Dp):(prs back rel E).length<=E.length:=by rw[prs,NW];exact Dh ..
theorem prs_in {back rel:Bool} {E:List Dp} {N:Nat} (h:∀e∈E,(0<=e.f/\e.f<N)/\(0<=e.t/\e.t<N)):inP N (prs back rel E):=by
 intro p hp;obtain⟨x,hx,_,rfl⟩:=X8L.1 hp;have:=h x hx;cases back
 .exact⟨this.1,this.2⟩
 exact⟨this.2,this.1⟩
end Go.Proofs.YtdajceakaakdoaaGreat
namespace Go.Proofs.YtdajceakaakdoaaGreat
open Go Go.Hl
open Tryz(prog)
theorem Zt:∀(l:List St) (i:Int),i<0->Zr l i=none
 |[],i,h=>X28 i
 | .mk d c v n t a b bs::l,i,h=>by
   rw[X0i];rw[N7 (by omega),Zt a _ (by omega)];simp only;rw[Zt b _ (by omega)];simp only;exact Zt l _ (by omega)
theorem X02:∀(l:List St) (i:Int),(szL l:Int)<=i->Zr l i=none
 |[],i,h=>X28 i
 | .mk d c v n t a b bs::l,i,h=>by
   simp only[szL,szS]at h;rw[X0i];rw[N7 (by omega),X02 a _ (by omega)];simp only;rw[X02 b _ (by omega)];simp only;exact X02 l _ (by omega)
theorem X11:∀(l:List St) (i:Int),0<=i->i<(szL l:Int)->∃s,Zr l i=some s/\s.nodes<=Xl l/\(Z9 l=true->X4v s=true)/\i+szS s<=szL l/\szL (woL l i)+szS s=szL l
 |[],i,h0,h=>by simp only[szL]at h;omega
 | .mk d c v n t a b bs::l,i,h0,h=>by
   simp only[szL,szS]at h;rw[X0i];split
   .rename_i e;subst e;refine⟨_,rfl,?_,?_,?_,?_⟩
    .simp only[Xl];omega
    .intro hb;simp only[Z9,N3]at hb;exact hb.1
    .simp only[szL,szS];omega
    simp only[woL,N8,List.nil_append,szL];rw[X0U l _ (by have:=X8s (.mk d c v n t a b bs);omega)];omega
   rename_i e;by_cases ha:i - 1<(szL a:Int)
   .obtain⟨s,h1,h2,h3,h4,h5⟩:=X11 a (i - 1) (by omega) ha;rw[h1];refine⟨s,rfl,?_,?_,?_,?_⟩
    .simp only[Xl,St.nodes];omega
    .intro hb;simp only[Z9,X4v,N3]at hb;exact h3 hb.1.2.1
    .simp only[szL,szS];omega
    simp only[woL,N7 e,woS,List.cons_append,List.nil_append,szL,szS];rw[X0U b _ (by omega),X0U l _ (by omega)];omega
   rw[X02 a _ (by omega)];simp only;by_cases hb:i - 1 - (szL a:Int)<(szL b:Int)
   .obtain⟨s,h1,h2,h3,h4,h5⟩:=X11 b (i - 1 - szL a) (by omega) hb;rw[h1];refine⟨s,rfl,?_,?_,?_,?_⟩
    .simp only[Xl,St.nodes];omega
    .intro hb;simp only[Z9,X4v,N3]at hb;exact h3 hb.1.2.2
    .simp only[szL,szS];omega
    simp only[woL,N7 e,woS,List.cons_append,List.nil_append,szL,szS];rw[X0U a _ (by omega),X0U l _ (by omega)];omega
   rw[X02 b _ (by omega)];simp only;obtain⟨s,h1,h2,h3,h4,h5⟩:=X11 l (i - 1 - szL a - szL b) (by omega) (by omega);rw[h1];refine⟨s,rfl,?_,?_,?_,?_⟩
   .simp only[Xl];omega
   .intro hb;simp only[Z9,N3]at hb;exact h3 hb.2
   .simp only[szL,szS];omega
   simp only[woL,N7 e,woS,List.cons_append,List.nil_append,szL,szS];rw[X0U a _ (by omega),X0U b _ (by omega),show i - ((1+szL a+szL b:Nat):Int)=i - 1 - szL a - szL b by omega];omega
theorem XcF:∀l:List St,∀i:Int,0<=i->Zr l i=(flL l)[i.toNat]? :=by
 apply St.lind
 .intro i _;rw[X28];simp[flL]
 intro d c v n t a b bs l ia ib il i hi;rw[X0i];simp only[flL,flS,List.cons_append,Dx];split
 .rename_i h0;subst h0;simp
 rename_i h0;have e1:i.toNat=(i - 1).toNat+1:=by omega
 rw[e1,List.getElem?_cons_succ];by_cases h1:i - 1<szL a
 .rw[ia (i - 1) (by omega),Nv (by rw[Q2];omega)];have hl:(i - 1).toNat<(flL a).length:=by rw[Q2];omega
  rw[Nz hl]
 rw[X02 a _ (by omega)];simp only;rw[Np (by rw[Q2];omega),Q2];have e2:(i - 1).toNat - szL a=(i - 1 - szL a).toNat:=by omega
 rw[e2];by_cases h2:i - 1 - szL a<szL b
 .rw[ib (i - 1 - szL a) (by omega),Nv (by rw[Q2];omega)];have hl:(i - 1 - szL a).toNat<(flL b).length:=by rw[Q2];omega
  rw[Nz hl]
 rw[X02 b _ (by omega)];simp only;rw[Np (by rw[Q2];omega),Q2];have e3:(i - 1 - szL a).toNat - szL b=(i - 1 - szL a - szL b).toNat:=by omega
 rw[e3,il _ (by omega)]
def fdC:Option St->CD
 |none=>.lit (.pointer none)
 |some s=>.ptr s.enc
def fdO (o:Option St) (fd:Option St):Option St:=match o with|some s=>some s|none=>fd
theorem fd_step (s:St) (l:List St) (i a:Int) (fd:Option St) (h:0<=a):
  fdO (Zr (s::l) (i - a)) fd=fdO (Zr l (i - (a+1+szL s.then_+szL s.else_))) (fdO (Zr s.else_ (i - (a+1+szL s.then_))) (fdO (Zr s.then_ (i - (a+1))) (if a=i then some s else fd))):=by
 obtain⟨d,c,v,n,t,sa,sb,bs⟩:=s;simp only[St.then_,St.else_];rw[X0i,show i - (a+1)=i - a - 1 by omega,show i - (a+1+(szL sa:Int))=i - a - 1 - szL sa by omega,show i - (a+1+(szL sa:Int)+szL sb)=i - a - 1 - szL sa - szL sb by omega];obtain⟨j,hj⟩:∃j,i - a=j:=⟨_,rfl⟩;rw[hj];by_cases h0:j=0
 .rw[N8 h0,N8 (by omega),Zt sa _ (by omega),Zt sb _ (by omega),Zt l _ (by omega)];rfl
 rw[N7 h0,N7 (by omega)];cases ha:Zr sa (j - 1)with
 | some x=>
   have:j - 1<szL sa:=by
    rcases Int.lt_or_le (j - 1) (szL sa)with h|h
    .exact h
    rw[X02 sa _ h]at ha;cases ha
   rw[Zt sb _ (by omega),Zt l _ (by omega)];rfl
 | none=>
   cases hb:Zr sb (j - 1 - szL sa)with
   | some x=>
     have:j - 1 - szL sa<szL sb:=by
      rcases Int.lt_or_le (j - 1 - szL sa) (szL sb)with h|h
      .exact h
      rw[X02 sb _ h]at hb;cases hb
     rw[Zt l _ (by omega)];rfl
   |none=>rfl
def atO (i a:Int) (fd:CD):List (Nat×Ob):=[(1000000,.box [.c (iC a)]),(1000001,.box [.c (iC i)]),(1000002,.box [.c fd]),(1000003,.box [.fn 86 [(1000000,0),(1000001,0),(1000002,0),(1000003,0)]])]
theorem at1_con (i:Int) (l:List St):Xl l<=1000000->∀(a:Int) (fd:Option St),0<=a->a+szL l<=5000000->
  X5A prog 86 (atO i a (fdC fd)) [lS l,.one (.at_ 1000000 0),.one (.at_ 1000001 0),.one (.at_ 1000002 0),.one (.at_ 1000003 0)] (.tup []) (atO i (a+szL l) (fdC (fdO (Zr l (i - a)) fd))):=by
 revert l
 apply St.lists;intro l ih hn a fd h0 h1;have hlen:=Qs l;obtain⟨A,hA⟩:∃x,a+(szL l:Int)=x:=⟨_,rfl⟩;obtain⟨R,hR⟩:∃x,fdO (Zr l (i - a)) fd=x:=⟨_,rfl⟩;rw[hA]at h1⊢;rw[hR];simp only[atO]at ih⊢;refine X9E Tryz.func86 rfl (by kernel_rfl) (NL rfl) (pin_mk rfl) ?_;simp only[Tryz.f86];refine X2 ?_;refine X3<|(Xg [0,1,2,3,4,8] (fun(x:Nat×Int×Option St)=>[(9,.v (li x.1))]) (fun x=>[(1000000,.box [.c (iC x.2.1)]),(1000001,.box [.c (iC i)]),(1000002,.box [.c (fdC x.2.2)]),(1000003,.box [.fn 86 [(1000000,0),(1000001,0),(1000002,0),(1000003,0)]])]) (fun x=>x.1<=l.length/\x.2.1+(szL (l.drop x.1):Int)=A/\fdO (Zr (l.drop x.1) (i - x.2.1)) x.2.2=R/\0<=x.2.1) (fun x=>l.length - x.1) (0,a,fd) ⟨Nq _,hA,hR,h0⟩ ?_ ?_)
 .exact X4 (fun n=>n) []
 rintro⟨k,c,fc⟩ ⟨hk,hJ,hF,hc0⟩;simp only[upS,X8,Xz]
 simp only[KN,Nat.reduceBEq,Nj,Nc,ins,Nat.reduceLT]
 simp only at hk hJ hF hc0;clear hA hR h0;refine X2 ?_;refine X0<|(X6 rfl (fun h3=>Xe ?_) (fun h3=>?_))
 ·simp only[BN]at h3;have hlt:k<l.length:=by omega
  obtain⟨s,he,hd⟩:=Xt hlt;have hw1:=XD hlt (by omega);have hk1:k+1<=l.length:=hlt;have hmem:s∈l:=N4 he;have hnm:=QJ hmem;have he':=Q4 he;have iha:=(ih s hmem).1 (by omega);have ihb:=(ih s hmem).2 (by omega);rw[hd]at hJ hF;rw[fd_step s _ i c fc hc0]at hF;simp only[szL]at hJ;obtain⟨f1,hf1⟩:∃x,(if c=i then some s else fc)=x:=⟨_,rfl⟩;rw[hf1]at hF;have hlb:=Zh s.else_;have hla:=Zh s.then_
  have hss:szS s=1+szL s.then_+szL s.else_:=by
   obtain⟨sd,sc,sv,sn,t,sa,sb,sbs⟩:=s;simp only[szS,St.then_,St.else_]
  have iha:=iha (c+1) f1 (by omega) (by omega);have ihb:=ihb (c+1+szL s.then_) (fdO (Zr s.then_ (i - (c+1))) f1) (by omega) (by omega);obtain⟨f2,hf2⟩:∃x,fdO (Zr s.then_ (i - (c+1))) f1=x:=⟨_,rfl⟩;rw[hf2]at iha ihb hF;obtain⟨f3,hf3⟩:∃x,fdO (Zr s.else_ (i - (c+1+(szL s.then_:Int)))) f2=x:=⟨_,rfl⟩;rw[hf3]at ihb hF
  have hfs:c=i->fdC f1=.ptr s.enc:=by
   intro h;rw[<-hf1,N8 h];rfl
  have hfn:¬c=i->f1=fc:=by
   intro h;rw[<-hf1,N7 h]
  obtain⟨sd,sc,sv,sn,⟨so,stn,sks⟩,sa,sb,sbs⟩:=s;simp only[St.then_,St.else_,St.term]at iha ihb hnm hF hla hlb;simp only[szS]at hJ;clear hss;simp only[St.enc,Tm.enc,List.cons_append,List.nil_append]at he' hfs;generalize szL sa=na at*;generalize szL sb=nb at*;have hwa:IntKind.i64.wrap (c+1)=c+1:=Xa;clear hlt h3 ih hmem hd he hf1 hf2 hf3;refine X0<|X3<|X0<|X1 ?_;refine(XT [0,1,2,3,4,6,8,9] (fun(z:Unit)=>[]) (fun(z:Unit)=>[(1000000,.box [.c (iC c)]),(1000001,.box [.c (iC i)]),(1000002,.box [.c (fdC f1)]),(1000003,.box [.fn 86 [(1000000,0),(1000001,0),(1000002,0),(1000003,0)]])]) (fun(z:Unit)=>True) ?_ ?_)
  ·
   refine X2 ?_;refine(Xb rfl (fun h7=>?_) fun h7=>?_)
   ·simp only[BN]at h7;have hfs:=hfs (by simpa using h7);clear h7 hfn;refine X1 ?_;exact⟨(),trivial,X4 (fun n=>n) []⟩
   simp only[BN]at h7;have hfn:=hfn (by simpa using h7);clear h7 hfs;subst hfn;exact⟨(),trivial,X4 (fun n=>n) []⟩
  rintro⟨⟩ hz;simp only[upS,X8,Xz]
  simp only[KN,Nat.reduceBEq,Nj,Nc]
  clear hfs hfn;refine X2 ?_;refine X0<|(X9K [] 6 [] (fun n=>n) (fun n=>n) (by kernel_rfl) (by kernel_rfl) (by rfl) (by kernel_rfl) (by rfl) (by simp[*,evcH,hokB,QQ];first|exact⟨rfl,Iff.rfl⟩|exact⟨rfl,trivial⟩|rfl) trivial (by rfl) (by simp;rfl) (QP (by simp) (by simp) (by simp) (by simp) (by simp)) iha (by rfl) ?_);refine(X9K [] 6 [] (fun n=>n) (fun n=>n) (by kernel_rfl) (by kernel_rfl) (by rfl) (by kernel_rfl) (by rfl) (by simp[*,evcH,hokB,QQ];first|exact⟨rfl,Iff.rfl⟩|exact⟨rfl,trivial⟩|rfl) trivial (by rfl) (by simp;rfl) (QP (by simp) (by simp) (by simp) (by simp) (by simp)) ihb (by rfl) ?_);refine X1 ?_;exact⟨(k+1,c+1+na+nb,f3),⟨hk1,by simp only;omega,hF,by simp only;omega⟩,by simp only;omega,X4 (fun n=>n) []⟩
 simp only[BN]at h3;have hkl:k=l.length:=by omega
 rw[hkl,Nw]at hJ hF;rw[X28]at hF;simp only[szL,fdO]at hJ hF;have hJ:c=A:=by omega
 subst hJ hF;refine(Xi ?_);exact⟨.inl rfl,HT_endS (by simp;rfl) (by simp[XG]) (by simp[*])⟩
theorem atP_con (f:Fl) (hn:Xl f.body<=1000000) (hb:Z9 f.body=true) (i:Int) (s:St) (hs:Zr f.body i=some s) (d:Nat):Con prog 45 false [aF f,li i] (.tup [aS s,li 0]) none d:=by
 have hsl:=Zh f.body
 have h0:0<=i:=by
  rcases Int.lt_or_le i 0 with h|h
  .rw[Zt _ _ h]at hs;cases hs
  exact h
 have h1:i<szL f.body:=by
  rcases Int.lt_or_le i (szL f.body)with h|h
  .exact h
  rw[X02 _ _ h]at hs;cases hs
 obtain⟨s',e1,e2,e3,_⟩:=X11 f.body i h0 h1;rw[hs]at e1;cases e1;have cc:=XdK s (by omega) (e3 hb);have ca:=at1_con i f.body hn 0 none (by decide) (by omega);rw[Int.sub_zero,hs]at ca;obtain⟨A,hA⟩:∃x,(0:Int)+(szL f.body:Int)=x:=⟨_,rfl⟩;rw[hA]at ca;obtain⟨vars,hats,body⟩:=f;obtain⟨sd,sc,sv,sn,⟨so,stn,sks⟩,sa,sb,sbs⟩:=s;simp only[atO,fdC,fdO,St.enc,Tm.enc,List.cons_append,List.nil_append]at ca;simp only[aS,St.enc,Tm.enc,Nk,Nr,List.cons_append,List.nil_append]at cc;clear hsl h0 h1 e2 e3 hs hn hb hA;refine X5 Tryz.func45 ?_;simp only[Tryz.f45];simp only[aF,Fl.enc,aS,St.enc,Tm.enc,Nk,Nr,List.cons_append,List.nil_append];refine X2 ?_;refine X2 ?_;refine X2 ?_;refine X2 ?_;refine X2 ?_;refine X0<|(HT_runsS ?_);refine RunsS.cutE 3 [] (by simp[*];rfl) trivial (le_refl _) ?_;refine RunsS.call (fun n=>if n=1000000 then 8 else if n=1000001 then 3 else if n=1000002 then 6 else if n=1000003 then 7 else n) (fun n=>if n=1000000 then 8 else if n=1000001 then 3 else if n=1000002 then 6 else if n=1000003 then 7 else n) (by simp;rfl) (QP (by simp) (by simp) (by simp) (by simp) (by simp)) ca (by rfl) ?_;refine RunsS.doneE [] (by simp;rfl) trivial ?_;refine X0<|X0<|X1 ?_;refine(Xb rfl (fun h7=>?_) fun h7=>?_)
 .exact Bool.noConfusion h7
 simp only at h7;refine Xh [⟨false,.v (.agg [.c (iC sd),.c (iC sc),.c (iC sv),.c (iC sn),.c (iC so),.c (iC stn),.c (.sl 3 (Xx sks)),.c (.sl 10 (X7 sa)),.c (.sl 10 (X7 sb)),.c (.sl 1 (X9 sbs))]),none⟩] ?_ ?_
 .first|exact cc _|exact trivial|simpa[*]using cc _
 exact XZ ⟨.inr rfl,_,le_refl _,⟨⟨_,by simp;rfl,by simp[XG]⟩,by simp,fun h=>by cases h⟩⟩
variable {n:Nat} {L:List (List Nat)}
end Go.Proofs.YtdajceakaakdoaaGreat
namespace Go.Proofs.YtdajceakaakdoaaGreat
open Go Go.Hl
open Tryz(prog)
section
variable {c A lo hi:Int} {t:Tm} {body:Sta->Sta}
end
end Go.Proofs.YtdajceakaakdoaaGreat
