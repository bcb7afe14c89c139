/- Part 4: contracts of functions of the program and of the reference, and plain facts about what they compute; used by the proof of the claimed statement. Conditions: as each theorem states. -/
import Derived.Test.YtdajceakaakdoaaGreatI3
set_option linter.unusedSimpArgs false
set_option linter.unusedVariables false
set_option linter.unnecessarySimpa false
set_option maxRecDepth 100000
set_option maxHeartbeats 2000000
namespace Go.Proofs.YtdajceakaakdoaaGreat
open Go Go.Hl
abbrev XP (k d:Int):List CD:=[iC k,iC d,iC (-1),iC (-1)]
theorem WW (b:Nat) (rows:List (List CD)) (d k:Int) (hr:rows.length≤2000000):
  X1g Tryz.prog 250 (some (pV b)) (Wm rows d) [.one (.c (.lit (pV b))),.one (.c (iC k))] (fun _:Unit=>True) (fun _=>.tup []) (fun _=>Wm (rows++[XP k d]) d):=by
 have hroom:Wa (rows.length+1) 32:=Qc (by omega) (by decide);refine Qq Tryz.func250 rfl (by kernel_rfl) (Nat.le_of_ble_eq_true rfl) X19 X7z ?_;simp only[Tryz.f250];refine XH (s':=⟨⟨19,some (pV b)⟩,[(0,atB),(1,lit (.int .i64 k))],Wm rows d⟩) (Xa2 (v:=pV b) (cs:=[.own 900001,.c (iC d)]) rfl rfl rfl (by simp[QL,Zb,pnR,pnC,lkp]) (by simp[Zb,pnO,pnL,pnC,lkp])) ?_;refine X8s [(7,1000000),(12,1000000),(18,1000000)] (by kernel_rfl) (by kernel_rfl) (by rfl) (by simp[evsH,hokB,QD,hroom,XO,QE,Q3,cellsOf,W8,WN,WJ,Wh,Zg,lkp,ins,del];rfl) ?_;refine⟨.inl rfl,(),trivial,⟨⟨19,some (pV b)⟩,[],Wm (rows++[XP k d]) d⟩,Xx (fun n=>if n=900001 then 16 else n) [] rfl ?_ ?_ ?_,⟨[],rfl,rfl⟩,fun n o h=>h⟩
 · trivial
 · simp[Zb,X0C,Ob.okNil,Ob.ren,lkp,CV.ren,CV.okNil]
 simp[Zb,X0C]
end Go.Proofs.YtdajceakaakdoaaGreat

namespace Go.Proofs.YtdajceakaakdoaaGreat
open Go Go.Hl
abbrev Wi:=Bool×Nat
abbrev Wi.c (b:Nat) (s:Wi):CD:=.fn (if s.1=true then 265 else 228) [.ptr [.lit (pV b)],.ptr [iC s.2]]
def X0j (rows:List (List CD)) (s:Wi) (k:Nat):List (List CD):=setRow rows s.2 (if s.1=true then 3 else 2) [iC k]
def Xz (k:Nat):List Wi→List (List CD)→List (List CD)
 |[],rows=>rows
 |s::l,rows=>Xz k l (X0j rows s k)
abbrev Bst:=List (List CD)×Int
mutual
def WZ:St→Nat→Bst→Bst×List Wi
 | .mk o _ _ _ _ a b _,k,st=>
   if o=3 then
    let x:=Q0 a [(false,k)] (st.1++[XP 3 st.2],st.2+1)
    let y:=Q0 b [(true,k)] x.1
    (y.1,x.2++y.2)
   else if o=4 then
    let x:=Q0 a [(false,k+1)] (setRow (st.1++[XP 4 st.2]++[XP 5 st.2]) k 2 [iC ((k:Int)+1)],st.2+1)
    ((Xz (k+1) x.2 x.1.1,x.1.2),[(true,k+1)])
   else((st.1++[XP 2 st.2],st.2+1),[(false,k)])
def Q0:List St→List Wi→Bst→Bst×List Wi
 |[],sl,st=>(st,sl)
 | s::l,sl,st=>
   let x:=WZ s st.1.length (Xz st.1.length sl st.1,st.2)
   Q0 l x.2 x.1
end
mutual
def szN:St→Nat
 | .mk _ _ _ _ _ a b _=>2+X00 a+X00 b
def X00:List St→Nat
 |[]=>0
 |s::l=>szN s+X00 l
end
structure okB (sl:List Wi) (rows:List (List CD)):Prop where
 four:∀r∈rows,r.length=4
 lt:∀s∈sl,s.2<rows.length
theorem Wu (rows:List (List CD)) (i off:Nat) (ds:List CD):(setRow rows i off ds).length=rows.length:=by
 unfold setRow;split<;>simp
theorem X0f {rows:List (List CD)} {i off:Nat} {x:CD} (h:∀r∈rows,r.length=4) (ho:off<4):∀r∈setRow rows i off [x],r.length=4:=by
 intro r hr;unfold setRow at hr;split at hr
 · rename_i r0 h0;rcases List.mem_or_eq_of_mem_set hr with hr|rfl
   · exact h r hr
   have:=h r0 (List.mem_of_getElem? h0);simp[this];omega
 exact h r hr
theorem X1Q (rows:List (List CD)) (s:Wi) (k:Nat):(X0j rows s k).length=rows.length:=Wu ..
theorem XZ (k:Nat):∀(sl:List Wi) (rows:List (List CD)),(Xz k sl rows).length=rows.length
 |[],_=>rfl
 |s::l,rows=>by rw[Xz,XZ k l,X1Q]
theorem ZR {rows:List (List CD)} {s:Wi} {k:Nat} (h:∀r∈rows,r.length=4):∀r∈X0j rows s k,r.length=4:=
 X0f h (by split<;>omega)
theorem ZC (k:Nat):∀(sl:List Wi) (rows:List (List CD)),(∀r∈rows,r.length=4)→∀r∈Xz k sl rows,r.length=4
 |[],_,h=>h
 |s::l,rows,h=>ZC k l _ (ZR h)
theorem Wj {rows:List (List CD)} {k d:Int} (h:∀r∈rows,r.length=4):∀r∈rows++[XP k d],r.length=4:=by
 intro r hr;rcases List.mem_append.1 hr with hr|hr
 · exact h r hr
 simp only[List.mem_singleton]at hr;rw[hr];rfl
mutual
theorem X4W:∀(s:St) (k:Nat) (st:Bst),(∀r∈st.1,r.length=4)→k=st.1.length→
  okB (WZ s k st).2 (WZ s k st).1.1∧st.1.length≤(WZ s k st).1.1.length∧(WZ s k st).1.1.length≤st.1.length+szN s∧st.2≤(WZ s k st).1.2∧(WZ s k st).1.2≤st.2+szN s
 | .mk o c v n t a b bs,k,st,h4,hk=>by
   unfold WZ szN;split
   · have ha:=Wl a [(false,k)] (st.1++[XP 3 st.2],st.2+1) ⟨Wj h4,by simp[hk]⟩;obtain⟨a1,a2,a3,a4,a5⟩:=ha;obtain⟨x,hx⟩:∃x,Q0 a [(false,k)] (st.1++[XP 3 st.2],st.2+1)=x:=⟨_,rfl⟩;simp only[hx]at a1 a2 a3 a4 a5⊢;simp only[List.length_append,List.length_singleton]at a2 a3;have hb:=Wl b [(true,k)] x.1 ⟨a1.four,by simp;omega⟩;obtain⟨b1,b2,b3,b4,b5⟩:=hb;refine⟨⟨b1.four,fun s hs=>?_⟩,by omega,by omega,by omega,by omega⟩;rcases List.mem_append.1 hs with hs|hs
     · exact Nat.lt_of_lt_of_le (a1.lt s hs) b2
     exact b1.lt s hs
   split
   · have ha:=Wl a [(false,k+1)] (setRow (st.1++[XP 4 st.2]++[XP 5 st.2]) k 2 [iC ((k:Int)+1)],st.2+1) ⟨X0f (Wj (Wj h4)) (by omega),by simp[hk,Wu]⟩;obtain⟨a1,a2,a3,a4,a5⟩:=ha;obtain⟨x,hx⟩:∃x,Q0 a [(false,k+1)] (setRow (st.1++[XP 4 st.2]++[XP 5 st.2]) k 2 [iC ((k:Int)+1)],st.2+1)=x:=⟨_,rfl⟩;simp only[hx]at a1 a2 a3 a4 a5⊢;simp only[Wu,List.length_append,List.length_singleton]at a2 a3;refine⟨⟨ZC _ _ _ a1.four,fun s hs=>?_⟩,by rw[XZ];omega,by rw[XZ];omega,by omega,by omega⟩;simp only[List.mem_singleton]at hs;rw[hs,XZ];show k+1<_;omega
   refine⟨⟨Wj h4,fun s hs=>?_⟩,by simp,by simp;omega,by show st.2≤st.2+1;omega,by show st.2+1≤_;omega⟩;simp only[List.mem_singleton]at hs;rw[hs];simp[hk]
theorem Wl:∀(l:List St) (sl:List Wi) (st:Bst),okB sl st.1→
  okB (Q0 l sl st).2 (Q0 l sl st).1.1∧st.1.length≤(Q0 l sl st).1.1.length∧(Q0 l sl st).1.1.length≤st.1.length+X00 l∧st.2≤(Q0 l sl st).1.2∧(Q0 l sl st).1.2≤st.2+X00 l
 | [],sl,st,h=>by
   unfold Q0 X00;exact⟨h,Nat.le_refl _,Nat.le_refl _,Int.le_refl _,by simp⟩
 | s::l,sl,st,h=>by
   unfold Q0 X00;have ha:=X4W s st.1.length (Xz st.1.length sl st.1,st.2) (ZC _ _ _ h.four) (XZ ..).symm;obtain⟨a1,a2,a3,a4,a5⟩:=ha;obtain⟨x,hx⟩:∃x,WZ s st.1.length (Xz st.1.length sl st.1,st.2)=x:=⟨_,rfl⟩;simp only[hx,XZ]at a1 a2 a3 a4 a5⊢;obtain⟨b1,b2,b3,b4,b5⟩:=Wl l x.2 x.1 a1;exact⟨b1,by omega,by omega,by omega,by omega⟩
end
mutual
theorem X7V:∀(s:St) (k:Nat) (st:Bst),(WZ s k st).2.length≤szN s
 | .mk o c v n t a b bs,k,st=>by
   unfold WZ szN;split
   · have h1:=Zw a [(false,k)] (st.1++[XP 3 st.2],st.2+1);have h2:=Zw b [(true,k)] (Q0 a [(false,k)] (st.1++[XP 3 st.2],st.2+1)).1;simp only[List.length_singleton]at h1 h2;simp only[List.length_append];omega
   split<;>simp only[List.length_singleton]<;>omega
theorem Zw:∀(l:List St) (sl:List Wi) (st:Bst),(Q0 l sl st).2.length≤max sl.length (X00 l)
 | [],sl,st=>by
   unfold Q0 X00;exact Nat.le_max_left ..
 | s::l,sl,st=>by
   unfold Q0 X00;have h1:=X7V s st.1.length (Xz st.1.length sl st.1,st.2);have h2:=Zw l (WZ s st.1.length (Xz st.1.length sl st.1,st.2)).2 (WZ s st.1.length (Xz st.1.length sl st.1,st.2)).1;simp only at h1 h2⊢;omega
end
end Go.Proofs.YtdajceakaakdoaaGreat

namespace Go.Proofs.YtdajceakaakdoaaGreat
open Go Go.Hl
def QF (b:Nat) (sl:List Wi):List (List CD):=sl.map fun s=>[s.c b]
@[simp] theorem len_encSl (b:Nat) (sl:List Wi):(QF b sl).length=sl.length:=by simp[QF]
theorem X3V {b:Nat} {sl:List Wi} {i:Nat} {s:Wi} (h:sl[i]? =some s):(QF b sl)[i]? =some [s.c b]:=by simp[QF,h]
def oneC (b:Nat) (s:St):Prop:=∀(k:Nat) (rows:List (List CD)) (d:Int),(∀r∈rows,r.length=4)→k=rows.length→rows.length+szN s≤1000000→0≤d→d+szN s≤1000000→
 X1g Tryz.prog 227 (some (pV b)) (Wm rows d) [.one (.c (.lit (pV b))),aS s,.one (.c (iC k))] (fun _:Unit=>True) (fun _=>.v (.one (.own 1))) (fun _=>(1,.row 250 1 (QF b (WZ s k (rows,d)).2))::Wm (WZ s k (rows,d)).1.1 (WZ s k (rows,d)).1.2)
theorem X5o (b:Nat) (rows:List (List CD)) (d:Int) (k:Nat) (s:Wi) (h4:∀r∈rows,r.length=4) (hs:s.2<rows.length):
  X1g Tryz.prog (if s.1=true then 265 else 228) (some (pV b)) (Wm rows d) [.one (.c (iC k)),.one (.c (.ptr [.lit (pV b)])),.one (.c (.ptr [iC s.2]))] (fun _:Unit=>True) (fun _=>.tup []) (fun _=>Wm (X0j rows s k) d):=by
 obtain⟨o,m⟩:=s;have hr:rows[m]? =some rows[m]:=List.getElem?_eq_getElem hs;unfold X0j;cases o with
 |true=>exact Xa9 (pV b) rows d k m _ hr (h4 _ (List.getElem_mem _))
 |false=>exact XbJ (pV b) rows d k m _ hr (h4 _ (List.getElem_mem _))
theorem bldS_pin {x:Ob} {rows:List (List CD)} {d:Int} (hx:∀cs,x≠ .box cs):∀n cs,lkp ((1,x)::Wm rows d) n=some (.box cs)→1000000≤n:=by
 intro n cs h;simp only[lkp]at h;split at h
 · exact absurd (Option.some.inj h) (hx cs)
 exact X19 n cs h
set_option maxHeartbeats 4000000 in
theorem list_con (b:Nat) (l:List St) (hone:∀s∈l,oneC b s) (sl:List Wi) (rows:List (List CD)) (d:Int) (hok:okB sl rows) (hn:rows.length+X00 l≤1000000) (hd:0≤d) (hd2:d+X00 l≤1000000) (hl:l.length≤1000000) (hsl:sl.length≤1000000):
  X1g Tryz.prog 188 (some (pV b)) ((1,.row 250 1 (QF b sl))::Wm rows d) [.one (.c (.lit (pV b))),lS l,.one (.own 1)] (fun _:Unit=>True) (fun _=>.v (.one (.own 1))) (fun _=>(1,.row 250 1 (QF b (Q0 l sl (rows,d)).2))::Wm (Q0 l sl (rows,d)).1.1 (Q0 l sl (rows,d)).1.2):=by
 obtain⟨RES,hR⟩:∃x,Q0 l sl (rows,d)=x:=⟨_,rfl⟩;rw[hR];refine Qq Tryz.func188 rfl (by kernel_rfl) (Nat.le_of_ble_eq_true rfl) (bldS_pin (by intro cs;simp)) (fun _ _=>⟨_,rfl⟩) ?_;simp only[Tryz.f188];refine X0<|(Xq (by simp[*,Qf];rfl) ?_);refine X0<|X0<|(Xq (by simp[*,Qf];rfl) ?_);refine X3<|(Xf [0,12,13] (fun(x:Nat×List Wi×List (List CD)×Int)=>[(2,.v (.one (.own 1))),(14,lit (.int .i64 x.1))]) (fun(x:Nat×List Wi×List (List CD)×Int)=>(1,.row 250 1 (QF b x.2.1))::Wm x.2.2.1 x.2.2.2) (fun(x:Nat×List Wi×List (List CD)×Int)=>okB x.2.1 x.2.2.1∧x.2.1.length≤1000000∧x.1≤l.length∧Q0 (l.drop x.1) x.2.1 (x.2.2.1,x.2.2.2)=RES∧x.2.2.1.length+X00 (l.drop x.1)≤1000000∧0≤x.2.2.2∧x.2.2.2+X00 (l.drop x.1)≤1000000) (fun(x:Nat×List Wi×List (List CD)×Int)=>l.length - x.1) (0,sl,rows,d) ⟨hok,hsl,Nat.zero_le _,hR,hn,hd,hd2⟩ ?_ ?_)
 · exact Xx (fun n=>n) [] rfl (by simp[*,upS,X6,Qf]) (by simp[*,upS]) (by simp[upS])
 rintro⟨j,sl1,rows1,d1⟩ ⟨e1,e7,e2,e3,e4,e5,e6⟩;simp only[upS,X6,XB]
 try simp only[X6,KN,Nat.reduceBEq,if_true,if_false,ins,Nat.reduceLT]
 simp only at e1 e7 e2 e3 e4 e5 e6;clear hR hok hn hd hd2 hsl;refine X0<|(Xq (by simp[*,Qf];rfl) ?_);refine X0<|(X7 rfl (fun h4=>Xb ?_) (fun h4=>?_))
 · (try simp only[BN]at h4);have hj:j<l.length:=by simpa using h4
   obtain⟨s,hs,hdr⟩:=Xt hj;have hse:=Q5 hs;rw[hdr]at e3 e4 e6;simp only[Q0,X00]at e3 e4 e6;have ho:=hone s (List.mem_of_getElem? hs);clear hone;obtain⟨o,c,v,n,⟨to,tn,tk⟩,sa,sb,bs⟩:=s;simp only[St.enc,Tm.enc,List.cons_append,List.nil_append]at hse;have hjn:j+1≤l.length:=hj;clear hj hs h4 hdr;refine X0<|X3<|X0<|(Xq (by simp[*,Qf];rfl) ?_);refine XH (X40 (v:=pV b) 0 rfl rfl rfl) ?_;simp only[ins,Nat.reduceLT,Nat.reduceEqDiff,if_true,if_false];refine X0<|(Xq (by simp[*,Qf];rfl) ?_);refine XH (X49 (v:=pV b) 0 rfl rfl rfl) ?_;simp only[ins,Nat.reduceLT,Nat.reduceEqDiff,if_true,if_false];refine X0<|X0<|(Xq (by simp[*,Qf];rfl) ?_);refine X3<|(Xf [0,8,9,12,13,14,23,24] (fun(x:Nat×List (List CD))=>[(25,lit (.int .i64 x.1))]) (fun(x:Nat×List (List CD))=>(1,.row 250 1 (QF b sl1))::(8,.box [.c (iC o),.c (iC c),.c (iC v),.c (iC n),.c (iC to),.c (iC tn),.c (.sl 3 (XI tk)),.c (.sl 10 (X8 sa)),.c (.sl 10 (X8 sb)),.c (.sl 1 (Xi bs))])::Wm x.2 d1) (fun(x:Nat×List (List CD))=>x.1≤sl1.length∧Xz rows1.length (sl1.drop x.1) x.2=Xz rows1.length sl1 rows1∧(∀r∈x.2,r.length=4)∧x.2.length=rows1.length) (fun(x:Nat×List (List CD))=>sl1.length - x.1) (0,rows1) ⟨Nat.zero_le _,rfl,e1.four,rfl⟩ ?_ ?_)
   · exact Xx (fun n=>n) [] rfl (by simp[*,upS,X6,Qf]) (by simp[*,upS]) (by simp[upS])
   rintro⟨i,rows2⟩ ⟨g1,g2,g3,g4⟩;simp only[upS,X6,XB]
   try simp only[X6,KN,Nat.reduceBEq,if_true,if_false,ins,Nat.reduceLT]
   simp only at g1 g2 g3 g4;refine X0<|(Xq (by simp[*,Qf];rfl) ?_);refine X0<|(X7 rfl (fun h10=>Xb ?_) (fun h10=>?_))
   · (try simp only[BN]at h10);have hi:i<sl1.length:=by simpa using h10
     obtain⟨q,hq,hqd⟩:=Xt hi;have hqe:=X3V (b:=b) hq;rw[hqd]at g2;simp only[Xz]at g2;have cq:=X5o b rows2 d1 rows1.length q g3 (by have:=e1.lt q (List.mem_of_getElem? hq);omega);have hw:=XE hi (by omega:sl1.length≤1000000000);have hin:i+1≤sl1.length:=hi;clear hi hq h10 hqd;refine X0<|X3<|X0<|(Xq (by simp[*,Qf];rfl) ?_);refine(XN ?_);refine RunsN.cutE 2 [] (by simp;rfl) trivial (le_refl _) ?_;refine RunsN.call (fun n=>n) (fun n=>if n=900001 then 40 else n) (by simp[gOfN,X2r,X1M,catT,TV.ren,CV.ren];rfl) (.inr ⟨rfl,rfl⟩) (WB (by simp[rbB,WV,QN,CV.ren]) (by simp) (by simp) (by simp[rbB,WV,QN,CV.ren]) (by simp[rbB,WV,QN,CV.ren])) (fun _ _=>WB (by simp[rbB,WV,QN,CV.ren]) (by simp) (by simp) (by simp[rbB,WV,QN,CV.ren]) (by simp[rbB,WV,QN,CV.ren])) cq (fun _ _=>rfl) fun _ _=>?_;refine RunsN.doneE [] (by simp;rfl) trivial ?_;refine(Xq (by simp[*,Qf];rfl) ?_);exact⟨(i+1,X0j rows2 q rows1.length),⟨hin,g2,ZR g3,(X1Q ..).trans g4⟩,by simp only;omega,Xx (fun n=>if n=900001 then 40 else n) [] rfl (by simp[upS,X6, *,Qf]) (by simp[*,upS,Qf]) (by simp[upS])⟩
   try simp only[BN]at h10
   have hi:i=sl1.length:=by
    have:¬i<sl1.length:=by simpa using h10
    omega
   subst hi;rw[List.drop_length]at g2;simp only[Xz]at g2;subst g2;clear h10 g1;have hb1:=X4W (.mk o c v n (.mk to tn tk) sa sb bs) rows1.length (Xz rows1.length sl1 rows1,d1) g3 g4.symm;have hb2:=X7V (.mk o c v n (.mk to tn tk) sa sb bs) rows1.length (Xz rows1.length sl1 rows1,d1);have cq:=ho rows1.length (Xz rows1.length sl1 rows1) d1 g3 g4.symm (by omega) e5 (by omega);obtain⟨⟨⟨rows3,d3⟩,sl3⟩,hx⟩:∃x,WZ (.mk o c v n (.mk to tn tk) sa sb bs) rows1.length (Xz rows1.length sl1 rows1,d1)=x:=⟨_,rfl⟩;simp only[hx]at e3 hb1 hb2 cq;obtain⟨b1,b2,b3,b4,b5⟩:=hb1;rw[g4]at b2 b3;have hw:=XE (show j<l.length by omega) (by omega:l.length≤1000000000);clear ho hx e1 hse g3 g4;refine(Xg ?_);refine(XN ?_);refine RunsN.cutE 3 [] (by simp;rfl) trivial (le_refl _) ?_;refine RunsN.call (fun n=>n) (fun n=>if n=900001 then 40 else if n=1 then 41 else n) (by simp[gOfN,X2r,X1M,catT,TV.ren,CV.ren];rfl) (.inr ⟨rfl,rfl⟩) (WB (by simp[rbB,WV,QN,CV.ren]) (by simp) (by simp) (by simp[rbB,WV,QN,CV.ren]) (by simp[rbB,WV,QN,CV.ren])) (fun _ _=>WB (by simp[rbB,WV,QN,CV.ren]) (by simp) (by simp) (by simp[rbB,WV,QN,CV.ren]) (by simp[rbB,WV,QN,CV.ren])) cq (fun _ _=>rfl) fun _ _=>?_;refine RunsN.doneE [] (by simp;rfl) trivial ?_;refine(Xq (by simp[*,Qf];rfl) ?_);exact⟨(j+1,sl3,rows3,d3),⟨b1,by simp only;omega,hjn,e3,by simp only;omega,by simp only at b4⊢;omega,by simp only at b5⊢;omega⟩,by simp only;omega,Xx (fun n=>if n=900001 then 40 else if n=1 then 41 else n) [] rfl (by simp[upS,X6, *,Qf]) (by simp[*,upS,Qf]) (by simp[upS])⟩
 try simp only[BN]at h4
 have hj:j=l.length:=by
  have:¬j<l.length:=by simpa using h4
  omega
 subst hj;rw[List.drop_length]at e3;simp only[Q0]at e3;subst e3;clear h4 hone;refine(Xg ?_);refine X0<|(Xq (by simp[*,Qf];rfl) ?_);exact Qm ⟨.inr rfl,(),trivial,_,le_refl _,⟨[.one (.own 1)],by simp,rfl⟩,fun n o h=>h⟩
end Go.Proofs.YtdajceakaakdoaaGreat

namespace Go.Proofs.YtdajceakaakdoaaGreat
open Go Go.Hl
theorem X8a:∀l:List St,l.length≤X00 l
 |[]=>Nat.le_refl _
 | .mk o c v n t a b bs::l=>by
   have:=X8a l;unfold X00 szN;simp only[List.length_cons];omega
def lstC (b:Nat) (l:List St):Prop:=∀(sl:List Wi) (rows:List (List CD)) (d:Int),okB sl rows→rows.length+X00 l≤1000000→0≤d→d+X00 l≤1000000→sl.length≤1000000→
 X1g Tryz.prog 188 (some (pV b)) ((1,.row 250 1 (QF b sl))::Wm rows d) [.one (.c (.lit (pV b))),lS l,.one (.own 1)] (fun _:Unit=>True) (fun _=>.v (.one (.own 1))) (fun _=>(1,.row 250 1 (QF b (Q0 l sl (rows,d)).2))::Wm (Q0 l sl (rows,d)).1.1 (Q0 l sl (rows,d)).1.2)
theorem X2q {b:Nat} {l:List St} (h:∀s∈l,oneC b s):lstC b l:=fun sl rows d h1 h2 h3 h4 h5=>list_con b l h sl rows d h1 h2 h3 h4 (by have:=X8a l;omega) h5
abbrev X3s (o c v n to tn:Int) (tk:List Tm) (sa sb:List St) (bs:List Int):Ob:=.box [.c (iC o),.c (iC c),.c (iC v),.c (iC n),.c (iC to),.c (iC tn),.c (.sl 3 (XI tk)),.c (.sl 10 (X8 sa)),.c (.sl 10 (X8 sb)),.c (.sl 1 (Xi bs))]
def ms6:List (Nat×List Nat):=[(511,[0,1,3,4]),(510,[1,3,4]),(509,[0,2,3,4]),(503,[0,1,4]),(495,[0,1,3]),(508,[2,3,4]),(502,[1,4]),(494,[1,3]),(505,[0,3,4]),(501,[0,2,4]),(493,[0,2,3]),(487,[0,1,5]),(504,[3,4]),(500,[2,4]),(492,[2,3]),(486,[1,5]),(497,[0,4]),(489,[0,3]),(485,[0,2,5]),(455,[0,1,6]),(496,[4]),(488,[3]),(484,[2,5]),(454,[1,6]),(481,[0,5]),(453,[0,2,6]),(391,[0,1]),(480,[5]),(452,[2,6]),(390,[1]),(449,[0,6]),(389,[0,2]),(448,[6]),(388,[2]),(385,[0]),(384,[7]),(256,[8])]
def ms7:List (Nat×List Nat):=[(2047,[0,1,2,4,5]),(2046,[1,2,4,5]),(2045,[0,2,4,5]),(2043,[0,1,3,4,5]),(2031,[0,1,2,5]),(2015,[0,1,2,4]),(2044,[2,4,5]),(2042,[1,3,4,5]),(2030,[1,2,5]),(2014,[1,2,4]),(2041,[0,3,4,5]),(2029,[0,2,5]),(2013,[0,2,4]),(2035,[0,1,4,5]),(2027,[0,1,3,5]),(2011,[0,1,3,4]),(1999,[0,1,2,6]),(2040,[3,4,5]),(2028,[2,5]),(2012,[2,4]),(2034,[1,4,5]),(2026,[1,3,5]),(2010,[1,3,4]),(1998,[1,2,6]),(2033,[0,4,5]),(2025,[0,3,5]),(2009,[0,3,4]),(1997,[0,2,6]),(2019,[0,1,5]),(2003,[0,1,4]),(1995,[0,1,3,6]),(1935,[0,1,2,7]),(2032,[4,5]),(2024,[3,5]),(2008,[3,4]),(1996,[2,6]),(2018,[1,5]),(2002,[1,4]),(1994,[1,3,6]),(1934,[1,2,7]),(2017,[0,5]),(2001,[0,4]),(1993,[0,3,6]),(1933,[0,2,7]),(1987,[0,1,6]),(1931,[0,1,3,7]),(1807,[0,1,2]),(2016,[5]),(2000,[4]),(1992,[3,6]),(1932,[2,7]),(1986,[1,6]),(1930,[1,3,7]),(1806,[1,2]),(1985,[0,6]),(1929,[0,3,7]),(1805,[0,2]),(1923,[0,1,7]),(1803,[0,1,3]),(1984,[6]),(1928,[3,7]),(1804,[2]),(1922,[1,7]),(1802,[1,3]),(1921,[0,7]),(1801,[0,3]),(1795,[0,1]),(1920,[7]),(1800,[3]),(1794,[1]),(1793,[0,8]),(1792,[8]),(1537,[0]),(1536,[9]),(1024,[10])]
def ms15:List (Nat×List Nat):=[(2047,[0,1,3,4,10]),(2046,[1,3,4,10]),(2045,[0,2,3,4,10]),(2039,[0,1,4,10]),(2031,[0,1,3,5,10]),(1023,[0,1,3,4]),(2044,[2,3,4,10]),(2038,[1,4,10]),(2030,[1,3,5,10]),(1022,[1,3,4]),(2041,[0,3,4,10]),(2037,[0,2,4,10]),(2029,[0,2,3,5,10]),(1021,[0,2,3,4]),(2023,[0,1,5,10]),(1015,[0,1,4]),(1999,[0,1,3,10]),(1007,[0,1,3,5]),(2040,[3,4,10]),(2036,[2,4,10]),(2028,[2,3,5,10]),(1020,[2,3,4]),(2022,[1,5,10]),(1014,[1,4]),(1998,[1,3,10]),(1006,[1,3,5]),(2033,[0,4,10]),(2025,[0,3,5,10]),(1017,[0,3,4]),(2021,[0,2,5,10]),(1013,[0,2,4]),(1997,[0,2,3,10]),(1005,[0,2,3,5]),(1991,[0,1,6,10]),(999,[0,1,5]),(975,[0,1,3]),(2032,[4,10]),(2024,[3,5,10]),(1016,[3,4]),(2020,[2,5,10]),(1012,[2,4]),(1996,[2,3,10]),(1004,[2,3,5]),(1990,[1,6,10]),(998,[1,5]),(974,[1,3]),(2017,[0,5,10]),(1009,[0,4]),(1993,[0,3,10]),(1001,[0,3,5]),(1989,[0,2,6,10]),(997,[0,2,5]),(973,[0,2,3]),(1927,[0,1,7,10]),(967,[0,1,6]),(2016,[5,10]),(1008,[4]),(1992,[3,10]),(1000,[3,5]),(1988,[2,6,10]),(996,[2,5]),(972,[2,3]),(1926,[1,7,10]),(966,[1,6]),(1985,[0,6,10]),(993,[0,5]),(969,[0,3]),(1925,[0,2,7,10]),(965,[0,2,6]),(1799,[0,1,10]),(903,[0,1,7]),(1984,[6,10]),(992,[5]),(968,[3]),(1924,[2,7,10]),(964,[2,6]),(1798,[1,10]),(902,[1,7]),(1921,[0,7,10]),(961,[0,6]),(1797,[0,2,10]),(901,[0,2,7]),(775,[0,1]),(1920,[7,10]),(960,[6]),(1796,[2,10]),(900,[2,7]),(774,[1]),(1793,[0,10]),(897,[0,7]),(773,[0,2]),(1792,[8,10]),(896,[7]),(772,[2]),(769,[0]),(1536,[9,10]),(768,[8]),(1024,[10]),(512,[9])]
def nx6 (b k:Nat) (B:Ob) (sa:List St) (x y:List (Nat×Ob)) (R:List Nat):HS:=
 {trS ⟨⟨100,some (pV b)⟩,[(0,.v (.one (.c (.lit (pV b))))),(2,lit (.int .i64 k)),(4,.v (.one (.at_ 4 0)))],[]⟩ [(0,23,.v (.one (.c (.lit (pV b))))),(1,24,.v (.one (.at_ 4 7))),(2,25,.v (lS sa)),(3,26,.v (.one (.c (.lit (pV b))))),(4,27,lit (.int .i64 k)),(5,28,.v (.one (.c (nxC b k)))),(6,29,.v (.one (.own 29))),(7,30,.v (.one (.own 30))),(8,7,.v (.one (.own 30)))] R with
  objs:=(4,B)::if R.contains 6 then x else if R.contains 7 then(29,.row 250 1 [[nxC b k]])::x else y}
def nx7 (b k:Nat) (B:Ob) (sb:List St) (r3 r4 r34:List (List CD)) (x y:List (Nat×Ob)) (R:List Nat):HS:=
 {trS ⟨⟨100,some (pV b)⟩,[(0,.v (.one (.c (.lit (pV b))))),(2,lit (.int .i64 k)),(4,.v (.one (.at_ 4 0))),(7,.v (.one (.own 30)))],[]⟩ [(0,31,.v (.one (.own 30))),(1,32,.v (.one (.c (.lit (pV b))))),(2,33,.v (.one (.at_ 4 8))),(3,34,.v (lS sb)),(4,35,.v (.one (.c (.lit (pV b))))),(5,36,lit (.int .i64 k)),(6,37,.v (.one (.c (otC b k)))),(7,38,.v (.one (.own 38))),(8,39,.v (.one (.own 39))),(9,40,.v (.one (.own 40))),(10,6,.v (.one (.own 40)))] R with
  objs:=(4,B)::if R.contains 7 then(30,.row 250 1 r3)::x else if R.contains 8 then(30,.row 250 1 r3)::(38,.row 250 1 [[otC b k]])::x else if R.contains 9 then(30,.row 250 1 r3)::(39,.row 250 1 r4)::y else(39,.row 250 1 r4)::(40,.row 250 1 r34)::y}
def X4J (b k:Nat) (B:Ob) (sa:List St) (nl:Nat) (x y:List (Nat×Ob)) (R:List Nat):HS:=
 {trS ⟨⟨100,some (pV b)⟩,[(0,.v (.one (.c (.lit (pV b))))),(2,lit (.int .i64 k)),(4,.v (.one (.at_ 4 0)))],[]⟩ [(0,63,.v (.one (.c (.lit (pV b))))),(1,64,.v (.one (.at_ 4 7))),(2,65,.v (lS sa)),(3,66,.v (.one (.c (.lit (pV b))))),(4,67,lit (.int .i64 k)),(5,68,lit (.int .i64 ((k:Int)+1))),(6,69,.v (.one (.c (nxC b (k+1))))),(7,70,.v (.one (.own 70))),(8,71,.v (.one (.own 71))),(9,72,lit (.int .i64 nl)),(10,73,lit (.int .i64 0))] R with
  objs:=(4,B)::if R.contains 7 then x else if R.contains 8 then(70,.row 250 1 [[nxC b (k+1)]])::x else y}
attribute [simp] nx6 nx7 X4J
@[simp] theorem encSl_next (b k:Nat):QF b [(false,k)]=[[nxC b k]]:=rfl
@[simp] theorem encSl_oth (b k:Nat):QF b [(true,k)]=[[otC b k]]:=rfl
@[simp] theorem encSl_app (b:Nat) (x y:List Wi):QF b (x++y)=QF b x++QF b y:=by simp[QF]
set_option maxHeartbeats 8000000 in
theorem one_then (b:Nat) (o c v n to tn:Int) (tk:List Tm) (sa sb:List St) (bs:List Int) (ha:lstC b sa) (hb:lstC b sb) (ho0:o=3):oneC b (.mk o c v n (.mk to tn tk) sa sb bs):=by
 intro k rows d h4 hk hn hd hd2;subst hk;obtain⟨RES,hR⟩:∃x,WZ (.mk o c v n (.mk to tn tk) sa sb bs) rows.length (rows,d)=x:=⟨_,rfl⟩;rw[hR];simp only[szN]at hn hd2;unfold WZ at hR;simp only[aS,St.enc,Tm.enc,List.map_cons,List.map_nil,List.cons_append,List.nil_append];refine Qq Tryz.func227 rfl (by kernel_rfl) (Nat.le_of_ble_eq_true rfl) X19 X7z ?_;simp only[Tryz.f227];have hw0:IntKind.i64.wrap (d+1)=d+1:=Xa (by omega) (by omega);have A3:=WW b rows d 3 (by omega);have A4:=WW b rows d 4 (by omega);have A2:=WW b rows d 2 (by omega);have A5:=WW b (rows++[XP 4 d]) d 5 (by simp;omega);refine X1 ?_;refine X0<|X0<|X2 ?_;refine X3<|X0<|X2 ?_;refine(X7 rfl (fun h3=>?_) (fun h3=>?_))
 · (try simp only[BN]at h3);have ho:o=3:=ho0;rw[if_pos ho]at hR;clear A2 A4 A5;have cA:=ha [(false,rows.length)] (rows++[XP 3 d]) (d+1) ⟨Wj h4,by simp⟩ (by simp;omega) (by omega) (by omega) (by simp);have k1:=Wl sa [(false,rows.length)] (rows++[XP 3 d],d+1) ⟨Wj h4,by simp⟩;have l1:=Zw sa [(false,rows.length)] (rows++[XP 3 d],d+1);simp only at hR;obtain⟨⟨⟨rows3,d3⟩,sl3⟩,hx⟩:∃x,Q0 sa [(false,rows.length)] (rows++[XP 3 d],d+1)=x:=⟨_,rfl⟩;simp only[hx]at hR cA k1 l1;obtain⟨a1,a2,a3,a4,a5⟩:=k1;simp only[List.length_append,List.length_singleton]at a2 a3 l1;have cB:=hb [(true,rows.length)] rows3 d3 ⟨a1.four,by simp;omega⟩ (by omega) (by omega) (by omega) (by simp);have k2:=Wl sb [(true,rows.length)] (rows3,d3) ⟨a1.four,by simp;omega⟩;have l2:=Zw sb [(true,rows.length)] (rows3,d3);obtain⟨⟨⟨rows4,d4⟩,sl4⟩,hy⟩:∃x,Q0 sb [(true,rows.length)] (rows3,d3)=x:=⟨_,rfl⟩;simp only[hy]at hR cB k2 l2;simp only[List.length_singleton]at l2;subst hR;have hroom:Wa (sl3.length+sl4.length) 8:=Qc (by omega) (by decide);clear k2 hx hy;refine X0<|(XN ?_);refine RunsN.cutE 1 [] (by simp;rfl) trivial (le_refl _) ?_;refine RunsN.callA (fun n=>n) (fun n=>if n=900001 then 101 else n) A3 fun _ _=>?_;refine RunsN.doneE [] (by simp[Qf,CV.ren];rfl) trivial ?_;refine XH (X40 (v:=pV b) 0 rfl rfl rfl) ?_;simp only[ins,Nat.reduceLT,Nat.reduceEqDiff,if_true,if_false];refine X1 ?_;refine XH (X49 (v:=pV b) 0 rfl rfl rfl) ?_;simp only[ins,Nat.reduceLT,Nat.reduceEqDiff,if_true,if_false];refine XH (s':=nx6 b rows.length (X3s 3 c v n to tn tk sa sb bs) sa (Wm (rows++[XP 3 d]) (d+1)) [] (Z9 9 511)) ?_ ?_
   · refine Xx (fun n=>if n=900001 then 101 else n) [] rfl ?_ ?_ ?_
     · simp[nx6,trS, *]
     · simp[nx6, *]
     simp[nx6]
   refine X0<|(Z8 (nx6 b rows.length (X3s 3 c v n to tn tk sa sb bs) sa (Wm (rows++[XP 3 d]) (d+1)) ((30,.row 250 1 (QF b sl3))::(102,.row 195 4 rows3)::[(1000000,.box [.own 102,.c (iC d3)])])) 9 511 ms6 rfl (by kernel_rfl) (by kernel_rfl) (by kernel_rfl) (by kernel_rfl) (by simp[nx6,trS]) ?_ ?_)
   · simp only[ms6,X2i]
     repeat' apply And.intro
     all_goals first
      |(refine XX.evE rfl ?_;simp[nx6,trS,ins,WI];done)
      | (refine XX.ev [⟨false,.v (.one (.c (nxC b rows.length))),none⟩] rfl (by simp[nx6,trS,ins,WI];first|exact⟨rfl,Iff.rfl⟩|exact⟨rfl,trivial⟩|rfl) ?_ ?_
         · simpa using X1C b rows.length 28
         simp[nx6,trS,ins])
      | (refine XX.callA (fun n=>if n=1 then 29 else n) (fun n=>if n=1 then 30 else if n=900001 then 102 else n) cA rfl fun _ _=>?_
         simp[nx6,trS,ins,Qf,QP,del,CV.ren,Ob.ren])
   refine XH (s':=nx7 b rows.length (X3s 3 c v n to tn tk sa sb bs) sb (QF b sl3) (QF b sl4) (QF b (sl3++sl4)) (Wm rows3 d3) ((103,.row 195 4 rows4)::[(1000000,.box [.own 103,.c (iC d4)])]) (Z9 11 2047)) ?_ ?_
   · refine Xx (fun n=>if n=900001 then 102 else n) [] rfl ?_ ?_ ?_
     · simp[nx6,nx7,trS, *]
     · simp[nx6,nx7, *]
     simp[nx7]
   refine X0<|(Z8 (nx7 b rows.length (X3s 3 c v n to tn tk sa sb bs) sb (QF b sl3) (QF b sl4) (QF b (sl3++sl4)) (Wm rows3 d3) ((103,.row 195 4 rows4)::[(1000000,.box [.own 103,.c (iC d4)])])) 11 2047 ms7 rfl (by kernel_rfl) (by kernel_rfl) (by kernel_rfl) (by kernel_rfl) (by simp[nx7,trS]) ?_ ?_)
   · simp only[ms7,X2i]
     repeat' apply And.intro
     all_goals first
      |(refine XX.evE rfl ?_;simp[nx7,trS,ins,WI,hroom];done)
      | (refine XX.ev [⟨false,.v (.one (.c (otC b rows.length))),none⟩] rfl (by simp[nx7,trS,ins,WI];first|exact⟨rfl,Iff.rfl⟩|exact⟨rfl,trivial⟩|rfl) ?_ ?_
         · simpa using X47 b rows.length 37
         simp[nx7,trS,ins])
      | (refine XX.callA (fun n=>if n=1 then 38 else n) (fun n=>if n=1 then 39 else if n=900001 then 103 else n) cB rfl fun _ _=>?_
         simp[nx7,trS,ins,Qf,QP,del,CV.ren,Ob.ren])
   exact Qm ⟨.inr rfl,(),trivial,⟨⟨100,some (pV b)⟩,[(6,.v (.one (.own 1)))],(1,.row 250 1 (QF b (sl3++sl4)))::Wm rows4 d4⟩,Xx (fun n=>if n=1 then 40 else if n=900001 then 103 else n) [] rfl (by simp[nx7,trS]) (by simp[nx7]) (by simp),⟨[.one (.own 1)],by simp,rfl⟩,fun n o h=>h⟩
 cases h3
set_option maxHeartbeats 8000000 in
theorem Xca (b:Nat) (o c v n to tn:Int) (tk:List Tm) (sa sb:List St) (bs:List Int) (ha:lstC b sa) (hb:lstC b sb) (ho3:¬o=3) (ho0:¬o=4):oneC b (.mk o c v n (.mk to tn tk) sa sb bs):=by
 intro k rows d h4 hk hn hd hd2;subst hk;obtain⟨RES,hR⟩:∃x,WZ (.mk o c v n (.mk to tn tk) sa sb bs) rows.length (rows,d)=x:=⟨_,rfl⟩;rw[hR];simp only[szN]at hn hd2;unfold WZ at hR;simp only[aS,St.enc,Tm.enc,List.map_cons,List.map_nil,List.cons_append,List.nil_append];refine Qq Tryz.func227 rfl (by kernel_rfl) (Nat.le_of_ble_eq_true rfl) X19 X7z ?_;simp only[Tryz.f227];have hw0:IntKind.i64.wrap (d+1)=d+1:=Xa (by omega) (by omega);have A3:=WW b rows d 3 (by omega);have A4:=WW b rows d 4 (by omega);have A2:=WW b rows d 2 (by omega);have A5:=WW b (rows++[XP 4 d]) d 5 (by simp;omega);refine X1 ?_;refine X0<|X0<|X2 ?_;refine X3<|X0<|X2 ?_;refine(X7 rfl (fun h3=>?_) (fun h3=>?_))
 · cases h3
 (try simp only[BN]at h3);have ho:¬o=3:=ho3;rw[if_neg ho]at hR;clear A3;refine X1 ?_;refine(Xc rfl (fun h10=>?_) fun h10=>?_)
 · cases h10
 (try simp only[BN]at h10);have ho4:¬o=4:=ho0;rw[if_neg ho4]at hR;subst hR;clear A4 A5 h3 h10;refine X0<|(XN ?_);refine RunsN.cutE 1 [] (by simp;rfl) trivial (le_refl _) ?_;refine RunsN.callA (fun n=>n) (fun n=>if n=900001 then 101 else n) A2 fun _ _=>?_;refine RunsN.doneE [] (by simp[Qf,CV.ren];rfl) trivial ?_;refine XH (X40 (v:=pV b) 0 rfl rfl rfl) ?_;simp only[ins,Nat.reduceLT,Nat.reduceEqDiff,if_true,if_false];refine X1 ?_;refine XH (X49 (v:=pV b) 0 rfl rfl rfl) ?_;simp only[ins,Nat.reduceLT,Nat.reduceEqDiff,if_true,if_false];refine Xm [⟨false,.v (.one (.c (nxC b rows.length))),none⟩] ?_ ?_
 · first|exact X1C b rows.length 98|exact trivial|simpa[*]using X1C b rows.length 98
 exact Qm ⟨.inr rfl,(),trivial,⟨⟨100,some (pV b)⟩,[(6,.v (.one (.own 1)))],(1,.row 250 1 (QF b [(false,rows.length)]))::Wm (rows++[XP 2 d]) (d+1)⟩,Xx (fun n=>if n=1 then 99 else if n=900001 then 101 else n) [] rfl (by simp) (by simp[QF, *]) (by simp),⟨[.one (.own 1)],by simp,rfl⟩,fun n o h=>h⟩
end Go.Proofs.YtdajceakaakdoaaGreat

namespace Go.Proofs.YtdajceakaakdoaaGreat
open Go Go.Hl
set_option maxHeartbeats 8000000 in
theorem one_loop (b:Nat) (o c v n to tn:Int) (tk:List Tm) (sa sb:List St) (bs:List Int) (ha:lstC b sa) (hb:lstC b sb) (ho3:¬o=3) (ho0:o=4):oneC b (.mk o c v n (.mk to tn tk) sa sb bs):=by
 intro k rows d h4 hk hn hd hd2;subst hk;obtain⟨RES,hR⟩:∃x,WZ (.mk o c v n (.mk to tn tk) sa sb bs) rows.length (rows,d)=x:=⟨_,rfl⟩;rw[hR];simp only[szN]at hn hd2;unfold WZ at hR;simp only[aS,St.enc,Tm.enc,List.map_cons,List.map_nil,List.cons_append,List.nil_append];refine Qq Tryz.func227 rfl (by kernel_rfl) (Nat.le_of_ble_eq_true rfl) X19 X7z ?_;simp only[Tryz.f227];have hw0:IntKind.i64.wrap (d+1)=d+1:=Xa (by omega) (by omega);have A3:=WW b rows d 3 (by omega);have A4:=WW b rows d 4 (by omega);have A2:=WW b rows d 2 (by omega);have A5:=WW b (rows++[XP 4 d]) d 5 (by simp;omega);refine X1 ?_;refine X0<|X0<|X2 ?_;refine X3<|X0<|X2 ?_;refine(X7 rfl (fun h3=>?_) (fun h3=>?_))
 · cases h3
 (try simp only[BN]at h3);have ho:¬o=3:=ho3;rw[if_neg ho]at hR;clear A3;refine X1 ?_;refine(Xc rfl (fun h10=>?_) fun h10=>?_)
 · (try simp only[BN]at h10);have ho4:o=4:=ho0;rw[if_pos ho4]at hR;clear A2 h10 h3;have hin:rows.length<(rows++[XP 4 d]++[XP 5 d]).length:=by simp
   have hw1:IntKind.i64.wrap ((rows.length:Int)+1)=(rows.length:Int)+1:=Xa (by omega) (by omega);refine X0<|(XN ?_);refine RunsN.cutE 1 [] (by simp;rfl) trivial (le_refl _) ?_;refine RunsN.callA (fun n=>n) (fun n=>if n=900001 then 101 else n) A4 fun _ _=>?_;refine RunsN.doneE [] (by simp[Qf,CV.ren];rfl) trivial ?_;refine XH (s':=⟨⟨100,some (pV b)⟩,[(0,.v (.one (.c (.lit (pV b))))),(2,lit (.int .i64 rows.length)),(4,.v (.one (.at_ 4 0)))],(4,X3s 4 c v n to tn tk sa sb bs)::Wm (rows++[XP 4 d]) d⟩) (Xx (fun n=>if n=900001 then 101 else n) [] rfl (by simp) (by simp[*]) (by simp)) ?_;refine X0<|(XN ?_);refine RunsN.cutE 1 [] (by simp;rfl) trivial (le_refl _) ?_;refine RunsN.callA (fun n=>n) (fun n=>if n=900001 then 101 else n) A5 fun _ _=>?_;refine RunsN.doneE [] (by simp[Qf,CV.ren];rfl) trivial ?_;refine XH (s':=⟨⟨100,some (pV b)⟩,[(0,.v (.one (.c (.lit (pV b))))),(2,lit (.int .i64 rows.length)),(4,.v (.one (.at_ 4 0)))],(4,X3s 4 c v n to tn tk sa sb bs)::Wm (rows++[XP 4 d]++[XP 5 d]) d⟩) (Xx (fun n=>if n=900001 then 101 else n) [] rfl (by simp) (by simp) (by simp)) ?_;refine XH (X40 (v:=pV b) 0 rfl rfl rfl) ?_;simp only[ins,Nat.reduceLT,Nat.reduceEqDiff,if_true,if_false];refine X1 ?_;refine X1 ?_;have hRW:setRow (rows++[XP 4 d]++[XP 5 d]) rows.length 2 [iC ((rows.length:Int)+1)]=rows++[[iC 4,iC d,iC ((rows.length:Int)+1),iC (-1)],XP 5 d]:=by simp[setRow]
   simp only[hRW]at hR
   have k0:okB [(false,rows.length+1)] (rows++[[iC 4,iC d,iC ((rows.length:Int)+1),iC (-1)],XP 5 d]):=by
    rw[←hRW];exact⟨X0f (Wj (Wj h4)) (by omega),by simp[Wu]⟩
   have cA:=ha [(false,rows.length+1)] (rows++[[iC 4,iC d,iC ((rows.length:Int)+1),iC (-1)],XP 5 d]) (d+1) k0 (by simp;omega) (by omega) (by omega) (by simp);have k1:=Wl sa [(false,rows.length+1)] (rows++[[iC 4,iC d,iC ((rows.length:Int)+1),iC (-1)],XP 5 d],d+1) k0;have l1:=Zw sa [(false,rows.length+1)] (rows++[[iC 4,iC d,iC ((rows.length:Int)+1),iC (-1)],XP 5 d],d+1);obtain⟨⟨⟨rows3,d3⟩,sl3⟩,hx⟩:∃x,Q0 sa [(false,rows.length+1)] (rows++[[iC 4,iC d,iC ((rows.length:Int)+1),iC (-1)],XP 5 d],d+1)=x:=⟨_,rfl⟩;simp only[hx,List.length_singleton]at hR cA k1 l1;obtain⟨a1,a2,a3,a4,a5⟩:=k1;clear hRW hx k0 A4 A5;refine XH (X49 (v:=pV b) 0 rfl rfl rfl) ?_;simp only[ins,Nat.reduceLT,Nat.reduceEqDiff,if_true,if_false];refine XH (s':=X4J b rows.length (X3s 4 c v n to tn tk sa sb bs) sa sl3.length (Wm (rows++[[iC 4,iC d,iC ((rows.length:Int)+1),iC (-1)],XP 5 d]) (d+1)) ((71,.row 250 1 (QF b sl3))::(102,.row 195 4 rows3)::[(1000000,.box [.own 102,.c (iC d3)])]) (Z9 11 2047)) ?_ ?_
   · refine Xx (fun n=>n) [] rfl ?_ ?_ ?_
     · simp[X4J,trS, *]
     · simp[X4J, *]
     simp[X4J]
   refine X0<|X0<|(Z8 (X4J b rows.length (X3s 4 c v n to tn tk sa sb bs) sa sl3.length (Wm (rows++[[iC 4,iC d,iC ((rows.length:Int)+1),iC (-1)],XP 5 d]) (d+1)) ((71,.row 250 1 (QF b sl3))::(102,.row 195 4 rows3)::[(1000000,.box [.own 102,.c (iC d3)])])) 11 2047 ms15 rfl (by kernel_rfl) (by kernel_rfl) (by kernel_rfl) (by kernel_rfl) (by simp[X4J,trS]) ?_ ?_)
   · simp only[ms15,X2i]
     repeat' apply And.intro
     all_goals first
      |(refine XX.evE rfl ?_;simp[X4J,trS,ins,WI,hw1];done)
      | (refine XX.ev [⟨false,.v (.one (.c (nxC b (rows.length+1)))),none⟩] rfl (by simp[X4J,trS,ins,WI];first|exact⟨rfl,Iff.rfl⟩|exact⟨rfl,trivial⟩|rfl) ?_ ?_
         · simpa using X1C b (rows.length+1) 69
         simp[X4J,trS,ins])
      | (refine XX.callA (fun n=>if n=1 then 70 else n) (fun n=>if n=1 then 71 else if n=900001 then 102 else n) cA rfl fun _ _=>?_
         simp[X4J,trS,ins,Qf,QP,del,CV.ren,Ob.ren])
   refine X3<|(Xf [] (fun(x:Nat×List (List CD))=>[(0,.v (.one (.c (.lit (pV b))))),(2,lit (.int .i64 rows.length)),(71,.v (.one (.own 71))),(72,lit (.int .i64 sl3.length)),(73,lit (.int .i64 x.1))]) (fun(x:Nat×List (List CD))=>(4,X3s 4 c v n to tn tk sa sb bs)::(71,.row 250 1 (QF b sl3))::Wm x.2 d3) (fun(x:Nat×List (List CD))=>x.1≤sl3.length∧Xz (rows.length+1) (sl3.drop x.1) x.2=Xz (rows.length+1) sl3 rows3∧(∀r∈x.2,r.length=4)∧x.2.length=rows3.length) (fun(x:Nat×List (List CD))=>sl3.length - x.1) (0,rows3) ⟨Nat.zero_le _,rfl,a1.four,rfl⟩ ?_ ?_)
   · exact Xx (fun n=>if n=900001 then 102 else n) [] rfl (by simp[upS,X6,trS]) (by simp[upS]) (by simp[upS])
   rintro⟨i,rows2⟩ ⟨g1,g2,g3,g4⟩;simp only[upS,X6,XB]
   try simp only[X6,KN,Nat.reduceBEq,if_true,if_false,ins,Nat.reduceLT]
   simp only at g1 g2 g3 g4;simp only[X4J,trS];refine X1 ?_;refine X0<|(X7 rfl (fun h18=>Xb ?_) (fun h18=>?_))
   · (try simp only[BN]at h18);have hi:i<sl3.length:=by simpa using h18
     obtain⟨q,hq,hqd⟩:=Xt hi;have hqe:=X3V (b:=b) hq;rw[hqd]at g2;simp only[Xz]at g2;have cq:=X5o b rows2 d3 (rows.length+1) q g3 (by have:=a1.lt q (List.mem_of_getElem? hq);omega);have hw:=XE hi (by omega:sl3.length≤1000000000);have hin2:i+1≤sl3.length:=hi;clear hi hq h18 hqd;refine X0<|X3<|X0<|X2 ?_;refine(XN ?_);refine RunsN.cutE 3 [] (by simp[hw1];rfl) trivial (le_refl _) ?_;refine RunsN.callA (fun n=>n) (fun n=>if n=900001 then 101 else n) cq fun _ _=>?_;refine RunsN.doneE [] (by simp[Qf,CV.ren,Ob.ren];rfl) trivial ?_;refine X2 ?_;exact⟨(i+1,X0j rows2 q (rows.length+1)),⟨hin2,g2,ZR g3,(X1Q ..).trans g4⟩,by simp only;omega,X4 (fun n=>if n=900001 then 101 else n) []⟩
   try simp only[BN]at h18
   have hi:i=sl3.length:=by
    have:¬i<sl3.length:=by simpa using h18
    omega
   subst hi;rw[List.drop_length]at g2;simp only[Xz]at g2;rw[←g2]at hR;subst hR;clear h18;refine(Xg ?_);refine X0<|(W7 [⟨false,.v (.one (.c (otC b (rows.length+1)))),none⟩] (by simp[*,hw1];first|exact⟨rfl,Iff.rfl⟩|exact⟨rfl,trivial⟩|rfl) ?_ ?_)
   · first|exact X47 b (rows.length+1) 85|exact trivial|simpa[*,hw1]using X47 b (rows.length+1) 85
   exact Qm ⟨.inr rfl,(),trivial,⟨⟨100,some (pV b)⟩,[(6,.v (.one (.own 1)))],(1,.row 250 1 (QF b [(true,rows.length+1)]))::Wm rows2 d3⟩,Xx (fun n=>if n=1 then 86 else n) [] rfl (by simp) (by simp[QF, *]) (by simp),⟨[.one (.own 1)],by simp,rfl⟩,fun n o h=>h⟩
 cases h10
theorem one_con (b:Nat) (o c v n to tn:Int) (tk:List Tm) (sa sb:List St) (bs:List Int) (ha:lstC b sa) (hb:lstC b sb):oneC b (.mk o c v n (.mk to tn tk) sa sb bs):=by
 by_cases h3:o=3
 · exact one_then b o c v n to tn tk sa sb bs ha hb h3
 by_cases h4:o=4
 · exact one_loop b o c v n to tn tk sa sb bs ha hb h3 h4
 exact Xca b o c v n to tn tk sa sb bs ha hb h3 h4
end Go.Proofs.YtdajceakaakdoaaGreat
