/- Part 3: contracts of functions of the program and of the reference, and plain facts about what they compute; used by the proof of the claimed statement. Conditions: as each theorem states. -/
import Derived.Test.YtdajceakaakdoaaGreatK1
import Derived.Test.YtdajceakaakdoaaGreatHmZI
import Derived.Test.YtdajceakaakdoaaGreatHmZJ
set_option linter.unusedSimpArgs false
set_option linter.unusedVariables false
set_option linter.unnecessarySimpa false
set_option maxRecDepth 100000
set_option maxHeartbeats 2000000
namespace Go.Proofs.YtdajceakaakdoaaGreat
open Go Go.Hl
abbrev W8 (rows:List (List CD)) (d:Int):List (Nat×Ob):=[(900001,.row 195 4 rows),(1000000,.box [.own 900001,.c (iC d)])]
theorem X0B {rows:List (List CD)} {d:Int}:∀n cs,lkp (W8 rows d) n=some (.box cs)→1000000≤n:=by
 intro n cs h;simp only[lkp]at h;split at h
 · cases h
 split at h
 · omega
 cases h
theorem X6P {rows:List (List CD)} {d:Int} {pv:Option Value}:∀v,pv=some v→∃cs,lkp (W8 rows d) 1000000=some (.box cs):=fun _ _=>⟨_,rfl⟩
abbrev atB:RV:=.v (.one (.at_ 1000000 0))
def nxB (v:Value) (rows rows':List (List CD)) (d k:Int) (m c:Nat) (x:RV) (R:List Nat):HS:=
 {trS ⟨⟨12,some v⟩,QC 0 [.one (.c (iC k)),.one (.c (.ptr [.lit v])),.one (.c (.ptr [iC m]))],[]⟩ [(0,4,x),(1,5,atB),(2,6,atB),(3,7,.v (.one (.own 900001))),(4,8,lit (.int .i64 m)),(5,9,lit (.int .i64 k)),(6,10,.v (.one (.el 900001 4 m 0))),(7,11,.v (.one (.el 900001 4 m c)))] R with objs:=if R.isEmpty then W8 rows' d else W8 rows d}
def stpB:List (List Nat×Nat):=[([0,1,2,3,4,5,6,7,8],0),([0,1,2,3,4,5,6,7,8],4),([0,1,2,3,4,5,6,7,8],5),([1,2,3,4,5,6,7,8],1),([1,2,3,4,5,6,7,8],4),([1,2,3,4,5,6,7,8],5),([0,1,2,3,5,6,7,8],0),([0,1,2,3,5,6,7,8],5),([0,1,2,3,4,6,7,8],0),([0,1,2,3,4,6,7,8],4),([2,3,4,5,6,7,8],2),([2,3,4,5,6,7,8],4),([2,3,4,5,6,7,8],5),([1,2,3,5,6,7,8],1),([1,2,3,5,6,7,8],5),([1,2,3,4,6,7,8],1),([1,2,3,4,6,7,8],4),([0,1,2,3,6,7,8],0),([3,4,5,6,7,8],3),([3,4,5,6,7,8],4),([3,4,5,6,7,8],5),([2,3,5,6,7,8],2),([2,3,5,6,7,8],5),([2,3,4,6,7,8],2),([2,3,4,6,7,8],4),([1,2,3,6,7,8],1),([4,5,6,7,8],4),([4,5,6,7,8],5),([3,5,6,7,8],3),([3,5,6,7,8],5),([3,4,6,7,8],3),([3,4,6,7,8],4),([2,3,6,7,8],2),([5,6,7,8],5),([4,6,7,8],4),([3,6,7,8],3),([6,7,8],6),([7,8],7),([8],8)]
theorem XaX (v:Value) (rows:List (List CD)) (d k:Int) (m:Nat) (r:List CD) (hr:rows[m]? =some r) (hl:r.length=4):
  X0y Tryz.prog 228 (some v) (W8 rows d) [.one (.c (iC k)),.one (.c (.ptr [.lit v])),.one (.c (.ptr [iC m]))] (fun _:Unit=>True) (fun _=>.tup []) (fun _=>W8 (setRow rows m 2 [iC k]) d):=by
 have hin:inR rows m=true:=by simp[inR,(List.getElem?_eq_some_iff.1 hr).1]
 have hlen:m<rows.length:=(List.getElem?_eq_some_iff.1 hr).1;refine Qj Tryz.func228 rfl (by kernel_rfl) (Nat.le_of_ble_eq_true rfl) ?_ ?_ ?_
 · exact X0B
 · intro v' h;exact⟨_,rfl⟩
 simp only[Tryz.f228];refine X5K (nxB v rows (setRow rows m 2 [iC k]) d k m 2 atB) stpB rfl (by kernel_rfl) (by kernel_rfl) (by kernel_rfl) rfl ?_ ?_
 · simp only[stpB,List.forall_mem_cons,List.not_mem_nil,false_implies,implies_true,and_true];refine⟨?_,?_,?_,?_,?_,?_,?_,?_,?_,?_,?_,?_,?_,?_,?_,?_,?_,?_,?_,?_,?_,?_,?_,?_,?_,?_,?_,?_,?_,?_,?_,?_,?_,?_,?_,?_,?_,?_,?_⟩
   all_goals first
    |(refine XU.evE rfl ?_;simp[evc,evs,nxB,trS,QC,ins,Wt,Qd,hin,hlen];done)
    | (refine XU.evN (nxB v rows (setRow rows m 2 [iC k]) d k m 2 (.v (.one (.c (.lit v))))) rfl ?_ ?_
       · simp[evc,nxB,trS,QC,ins,Wt,Qd]
       refine X8X (v:=v) (cs:=[.own 900001,.c (iC d)]) rfl rfl rfl ?_ ?_<;>simp[nxB,trS,QC,ins,Qd,WW,pnR,pnC,pnO,pnL,lkp])
 refine⟨.inl rfl,(),trivial,_,le_refl _,⟨[],rfl,rfl⟩,?_⟩;intro n o h;simpa[nxB]using h
theorem X8O (v:Value) (rows:List (List CD)) (d k:Int) (m:Nat) (r:List CD) (hr:rows[m]? =some r) (hl:r.length=4):
  X0y Tryz.prog 265 (some v) (W8 rows d) [.one (.c (iC k)),.one (.c (.ptr [.lit v])),.one (.c (.ptr [iC m]))] (fun _:Unit=>True) (fun _=>.tup []) (fun _=>W8 (setRow rows m 3 [iC k]) d):=by
 have hin:inR rows m=true:=by simp[inR,(List.getElem?_eq_some_iff.1 hr).1]
 have hlen:m<rows.length:=(List.getElem?_eq_some_iff.1 hr).1;refine Qj Tryz.func265 rfl (by kernel_rfl) (Nat.le_of_ble_eq_true rfl) ?_ ?_ ?_
 · exact X0B
 · intro v' h;exact⟨_,rfl⟩
 simp only[Tryz.f265];refine X5K (nxB v rows (setRow rows m 3 [iC k]) d k m 3 atB) stpB rfl (by kernel_rfl) (by kernel_rfl) (by kernel_rfl) rfl ?_ ?_
 · simp only[stpB,List.forall_mem_cons,List.not_mem_nil,false_implies,implies_true,and_true];refine⟨?_,?_,?_,?_,?_,?_,?_,?_,?_,?_,?_,?_,?_,?_,?_,?_,?_,?_,?_,?_,?_,?_,?_,?_,?_,?_,?_,?_,?_,?_,?_,?_,?_,?_,?_,?_,?_,?_,?_⟩
   all_goals first
    |(refine XU.evE rfl ?_;simp[evc,evs,nxB,trS,QC,ins,Wt,Qd,hin,hlen];done)
    | (refine XU.evN (nxB v rows (setRow rows m 3 [iC k]) d k m 3 (.v (.one (.c (.lit v))))) rfl ?_ ?_
       · simp[evc,nxB,trS,QC,ins,Wt,Qd]
       refine X8X (v:=v) (cs:=[.own 900001,.c (iC d)]) rfl rfl rfl ?_ ?_<;>simp[nxB,trS,QC,ins,Qd,WW,pnR,pnC,pnO,pnL,lkp])
 refine⟨.inl rfl,(),trivial,_,le_refl _,⟨[],rfl,rfl⟩,?_⟩;intro n o h;simpa[nxB]using h
end Go.Proofs.YtdajceakaakdoaaGreat

namespace Go.Proofs.YtdajceakaakdoaaGreat
open Go Go.Hl
abbrev pV (b:Nat):Value:=.pointer (some ⟨b,0,none⟩)
abbrev nxC (b m:Nat):CD:=.fn 228 [.ptr [.lit (pV b)],.ptr [iC m]]
abbrev otC (b m:Nat):CD:=.fn 265 [.ptr [.lit (pV b)],.ptr [iC m]]
theorem X1m (b m:Nat) (d:Nat):Con Tryz.prog 189 false [.one (.c (.lit (pV b))),.one (.c (iC m))] (.v (.one (.c (nxC b m)))) none d:=by
 refine X4 Tryz.func189 ?_;simp only[Tryz.f189];refine X2 ?_;refine X2 ?_;exact X9R (fun h=>⟨.inr rfl,h⟩) (regs:=[(4,.v (.one (.c (nxC b m))))]) (X9H (by simp[WW,X1q,X0W,Z5,lkp])) (by simp;rfl) rfl
theorem X39 (b m:Nat) (d:Nat):Con Tryz.prog 251 false [.one (.c (.lit (pV b))),.one (.c (iC m))] (.v (.one (.c (otC b m)))) none d:=by
 refine X4 Tryz.func251 ?_;simp only[Tryz.f251];refine X2 ?_;refine X2 ?_;exact X9R (fun h=>⟨.inr rfl,h⟩) (regs:=[(4,.v (.one (.c (otC b m))))]) (X9H (by simp[WW,X1q,X0W,Z5,lkp])) (by simp;rfl) rfl
end Go.Proofs.YtdajceakaakdoaaGreat

namespace Go.Proofs.YtdajceakaakdoaaGreat
open Go Go.Hl
abbrev XM (k d:Int):List CD:=[iC k,iC d,iC (-1),iC (-1)]
theorem WK (b:Nat) (rows:List (List CD)) (d k:Int) (hr:rows.length≤2000000):
  X0y Tryz.prog 250 (some (pV b)) (W8 rows d) [.one (.c (.lit (pV b))),.one (.c (iC k))] (fun _:Unit=>True) (fun _=>.tup []) (fun _=>W8 (rows++[XM k d]) d):=by
 have hroom:QV (rows.length+1) 32:=Qa (by omega) (by decide);refine Qj Tryz.func250 rfl (by kernel_rfl) (Nat.le_of_ble_eq_true rfl) X0B X6P ?_;simp only[Tryz.f250];refine XD (s':=⟨⟨19,some (pV b)⟩,[(0,atB),(1,lit (.int .i64 k))],W8 rows d⟩) (X8X (v:=pV b) (cs:=[.own 900001,.c (iC d)]) rfl rfl rfl (by simp[QC,WW,pnR,pnC,lkp]) (by simp[WW,pnO,pnL,pnC,lkp])) ?_;refine X7u [(7,1000000),(12,1000000),(18,1000000)] (by kernel_rfl) (by kernel_rfl) (by rfl) (by simp[evsH,hokB,Qs,hroom,XH,Qo,XW,cellsOf,QK,Wv,Ww,W3,WY,lkp,ins,del];rfl) ?_;refine⟨.inl rfl,(),trivial,⟨⟨19,some (pV b)⟩,[],W8 (rows++[XM k d]) d⟩,Xy (fun n=>if n=900001 then 16 else n) [] rfl ?_ ?_ ?_,⟨[],rfl,rfl⟩,fun n o h=>h⟩
 · trivial
 · simp[WW,X0h,Ob.okNil,Ob.ren,lkp,CV.ren,CV.okNil]
 simp[WW,X0h]
end Go.Proofs.YtdajceakaakdoaaGreat

namespace Go.Proofs.YtdajceakaakdoaaGreat
open Go Go.Hl
abbrev W6:=Bool×Nat
abbrev W6.c (b:Nat) (s:W6):CD:=.fn (if s.1=true then 265 else 228) [.ptr [.lit (pV b)],.ptr [iC s.2]]
def X08 (rows:List (List CD)) (s:W6) (k:Nat):List (List CD):=setRow rows s.2 (if s.1=true then 3 else 2) [iC k]
def Xw (k:Nat):List W6→List (List CD)→List (List CD)
 |[],rows=>rows
 |s::l,rows=>Xw k l (X08 rows s k)
abbrev Bst:=List (List CD)×Int
mutual
def WQ:St→Nat→Bst→Bst×List W6
 | .mk o _ _ _ _ a b _,k,st=>
   if o=3 then
    let x:=XZ a [(false,k)] (st.1++[XM 3 st.2],st.2+1)
    let y:=XZ b [(true,k)] x.1
    (y.1,x.2++y.2)
   else if o=4 then
    let x:=XZ a [(false,k+1)] (setRow (st.1++[XM 4 st.2]++[XM 5 st.2]) k 2 [iC ((k:Int)+1)],st.2+1)
    ((Xw (k+1) x.2 x.1.1,x.1.2),[(true,k+1)])
   else((st.1++[XM 2 st.2],st.2+1),[(false,k)])
def XZ:List St→List W6→Bst→Bst×List W6
 |[],sl,st=>(st,sl)
 | s::l,sl,st=>
   let x:=WQ s st.1.length (Xw st.1.length sl st.1,st.2)
   XZ l x.2 x.1
end
mutual
def szN:St→Nat
 | .mk _ _ _ _ _ a b _=>2+ZK a+ZK b
def ZK:List St→Nat
 |[]=>0
 |s::l=>szN s+ZK l
end
structure okB (sl:List W6) (rows:List (List CD)):Prop where
 four:∀r∈rows,r.length=4
 lt:∀s∈sl,s.2<rows.length
theorem Wm (rows:List (List CD)) (i off:Nat) (ds:List CD):(setRow rows i off ds).length=rows.length:=by
 unfold setRow;split<;>simp
theorem X01 {rows:List (List CD)} {i off:Nat} {x:CD} (h:∀r∈rows,r.length=4) (ho:off<4):∀r∈setRow rows i off [x],r.length=4:=by
 intro r hr;unfold setRow at hr;split at hr
 · rename_i r0 h0;rcases List.mem_or_eq_of_mem_set hr with hr|rfl
   · exact h r hr
   have:=h r0 (List.mem_of_getElem? h0);simp[this];omega
 exact h r hr
theorem X0X (rows:List (List CD)) (s:W6) (k:Nat):(X08 rows s k).length=rows.length:=Wm ..
theorem XX (k:Nat):∀(sl:List W6) (rows:List (List CD)),(Xw k sl rows).length=rows.length
 |[],_=>rfl
 |s::l,rows=>by rw[Xw,XX k l,X0X]
theorem ZC {rows:List (List CD)} {s:W6} {k:Nat} (h:∀r∈rows,r.length=4):∀r∈X08 rows s k,r.length=4:=
 X01 h (by split<;>omega)
theorem Zo (k:Nat):∀(sl:List W6) (rows:List (List CD)),(∀r∈rows,r.length=4)→∀r∈Xw k sl rows,r.length=4
 |[],_,h=>h
 |s::l,rows,h=>Zo k l _ (ZC h)
theorem W9 {rows:List (List CD)} {k d:Int} (h:∀r∈rows,r.length=4):∀r∈rows++[XM k d],r.length=4:=by
 intro r hr;rcases List.mem_append.1 hr with hr|hr
 · exact h r hr
 simp only[List.mem_singleton]at hr;rw[hr];rfl
mutual
theorem X4k:∀(s:St) (k:Nat) (st:Bst),(∀r∈st.1,r.length=4)→k=st.1.length→
  okB (WQ s k st).2 (WQ s k st).1.1∧st.1.length≤(WQ s k st).1.1.length∧(WQ s k st).1.1.length≤st.1.length+szN s∧st.2≤(WQ s k st).1.2∧(WQ s k st).1.2≤st.2+szN s
 | .mk o c v n t a b bs,k,st,h4,hk=>by
   unfold WQ szN;split
   · have ha:=Wa a [(false,k)] (st.1++[XM 3 st.2],st.2+1) ⟨W9 h4,by simp[hk]⟩;obtain⟨a1,a2,a3,a4,a5⟩:=ha;obtain⟨x,hx⟩:∃x,XZ a [(false,k)] (st.1++[XM 3 st.2],st.2+1)=x:=⟨_,rfl⟩;simp only[hx]at a1 a2 a3 a4 a5⊢;simp only[List.length_append,List.length_singleton]at a2 a3;have hb:=Wa b [(true,k)] x.1 ⟨a1.four,by simp;omega⟩;obtain⟨b1,b2,b3,b4,b5⟩:=hb;refine⟨⟨b1.four,fun s hs=>?_⟩,by omega,by omega,by omega,by omega⟩;rcases List.mem_append.1 hs with hs|hs
     · exact Nat.lt_of_lt_of_le (a1.lt s hs) b2
     exact b1.lt s hs
   split
   · have ha:=Wa a [(false,k+1)] (setRow (st.1++[XM 4 st.2]++[XM 5 st.2]) k 2 [iC ((k:Int)+1)],st.2+1) ⟨X01 (W9 (W9 h4)) (by omega),by simp[hk,Wm]⟩;obtain⟨a1,a2,a3,a4,a5⟩:=ha;obtain⟨x,hx⟩:∃x,XZ a [(false,k+1)] (setRow (st.1++[XM 4 st.2]++[XM 5 st.2]) k 2 [iC ((k:Int)+1)],st.2+1)=x:=⟨_,rfl⟩;simp only[hx]at a1 a2 a3 a4 a5⊢;simp only[Wm,List.length_append,List.length_singleton]at a2 a3;refine⟨⟨Zo _ _ _ a1.four,fun s hs=>?_⟩,by rw[XX];omega,by rw[XX];omega,by omega,by omega⟩;simp only[List.mem_singleton]at hs;rw[hs,XX];show k+1<_;omega
   refine⟨⟨W9 h4,fun s hs=>?_⟩,by simp,by simp;omega,by show st.2≤st.2+1;omega,by show st.2+1≤_;omega⟩;simp only[List.mem_singleton]at hs;rw[hs];simp[hk]
theorem Wa:∀(l:List St) (sl:List W6) (st:Bst),okB sl st.1→
  okB (XZ l sl st).2 (XZ l sl st).1.1∧st.1.length≤(XZ l sl st).1.1.length∧(XZ l sl st).1.1.length≤st.1.length+ZK l∧st.2≤(XZ l sl st).1.2∧(XZ l sl st).1.2≤st.2+ZK l
 | [],sl,st,h=>by
   unfold XZ ZK;exact⟨h,Nat.le_refl _,Nat.le_refl _,Int.le_refl _,by simp⟩
 | s::l,sl,st,h=>by
   unfold XZ ZK;have ha:=X4k s st.1.length (Xw st.1.length sl st.1,st.2) (Zo _ _ _ h.four) (XX ..).symm;obtain⟨a1,a2,a3,a4,a5⟩:=ha;obtain⟨x,hx⟩:∃x,WQ s st.1.length (Xw st.1.length sl st.1,st.2)=x:=⟨_,rfl⟩;simp only[hx,XX]at a1 a2 a3 a4 a5⊢;obtain⟨b1,b2,b3,b4,b5⟩:=Wa l x.2 x.1 a1;exact⟨b1,by omega,by omega,by omega,by omega⟩
end
mutual
theorem X7F:∀(s:St) (k:Nat) (st:Bst),(WQ s k st).2.length≤szN s
 | .mk o c v n t a b bs,k,st=>by
   unfold WQ szN;split
   · have h1:=Zc a [(false,k)] (st.1++[XM 3 st.2],st.2+1);have h2:=Zc b [(true,k)] (XZ a [(false,k)] (st.1++[XM 3 st.2],st.2+1)).1;simp only[List.length_singleton]at h1 h2;simp only[List.length_append];omega
   split<;>simp only[List.length_singleton]<;>omega
theorem Zc:∀(l:List St) (sl:List W6) (st:Bst),(XZ l sl st).2.length≤max sl.length (ZK l)
 | [],sl,st=>by
   unfold XZ ZK;exact Nat.le_max_left ..
 | s::l,sl,st=>by
   unfold XZ ZK;have h1:=X7F s st.1.length (Xw st.1.length sl st.1,st.2);have h2:=Zc l (WQ s st.1.length (Xw st.1.length sl st.1,st.2)).2 (WQ s st.1.length (Xw st.1.length sl st.1,st.2)).1;simp only at h1 h2⊢;omega
end
end Go.Proofs.YtdajceakaakdoaaGreat

namespace Go.Proofs.YtdajceakaakdoaaGreat
open Go Go.Hl
def Qv (b:Nat) (sl:List W6):List (List CD):=sl.map fun s=>[s.c b]
@[simp] theorem len_encSl (b:Nat) (sl:List W6):(Qv b sl).length=sl.length:=by simp[Qv]
theorem X3g {b:Nat} {sl:List W6} {i:Nat} {s:W6} (h:sl[i]? =some s):(Qv b sl)[i]? =some [s.c b]:=by simp[Qv,h]
def oneC (b:Nat) (s:St):Prop:=∀(k:Nat) (rows:List (List CD)) (d:Int),(∀r∈rows,r.length=4)→k=rows.length→rows.length+szN s≤1000000→0≤d→d+szN s≤1000000→
 X0y Tryz.prog 227 (some (pV b)) (W8 rows d) [.one (.c (.lit (pV b))),aS s,.one (.c (iC k))] (fun _:Unit=>True) (fun _=>.v (.one (.own 1))) (fun _=>(1,.row 250 1 (Qv b (WQ s k (rows,d)).2))::W8 (WQ s k (rows,d)).1.1 (WQ s k (rows,d)).1.2)
theorem X4G (b:Nat) (rows:List (List CD)) (d:Int) (k:Nat) (s:W6) (h4:∀r∈rows,r.length=4) (hs:s.2<rows.length):
  X0y Tryz.prog (if s.1=true then 265 else 228) (some (pV b)) (W8 rows d) [.one (.c (iC k)),.one (.c (.ptr [.lit (pV b)])),.one (.c (.ptr [iC s.2]))] (fun _:Unit=>True) (fun _=>.tup []) (fun _=>W8 (X08 rows s k) d):=by
 obtain⟨o,m⟩:=s;have hr:rows[m]? =some rows[m]:=List.getElem?_eq_getElem hs;unfold X08;cases o with
 |true=>exact X8O (pV b) rows d k m _ hr (h4 _ (List.getElem_mem _))
 |false=>exact XaX (pV b) rows d k m _ hr (h4 _ (List.getElem_mem _))
theorem bldS_pin {x:Ob} {rows:List (List CD)} {d:Int} (hx:∀cs,x≠ .box cs):∀n cs,lkp ((1,x)::W8 rows d) n=some (.box cs)→1000000≤n:=by
 intro n cs h;simp only[lkp]at h;split at h
 · exact absurd (Option.some.inj h) (hx cs)
 exact X0B n cs h
set_option maxHeartbeats 4000000 in
theorem list_con (b:Nat) (l:List St) (hone:∀s∈l,oneC b s) (sl:List W6) (rows:List (List CD)) (d:Int) (hok:okB sl rows) (hn:rows.length+ZK l≤1000000) (hd:0≤d) (hd2:d+ZK l≤1000000) (hl:l.length≤1000000) (hsl:sl.length≤1000000):
  X0y Tryz.prog 188 (some (pV b)) ((1,.row 250 1 (Qv b sl))::W8 rows d) [.one (.c (.lit (pV b))),lS l,.one (.own 1)] (fun _:Unit=>True) (fun _=>.v (.one (.own 1))) (fun _=>(1,.row 250 1 (Qv b (XZ l sl (rows,d)).2))::W8 (XZ l sl (rows,d)).1.1 (XZ l sl (rows,d)).1.2):=by
 obtain⟨RES,hR⟩:∃x,XZ l sl (rows,d)=x:=⟨_,rfl⟩;rw[hR];refine Qj Tryz.func188 rfl (by kernel_rfl) (Nat.le_of_ble_eq_true rfl) (bldS_pin (by intro cs;simp)) (fun _ _=>⟨_,rfl⟩) ?_;simp only[Tryz.f188];refine X0<|(Xq (by simp[*,Q7];rfl) ?_);refine X0<|X0<|(Xq (by simp[*,Q7];rfl) ?_);refine X3<|(Xe [0,12,13] (fun(x:Nat×List W6×List (List CD)×Int)=>[(2,.v (.one (.own 1))),(14,lit (.int .i64 x.1))]) (fun(x:Nat×List W6×List (List CD)×Int)=>(1,.row 250 1 (Qv b x.2.1))::W8 x.2.2.1 x.2.2.2) (fun(x:Nat×List W6×List (List CD)×Int)=>okB x.2.1 x.2.2.1∧x.2.1.length≤1000000∧x.1≤l.length∧XZ (l.drop x.1) x.2.1 (x.2.2.1,x.2.2.2)=RES∧x.2.2.1.length+ZK (l.drop x.1)≤1000000∧0≤x.2.2.2∧x.2.2.2+ZK (l.drop x.1)≤1000000) (fun(x:Nat×List W6×List (List CD)×Int)=>l.length - x.1) (0,sl,rows,d) ⟨hok,hsl,Nat.zero_le _,hR,hn,hd,hd2⟩ ?_ ?_)
 · exact Xy (fun n=>n) [] rfl (by simp[*,upS,X6,Q7]) (by simp[*,upS]) (by simp[upS])
 rintro⟨j,sl1,rows1,d1⟩ ⟨e1,e7,e2,e3,e4,e5,e6⟩;simp only[upS,X6,XL]
 try simp only[X6,KN,Nat.reduceBEq,if_true,if_false,ins,Nat.reduceLT]
 simp only at e1 e7 e2 e3 e4 e5 e6;clear hR hok hn hd hd2 hsl;refine X0<|(Xq (by simp[*,Q7];rfl) ?_);refine X0<|(X9 rfl (fun h4=>Xd ?_) (fun h4=>?_))
 · (try simp only[BN]at h4);have hj:j<l.length:=by simpa using h4
   obtain⟨s,hs,hdr⟩:=Xr hj;have hse:=Qy hs;rw[hdr]at e3 e4 e6;simp only[XZ,ZK]at e3 e4 e6;have ho:=hone s (List.mem_of_getElem? hs);clear hone;obtain⟨o,c,v,n,⟨to,tn,tk⟩,sa,sb,bs⟩:=s;simp only[St.enc,Tm.enc,List.cons_append,List.nil_append]at hse;have hjn:j+1≤l.length:=hj;clear hj hs h4 hdr;refine X0<|X3<|X0<|(Xq (by simp[*,Q7];rfl) ?_);refine XD (X3f (v:=pV b) 0 rfl rfl rfl) ?_;simp only[ins,Nat.reduceLT,Nat.reduceEqDiff,if_true,if_false];refine X0<|(Xq (by simp[*,Q7];rfl) ?_);refine XD (X3m (v:=pV b) 0 rfl rfl rfl) ?_;simp only[ins,Nat.reduceLT,Nat.reduceEqDiff,if_true,if_false];refine X0<|X0<|(Xq (by simp[*,Q7];rfl) ?_);refine X3<|(Xe [0,8,9,12,13,14,23,24] (fun(x:Nat×List (List CD))=>[(25,lit (.int .i64 x.1))]) (fun(x:Nat×List (List CD))=>(1,.row 250 1 (Qv b sl1))::(8,.box [.c (iC o),.c (iC c),.c (iC v),.c (iC n),.c (iC to),.c (iC tn),.c (.sl 3 (XS tk)),.c (.sl 10 (X7 sa)),.c (.sl 10 (X7 sb)),.c (.sl 1 (Xg bs))])::W8 x.2 d1) (fun(x:Nat×List (List CD))=>x.1≤sl1.length∧Xw rows1.length (sl1.drop x.1) x.2=Xw rows1.length sl1 rows1∧(∀r∈x.2,r.length=4)∧x.2.length=rows1.length) (fun(x:Nat×List (List CD))=>sl1.length - x.1) (0,rows1) ⟨Nat.zero_le _,rfl,e1.four,rfl⟩ ?_ ?_)
   · exact Xy (fun n=>n) [] rfl (by simp[*,upS,X6,Q7]) (by simp[*,upS]) (by simp[upS])
   rintro⟨i,rows2⟩ ⟨g1,g2,g3,g4⟩;simp only[upS,X6,XL]
   try simp only[X6,KN,Nat.reduceBEq,if_true,if_false,ins,Nat.reduceLT]
   simp only at g1 g2 g3 g4;refine X0<|(Xq (by simp[*,Q7];rfl) ?_);refine X0<|(X9 rfl (fun h10=>Xd ?_) (fun h10=>?_))
   · (try simp only[BN]at h10);have hi:i<sl1.length:=by simpa using h10
     obtain⟨q,hq,hqd⟩:=Xr hi;have hqe:=X3g (b:=b) hq;rw[hqd]at g2;simp only[Xw]at g2;have cq:=X4G b rows2 d1 rows1.length q g3 (by have:=e1.lt q (List.mem_of_getElem? hq);omega);have hw:=XN hi (by omega:sl1.length≤1000000000);have hin:i+1≤sl1.length:=hi;clear hi hq h10 hqd;refine X0<|X3<|X0<|(Xq (by simp[*,Q7];rfl) ?_);refine(XJ ?_);refine RunsN.cutE 2 [] (by simp;rfl) trivial (le_refl _) ?_;refine RunsN.call (fun n=>n) (fun n=>if n=900001 then 40 else n) (by simp[gOfN,X1V,X1h,catT,TV.ren,CV.ren];rfl) (.inr ⟨rfl,rfl⟩) (Wn (by simp[rbB,WI,QB,CV.ren]) (by simp) (by simp) (by simp[rbB,WI,QB,CV.ren]) (by simp[rbB,WI,QB,CV.ren])) (fun _ _=>Wn (by simp[rbB,WI,QB,CV.ren]) (by simp) (by simp) (by simp[rbB,WI,QB,CV.ren]) (by simp[rbB,WI,QB,CV.ren])) cq (fun _ _=>rfl) fun _ _=>?_;refine RunsN.doneE [] (by simp;rfl) trivial ?_;refine(Xq (by simp[*,Q7];rfl) ?_);exact⟨(i+1,X08 rows2 q rows1.length),⟨hin,g2,ZC g3,(X0X ..).trans g4⟩,by simp only;omega,Xy (fun n=>if n=900001 then 40 else n) [] rfl (by simp[upS,X6, *,Q7]) (by simp[*,upS,Q7]) (by simp[upS])⟩
   try simp only[BN]at h10
   have hi:i=sl1.length:=by
    have:¬i<sl1.length:=by simpa using h10
    omega
   subst hi;rw[List.drop_length]at g2;simp only[Xw]at g2;subst g2;clear h10 g1;have hb1:=X4k (.mk o c v n (.mk to tn tk) sa sb bs) rows1.length (Xw rows1.length sl1 rows1,d1) g3 g4.symm;have hb2:=X7F (.mk o c v n (.mk to tn tk) sa sb bs) rows1.length (Xw rows1.length sl1 rows1,d1);have cq:=ho rows1.length (Xw rows1.length sl1 rows1) d1 g3 g4.symm (by omega) e5 (by omega);obtain⟨⟨⟨rows3,d3⟩,sl3⟩,hx⟩:∃x,WQ (.mk o c v n (.mk to tn tk) sa sb bs) rows1.length (Xw rows1.length sl1 rows1,d1)=x:=⟨_,rfl⟩;simp only[hx]at e3 hb1 hb2 cq;obtain⟨b1,b2,b3,b4,b5⟩:=hb1;rw[g4]at b2 b3;have hw:=XN (show j<l.length by omega) (by omega:l.length≤1000000000);clear ho hx e1 hse g3 g4;refine(Xi ?_);refine(XJ ?_);refine RunsN.cutE 3 [] (by simp;rfl) trivial (le_refl _) ?_;refine RunsN.call (fun n=>n) (fun n=>if n=900001 then 40 else if n=1 then 41 else n) (by simp[gOfN,X1V,X1h,catT,TV.ren,CV.ren];rfl) (.inr ⟨rfl,rfl⟩) (Wn (by simp[rbB,WI,QB,CV.ren]) (by simp) (by simp) (by simp[rbB,WI,QB,CV.ren]) (by simp[rbB,WI,QB,CV.ren])) (fun _ _=>Wn (by simp[rbB,WI,QB,CV.ren]) (by simp) (by simp) (by simp[rbB,WI,QB,CV.ren]) (by simp[rbB,WI,QB,CV.ren])) cq (fun _ _=>rfl) fun _ _=>?_;refine RunsN.doneE [] (by simp;rfl) trivial ?_;refine(Xq (by simp[*,Q7];rfl) ?_);exact⟨(j+1,sl3,rows3,d3),⟨b1,by simp only;omega,hjn,e3,by simp only;omega,by simp only at b4⊢;omega,by simp only at b5⊢;omega⟩,by simp only;omega,Xy (fun n=>if n=900001 then 40 else if n=1 then 41 else n) [] rfl (by simp[upS,X6, *,Q7]) (by simp[*,upS,Q7]) (by simp[upS])⟩
 try simp only[BN]at h4
 have hj:j=l.length:=by
  have:¬j<l.length:=by simpa using h4
  omega
 subst hj;rw[List.drop_length]at e3;simp only[XZ]at e3;subst e3;clear h4 hone;refine(Xi ?_);refine X0<|(Xq (by simp[*,Q7];rfl) ?_);exact Qf ⟨.inr rfl,(),trivial,_,le_refl _,⟨[.one (.own 1)],by simp,rfl⟩,fun n o h=>h⟩
end Go.Proofs.YtdajceakaakdoaaGreat

namespace Go.Proofs.YtdajceakaakdoaaGreat
open Go Go.Hl
theorem X7W:∀l:List St,l.length≤ZK l
 |[]=>Nat.le_refl _
 | .mk o c v n t a b bs::l=>by
   have:=X7W l;unfold ZK szN;simp only[List.length_cons];omega
def lstC (b:Nat) (l:List St):Prop:=∀(sl:List W6) (rows:List (List CD)) (d:Int),okB sl rows→rows.length+ZK l≤1000000→0≤d→d+ZK l≤1000000→sl.length≤1000000→
 X0y Tryz.prog 188 (some (pV b)) ((1,.row 250 1 (Qv b sl))::W8 rows d) [.one (.c (.lit (pV b))),lS l,.one (.own 1)] (fun _:Unit=>True) (fun _=>.v (.one (.own 1))) (fun _=>(1,.row 250 1 (Qv b (XZ l sl (rows,d)).2))::W8 (XZ l sl (rows,d)).1.1 (XZ l sl (rows,d)).1.2)
theorem X27 {b:Nat} {l:List St} (h:∀s∈l,oneC b s):lstC b l:=fun sl rows d h1 h2 h3 h4 h5=>list_con b l h sl rows d h1 h2 h3 h4 (by have:=X7W l;omega) h5
abbrev X2G (o c v n to tn:Int) (tk:List Tm) (sa sb:List St) (bs:List Int):Ob:=.box [.c (iC o),.c (iC c),.c (iC v),.c (iC n),.c (iC to),.c (iC tn),.c (.sl 3 (XS tk)),.c (.sl 10 (X7 sa)),.c (.sl 10 (X7 sb)),.c (.sl 1 (Xg bs))]
def ms6:List (Nat×List Nat):=[(511,[0,1,3,4]),(510,[1,3,4]),(509,[0,2,3,4]),(503,[0,1,4]),(495,[0,1,3]),(508,[2,3,4]),(502,[1,4]),(494,[1,3]),(505,[0,3,4]),(501,[0,2,4]),(493,[0,2,3]),(487,[0,1,5]),(504,[3,4]),(500,[2,4]),(492,[2,3]),(486,[1,5]),(497,[0,4]),(489,[0,3]),(485,[0,2,5]),(455,[0,1,6]),(496,[4]),(488,[3]),(484,[2,5]),(454,[1,6]),(481,[0,5]),(453,[0,2,6]),(391,[0,1]),(480,[5]),(452,[2,6]),(390,[1]),(449,[0,6]),(389,[0,2]),(448,[6]),(388,[2]),(385,[0]),(384,[7]),(256,[8])]
def ms7:List (Nat×List Nat):=[(2047,[0,1,2,4,5]),(2046,[1,2,4,5]),(2045,[0,2,4,5]),(2043,[0,1,3,4,5]),(2031,[0,1,2,5]),(2015,[0,1,2,4]),(2044,[2,4,5]),(2042,[1,3,4,5]),(2030,[1,2,5]),(2014,[1,2,4]),(2041,[0,3,4,5]),(2029,[0,2,5]),(2013,[0,2,4]),(2035,[0,1,4,5]),(2027,[0,1,3,5]),(2011,[0,1,3,4]),(1999,[0,1,2,6]),(2040,[3,4,5]),(2028,[2,5]),(2012,[2,4]),(2034,[1,4,5]),(2026,[1,3,5]),(2010,[1,3,4]),(1998,[1,2,6]),(2033,[0,4,5]),(2025,[0,3,5]),(2009,[0,3,4]),(1997,[0,2,6]),(2019,[0,1,5]),(2003,[0,1,4]),(1995,[0,1,3,6]),(1935,[0,1,2,7]),(2032,[4,5]),(2024,[3,5]),(2008,[3,4]),(1996,[2,6]),(2018,[1,5]),(2002,[1,4]),(1994,[1,3,6]),(1934,[1,2,7]),(2017,[0,5]),(2001,[0,4]),(1993,[0,3,6]),(1933,[0,2,7]),(1987,[0,1,6]),(1931,[0,1,3,7]),(1807,[0,1,2]),(2016,[5]),(2000,[4]),(1992,[3,6]),(1932,[2,7]),(1986,[1,6]),(1930,[1,3,7]),(1806,[1,2]),(1985,[0,6]),(1929,[0,3,7]),(1805,[0,2]),(1923,[0,1,7]),(1803,[0,1,3]),(1984,[6]),(1928,[3,7]),(1804,[2]),(1922,[1,7]),(1802,[1,3]),(1921,[0,7]),(1801,[0,3]),(1795,[0,1]),(1920,[7]),(1800,[3]),(1794,[1]),(1793,[0,8]),(1792,[8]),(1537,[0]),(1536,[9]),(1024,[10])]
def ms15:List (Nat×List Nat):=[(2047,[0,1,3,4,10]),(2046,[1,3,4,10]),(2045,[0,2,3,4,10]),(2039,[0,1,4,10]),(2031,[0,1,3,5,10]),(1023,[0,1,3,4]),(2044,[2,3,4,10]),(2038,[1,4,10]),(2030,[1,3,5,10]),(1022,[1,3,4]),(2041,[0,3,4,10]),(2037,[0,2,4,10]),(2029,[0,2,3,5,10]),(1021,[0,2,3,4]),(2023,[0,1,5,10]),(1015,[0,1,4]),(1999,[0,1,3,10]),(1007,[0,1,3,5]),(2040,[3,4,10]),(2036,[2,4,10]),(2028,[2,3,5,10]),(1020,[2,3,4]),(2022,[1,5,10]),(1014,[1,4]),(1998,[1,3,10]),(1006,[1,3,5]),(2033,[0,4,10]),(2025,[0,3,5,10]),(1017,[0,3,4]),(2021,[0,2,5,10]),(1013,[0,2,4]),(1997,[0,2,3,10]),(1005,[0,2,3,5]),(1991,[0,1,6,10]),(999,[0,1,5]),(975,[0,1,3]),(2032,[4,10]),(2024,[3,5,10]),(1016,[3,4]),(2020,[2,5,10]),(1012,[2,4]),(1996,[2,3,10]),(1004,[2,3,5]),(1990,[1,6,10]),(998,[1,5]),(974,[1,3]),(2017,[0,5,10]),(1009,[0,4]),(1993,[0,3,10]),(1001,[0,3,5]),(1989,[0,2,6,10]),(997,[0,2,5]),(973,[0,2,3]),(1927,[0,1,7,10]),(967,[0,1,6]),(2016,[5,10]),(1008,[4]),(1992,[3,10]),(1000,[3,5]),(1988,[2,6,10]),(996,[2,5]),(972,[2,3]),(1926,[1,7,10]),(966,[1,6]),(1985,[0,6,10]),(993,[0,5]),(969,[0,3]),(1925,[0,2,7,10]),(965,[0,2,6]),(1799,[0,1,10]),(903,[0,1,7]),(1984,[6,10]),(992,[5]),(968,[3]),(1924,[2,7,10]),(964,[2,6]),(1798,[1,10]),(902,[1,7]),(1921,[0,7,10]),(961,[0,6]),(1797,[0,2,10]),(901,[0,2,7]),(775,[0,1]),(1920,[7,10]),(960,[6]),(1796,[2,10]),(900,[2,7]),(774,[1]),(1793,[0,10]),(897,[0,7]),(773,[0,2]),(1792,[8,10]),(896,[7]),(772,[2]),(769,[0]),(1536,[9,10]),(768,[8]),(1024,[10]),(512,[9])]
def nx6 (b k:Nat) (B:Ob) (sa:List St) (x y:List (Nat×Ob)) (R:List Nat):HS:=
 {trS ⟨⟨100,some (pV b)⟩,[(0,.v (.one (.c (.lit (pV b))))),(2,lit (.int .i64 k)),(4,.v (.one (.at_ 4 0)))],[]⟩ [(0,23,.v (.one (.c (.lit (pV b))))),(1,24,.v (.one (.at_ 4 7))),(2,25,.v (lS sa)),(3,26,.v (.one (.c (.lit (pV b))))),(4,27,lit (.int .i64 k)),(5,28,.v (.one (.c (nxC b k)))),(6,29,.v (.one (.own 29))),(7,30,.v (.one (.own 30))),(8,7,.v (.one (.own 30)))] R with
  objs:=(4,B)::if R.contains 6 then x else if R.contains 7 then(29,.row 250 1 [[nxC b k]])::x else y}
def nx7 (b k:Nat) (B:Ob) (sb:List St) (r3 r4 r34:List (List CD)) (x y:List (Nat×Ob)) (R:List Nat):HS:=
 {trS ⟨⟨100,some (pV b)⟩,[(0,.v (.one (.c (.lit (pV b))))),(2,lit (.int .i64 k)),(4,.v (.one (.at_ 4 0))),(7,.v (.one (.own 30)))],[]⟩ [(0,31,.v (.one (.own 30))),(1,32,.v (.one (.c (.lit (pV b))))),(2,33,.v (.one (.at_ 4 8))),(3,34,.v (lS sb)),(4,35,.v (.one (.c (.lit (pV b))))),(5,36,lit (.int .i64 k)),(6,37,.v (.one (.c (otC b k)))),(7,38,.v (.one (.own 38))),(8,39,.v (.one (.own 39))),(9,40,.v (.one (.own 40))),(10,6,.v (.one (.own 40)))] R with
  objs:=(4,B)::if R.contains 7 then(30,.row 250 1 r3)::x else if R.contains 8 then(30,.row 250 1 r3)::(38,.row 250 1 [[otC b k]])::x else if R.contains 9 then(30,.row 250 1 r3)::(39,.row 250 1 r4)::y else(39,.row 250 1 r4)::(40,.row 250 1 r34)::y}
def X4d (b k:Nat) (B:Ob) (sa:List St) (nl:Nat) (x y:List (Nat×Ob)) (R:List Nat):HS:=
 {trS ⟨⟨100,some (pV b)⟩,[(0,.v (.one (.c (.lit (pV b))))),(2,lit (.int .i64 k)),(4,.v (.one (.at_ 4 0)))],[]⟩ [(0,63,.v (.one (.c (.lit (pV b))))),(1,64,.v (.one (.at_ 4 7))),(2,65,.v (lS sa)),(3,66,.v (.one (.c (.lit (pV b))))),(4,67,lit (.int .i64 k)),(5,68,lit (.int .i64 ((k:Int)+1))),(6,69,.v (.one (.c (nxC b (k+1))))),(7,70,.v (.one (.own 70))),(8,71,.v (.one (.own 71))),(9,72,lit (.int .i64 nl)),(10,73,lit (.int .i64 0))] R with
  objs:=(4,B)::if R.contains 7 then x else if R.contains 8 then(70,.row 250 1 [[nxC b (k+1)]])::x else y}
attribute [simp] nx6 nx7 X4d
@[simp] theorem encSl_next (b k:Nat):Qv b [(false,k)]=[[nxC b k]]:=rfl
@[simp] theorem encSl_oth (b k:Nat):Qv b [(true,k)]=[[otC b k]]:=rfl
@[simp] theorem encSl_app (b:Nat) (x y:List W6):Qv b (x++y)=Qv b x++Qv b y:=by simp[Qv]
set_option maxHeartbeats 8000000 in
theorem one_then (b:Nat) (o c v n to tn:Int) (tk:List Tm) (sa sb:List St) (bs:List Int) (ha:lstC b sa) (hb:lstC b sb) (ho0:o=3):oneC b (.mk o c v n (.mk to tn tk) sa sb bs):=by
 intro k rows d h4 hk hn hd hd2;subst hk;obtain⟨RES,hR⟩:∃x,WQ (.mk o c v n (.mk to tn tk) sa sb bs) rows.length (rows,d)=x:=⟨_,rfl⟩;rw[hR];simp only[szN]at hn hd2;unfold WQ at hR;simp only[aS,St.enc,Tm.enc,List.map_cons,List.map_nil,List.cons_append,List.nil_append];refine Qj Tryz.func227 rfl (by kernel_rfl) (Nat.le_of_ble_eq_true rfl) X0B X6P ?_;simp only[Tryz.f227];have hw0:IntKind.i64.wrap (d+1)=d+1:=Xc (by omega) (by omega);have A3:=WK b rows d 3 (by omega);have A4:=WK b rows d 4 (by omega);have A2:=WK b rows d 2 (by omega);have A5:=WK b (rows++[XM 4 d]) d 5 (by simp;omega);refine X2 ?_;refine X0<|X0<|X1 ?_;refine X3<|X0<|X1 ?_;refine(X9 rfl (fun h3=>?_) (fun h3=>?_))
 · (try simp only[BN]at h3);have ho:o=3:=ho0;rw[if_pos ho]at hR;clear A2 A4 A5;have cA:=ha [(false,rows.length)] (rows++[XM 3 d]) (d+1) ⟨W9 h4,by simp⟩ (by simp;omega) (by omega) (by omega) (by simp);have k1:=Wa sa [(false,rows.length)] (rows++[XM 3 d],d+1) ⟨W9 h4,by simp⟩;have l1:=Zc sa [(false,rows.length)] (rows++[XM 3 d],d+1);simp only at hR;obtain⟨⟨⟨rows3,d3⟩,sl3⟩,hx⟩:∃x,XZ sa [(false,rows.length)] (rows++[XM 3 d],d+1)=x:=⟨_,rfl⟩;simp only[hx]at hR cA k1 l1;obtain⟨a1,a2,a3,a4,a5⟩:=k1;simp only[List.length_append,List.length_singleton]at a2 a3 l1;have cB:=hb [(true,rows.length)] rows3 d3 ⟨a1.four,by simp;omega⟩ (by omega) (by omega) (by omega) (by simp);have k2:=Wa sb [(true,rows.length)] (rows3,d3) ⟨a1.four,by simp;omega⟩;have l2:=Zc sb [(true,rows.length)] (rows3,d3);obtain⟨⟨⟨rows4,d4⟩,sl4⟩,hy⟩:∃x,XZ sb [(true,rows.length)] (rows3,d3)=x:=⟨_,rfl⟩;simp only[hy]at hR cB k2 l2;simp only[List.length_singleton]at l2;subst hR;have hroom:QV (sl3.length+sl4.length) 8:=Qa (by omega) (by decide);clear k2 hx hy;refine X0<|(XJ ?_);refine RunsN.cutE 1 [] (by simp;rfl) trivial (le_refl _) ?_;refine RunsN.callA (fun n=>n) (fun n=>if n=900001 then 101 else n) A3 fun _ _=>?_;refine RunsN.doneE [] (by simp[Q7,CV.ren];rfl) trivial ?_;refine XD (X3f (v:=pV b) 0 rfl rfl rfl) ?_;simp only[ins,Nat.reduceLT,Nat.reduceEqDiff,if_true,if_false];refine X2 ?_;refine XD (X3m (v:=pV b) 0 rfl rfl rfl) ?_;simp only[ins,Nat.reduceLT,Nat.reduceEqDiff,if_true,if_false];refine XD (s':=nx6 b rows.length (X2G 3 c v n to tn tk sa sb bs) sa (W8 (rows++[XM 3 d]) (d+1)) [] (WT 9 511)) ?_ ?_
   · refine Xy (fun n=>if n=900001 then 101 else n) [] rfl ?_ ?_ ?_
     · simp[nx6,trS, *]
     · simp[nx6, *]
     simp[nx6]
   refine X0<|(WS (nx6 b rows.length (X2G 3 c v n to tn tk sa sb bs) sa (W8 (rows++[XM 3 d]) (d+1)) ((30,.row 250 1 (Qv b sl3))::(102,.row 195 4 rows3)::[(1000000,.box [.own 102,.c (iC d3)])])) 9 511 ms6 rfl (by kernel_rfl) (by kernel_rfl) (by kernel_rfl) (by kernel_rfl) (by simp[nx6,trS]) ?_ ?_)
   · simp only[ms6,X1I]
     repeat' apply And.intro
     all_goals first
      |(refine XU.evE rfl ?_;simp[nx6,trS,ins,Wt];done)
      | (refine XU.ev [⟨false,.v (.one (.c (nxC b rows.length))),none⟩] rfl (by simp[nx6,trS,ins,Wt];first|exact⟨rfl,Iff.rfl⟩|exact⟨rfl,trivial⟩|rfl) ?_ ?_
         · simpa using X1m b rows.length 28
         simp[nx6,trS,ins])
      | (refine XU.callA (fun n=>if n=1 then 29 else n) (fun n=>if n=1 then 30 else if n=900001 then 102 else n) cA rfl fun _ _=>?_
         simp[nx6,trS,ins,Q7,QG,del,CV.ren,Ob.ren])
   refine XD (s':=nx7 b rows.length (X2G 3 c v n to tn tk sa sb bs) sb (Qv b sl3) (Qv b sl4) (Qv b (sl3++sl4)) (W8 rows3 d3) ((103,.row 195 4 rows4)::[(1000000,.box [.own 103,.c (iC d4)])]) (WT 11 2047)) ?_ ?_
   · refine Xy (fun n=>if n=900001 then 102 else n) [] rfl ?_ ?_ ?_
     · simp[nx6,nx7,trS, *]
     · simp[nx6,nx7, *]
     simp[nx7]
   refine X0<|(WS (nx7 b rows.length (X2G 3 c v n to tn tk sa sb bs) sb (Qv b sl3) (Qv b sl4) (Qv b (sl3++sl4)) (W8 rows3 d3) ((103,.row 195 4 rows4)::[(1000000,.box [.own 103,.c (iC d4)])])) 11 2047 ms7 rfl (by kernel_rfl) (by kernel_rfl) (by kernel_rfl) (by kernel_rfl) (by simp[nx7,trS]) ?_ ?_)
   · simp only[ms7,X1I]
     repeat' apply And.intro
     all_goals first
      |(refine XU.evE rfl ?_;simp[nx7,trS,ins,Wt,hroom];done)
      | (refine XU.ev [⟨false,.v (.one (.c (otC b rows.length))),none⟩] rfl (by simp[nx7,trS,ins,Wt];first|exact⟨rfl,Iff.rfl⟩|exact⟨rfl,trivial⟩|rfl) ?_ ?_
         · simpa using X39 b rows.length 37
         simp[nx7,trS,ins])
      | (refine XU.callA (fun n=>if n=1 then 38 else n) (fun n=>if n=1 then 39 else if n=900001 then 103 else n) cB rfl fun _ _=>?_
         simp[nx7,trS,ins,Q7,QG,del,CV.ren,Ob.ren])
   exact Qf ⟨.inr rfl,(),trivial,⟨⟨100,some (pV b)⟩,[(6,.v (.one (.own 1)))],(1,.row 250 1 (Qv b (sl3++sl4)))::W8 rows4 d4⟩,Xy (fun n=>if n=1 then 40 else if n=900001 then 103 else n) [] rfl (by simp[nx7,trS]) (by simp[nx7]) (by simp),⟨[.one (.own 1)],by simp,rfl⟩,fun n o h=>h⟩
 cases h3
set_option maxHeartbeats 8000000 in
theorem Xaf (b:Nat) (o c v n to tn:Int) (tk:List Tm) (sa sb:List St) (bs:List Int) (ha:lstC b sa) (hb:lstC b sb) (ho3:¬o=3) (ho0:¬o=4):oneC b (.mk o c v n (.mk to tn tk) sa sb bs):=by
 intro k rows d h4 hk hn hd hd2;subst hk;obtain⟨RES,hR⟩:∃x,WQ (.mk o c v n (.mk to tn tk) sa sb bs) rows.length (rows,d)=x:=⟨_,rfl⟩;rw[hR];simp only[szN]at hn hd2;unfold WQ at hR;simp only[aS,St.enc,Tm.enc,List.map_cons,List.map_nil,List.cons_append,List.nil_append];refine Qj Tryz.func227 rfl (by kernel_rfl) (Nat.le_of_ble_eq_true rfl) X0B X6P ?_;simp only[Tryz.f227];have hw0:IntKind.i64.wrap (d+1)=d+1:=Xc (by omega) (by omega);have A3:=WK b rows d 3 (by omega);have A4:=WK b rows d 4 (by omega);have A2:=WK b rows d 2 (by omega);have A5:=WK b (rows++[XM 4 d]) d 5 (by simp;omega);refine X2 ?_;refine X0<|X0<|X1 ?_;refine X3<|X0<|X1 ?_;refine(X9 rfl (fun h3=>?_) (fun h3=>?_))
 · cases h3
 (try simp only[BN]at h3);have ho:¬o=3:=ho3;rw[if_neg ho]at hR;clear A3;refine X2 ?_;refine(Xb rfl (fun h10=>?_) fun h10=>?_)
 · cases h10
 (try simp only[BN]at h10);have ho4:¬o=4:=ho0;rw[if_neg ho4]at hR;subst hR;clear A4 A5 h3 h10;refine X0<|(XJ ?_);refine RunsN.cutE 1 [] (by simp;rfl) trivial (le_refl _) ?_;refine RunsN.callA (fun n=>n) (fun n=>if n=900001 then 101 else n) A2 fun _ _=>?_;refine RunsN.doneE [] (by simp[Q7,CV.ren];rfl) trivial ?_;refine XD (X3f (v:=pV b) 0 rfl rfl rfl) ?_;simp only[ins,Nat.reduceLT,Nat.reduceEqDiff,if_true,if_false];refine X2 ?_;refine XD (X3m (v:=pV b) 0 rfl rfl rfl) ?_;simp only[ins,Nat.reduceLT,Nat.reduceEqDiff,if_true,if_false];refine Xp [⟨false,.v (.one (.c (nxC b rows.length))),none⟩] ?_ ?_
 · first|exact X1m b rows.length 98|exact trivial|simpa[*]using X1m b rows.length 98
 exact Qf ⟨.inr rfl,(),trivial,⟨⟨100,some (pV b)⟩,[(6,.v (.one (.own 1)))],(1,.row 250 1 (Qv b [(false,rows.length)]))::W8 (rows++[XM 2 d]) (d+1)⟩,Xy (fun n=>if n=1 then 99 else if n=900001 then 101 else n) [] rfl (by simp) (by simp[Qv, *]) (by simp),⟨[.one (.own 1)],by simp,rfl⟩,fun n o h=>h⟩
end Go.Proofs.YtdajceakaakdoaaGreat

namespace Go.Proofs.YtdajceakaakdoaaGreat
open Go Go.Hl
set_option maxHeartbeats 8000000 in
theorem one_loop (b:Nat) (o c v n to tn:Int) (tk:List Tm) (sa sb:List St) (bs:List Int) (ha:lstC b sa) (hb:lstC b sb) (ho3:¬o=3) (ho0:o=4):oneC b (.mk o c v n (.mk to tn tk) sa sb bs):=by
 intro k rows d h4 hk hn hd hd2;subst hk;obtain⟨RES,hR⟩:∃x,WQ (.mk o c v n (.mk to tn tk) sa sb bs) rows.length (rows,d)=x:=⟨_,rfl⟩;rw[hR];simp only[szN]at hn hd2;unfold WQ at hR;simp only[aS,St.enc,Tm.enc,List.map_cons,List.map_nil,List.cons_append,List.nil_append];refine Qj Tryz.func227 rfl (by kernel_rfl) (Nat.le_of_ble_eq_true rfl) X0B X6P ?_;simp only[Tryz.f227];have hw0:IntKind.i64.wrap (d+1)=d+1:=Xc (by omega) (by omega);have A3:=WK b rows d 3 (by omega);have A4:=WK b rows d 4 (by omega);have A2:=WK b rows d 2 (by omega);have A5:=WK b (rows++[XM 4 d]) d 5 (by simp;omega);refine X2 ?_;refine X0<|X0<|X1 ?_;refine X3<|X0<|X1 ?_;refine(X9 rfl (fun h3=>?_) (fun h3=>?_))
 · cases h3
 (try simp only[BN]at h3);have ho:¬o=3:=ho3;rw[if_neg ho]at hR;clear A3;refine X2 ?_;refine(Xb rfl (fun h10=>?_) fun h10=>?_)
 · (try simp only[BN]at h10);have ho4:o=4:=ho0;rw[if_pos ho4]at hR;clear A2 h10 h3;have hin:rows.length<(rows++[XM 4 d]++[XM 5 d]).length:=by simp
   have hw1:IntKind.i64.wrap ((rows.length:Int)+1)=(rows.length:Int)+1:=Xc (by omega) (by omega);refine X0<|(XJ ?_);refine RunsN.cutE 1 [] (by simp;rfl) trivial (le_refl _) ?_;refine RunsN.callA (fun n=>n) (fun n=>if n=900001 then 101 else n) A4 fun _ _=>?_;refine RunsN.doneE [] (by simp[Q7,CV.ren];rfl) trivial ?_;refine XD (s':=⟨⟨100,some (pV b)⟩,[(0,.v (.one (.c (.lit (pV b))))),(2,lit (.int .i64 rows.length)),(4,.v (.one (.at_ 4 0)))],(4,X2G 4 c v n to tn tk sa sb bs)::W8 (rows++[XM 4 d]) d⟩) (Xy (fun n=>if n=900001 then 101 else n) [] rfl (by simp) (by simp[*]) (by simp)) ?_;refine X0<|(XJ ?_);refine RunsN.cutE 1 [] (by simp;rfl) trivial (le_refl _) ?_;refine RunsN.callA (fun n=>n) (fun n=>if n=900001 then 101 else n) A5 fun _ _=>?_;refine RunsN.doneE [] (by simp[Q7,CV.ren];rfl) trivial ?_;refine XD (s':=⟨⟨100,some (pV b)⟩,[(0,.v (.one (.c (.lit (pV b))))),(2,lit (.int .i64 rows.length)),(4,.v (.one (.at_ 4 0)))],(4,X2G 4 c v n to tn tk sa sb bs)::W8 (rows++[XM 4 d]++[XM 5 d]) d⟩) (Xy (fun n=>if n=900001 then 101 else n) [] rfl (by simp) (by simp) (by simp)) ?_;refine XD (X3f (v:=pV b) 0 rfl rfl rfl) ?_;simp only[ins,Nat.reduceLT,Nat.reduceEqDiff,if_true,if_false];refine X2 ?_;refine X2 ?_;have hRW:setRow (rows++[XM 4 d]++[XM 5 d]) rows.length 2 [iC ((rows.length:Int)+1)]=rows++[[iC 4,iC d,iC ((rows.length:Int)+1),iC (-1)],XM 5 d]:=by simp[setRow]
   simp only[hRW]at hR
   have k0:okB [(false,rows.length+1)] (rows++[[iC 4,iC d,iC ((rows.length:Int)+1),iC (-1)],XM 5 d]):=by
    rw[←hRW];exact⟨X01 (W9 (W9 h4)) (by omega),by simp[Wm]⟩
   have cA:=ha [(false,rows.length+1)] (rows++[[iC 4,iC d,iC ((rows.length:Int)+1),iC (-1)],XM 5 d]) (d+1) k0 (by simp;omega) (by omega) (by omega) (by simp);have k1:=Wa sa [(false,rows.length+1)] (rows++[[iC 4,iC d,iC ((rows.length:Int)+1),iC (-1)],XM 5 d],d+1) k0;have l1:=Zc sa [(false,rows.length+1)] (rows++[[iC 4,iC d,iC ((rows.length:Int)+1),iC (-1)],XM 5 d],d+1);obtain⟨⟨⟨rows3,d3⟩,sl3⟩,hx⟩:∃x,XZ sa [(false,rows.length+1)] (rows++[[iC 4,iC d,iC ((rows.length:Int)+1),iC (-1)],XM 5 d],d+1)=x:=⟨_,rfl⟩;simp only[hx,List.length_singleton]at hR cA k1 l1;obtain⟨a1,a2,a3,a4,a5⟩:=k1;clear hRW hx k0 A4 A5;refine XD (X3m (v:=pV b) 0 rfl rfl rfl) ?_;simp only[ins,Nat.reduceLT,Nat.reduceEqDiff,if_true,if_false];refine XD (s':=X4d b rows.length (X2G 4 c v n to tn tk sa sb bs) sa sl3.length (W8 (rows++[[iC 4,iC d,iC ((rows.length:Int)+1),iC (-1)],XM 5 d]) (d+1)) ((71,.row 250 1 (Qv b sl3))::(102,.row 195 4 rows3)::[(1000000,.box [.own 102,.c (iC d3)])]) (WT 11 2047)) ?_ ?_
   · refine Xy (fun n=>n) [] rfl ?_ ?_ ?_
     · simp[X4d,trS, *]
     · simp[X4d, *]
     simp[X4d]
   refine X0<|X0<|(WS (X4d b rows.length (X2G 4 c v n to tn tk sa sb bs) sa sl3.length (W8 (rows++[[iC 4,iC d,iC ((rows.length:Int)+1),iC (-1)],XM 5 d]) (d+1)) ((71,.row 250 1 (Qv b sl3))::(102,.row 195 4 rows3)::[(1000000,.box [.own 102,.c (iC d3)])])) 11 2047 ms15 rfl (by kernel_rfl) (by kernel_rfl) (by kernel_rfl) (by kernel_rfl) (by simp[X4d,trS]) ?_ ?_)
   · simp only[ms15,X1I]
     repeat' apply And.intro
     all_goals first
      |(refine XU.evE rfl ?_;simp[X4d,trS,ins,Wt,hw1];done)
      | (refine XU.ev [⟨false,.v (.one (.c (nxC b (rows.length+1)))),none⟩] rfl (by simp[X4d,trS,ins,Wt];first|exact⟨rfl,Iff.rfl⟩|exact⟨rfl,trivial⟩|rfl) ?_ ?_
         · simpa using X1m b (rows.length+1) 69
         simp[X4d,trS,ins])
      | (refine XU.callA (fun n=>if n=1 then 70 else n) (fun n=>if n=1 then 71 else if n=900001 then 102 else n) cA rfl fun _ _=>?_
         simp[X4d,trS,ins,Q7,QG,del,CV.ren,Ob.ren])
   refine X3<|(Xe [] (fun(x:Nat×List (List CD))=>[(0,.v (.one (.c (.lit (pV b))))),(2,lit (.int .i64 rows.length)),(71,.v (.one (.own 71))),(72,lit (.int .i64 sl3.length)),(73,lit (.int .i64 x.1))]) (fun(x:Nat×List (List CD))=>(4,X2G 4 c v n to tn tk sa sb bs)::(71,.row 250 1 (Qv b sl3))::W8 x.2 d3) (fun(x:Nat×List (List CD))=>x.1≤sl3.length∧Xw (rows.length+1) (sl3.drop x.1) x.2=Xw (rows.length+1) sl3 rows3∧(∀r∈x.2,r.length=4)∧x.2.length=rows3.length) (fun(x:Nat×List (List CD))=>sl3.length - x.1) (0,rows3) ⟨Nat.zero_le _,rfl,a1.four,rfl⟩ ?_ ?_)
   · exact Xy (fun n=>if n=900001 then 102 else n) [] rfl (by simp[upS,X6,trS]) (by simp[upS]) (by simp[upS])
   rintro⟨i,rows2⟩ ⟨g1,g2,g3,g4⟩;simp only[upS,X6,XL]
   try simp only[X6,KN,Nat.reduceBEq,if_true,if_false,ins,Nat.reduceLT]
   simp only at g1 g2 g3 g4;simp only[X4d,trS];refine X2 ?_;refine X0<|(X9 rfl (fun h18=>Xd ?_) (fun h18=>?_))
   · (try simp only[BN]at h18);have hi:i<sl3.length:=by simpa using h18
     obtain⟨q,hq,hqd⟩:=Xr hi;have hqe:=X3g (b:=b) hq;rw[hqd]at g2;simp only[Xw]at g2;have cq:=X4G b rows2 d3 (rows.length+1) q g3 (by have:=a1.lt q (List.mem_of_getElem? hq);omega);have hw:=XN hi (by omega:sl3.length≤1000000000);have hin2:i+1≤sl3.length:=hi;clear hi hq h18 hqd;refine X0<|X3<|X0<|X1 ?_;refine(XJ ?_);refine RunsN.cutE 3 [] (by simp[hw1];rfl) trivial (le_refl _) ?_;refine RunsN.callA (fun n=>n) (fun n=>if n=900001 then 101 else n) cq fun _ _=>?_;refine RunsN.doneE [] (by simp[Q7,CV.ren,Ob.ren];rfl) trivial ?_;refine X1 ?_;exact⟨(i+1,X08 rows2 q (rows.length+1)),⟨hin2,g2,ZC g3,(X0X ..).trans g4⟩,by simp only;omega,X5 (fun n=>if n=900001 then 101 else n) []⟩
   try simp only[BN]at h18
   have hi:i=sl3.length:=by
    have:¬i<sl3.length:=by simpa using h18
    omega
   subst hi;rw[List.drop_length]at g2;simp only[Xw]at g2;rw[←g2]at hR;subst hR;clear h18;refine(Xi ?_);refine X0<|(Z4 [⟨false,.v (.one (.c (otC b (rows.length+1)))),none⟩] (by simp[*,hw1];first|exact⟨rfl,Iff.rfl⟩|exact⟨rfl,trivial⟩|rfl) ?_ ?_)
   · first|exact X39 b (rows.length+1) 85|exact trivial|simpa[*,hw1]using X39 b (rows.length+1) 85
   exact Qf ⟨.inr rfl,(),trivial,⟨⟨100,some (pV b)⟩,[(6,.v (.one (.own 1)))],(1,.row 250 1 (Qv b [(true,rows.length+1)]))::W8 rows2 d3⟩,Xy (fun n=>if n=1 then 86 else n) [] rfl (by simp) (by simp[Qv, *]) (by simp),⟨[.one (.own 1)],by simp,rfl⟩,fun n o h=>h⟩
 cases h10
theorem one_con (b:Nat) (o c v n to tn:Int) (tk:List Tm) (sa sb:List St) (bs:List Int) (ha:lstC b sa) (hb:lstC b sb):oneC b (.mk o c v n (.mk to tn tk) sa sb bs):=by
 by_cases h3:o=3
 · exact one_then b o c v n to tn tk sa sb bs ha hb h3
 by_cases h4:o=4
 · exact one_loop b o c v n to tn tk sa sb bs ha hb h3 h4
 exact Xaf b o c v n to tn tk sa sb bs ha hb h3 h4
end Go.Proofs.YtdajceakaakdoaaGreat

namespace Go.Proofs.YtdajceakaakdoaaGreat
open Go Go.Hl
structure B3 where
 s:Int
 o:Int
 t:Int
def bd1 (d c n:Int) (x y:B3):B3:=
 if d=4 then⟨1+n*(1+x.s),n*x.o,n*(c+x.t)⟩
 else if d=3 then⟨1+mx x.s y.s,mx x.o y.o,c+mx x.t y.t⟩
 else if d=1 then⟨1,1,c⟩ else⟨1,0,c⟩
def QY (C:B3) (x y:B3):B3:=⟨mn (x.s+y.s) C.s,mn (x.o+y.o) C.o,mn (x.t+y.t) C.t⟩
mutual
def bdS (C:B3):St→B3
 | .mk d c _ n _ a b _=>bd1 d c n (bdL C a ⟨0,0,0⟩) (bdL C b ⟨0,0,0⟩)
def bdL (C:B3):List St→B3→B3
 |[],p=>p
 |s::l,p=>bdL C l (QY C p (bdS C s))
end
mutual
def okS:St→Bool
 | .mk d c _ n _ a b _=>(decide (0≤c)&&(decide (c≤67108864)&&(decide (d≠4)||(decide (0≤n)&&decide (n≤4096)))))&&((decide (d=3)||(decide (d=4)||(a.isEmpty&&b.isEmpty)))&&(okL a&&okL b))
def okL:List St→Bool
 |[]=>true
 |s::l=>okS s&&okL l
end
def CP:B3:=⟨1099511627776,1099511627776,1099511627776⟩
def CR:B3:=⟨4097,9,67108865⟩
def in3 (C p:B3):Prop:=0≤p.s∧p.s≤C.s∧0≤p.o∧p.o≤C.o∧0≤p.t∧p.t≤C.t
def nn3 (p:B3):Prop:=0≤p.s∧0≤p.o∧0≤p.t
theorem mulN {n z:Int} (hn:0≤n∧n≤4096) (hz:0≤z∧z≤1099578736641):0≤n*z∧n*z≤4503874505281536:=by
 have h1:n.natAbs*z.natAbs≤4096*1099578736641:=Nat.mul_le_mul (by omega) (by omega);rw[←Int.natAbs_mul]at h1;have h2:=Int.mul_nonneg hn.1 hz.1;omega
theorem bd1_nn {d c n:Int} {x y:B3} (hc:0≤c) (hn:d=4→0≤n) (hx:nn3 x) (hy:nn3 y):nn3 (bd1 d c n x y):=by
 unfold nn3 at*;unfold bd1;split
 · rename_i h4;have h0:=hn h4;refine⟨?_,Int.mul_nonneg h0 hx.2.1,Int.mul_nonneg h0 (by omega)⟩;have:=Int.mul_nonneg h0 (show(0:Int)≤1+x.s by omega);simp only;omega
 split
 · simp only[mx];refine⟨?_,?_,?_⟩<;>split<;>omega
 split<;>simp only<;>omega
theorem X4e {C p q:B3} (hC:nn3 C) (hp:nn3 p) (hq:nn3 q):in3 C (QY C p q):=by
 unfold in3 QY nn3 at*;simp only[mn];refine⟨?_,?_,?_,?_,?_,?_⟩<;>split<;>omega
theorem Zh {C p:B3} (h:in3 C p):nn3 p:=⟨h.1,h.2.2.1,h.2.2.2.2.1⟩
theorem Zr {C:B3} (hC:nn3 C):in3 C ⟨0,0,0⟩:=⟨Int.le_refl _,hC.1,Int.le_refl _,hC.2.1,Int.le_refl _,hC.2.2⟩
mutual
theorem X3p {C:B3} (hC:nn3 C):∀s:St,okS s=true→nn3 (bdS C s)
 | .mk d c v n t a b bs,h=>by
   simp only[okS,Bool.and_eq_true,Bool.or_eq_true,decide_eq_true_eq]at h;simp only[bdS];exact bd1_nn h.1.1 (fun h4=>by omega) (Zh (ZO hC a _ h.2.2.1 (Zr hC))) (Zh (ZO hC b _ h.2.2.2 (Zr hC)))
theorem ZO {C:B3} (hC:nn3 C):∀(l:List St) (p:B3),okL l=true→in3 C p→in3 C (bdL C l p)
 |[],p,_,h=>h
 | s::l,p,h,hp=>by
   simp only[okL,Bool.and_eq_true]at h;simp only[bdL];exact ZO hC l _ h.2 (X4e hC (Zh hp) (X3p hC s h.1))
end
def X0d (C p:B3):B3:=⟨mn p.s C.s,mn p.o C.o,mn p.t C.t⟩
theorem X4p {n a b k k' C:Int} (hn:0≤n) (ha:0≤a) (hb:0≤b) (hk:0≤k) (hk':0≤k') (h:mn a C=mn b C):mn (k'+n*(k+a)) C=mn (k'+n*(k+b)) C:=by
 by_cases hac:a<C
 · have:a=b:=by
    unfold mn at h
    (repeat' split at h)<;>omega
   rw[this]
 have hbc:C≤b:=by
  unfold mn at h
  (repeat' split at h)<;>omega
 rcases Int.lt_or_le 0 n with h0|h0
 · have h1:=Int.mul_le_mul_of_nonneg_right (show(1:Int)≤n by omega) (show 0≤k+a by omega);have h2:=Int.mul_le_mul_of_nonneg_right (show(1:Int)≤n by omega) (show 0≤k+b by omega);unfold mn
   (repeat' split)<;>omega
 have:n=0:=by omega
 subst this;simp
theorem bd1_cut {C x x' y y':B3} {d c n:Int} (hc:0≤c) (hn:d=4→0≤n) (hx:nn3 x) (hx':nn3 x') (hy:nn3 y) (hy':nn3 y') (h1:X0d C x=X0d C x') (h2:X0d C y=X0d C y'):X0d C (bd1 d c n x y)=X0d C (bd1 d c n x' y'):=by
 unfold X0d at*;unfold nn3 at*;simp only[B3.mk.injEq]at h1 h2⊢;unfold bd1;split
 · rename_i h4;have h0:=hn h4;have e1:=X4p h0 hx.1 hx'.1 (show(0:Int)≤1 by decide) (show(0:Int)≤1 by decide) h1.1;have e2:=X4p h0 hx.2.1 hx'.2.1 (Int.le_refl 0) (Int.le_refl 0) h1.2.1;have e3:=X4p h0 hx.2.2 hx'.2.2 hc (Int.le_refl 0) h1.2.2;simp only[Int.zero_add]at e2 e3;exact⟨e1,e2,e3⟩
 obtain⟨a1,a2,a3⟩:=h1;obtain⟨b1,b2,b3⟩:=h2;split
 · simp only[mx];refine⟨?_,?_,?_⟩
   · clear a2 a3 b2 b3;unfold mn at*;(repeat' split at a1)<;>(repeat' split at b1)<;>(repeat' split)<;>omega
   · clear a1 a3 b1 b3;unfold mn at*;(repeat' split at a2)<;>(repeat' split at b2)<;>(repeat' split)<;>omega
   clear a1 a2 b1 b2;unfold mn at*;(repeat' split at a3)<;>(repeat' split at b3)<;>(repeat' split)<;>omega
 split<;>exact⟨rfl,rfl,rfl⟩
theorem add3_cut {C D p p' x x':B3} (hC:nn3 C) (hD:C.s≤D.s∧C.o≤D.o∧C.t≤D.t) (hp:nn3 p) (hp':nn3 p') (hx:nn3 x) (hx':nn3 x') (h1:X0d C p=X0d C p') (h2:X0d C x=X0d C x'):X0d C (QY D p x)=X0d C (QY C p' x'):=by
 unfold X0d at*;unfold nn3 at*;simp only[B3.mk.injEq,QY]at h1 h2⊢;obtain⟨a1,a2,a3⟩:=h1;obtain⟨b1,b2,b3⟩:=h2;obtain⟨d1,d2,d3⟩:=hD;obtain⟨p1,p2,p3⟩:=hp;obtain⟨q1,q2,q3⟩:=hp';obtain⟨r1,r2,r3⟩:=hx;obtain⟨s1,s2,s3⟩:=hx';obtain⟨c1,c2,c3⟩:=hC;refine⟨?_,?_,?_⟩
 · clear a2 a3 b2 b3;unfold mn at*;(repeat' split at a1)<;>(repeat' split at b1)<;>(repeat' split)<;>omega
 · clear a1 a3 b1 b3;unfold mn at*;(repeat' split at a2)<;>(repeat' split at b2)<;>(repeat' split)<;>omega
 clear a1 a2 b1 b2;unfold mn at*;(repeat' split at a3)<;>(repeat' split at b3)<;>(repeat' split)<;>omega
mutual
theorem bdS_cut {C D:B3} (hC:nn3 C) (hDn:nn3 D) (hD:C.s≤D.s∧C.o≤D.o∧C.t≤D.t):∀s:St,okS s=true→X0d C (bdS D s)=X0d C (bdS C s)
 | .mk d c v n t a b bs,h=>by
   simp only[okS,Bool.and_eq_true,Bool.or_eq_true,decide_eq_true_eq]at h;simp only[bdS];have ha:=Zh (ZO hDn a _ h.2.2.1 (Zr hDn));have hb:=Zh (ZO hDn b _ h.2.2.2 (Zr hDn));have ha':=Zh (ZO hC a _ h.2.2.1 (Zr hC));have hb':=Zh (ZO hC b _ h.2.2.2 (Zr hC));have h0:nn3 ⟨0,0,0⟩:=⟨Int.le_refl _,Int.le_refl _,Int.le_refl _⟩;exact bd1_cut h.1.1 (fun h4=>by omega) ha ha' hb hb' (X4j hC hDn hD a _ _ h.2.2.1 (Zr hDn) (Zr hC) rfl) (X4j hC hDn hD b _ _ h.2.2.2 (Zr hDn) (Zr hC) rfl)
theorem X4j {C D:B3} (hC:nn3 C) (hDn:nn3 D) (hD:C.s≤D.s∧C.o≤D.o∧C.t≤D.t):∀(l:List St) (p q:B3),okL l=true→in3 D p→in3 C q→X0d C p=X0d C q→X0d C (bdL D l p)=X0d C (bdL C l q)
 |[],p,q,_,_,_,h=>h
 | s::l,p,q,h,hp,hq,hpq=>by
   simp only[okL,Bool.and_eq_true]at h;simp only[bdL]
   exact X4j hC hDn hD l _ _ h.2 (X4e hDn (Zh hp) (X3p hDn s h.1)) (X4e hC (Zh hq) (X3p hC s h.1))
    (add3_cut hC hD (Zh hp) (Zh hq) (X3p hDn s h.1) (X3p hC s h.1) hpq (bdS_cut hC hDn hD s h.1))
end
theorem nnCP:nn3 CP:=by unfold nn3 CP;decide
theorem nnCR:nn3 CR:=by unfold nn3 CR;decide
theorem bd_cmp {l:List St} (h:okL l=true):(4096<(bdL CP l ⟨0,0,0⟩).s↔4096<(bdL CR l ⟨0,0,0⟩).s)∧(8<(bdL CP l ⟨0,0,0⟩).o↔8<(bdL CR l ⟨0,0,0⟩).o)∧(67108864<(bdL CP l ⟨0,0,0⟩).t↔67108864<(bdL CR l ⟨0,0,0⟩).t):=by
 have:=X4j nnCR nnCP (by decide) l _ _ h (Zr nnCP) (Zr nnCR) rfl;unfold X0d at this;simp only[B3.mk.injEq]at this;obtain⟨h1,h2,h3⟩:=this;generalize bdL CP l ⟨0,0,0⟩=p at*;generalize bdL CR l ⟨0,0,0⟩=q at*;unfold CR at h1 h2 h3;refine⟨?_,?_,?_⟩
 · clear h2 h3;unfold mn at*;simp only at h1;(repeat' split at h1)<;>omega
 · clear h1 h3;unfold mn at*;simp only at h2;(repeat' split at h2)<;>omega
 clear h1 h2;unfold mn at*;simp only at h3;(repeat' split at h3)<;>omega
end Go.Proofs.YtdajceakaakdoaaGreat

namespace Go.Proofs.YtdajceakaakdoaaGreat
open Go Go.Hl
theorem okL_mem {l:List St} (h:okL l=true) {s:St} (hs:s∈l):okS s=true:=by
 induction l with
 |nil=>cases hs
 | cons x l ih=>
   simp only[okL,Bool.and_eq_true]at h;rcases List.mem_cons.1 hs with rfl|h1
   · exact h.1
   exact ih h.2 h1
abbrev aB (p:B3):TV:=.agg [.c (iC p.s),.c (iC p.o),.c (iC p.t)]
theorem X5U (l:List St):Xs l≤1000000000→okL l=true→∀d:Nat,Con Tryz.prog 118 true [lS l] (.v (aB (bdL CP l ⟨0,0,0⟩))) none d:=by
 revert l
 apply St.lists;intro l ih hn hok d;have hlen:=WP l;obtain⟨res,hres⟩:∃r,bdL CP l ⟨0,0,0⟩=r:=⟨_,rfl⟩;rw[hres];refine X4 Tryz.func118 ?_;simp only[Tryz.f118];refine X0<|(Xq (by simp[*,QY,CP];rfl) ?_);refine X0<|(Xq (by simp[*,QY,CP];rfl) ?_);refine X0<|X0<|(Xq (by simp[*,QY,CP];rfl) ?_);refine X3<|(Xe [2,3,9,10] (fun(x:Nat×B3)=>[(11,.v (li x.1))]) (fun x=>[(2,.box [.c (iC 0),.c (iC 0),.c (iC 0)]),(3,.box [.c (iC x.2.s),.c (iC x.2.o),.c (iC x.2.t)])]) (fun x=>x.1≤l.length∧bdL CP (l.drop x.1) x.2=res∧in3 CP x.2) (fun x=>l.length - x.1) (0,⟨0,0,0⟩) ⟨Nat.zero_le _,hres,Zr nnCP⟩ ?_ ?_)
 · exact Xy (fun n=>n) [] rfl (by simp[*,upS,X6,QY,CP]) (by simp[*,upS]) (by simp[upS])
 rintro⟨k,⟨m1,m2,m3⟩⟩ ⟨hk,hJ,hin⟩;simp only[upS,X6,XL]
 try simp only[X6,KN,Nat.reduceBEq,if_true,if_false,ins,Nat.reduceLT]
 simp only at hk hJ;unfold in3 CP at hin;simp only at hin;clear hres;refine X0<|(Xq (by simp[*,QY,CP];rfl) ?_);refine X0<|(X9 rfl (fun h5=>Xd ?_) (fun h5=>?_))
 · (try simp only[BN]at h5);have hlt:k<l.length:=by omega
   obtain⟨s,he,hd⟩:=Xr hlt;have hmem:s∈l:=List.mem_of_getElem? he;have hnm:=ZF hmem;have hos:=okL_mem hok hmem;have iha:=fun h=>(ih s hmem).1 h;have ihb:=fun h=>(ih s hmem).2 h;have hw1:=XN hlt (by omega);have hk1:k+1≤l.length:=hlt;rw[hd]at hJ;simp only[bdL]at hJ;have hsin:=X3p nnCP s hos;obtain⟨pq,hpq⟩:∃pq,bdS CP s=pq:=⟨_,rfl⟩;rw[hpq]at hJ hsin;obtain⟨sd,sc,sv,sn,⟨so,stn,sks⟩,sa,sb,sbs⟩:=s;simp only[St.then_,St.else_,St.term]at iha ihb hnm;simp only[okS,Bool.and_eq_true,Bool.or_eq_true,decide_eq_true_eq]at hos;have ca:=iha (by omega) hos.2.2.1;have cb:=ihb (by omega) hos.2.2.2;have he':=Qy he;simp only[St.enc,Tm.enc,List.cons_append,List.nil_append]at he';simp only[bdS]at hpq;have hxa:=ZO nnCP sa ⟨0,0,0⟩ hos.2.2.1 (Zr nnCP);have hxb:=ZO nnCP sb ⟨0,0,0⟩ hos.2.2.2 (Zr nnCP);obtain⟨xa,hxa'⟩:∃x,bdL CP sa ⟨0,0,0⟩=x:=⟨_,rfl⟩;obtain⟨xb,hxb'⟩:∃x,bdL CP sb ⟨0,0,0⟩=x:=⟨_,rfl⟩;rw[hxa']at ca hxa hpq;rw[hxb']at cb hxb hpq;unfold in3 CP at hxa hxb;unfold nn3 at hsin;simp only at hxa hxb;obtain⟨a1,a2,a3⟩:=xa;obtain⟨b1,b2,b3⟩:=xb;obtain⟨q1,q2,q3⟩:=pq;simp only at hxa hxb hsin;have hcost:=hos.1;unfold bd1 at hpq;simp only[mx]at hpq;clear hlt h5 iha ihb ih hxa' hxb' hmem hnm hd he hos;refine X0<|X3<|X0<|(Xq (by simp[*,QY,CP];rfl) ?_);refine X0<|(Xq (by simp[*,QY,CP];rfl) ?_);refine X0<|(Z2 [⟨true,.v (aB ⟨a1,a2,a3⟩),none⟩,⟨true,.v (aB ⟨b1,b2,b3⟩),none⟩] (by kernel_rfl) (by kernel_rfl) (by rfl) (by simp[*,QY,CP];first|exact⟨rfl,Iff.rfl⟩|exact⟨rfl,trivial⟩|rfl) ?_ ?_)
   · first|exact⟨ca _,cb _⟩|exact trivial|(repeat' first|exact trivial|exact ca _|exact cb _|apply And.intro)
   refine(Qe [2,3,6,9,10,11] (fun(z:Unit)=>[]) (fun(z:Unit)=>[(2,.box [.c (iC 0),.c (iC 0),.c (iC 0)]),(3,.box [.c (iC m1),.c (iC m2),.c (iC m3)]),(6,.box [.c (iC q1),.c (iC q2),.c (iC q3)])]) (fun(z:Unit)=>q1≤4503874505281537∧q2≤4503874505281537∧q3≤4503874505281537) ?_ ?_)
   ·
    refine X0<|(Xq (by simp[*,QY,CP];rfl) ?_);refine X3<|X0<|(Xq (by simp[*,QY,CP];rfl) ?_);refine(X9 rfl (fun h12=>?_) (fun h12=>?_))
    · (try simp only[BN]at h12);rw[if_neg (by omega),if_neg (by omega),if_pos h12]at hpq;simp only[B3.mk.injEq]at hpq;obtain⟨p1,p2,p3⟩:=hpq;subst p1 p2 p3;refine(Xq (by simp[*,QY,CP];rfl) ?_);exact⟨(),⟨by omega,by omega,by omega⟩,X5 (fun n=>n) []⟩
    (try simp only[BN]at h12);refine X0<|(Xq (by simp[*,QY,CP];rfl) ?_);refine(X9 rfl (fun h16=>?_) (fun h16=>?_))
    · (try simp only[BN]at h16);rw[if_neg (by omega),if_pos h16]at hpq;simp only[B3.mk.injEq]at hpq;obtain⟨p1,p2,p3⟩:=hpq;have hw2:IntKind.i64.wrap (1+(if a1<b1 then b1 else a1))=q1:=by rw[←p1];exact Xc (by split<;>omega) (by split<;>omega)
      have hw3:IntKind.i64.wrap (sc+(if a3<b3 then b3 else a3))=q3:=by rw[←p3];exact Xc (by split<;>omega) (by split<;>omega)
      have hq:q1≤4503874505281537∧q2≤4503874505281537∧q3≤4503874505281537:=by
       rw[←p1,←p2,←p3];refine⟨?_,?_,?_⟩<;>split<;>omega
      clear p1 p3;refine X0<|(Xq (by simp[*,QY,CP];rfl) ?_);refine X0<|(Xq (by simp[*,QY,CP];rfl) ?_);refine(Xq (by simp[*,QY,CP];rfl) ?_);exact⟨(),hq,X5 (fun n=>n) []⟩
    (try simp only[BN]at h16);refine X0<|(Xq (by simp[*,QY,CP];rfl) ?_);refine(Xb rfl (fun h22=>?_) fun h22=>?_)
    · (try simp only[BN]at h22);rw[if_pos h22]at hpq;simp only[B3.mk.injEq]at hpq;obtain⟨p1,p2,p3⟩:=hpq;have hnn:0≤sn∧sn≤4096:=by omega
      have m4:=mulN hnn (z:=1+a1) (by omega);have m5:=mulN hnn (z:=a2) (by omega);have m6:=mulN hnn (z:=sc+a3) (by omega);have hw2:IntKind.i64.wrap (1+a1)=1+a1:=Xc (by omega) (by omega);have hw3:IntKind.i64.wrap (sn*(1+a1))=sn*(1+a1):=Xc (by omega) (by omega);have hw4:IntKind.i64.wrap (1+sn*(1+a1))=q1:=by rw[←p1];exact Xc (by omega) (by omega)
      have hw5:IntKind.i64.wrap (sn*a2)=q2:=by rw[←p2];exact Xc (by omega) (by omega)
      have hw6:IntKind.i64.wrap (sc+a3)=sc+a3:=Xc (by omega) (by omega);have hw7:IntKind.i64.wrap (sn*(sc+a3))=q3:=by rw[←p3];exact Xc (by omega) (by omega)
      have hq:q1≤4503874505281537∧q2≤4503874505281537∧q3≤4503874505281537:=by omega
      clear p1 p2 p3 m4 m5 m6;refine X0<|(Xq (by simp[*,QY,CP];rfl) ?_);refine X0<|(Xq (by simp[*,QY,CP];rfl) ?_);refine(Xq (by simp[*,QY,CP];rfl) ?_);exact⟨(),hq,X5 (fun n=>n) []⟩
    (try simp only[BN]at h22);rw[if_neg h22,if_neg h16,if_neg h12]at hpq;simp only[B3.mk.injEq]at hpq;obtain⟨p1,p2,p3⟩:=hpq;subst p1 p2 p3;exact⟨(),⟨by omega,by omega,by omega⟩,X5 (fun n=>n) []⟩
   rintro _ ⟨hq1,hq2,hq3⟩;simp only[upS,X6,XL]
   try simp only[X6,KN,Nat.reduceBEq,if_true,if_false,ins,Nat.reduceLT]
   clear hpq ca cb hxa hxb;have hw2:IntKind.i64.wrap (m1+q1)=m1+q1:=Xc (by omega) (by omega);have hw3:IntKind.i64.wrap (m2+q2)=m2+q2:=Xc (by omega) (by omega);have hw4:IntKind.i64.wrap (m3+q3)=m3+q3:=Xc (by omega) (by omega);have hmn1:(if 1099511627776<m1+q1 then 1099511627776 else m1+q1)=mn (m1+q1) 1099511627776:=rfl;have hmn2:(if 1099511627776<m2+q2 then 1099511627776 else m2+q2)=mn (m2+q2) 1099511627776:=rfl;have hmn3:(if 1099511627776<m3+q3 then 1099511627776 else m3+q3)=mn (m3+q3) 1099511627776:=rfl;have hin2:in3 CP (QY CP ⟨m1,m2,m3⟩ ⟨q1,q2,q3⟩):=X4e nnCP ⟨hin.1,hin.2.2.1,hin.2.2.2.2.1⟩ ⟨hsin.1,hsin.2.1,hsin.2.2⟩;refine X0<|(Xq (by simp[*,QY,CP];rfl) ?_);refine X0<|(Xq (by simp[*,QY,CP];rfl) ?_);refine(Xq (by simp[*,QY,CP];rfl) ?_);refine(Xq (by simp[*,QY,CP];rfl) ?_);exact⟨(k+1,QY CP ⟨m1,m2,m3⟩ ⟨q1,q2,q3⟩),⟨hk1,hJ,hin2⟩,by simp only;omega,Xy (fun n=>n) [] rfl (by simp[upS,X6, *,QY,CP]) (by simp[*,upS,QY,CP]) (by simp[upS])⟩
 (try simp only[BN]at h5);have hkl:k=l.length:=by omega
 rw[hkl,List.drop_length]at hJ;simp only[bdL]at hJ;subst hJ;refine(Xi ?_);refine X0<|(Xq (by simp[*,QY,CP];rfl) ?_);exact(XE (fun h=>⟨.inr rfl,h⟩) _ (by simp[*,QY,CP];rfl) (by first|rfl|(simp[*];done)|(simp only[XY];(repeat' split)<;>first|rfl|(exfalso;omega)|simp_all)) (by simp))
end Go.Proofs.YtdajceakaakdoaaGreat
