/- HmZ: part of an evaluator of Go code over abstract states, proved sound over the model; used by the proof of the claimed statement. Conditions: none. -/
import Derived.Test.YtdajceakaakdoaaGreatHmY
import Derived.IntWalk
set_option linter.unusedSimpArgs false
set_option linter.unusedVariables false
namespace Go.Hl
open Go Go.RowKit
abbrev iC (n:Int):CD:=.lit (.int .i64 n)
abbrev bC (b:Bool):CD:=.lit (.bool b)
abbrev sC (s:ByteArray):CD:=.lit (.string s)
abbrev li (n:Int):TV:=.one (.c (iC n))
abbrev lb (b:Bool):TV:=.one (.c (bC b))
abbrev sv (s:ByteArray):TV:=.one (.c (sC s))
def X6 (ks:List Nat):List (Nat×RV)→List (Nat×RV)
 |[]=>[]
 |(k,r)::l=>if ks.contains k=true then(k,r)::X6 ks l else X6 ks l
def XB (us:List (Nat×RV)) (l:List (Nat×RV)):List (Nat×RV):=
 match us with
 |[]=>l
 |(k,r)::us=>ins k r (XB us l)
def upS (s:HS) (ks:List Nat) (us:List (Nat×RV)) (objs:List (Nat×Ob)):HS:=⟨s.nt,XB us (X6 ks s.regs),objs⟩
theorem Xf {P:Program} {σ:Type} {c:Code} {s:HS} {Q:Exit→HS→Prop} (ks:List Nat) (U:σ→List (Nat×RV)) (O:σ→List (Nat×Ob)) (J:σ→Prop) (μ:σ→Nat) (x0:σ) (j0:J x0) (h0:le s (upS s ks (U x0) (O x0)))
  (round:∀x,J x→HT P c (upS s ks (U x) (O x)) (X8L (fun s'=>∃x',J x'∧μ x'<μ x∧le s' (upS s ks (U x') (O x'))) Q)):HT P (.loop c) s Q:=
 HT_loop (fun x=>upS s ks (U x) (O x)) J μ x0 j0 h0 round
theorem XV {P:Program} {σ:Type} {x y:Code} {s:HS} {Q:Exit→HS→Prop} (ks:List Nat) (U:σ→List (Nat×RV)) (O:σ→List (Nat×Ob)) (J:σ→Prop) (h:HT P x s (X8L (fun s'=>∃z,J z∧le s' (upS s ks (U z) (O z))) Q))
  (h2:∀z,J z→HT P y (upS s ks (U z) (O z)) Q):HT P (.seq x y) s Q:=
 HT_cut (fun z=>upS s ks (U z) (O z)) J h h2
def evcH (P:Program) (ops:Array Oper) (hs:List (Nat×Nat)):List Oper→HS→List CR→Option (HS×Prop)
 |[],s,_=>some (s,True)
 | o ::l,s,cs=>if hokB hs o s=true then match Q7 o.op,cs with
   | .call,c::cs=>match evc P ops [o] s [c] with
     | some (s',p)=>match evcH P ops hs l s' cs with
       |some (s'',q)=>some (s'',p∧q)
       |none=>none
     |none=>none
   | _,cs=>match evc P ops [o] s [] with
     | some (s',p)=>match evcH P ops hs l s' cs with
       |some (s'',q)=>some (s'',p∧q)
       |none=>none
     |none=>none
   else none
theorem X1d {P:Program} {ops:Array Oper} {hs:List (Nat×Nat)} {K:HS→Prop}:∀(l:List Oper) (s s':HS) (cs:List CR) (p:Prop),l.Pairwise (fun a b=>QM a b=false)→(∀o∈l,QX s o)→evcH P ops hs l s cs=some (s',p)→p→K s'→X1i P ops hs l s K
 |[],s,s',_,p,_,_,h,_,hk=>by cases h;exact hk
 | o ::l,s,s',cs,p,hp,hn,h,hpp,hk=>by
   have step:∀(cs1 cs2:List CR),hokB hs o s=true→(match evc P ops [o] s cs1 with
     | some (s1,p)=>match evcH P ops hs l s1 cs2 with
       |some (s'',q)=>some (s'',p∧q)
       |none=>none
     |none=>none)=some (s',p)→X1i P ops hs (o::l) s K:=by
    intro cs1 cs2 hb h;split at h
    · rename_i s1 p1 he;split at h
      · rename_i s2 q he2;cases h;have hw:wpR P ops [o] s (fun t=>t=s1):=QK _ _ _ _ _ he hpp.1 rfl;obtain⟨s3,h1,h2⟩:=X2N (hn o (by simp)) hw;have e:s3=s1:=h2;subst e;have hp':=List.pairwise_cons.1 hp;exact⟨s3,h1,X6I hb,X1d l s3 s' cs2 q hp'.2 (fun p hpl=>Wd h1 (hp'.1 p hpl) (hn p (by simp[hpl]))) he2 hpp.2 hk⟩
      cases h
    cases h
   unfold evcH at h;split at h
   · rename_i hb;split at h
     · exact step _ _ hb h
     exact step _ _ hb h
   cases h
theorem Xb7 {P:Program} {ops:Array Oper} {id:Nat} (hs:List (Nat×Nat)) (cs:List CR) {s s':HS} {p:Prop} {Q:Exit→HS→Prop} (hm:P.follows .mixedOrders=true) (hd:X2p hs ops=true) (hc:X0k ops.toList s=true) (h:evcH P ops hs ops.toList s cs=some (s',p)) (hp:p) (hq:Q .normal s'):HT P (.region id ops true) s Q:=
 X56 hm hd hc fun hpw hok=>X1d _ _ _ _ _ hpw hok h hp hq
theorem Xh {P:Program} {rs:List ResultVar} {s:HS} {fresh:Bool} {r:RV} {d:Nat} {Q:Exit→HS→Prop} (hQ:(∃s2,le s s2∧RetOK P rs s2 fresh r none d)→Q .ret s) (ts:List TV) (hr:X3j P s rs=some ts) (he:r=XK ts) (hl:fresh=true→r.litB=true):HT P .ret s Q:=
 Qm (hQ ⟨s,le_refl s,⟨ts,hr,he⟩,by simp,fun h=>⟨hl h,by simp⟩⟩)
theorem BN:(∀a b:Bool,((a||b)=true)=(a=true∨b=true))∧(∀a b:Bool,((a&&b)=true)=(a=true∧b=true))∧(∀a b:Bool,((a||b)=false)=(a=false∧b=false))∧
  (∀a b:Bool,((a&&b)=false)=(a=false∨b=false))∧(∀a:Bool,((!a)=true)=(a=false))∧(∀a:Bool,((!a)=false)=(a=true))∧(∀(p:Prop) [Decidable p],(decide p=true)=p)∧(∀(p:Prop) [Decidable p],(decide p=false)=¬p):=by
 refine⟨?_,?_,?_,?_,?_,?_,?_,?_⟩<;>intros<;>first|(simp;done)|(rename_i a b;cases a<;>cases b<;>simp)
theorem KN:(∀(a b:Nat) (l:List Nat),(a::l).contains b=(b==a||l.contains b))∧(∀b:Nat,([]:List Nat).contains b=false)∧(∀a:Bool,(a||false)=a)∧(∀a:Bool,(a||true)=true)∧(∀a:Bool,(true||a)=true)∧(∀a:Bool,(false||a)=a)∧
  (∀a:Nat,(a==a)=true)∧(∀a b:List (Nat×RV),(if True then a else b)=a)∧(∀a b:List (Nat×RV),(if False then a else b)=b)∧((true=true)=True)∧((false=true)=False):=by
 refine⟨fun a b l=>List.contains_cons,?_,?_,?_,?_,?_,?_,?_,?_,?_,?_⟩<;>intros<;>simp
theorem HT_retA {P:Program} {rs:List ResultVar} {s:HS} {fresh:Bool} {r:RV} {d:Nat} {Q:Exit→HS→Prop} (hQ:(∃s2,le s s2∧RetOK P rs s2 fresh r none d)→Q .ret s) {ts:List TV} (hr:X3j P s rs=some ts:=by simp[*];rfl)
  (he:r=XK ts:=by first|rfl|(simp[*];done)|(simp only[XK];(repeat' split)<;>first|rfl|(exfalso;omega)|simp_all)) (hl:fresh=true→r.litB=true:=by simp):HT P .ret s Q:=
 Qm (hQ ⟨s,le_refl s,⟨ts,hr,he⟩,by simp,fun h=>⟨hl h,by simp⟩⟩)
theorem X2 {P:Program} {id:Nat} {ops:Array Oper} {s s':HS} {Q:Exit→HS→Prop} (hq:Q .normal s') (h:evs P ops ops.toList s=some s':=by simp[*];rfl):HT P (.region id ops false) s Q:=Xq h hq
attribute [simp] inR evs evc evcS X61 brw brwL X1B X1s Zj X3Z X1t X4G Wn RV.ownB CV.ownB RV.onlyB TV.onlyB CV.onlyB HS.made Xbn XbZ Xa5 impB_one impB_and XbA impB_imp pickB_or Xbl X5J X4B Za Q7 X3R stpG ZH gdR XbM XbS litG_lit litG_gd litG_any litG_sl litG_ptr litG_own litG_at litG_agg evOp evN evA evR evW X6a evUn evStr evNil evAgg X6A eqFs lkpN dataX Xa8 X4A noMen XQ X1I X03 X0r X07 Zg X6b X2F cellsOf opd lkp ins del HS.put XJ QY QG RV.menB TV.menB CV.menB Ob.menB CV.cell CD.cell Value.oneCell' X7W X9Y X8L X3H X2Q Z2 X7s X8w WY Wc Hl.lit WN W8 WJ Wh setRow Zb RV.okNil TV.okNil CV.okNil Ob.okNil RV.ren TV.ren CV.ren Ob.ren X0C XW CV.frz TV.frz RV.frz Ob.frz HS.frz Ws X0H X72 nilSl X5L QL resT X3j XK RV.litB TV.litB CV.litB gOf X1M QP upS X6 XB
theorem Xp {P:Program} {id:Nat} {ops:Array Oper} {s s':HS} {p:Prop} {Q:Exit→HS→Prop} (cs:List CR) (hp:p) (hq:Q .normal s') (h:evc P ops ops.toList s cs=some (s',p):=by simp[*];first|exact⟨rfl,Iff.rfl⟩|exact⟨rfl,trivial⟩|rfl):HT P (.region id ops false) s Q:=W7 cs h hp hq
theorem X4 {s s':HS} (ρ:Nat→Nat) (nils:List Nat) (hn:s'.nt=s.nt:=by rfl)
  (hr:Zb (fun k r=>r.okNil nils=true∧opd s.regs (.tmp k)=r.ren (X0C ρ) nils) s'.regs:=by simp[upS,X6, *])
  (ho:Zb (fun n o=>if nils.contains n then(match o with| .row _ sz []=>0<sz|_=>False)else o.okNil nils=true∧lkp s.objs (X0C ρ n)=some (o.ren (X0C ρ) nils)) s'.objs:=by simp[*,upS])
  (hi:Zb (fun n _=>Zb (fun m _=>n=m∨X0C ρ n≠X0C ρ m∨nils.contains n=true∨nils.contains m=true) s'.objs) s'.objs:=by simp[upS])
  (hp:nils.all (fun n=>decide (n<1000000))=true:=by rfl):le s s':=Xx ρ nils hn hr ho hi hp
theorem X1 {P:Program} {id:Nat} {ops:Array Oper} {y:Code} {s s':HS} {Q:Exit→HS→Prop} (hq:X7W P y Q .normal s') (h:evs P ops ops.toList s=some s':=by simp[*];rfl):HT P (.seq (.region id ops false) y) s Q:=X0 (Xq h hq)
theorem Xm {P:Program} {id:Nat} {ops:Array Oper} {y:Code} {s s':HS} {p:Prop} {Q:Exit→HS→Prop} (cs:List CR) (hp:p) (hq:X7W P y Q .normal s') (h:evc P ops ops.toList s cs=some (s',p):=by simp[*];first|exact⟨rfl,Iff.rfl⟩|exact⟨rfl,trivial⟩|rfl):HT P (.seq (.region id ops false) y) s Q:=X0 (W7 cs h hp hq)
theorem Xe {P:Program} {rs:List ResultVar} {s:HS} {fresh:Bool} {r:RV} {d:Nat} {Q:Exit→HS→Prop} {ts:List TV} (hQ:(∃s2,le s s2∧RetOK P rs s2 fresh r none d)→Q .ret s:=by exact fun h=>⟨.inr rfl,h⟩) (hr:X3j P s rs=some ts:=by simp[*];rfl)
  (he:r=XK ts:=by first|rfl|(simp[*];done)|(simp only[XK];(repeat' split)<;>first|rfl|(exfalso;omega)|simp_all)) (hl:fresh=true→r.litB=true:=by simp):HT P .ret s Q:=HT_retA hQ hr he hl
theorem Xc {P:Program} {c:Operand} {x:Code} {s:HS} {Q:Exit→HS→Prop} {t:Bool} (hc:opd s.regs c=.v (.one (.c (.lit (.bool t))))) (ht:t=true→HT P x s Q) (hf:t=false→Q .normal s):HT P (.cond c x .skip) s Q:=X7 hc ht fun h=>Xb (hf h)
theorem X5 {P:Program} {f:FuncId} {fn:Func} {c:Code} {args:List TV} {fresh:Bool} {r:RV} {ob:Option Ob} {d:Nat} (hf:P.funcs[f]? =some fn)
  (h:HT P c ⟨fn.ntmps,QL 0 args,[]⟩ (fun e s'=>(e=.normal∨e=.ret)∧∃s2,le s' s2∧RetOK P fn.results.toList s2 fresh r ob d)) (hb:fn.body=some c:=by exact rfl) (hcall:XU P f=true:=by kernel_rfl) (hnt:args.length≤fn.ntmps:=by exact Nat.le_of_ble_eq_true rfl):Con P f fresh args r ob d:=Xch hf hb hcall hnt h
end Go.Hl
