/- HmZ: part of an evaluator of Go code over abstract states, proved sound over the model; used by the proof of the claimed statement. Conditions: none. -/
import Derived.Test.YtdajceakaakdoaaGreatHmY
import Derived.IntWalk
set_option linter.unusedSimpArgs false
set_option linter.unusedVariables false
namespace Go.Hl
open Go Go.RowKit
abbrev iC (n:Int):CD:=.lit (.int .i64 n)
abbrev bC (b:Bool):CD:=.lit (.bool b)
abbrev sC (s:ByteArray):CD:=.lit (.string s)
abbrev li (n:Int):TV:=.one (.c (iC n))
abbrev lb (b:Bool):TV:=.one (.c (bC b))
abbrev sv (s:ByteArray):TV:=.one (.c (sC s))
def X6 (ks:List Nat):List (Nat×RV)→List (Nat×RV)
 |[]=>[]
 |(k,r)::l=>if ks.contains k=true then(k,r)::X6 ks l else X6 ks l
def XL (us:List (Nat×RV)) (l:List (Nat×RV)):List (Nat×RV):=
 match us with
 |[]=>l
 |(k,r)::us=>ins k r (XL us l)
def upS (s:HS) (ks:List Nat) (us:List (Nat×RV)) (objs:List (Nat×Ob)):HS:=⟨s.nt,XL us (X6 ks s.regs),objs⟩
theorem Xe {P:Program} {σ:Type} {c:Code} {s:HS} {Q:Exit→HS→Prop} (ks:List Nat) (U:σ→List (Nat×RV)) (O:σ→List (Nat×Ob)) (J:σ→Prop) (μ:σ→Nat) (x0:σ) (j0:J x0) (h0:le s (upS s ks (U x0) (O x0)))
  (round:∀x,J x→HT P c (upS s ks (U x) (O x)) (X85 (fun s'=>∃x',J x'∧μ x'<μ x∧le s' (upS s ks (U x') (O x'))) Q)):HT P (.loop c) s Q:=
 HT_loop (fun x=>upS s ks (U x) (O x)) J μ x0 j0 h0 round
theorem Qe {P:Program} {σ:Type} {x y:Code} {s:HS} {Q:Exit→HS→Prop} (ks:List Nat) (U:σ→List (Nat×RV)) (O:σ→List (Nat×Ob)) (J:σ→Prop) (h:HT P x s (X85 (fun s'=>∃z,J z∧le s' (upS s ks (U z) (O z))) Q))
  (h2:∀z,J z→HT P y (upS s ks (U z) (O z)) Q):HT P (.seq x y) s Q:=
 HT_cut (fun z=>upS s ks (U z) (O z)) J h h2
def evcH (P:Program) (ops:Array Oper) (hs:List (Nat×Nat)):List Oper→HS→List CR→Option (HS×Prop)
 |[],s,_=>some (s,True)
 | o ::l,s,cs=>if hokB hs o s=true then match Q2 o.op,cs with
   | .call,c::cs=>match evc P ops [o] s [c] with
     | some (s',p)=>match evcH P ops hs l s' cs with
       |some (s'',q)=>some (s'',p∧q)
       |none=>none
     |none=>none
   | _,cs=>match evc P ops [o] s [] with
     | some (s',p)=>match evcH P ops hs l s' cs with
       |some (s'',q)=>some (s'',p∧q)
       |none=>none
     |none=>none
   else none
theorem X0J {P:Program} {ops:Array Oper} {hs:List (Nat×Nat)} {K:HS→Prop}:∀(l:List Oper) (s s':HS) (cs:List CR) (p:Prop),l.Pairwise (fun a b=>QD a b=false)→(∀o∈l,QJ s o)→evcH P ops hs l s cs=some (s',p)→p→K s'→X0T P ops hs l s K
 |[],s,s',_,p,_,_,h,_,hk=>by cases h;exact hk
 | o ::l,s,s',cs,p,hp,hn,h,hpp,hk=>by
   have step:∀(cs1 cs2:List CR),hokB hs o s=true→(match evc P ops [o] s cs1 with
     | some (s1,p)=>match evcH P ops hs l s1 cs2 with
       |some (s'',q)=>some (s'',p∧q)
       |none=>none
     |none=>none)=some (s',p)→X0T P ops hs (o::l) s K:=by
    intro cs1 cs2 hb h;split at h
    · rename_i s1 p1 he;split at h
      · rename_i s2 q he2;cases h;have hw:wpR P ops [o] s (fun t=>t=s1):=Qz _ _ _ _ _ he hpp.1 rfl;obtain⟨s3,h1,h2⟩:=X2c (hn o (by simp)) hw;have e:s3=s1:=h2;subst e;have hp':=List.pairwise_cons.1 hp;exact⟨s3,h1,X5G hb,X0J l s3 s' cs2 q hp'.2 (fun p hpl=>QZ h1 (hp'.1 p hpl) (hn p (by simp[hpl]))) he2 hpp.2 hk⟩
      cases h
    cases h
   unfold evcH at h;split at h
   · rename_i hb;split at h
     · exact step _ _ hb h
     exact step _ _ hb h
   cases h
theorem Xaq {P:Program} {ops:Array Oper} {id:Nat} (hs:List (Nat×Nat)) (cs:List CR) {s s':HS} {p:Prop} {Q:Exit→HS→Prop} (hm:P.follows .mixedOrders=true) (hd:X1L hs ops=true) (hc:X07 ops.toList s=true) (h:evcH P ops hs ops.toList s cs=some (s',p)) (hp:p) (hq:Q .normal s'):HT P (.region id ops true) s Q:=
 X5k hm hd hc fun hpw hok=>X0J _ _ _ _ _ hpw hok h hp hq
theorem XE {P:Program} {rs:List ResultVar} {s:HS} {fresh:Bool} {r:RV} {d:Nat} {Q:Exit→HS→Prop} (hQ:(∃s2,le s s2∧RetOK P rs s2 fresh r none d)→Q .ret s) (ts:List TV) (hr:X2Y P s rs=some ts) (he:r=XY ts) (hl:fresh=true→r.litB=true):HT P .ret s Q:=
 Qf (hQ ⟨s,le_refl s,⟨ts,hr,he⟩,by simp,fun h=>⟨hl h,by simp⟩⟩)
theorem BN:(∀a b:Bool,((a||b)=true)=(a=true∨b=true))∧(∀a b:Bool,((a&&b)=true)=(a=true∧b=true))∧(∀a b:Bool,((a||b)=false)=(a=false∧b=false))∧
  (∀a b:Bool,((a&&b)=false)=(a=false∨b=false))∧(∀a:Bool,((!a)=true)=(a=false))∧(∀a:Bool,((!a)=false)=(a=true))∧(∀(p:Prop) [Decidable p],(decide p=true)=p)∧(∀(p:Prop) [Decidable p],(decide p=false)=¬p):=by
 refine⟨?_,?_,?_,?_,?_,?_,?_,?_⟩<;>intros<;>first|(simp;done)|(rename_i a b;cases a<;>cases b<;>simp)
theorem KN:(∀(a b:Nat) (l:List Nat),(a::l).contains b=(b==a||l.contains b))∧(∀b:Nat,([]:List Nat).contains b=false)∧(∀a:Bool,(a||false)=a)∧(∀a:Bool,(a||true)=true)∧(∀a:Bool,(true||a)=true)∧(∀a:Bool,(false||a)=a)∧
  (∀a:Nat,(a==a)=true)∧(∀a b:List (Nat×RV),(if True then a else b)=a)∧(∀a b:List (Nat×RV),(if False then a else b)=b)∧((true=true)=True)∧((false=true)=False):=by
 refine⟨fun a b l=>List.contains_cons,?_,?_,?_,?_,?_,?_,?_,?_,?_,?_⟩<;>intros<;>simp
theorem HT_retA {P:Program} {rs:List ResultVar} {s:HS} {fresh:Bool} {r:RV} {d:Nat} {Q:Exit→HS→Prop} (hQ:(∃s2,le s s2∧RetOK P rs s2 fresh r none d)→Q .ret s) {ts:List TV} (hr:X2Y P s rs=some ts:=by simp[*];rfl)
  (he:r=XY ts:=by first|rfl|(simp[*];done)|(simp only[XY];(repeat' split)<;>first|rfl|(exfalso;omega)|simp_all)) (hl:fresh=true→r.litB=true:=by simp):HT P .ret s Q:=
 Qf (hQ ⟨s,le_refl s,⟨ts,hr,he⟩,by simp,fun h=>⟨hl h,by simp⟩⟩)
theorem X1 {P:Program} {id:Nat} {ops:Array Oper} {s s':HS} {Q:Exit→HS→Prop} (hq:Q .normal s') (h:evs P ops ops.toList s=some s':=by simp[*];rfl):HT P (.region id ops false) s Q:=Xq h hq
attribute [simp] inR evs evc evcS X5d brw brwL X1q X1k Z5 X3y X0W X46 W7 RV.ownB CV.ownB RV.onlyB TV.onlyB CV.onlyB HS.made Xas Xay X95 impB_one impB_and Xbc impB_imp pickB_or Xb6 X52 X3L WX Q2 X36 stpG Zu gdR XaV Xba litG_lit litG_gd litG_any litG_sl litG_ptr litG_own litG_at litG_agg evOp evN evA evR evW X61 evUn evStr evNil evAgg X65 eqFs lkpN dataX X8H X42 noMen XP X18 ZJ X0a ZV WY X67 X1R cellsOf opd lkp ins del HS.put XG QL Qx RV.menB TV.menB CV.menB Ob.menB CV.cell CD.cell Value.oneCell' X7j X9a X85 X2j X2w WM X6v X79 WL W2 Hl.lit Wv QK Ww W3 setRow WW RV.okNil TV.okNil CV.okNil Ob.okNil RV.ren TV.ren CV.ren Ob.ren X0h XO CV.frz TV.frz RV.frz Ob.frz HS.frz Wg X0i X6e nilSl X4u QC resT X2Y XY RV.litB TV.litB CV.litB gOf X1h QG upS X6 XL
theorem Xm {P:Program} {id:Nat} {ops:Array Oper} {s s':HS} {p:Prop} {Q:Exit→HS→Prop} (cs:List CR) (hp:p) (hq:Q .normal s') (h:evc P ops ops.toList s cs=some (s',p):=by simp[*];first|exact⟨rfl,Iff.rfl⟩|exact⟨rfl,trivial⟩|rfl):HT P (.region id ops false) s Q:=Z4 cs h hp hq
theorem X5 {s s':HS} (ρ:Nat→Nat) (nils:List Nat) (hn:s'.nt=s.nt:=by rfl)
  (hr:WW (fun k r=>r.okNil nils=true∧opd s.regs (.tmp k)=r.ren (X0h ρ) nils) s'.regs:=by simp[upS,X6, *])
  (ho:WW (fun n o=>if nils.contains n then(match o with| .row _ sz []=>0<sz|_=>False)else o.okNil nils=true∧lkp s.objs (X0h ρ n)=some (o.ren (X0h ρ) nils)) s'.objs:=by simp[*,upS])
  (hi:WW (fun n _=>WW (fun m _=>n=m∨X0h ρ n≠X0h ρ m∨nils.contains n=true∨nils.contains m=true) s'.objs) s'.objs:=by simp[upS])
  (hp:nils.all (fun n=>decide (n<1000000))=true:=by rfl):le s s':=Xy ρ nils hn hr ho hi hp
theorem X2 {P:Program} {id:Nat} {ops:Array Oper} {y:Code} {s s':HS} {Q:Exit→HS→Prop} (hq:X7j P y Q .normal s') (h:evs P ops ops.toList s=some s':=by simp[*];rfl):HT P (.seq (.region id ops false) y) s Q:=X0 (Xq h hq)
theorem Xp {P:Program} {id:Nat} {ops:Array Oper} {y:Code} {s s':HS} {p:Prop} {Q:Exit→HS→Prop} (cs:List CR) (hp:p) (hq:X7j P y Q .normal s') (h:evc P ops ops.toList s cs=some (s',p):=by simp[*];first|exact⟨rfl,Iff.rfl⟩|exact⟨rfl,trivial⟩|rfl):HT P (.seq (.region id ops false) y) s Q:=X0 (Z4 cs h hp hq)
theorem Xf {P:Program} {rs:List ResultVar} {s:HS} {fresh:Bool} {r:RV} {d:Nat} {Q:Exit→HS→Prop} {ts:List TV} (hQ:(∃s2,le s s2∧RetOK P rs s2 fresh r none d)→Q .ret s:=by exact fun h=>⟨.inr rfl,h⟩) (hr:X2Y P s rs=some ts:=by simp[*];rfl)
  (he:r=XY ts:=by first|rfl|(simp[*];done)|(simp only[XY];(repeat' split)<;>first|rfl|(exfalso;omega)|simp_all)) (hl:fresh=true→r.litB=true:=by simp):HT P .ret s Q:=HT_retA hQ hr he hl
theorem Xb {P:Program} {c:Operand} {x:Code} {s:HS} {Q:Exit→HS→Prop} {t:Bool} (hc:opd s.regs c=.v (.one (.c (.lit (.bool t))))) (ht:t=true→HT P x s Q) (hf:t=false→Q .normal s):HT P (.cond c x .skip) s Q:=X9 hc ht fun h=>Xd (hf h)
theorem X4 {P:Program} {f:FuncId} {fn:Func} {c:Code} {args:List TV} {fresh:Bool} {r:RV} {ob:Option Ob} {d:Nat} (hf:P.funcs[f]? =some fn)
  (h:HT P c ⟨fn.ntmps,QC 0 args,[]⟩ (fun e s'=>(e=.normal∨e=.ret)∧∃s2,le s' s2∧RetOK P fn.results.toList s2 fresh r ob d)) (hb:fn.body=some c:=by exact rfl) (hcall:XT P f=true:=by kernel_rfl) (hnt:args.length≤fn.ntmps:=by exact Nat.le_of_ble_eq_true rfl):Con P f fresh args r ob d:=Xak hf hb hcall hnt h
end Go.Hl
