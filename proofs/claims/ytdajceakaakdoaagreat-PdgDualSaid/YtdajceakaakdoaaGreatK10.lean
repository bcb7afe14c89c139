/- Part 10: contracts of functions of the program and of the reference, and plain facts about what they compute; used by the proof of the claimed statement. Conditions: as each theorem states. -/
import Derived.Test.YtdajceakaakdoaaGreatK9
import Derived.Test.YtdajceakaakdoaaGreatRows
set_option linter.unusedSimpArgs false
set_option linter.unusedVariables false
set_option linter.unnecessarySimpa false
set_option maxRecDepth 100000
set_option maxHeartbeats 2000000
namespace Go.Proofs.YtdajceakaakdoaaGreat
open Go Go.Hl Go.RowKit Go.ChangeShapes Go.Proofs.YtdajceakaakdoaaGreat
theorem tiled:X7E Tryz.prog:=tiled_mk (by kernel_rfl)
theorem own:ownKnob Tryz.prog.godebug=none:=by kernel_rfl
theorem X73:laidOutB Tryz.prog=true:=by kernel_rfl
section
variable {P:Program} {k:Nat} {t:TypeId} {ds:List CD}
theorem X69 {α:Type} {enc:α→List CD} {e:TypeId} {c:Nat} (hu:P.underlying t=some (.slice e)) (hc:P.cellsOf e=c) (he:∀k',k'<k→∀r,QI P k' e r→∃x,r=enc x) (h:QI P k t ds):∃xs:List α,ds=[.sl c (xs.map enc)]:=by
 cases k with
 |zero=>exact h.elim
 | succ k=>
   unfold QI at h;rw[hu]at h;obtain⟨rows,h1,_,h3⟩:=h;obtain⟨xs,hxs⟩:=X8c (enc:=enc) fun r hr=>he k (Nat.lt_succ_self k) r (h3 r hr).2;subst hxs;exact⟨xs,by rw[h1,hc]⟩
theorem X1O {fs:Array Field} {l:List (Nat×Nat×TypeId)} {c:Nat} (hu:P.underlying t=some (.struct fs)) (hl:X7b P fs=l) (hc:P.cellsOf t=c) (h:QI P k t ds):ds.length=c∧∃k',k'<k∧∀x∈l,QI P k' x.2.2 ((ds.drop x.1).take x.2.1):=by
 cases k with
 |zero=>exact h.elim
 | succ k=>
   unfold QI at h;rw[hu]at h;have h':ds.length=P.cellsOf t∧∀x∈X7b P fs,QI P k x.2.2 ((ds.drop x.1).take x.2.1):=h;exact⟨hc▸h'.1,k,Nat.lt_succ_self k,fun x hx=>h'.2 x (hl▸hx)⟩
end
theorem X3V {k:Nat} {t:TypeId} {ds:List CD} (hu:Tryz.prog.underlying t=some (.int .i64)) (h:QI Tryz.prog k t ds):∃n:Int,ds=[iC n]:=by
 obtain⟨n,h1,_⟩:=Xbf hu h;exact⟨n,h1⟩
theorem dec_I {k:Nat} {ds:List CD} (h:QI Tryz.prog k 29 ds):∃l:List Int,ds=[.sl 1 (Xg l)]:=
 X69 (enc:=fun x=>[iC x]) Tryz.underlying29 (by kernel_rfl:Tryz.prog.cellsOf 3=1) (fun _ _ _ hr=>X3V Tryz.underlying3 hr) h
end Go.Proofs.YtdajceakaakdoaaGreat

namespace Go.Proofs.YtdajceakaakdoaaGreat
open Go Go.Hl Go.RowKit Go.ChangeShapes Go.Proofs.YtdajceakaakdoaaGreat
theorem dec_Dp {k:Nat} {ds:List CD} (h:QI Tryz.prog k 51 ds):∃x:Dp,ds=x.enc:=by
 obtain⟨hl,k1,_,hx⟩:=X1O (l:=[(0,1,3),(1,1,3),(2,1,49)]) Tryz.underlying51 (by kernel_rfl) (by kernel_rfl:Tryz.prog.cellsOf 51=3) h
 match ds,hl with
 | [a0,a1,a2],_=>
   obtain⟨n0,h0⟩:=X3V Tryz.underlying3 (hx (0,1,3) (by simp));obtain⟨n1,h1⟩:=X3V Tryz.underlying3 (hx (1,1,3) (by simp));obtain⟨n2,h2⟩:=X3V Tryz.underlying49 (hx (2,1,49) (by simp));simp only[List.drop,List.take,List.cons.injEq,and_true]at h0 h1 h2;subst h0 h1 h2;exact⟨⟨n0,n1,n2⟩,rfl⟩
theorem X9f {k:Nat} {ds:List CD} (h:QI Tryz.prog k 39 ds):∃(ns nv:Int) (E:List Dp),ds=[iC ns,iC nv,.sl 3 (XV E)]:=by
 obtain⟨hl,k1,_,hx⟩:=X1O (l:=[(0,1,3),(1,1,3),(2,1,37)]) Tryz.underlying39 (by kernel_rfl) (by kernel_rfl:Tryz.prog.cellsOf 39=3) h
 match ds,hl with
 | [a0,a1,a2],_=>
   obtain⟨n0,h0⟩:=X3V Tryz.underlying3 (hx (0,1,3) (by simp));obtain⟨n1,h1⟩:=X3V Tryz.underlying3 (hx (1,1,3) (by simp));obtain⟨l2,h2⟩:=X69 (enc:=Dp.enc) Tryz.underlying37 (by kernel_rfl:Tryz.prog.cellsOf 51=3) (fun _ _ _ hr=>dec_Dp hr) (hx (2,1,37) (by simp));simp only[List.drop,List.take,List.cons.injEq,and_true]at h0 h1 h2;subst h0 h1 h2;exact⟨n0,n1,l2,rfl⟩
theorem aggPd:X47 Tryz.prog 39=true:=by unfold X47;rw[Tryz.underlying39]
end Go.Proofs.YtdajceakaakdoaaGreat
