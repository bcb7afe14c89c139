/- Part 9: contracts of functions of the program and of the reference, and plain facts about what they compute; used by the proof of the claimed statement. Conditions: as each theorem states. -/
import Derived.Test.YtdajceakaakdoaaGreatK7
import Derived.Test.YtdajceakaakdoaaGreatHmZR
import Derived.KernelRfl
import Derived.Deep.LoopGhost
import Derived.Deep.DeepCutAuto
import Derived.Deep.DeepFit
import Derived.Deep.RegionLaw
import Derived.Lib.Small
import Derived.Lib.Walk
import Derived.Sort.Grow
import Derived.Lib.SliceRun
import Derived.Lib.SmallJoins
import Derived.WalkKit
import Derived.OwnWalk
import Derived.Test.YtdajceakaakdoaaGreatHmZS
import Derived.Test.YtdajceakaakdoaaGreatK4
import Derived.Test.YtdajceakaakdoaaGreatK6
import Derived.Test.YtdajceakaakdoaaGreatK1
import Derived.Test.YtdajceakaakdoaaGreatK8
set_option linter.unusedSimpArgs false
set_option linter.unusedVariables false
set_option linter.unnecessarySimpa false
set_option maxRecDepth 100000
set_option maxHeartbeats 2000000
namespace Go.Proofs.YtdajceakaakdoaaGreat
open Go Go.Hl Go.Sort Go.Lib Go.Joins Go.Shelf
def cmpIR:Ren:=⟨fun f=>if f=5 then 110 else if f=7 then 176 else f,fun t=>if t=3 then 3 else if t=4 then 4 else if t=22 then 3 else t,fun g=>g⟩
def cmpKR:Ren:=⟨fun f=>if f=5 then 111 else if f=7 then 177 else f,fun t=>if t=3 then 3 else if t=4 then 4 else if t=22 then 49 else t,fun g=>g⟩
theorem cmpIL:SlLaysC2.n5 Tryz.prog cmpIR where
 mixed:=by kernel_rfl
 f5:=⟨Tryz.f110.name,by kernel_rfl,by kernel_rfl⟩
 f7:=⟨Tryz.f176.name,by kernel_rfl,by kernel_rfl⟩
 t3:=by kernel_rfl
 a3:=fun w=>rfl
 z3:=fun w=>rfl
 v3:=fun w=>rfl
 t4:=by kernel_rfl
 a4:=fun w=>rfl
 z4:=fun w=>rfl
 v4:=fun w=>rfl
 t22:=by kernel_rfl
 a22:=fun w=>rfl
 z22:=fun w=>rfl
 v22:=fun w=>rfl
theorem cmpKL:SlLaysC2.n5 Tryz.prog cmpKR where
 mixed:=by kernel_rfl
 f5:=⟨Tryz.f111.name,by kernel_rfl,by kernel_rfl⟩
 f7:=⟨Tryz.f177.name,by kernel_rfl,by kernel_rfl⟩
 t3:=by kernel_rfl
 a3:=fun w=>rfl
 z3:=fun w=>rfl
 v3:=fun w=>rfl
 t4:=by kernel_rfl
 a4:=fun w=>rfl
 z4:=fun w=>rfl
 v4:=fun w=>rfl
 t22:=by kernel_rfl
 a22:=fun w=>rfl
 z22:=fun w=>rfl
 v22:=fun w=>rfl
def orF (a b c:Int):Int:=if a≠0 then a else if b≠0 then b else c
theorem or_calls (b o:Nat) (a1 a2 a3:Int) (w:World) (h1:w.cell? ⟨b,o,none⟩=some (.int .i64 a1)) (h2:w.cell? ⟨b,o+1,none⟩=some (.int .i64 a2)) (h3:w.cell? ⟨b,o+2,none⟩=some (.int .i64 a3)):
  Calls Tryz.prog 109 #[.slice (some ⟨b,o,none⟩) 3 3] w fun e w'=>e=.returned (.int .i64 (orF a1 a2 a3))∧w'=w:=by
 go_enter Tryz.func109,Tryz.ntmps109
 go_wp2
 go_loopg [8] (3 - 0) (fun k s8 wx=>∃m:Nat,m≤3∧k=3 - m∧s8=.int .i64 m∧wx=w∧(1≤m→a1=0)∧(2≤m→a2=0)∧(3≤m→a3=0))
 case atStart=>exact⟨0,by omega,rfl,rfl,rfl,by omega,by omega,by omega⟩
 case round=>
  obtain⟨m,hm,hg,rfl,hw,z1,z2,z3⟩:=hrel;subst hw;have HG:Aside (gk=3 - m):=hg;clear hg;have fin:∀(m:Nat) (a:Int),m<3→wr.cell? ⟨b,o+m,none⟩=some (.int .i64 a)→True:=fun _ _ _ _=>trivial;clear fin
  match m,hm with
  | 0,_=>
    clear z1 z2 z3;by_cases ha:a1=0
    · go_wp2
      go_roundg (3 - 1)
      case measure=>have:=HG.out;omega
      case rel=>exact⟨1,by omega,rfl,rfl,rfl,fun _=>ha,by omega,by omega⟩
    go_wp2
    go_ret
    exact⟨by simp[orF,ha],rfl⟩
  | 1,_=>
    have ha1:=z1 (by omega);clear z1 z2 z3;by_cases ha:a2=0
    · go_wp2
      go_roundg (3 - 2)
      case measure=>have:=HG.out;omega
      case rel=>exact⟨2,by omega,rfl,rfl,rfl,fun _=>ha1,fun _=>ha,by omega⟩
    go_wp2
    go_ret
    exact⟨by simp[orF,ha,ha1],rfl⟩
  | 2,_=>
    have ha1:=z1 (by omega);have ha2:=z2 (by omega);clear z1 z2 z3;by_cases ha:a3=0
    · go_wp2
      go_roundg (3 - 3)
      case measure=>have:=HG.out;omega
      case rel=>exact⟨3,by omega,rfl,rfl,rfl,fun _=>ha1,fun _=>ha2,fun _=>ha⟩
    go_wp2
    go_ret
    exact⟨by simp[orF,ha,ha1,ha2],rfl⟩
  | 3,_=>
    have ha1:=z1 (by omega);have ha2:=z2 (by omega);have ha3:=z3 (by omega);clear z1 z2 z3
    go_wp2
    go_ret
    exact⟨by simp[orF,ha1,ha2,ha3],rfl⟩
def dpE (x:Dp):List Value:=[.int .i64 x.f,.int .i64 x.t,.int .i64 x.k]
def X4a (x y:Dp):Int:=orF (Lib.compareInt x.f y.f) (Lib.compareInt x.t y.t) (Lib.compareInt x.k y.k)
structure TRc (n:Nat) (base vals:List (Nat×Nat×Value)) (wd:List Nat→World) (R:List Nat) (a:Act) (w:World):Prop where
 sz:a.tmps.size=n
 df:a.defers=[]
 bs:∀m∈base,a.eval (.tmp m.2.1)=m.2.2
 vs:∀m∈vals,m.1∉R→a.eval (.tmp m.2.1)=m.2.2
 wd:w=wd R
theorem TRc.put {n:Nat} {base vals:List (Nat×Nat×Value)} {wd:List Nat→World} {R:List Nat} {a:Act} {w w':World} (h:TRc n base vals wd R a w) (i d:Nat) (v:Value) (hd:d<n) (hb:∀m∈base,m.2.1≠d) (hu:∀m∈vals,(m.1≠i→m.2.1≠d)∧(m.1=i→m.2.1=d∧m.2.2=v)) (hw:w'=wd (Qd R i)):TRc n base vals wd (Qd R i) (a.put (some d) v) w':=by
 have hs:d<a.tmps.size:=by rw[h.sz];exact hd
 refine⟨by simp[Act.put,h.sz],h.df,fun m hm=>?_,fun m hm hr=>?_,hw⟩
 · rw[ZM (by simp[neT,hb m hm])];exact h.bs m hm
 by_cases e:m.1=i
 · obtain⟨e1,e2⟩:=(hu m hm).2 e;rw[e1,e2,X0e hs]
 rw[ZM (by simp[neT,(hu m hm).1 e])];refine h.vs m hm fun hR=>hr ?_;rw[Q1];exact⟨hR,e⟩
theorem X1t {P:Program} {ops:Array Oper} {i:Nat} {o:Oper} {a:Act} {w:World} {Q:Exit→Act→World→Prop} {Kc:Act→World→Prop} {f:FuncId} {args:Array Value} {v:Value} (hi:ops[i]? =some o) (hg:o.guard=none) (hrun:(execOp a.eval o).run P w=.ok (.enter f args) w)
  (hc:Calls P f args w fun e w'=>e=.returned v∧w'=w) (hk:Kc (a.put o.dst v) w):wpOp P ops Q i Kc a w:=by
 unfold wpOp;rw[hi];simp only;have hwant:Region.wanted o (yielded ops a.tmps)=true:=by unfold Region.wanted;rw[hg]
 rw[hwant];simp only[if_true];refine .inl ?_;unfold Oper.wp;rw[hrun,Oper.upon_enter];refine hc.mono ?_;rintro e w' ⟨rfl,rfl⟩;exact hk
theorem X4t {P:Program} {t:TypeId} {d:TypeDesc} (hd:P.underlying t=some d) (hg:X5W d=false) {b o:Nat} {v:Value} {w:World} (h:w.cell? ⟨b,o,none⟩=some v):(Instr.loadAt t (.pointer (some ⟨b,o,none⟩))).run P w=.ok v w:=by
 simp[Instr.loadAt,Instr.sureAddr,loadVar,W5 hd,hg,h]
theorem depU:∃fs fd0 fd1 fd2 i0 i1 i2,Tryz.prog.underlying 51=some (.struct fs)∧fs[0]? =some fd0∧fs[1]? =some fd1∧fs[2]? =some fd2∧Tryz.prog.info? fd0.type=some i0∧Tryz.prog.info? fd1.type=some i1∧Tryz.prog.info? fd2.type=some i2∧i0.size=1∧i1.size=1∧i2.size=1∧fd0.offset=0∧fd1.offset=1∧fd2.offset=2:=
 ⟨_,_,_,_,_,_,_,rfl,rfl,rfl,rfl,rfl,rfl,rfl,rfl,rfl,rfl,rfl,rfl,rfl⟩
theorem fA0 (b:Nat) (w:World):(Instr.fieldAt 51 (.pointer (some ⟨b,0,none⟩)) 0).run Tryz.prog w=.ok (.pointer (some ⟨b,0,none⟩)) w:=by
 obtain⟨fs,fd0,fd1,fd2,i0,i1,i2,hu,h0,h1,h2,j0,j1,j2,s0,s1,s2,o0,o1,o2⟩:=depU;have:=QF (w:=w) hu h0 j0 (by omega) b 0
 rwa [o0]at this
theorem fA1 (b:Nat) (w:World):(Instr.fieldAt 51 (.pointer (some ⟨b,0,none⟩)) 1).run Tryz.prog w=.ok (.pointer (some ⟨b,1,none⟩)) w:=by
 obtain⟨fs,fd0,fd1,fd2,i0,i1,i2,hu,h0,h1,h2,j0,j1,j2,s0,s1,s2,o0,o1,o2⟩:=depU;have:=QF (w:=w) hu h1 j1 (by omega) b 0
 rwa [o1]at this
theorem fA2 (b:Nat) (w:World):(Instr.fieldAt 51 (.pointer (some ⟨b,0,none⟩)) 2).run Tryz.prog w=.ok (.pointer (some ⟨b,2,none⟩)) w:=by
 obtain⟨fs,fd0,fd1,fd2,i0,i1,i2,hu,h0,h1,h2,j0,j1,j2,s0,s1,s2,o0,o1,o2⟩:=depU;have:=QF (w:=w) hu h2 j2 (by omega) b 0
 rwa [o2]at this
theorem ldI {b o:Nat} {v:Value} {w:World} (h:w.cell? ⟨b,o,none⟩=some v):(Instr.loadAt 3 (.pointer (some ⟨b,o,none⟩))).run Tryz.prog w=.ok v w:=
 X4t (P:=Tryz.prog) (t:=3) rfl rfl h
theorem ldK {b o:Nat} {v:Value} {w:World} (h:w.cell? ⟨b,o,none⟩=some v):(Instr.loadAt 49 (.pointer (some ⟨b,o,none⟩))).run Tryz.prog w=.ok v w:=
 X4t (P:=Tryz.prog) (t:=49) rfl rfl h
theorem cellsI (a:Int):(Value.int IntKind.i64 a).cells= #[Value.int IntKind.i64 a]:=rfl
theorem bS3 (a b c:Int) (w:World):(Instr.buildSlice 29 3 #[(0,.int .i64 a),(1,.int .i64 b),(2,.int .i64 c)]).run Tryz.prog w=.ok (.slice (some ⟨w.heap.size,0,none⟩) 3 3) (w.alloc (Obj.cells #[.int .i64 a,.int .i64 b,.int .i64 c] 3)):=by
 have hu:Tryz.prog.underlying 29=some (.slice 3):=rfl;obtain⟨i,z,hi,hz,h1,hz3⟩:∃i z,Tryz.prog.info? 3=some i∧i.zero=some z∧i.size=1∧z=.int .i64 0:=⟨_,_,rfl,rfl,rfl,rfl⟩;have hr1:(Array.range 3)= #[0,1,2]:=by decide
 subst hz3;simp[Instr.buildSlice,run_underlying hu,sizeOf,zeroValue,typeInfo,hi,hz,h1,newRow];simp[Instr.fill,hr1,cellsI]
 done
theorem X5t (x y:Dp) (w:World) (hcI:∀(a b:Int) (w:World),Calls Tryz.prog 110 #[.int .i64 a,.int .i64 b] w fun e w'=>e=.returned (.int .i64 (Lib.compareInt a b))∧w'=w)
  (hcK:∀(a b:Int) (w:World),Calls Tryz.prog 111 #[.int .i64 a,.int .i64 b] w fun e w'=>e=.returned (.int .i64 (Lib.compareInt a b))∧w'=w):
  Calls Tryz.prog 61 #[.agg (dpE x).toArray,.agg (dpE y).toArray] w fun e w'=>e=.returned (.int .i64 (X4a x y))∧∃q os',w'=grow (w.drewN q) os':=by
 obtain⟨xf,xt,xk⟩:=x;obtain⟨yf,yt,yk⟩:=y;simp only[dpE]
 go_enter Tryz.func61,Tryz.ntmps61
 go_wp2_with fail
 rename_i Q9 K9 hK9;have eI:∀args w,(callFunc 110 args).run Tryz.prog w=.ok (.enter 110 args) w:=enters_of Tryz.func110 (by kernel_rfl) rfl;have eK:∀args w,(callFunc 111 args).run Tryz.prog w=.ok (.enter 111 args) w:=enters_of Tryz.func111 (by kernel_rfl) rfl;have eO:∀args w,(callFunc 109 args).run Tryz.prog w=.ok (.enter 109 args) w:=enters_of Tryz.func109 (by kernel_rfl) rfl;obtain⟨W1,hW1⟩:∃W1,(((w.alloc (Obj.cells #[Value.int IntKind.i64 xf,Value.int IntKind.i64 xt,Value.int IntKind.i64 xk] 51)).alloc (Obj.cells #[Value.int IntKind.i64 yf,Value.int IntKind.i64 yt,Value.int IntKind.i64 yk] 51)).drewN 1)=W1:=⟨_,rfl⟩;obtain⟨cf,hcf⟩:∃c,Lib.compareInt xf yf=c:=⟨_,rfl⟩;obtain⟨ct,hct⟩:∃c,Lib.compareInt xt yt=c:=⟨_,rfl⟩;obtain⟨ck,hck⟩:∃c,Lib.compareInt xk yk=c:=⟨_,rfl⟩;have c1:=fun w=>hcI xf yf w;have c2:=fun w=>hcI xt yt w;have c3:=fun w=>hcK xk yk w;rw[hcf]at c1;rw[hct]at c2;rw[hck]at c3;have hres:X4a ⟨xf,xt,xk⟩ ⟨yf,yt,yk⟩=orF cf ct ck:=by simp only[X4a,hcf,hct,hck]
 refine wp_ind (TR:=TRc 22 [(0,2,.pointer (some ⟨w.heap.size,0,none⟩)),(0,3,.pointer (some ⟨w.heap.size+1,0,none⟩))]
  [(0,5,.pointer (some ⟨w.heap.size,0,none⟩)),(1,6,.int .i64 xf),(2,7,.pointer (some ⟨w.heap.size+1,0,none⟩)),(3,8,.int .i64 yf),(4,9,.int .i64 cf),(5,10,.pointer (some ⟨w.heap.size,1,none⟩)),(6,11,.int .i64 xt),(7,12,.pointer (some ⟨w.heap.size+1,1,none⟩)),(8,13,.int .i64 yt),(9,14,.int .i64 ct),
   (10,15,.pointer (some ⟨w.heap.size,2,none⟩)),(11,16,.int .i64 xk),(12,17,.pointer (some ⟨w.heap.size+1,2,none⟩)),(13,18,.int .i64 yk),(14,19,.int .i64 ck),(15,20,.slice (some ⟨W1.heap.size,0,none⟩) 3 3),(16,21,.int .i64 (orF cf ct ck)),(17,4,.int .i64 (orF cf ct ck))]
  (fun R=>if 15∈R then W1 else W1.alloc (Obj.cells #[.int .i64 cf,.int .i64 ct,.int .i64 ck] 3))) rfl (by kernel_rfl) ?_ ?_ ?_
 · refine⟨rfl,rfl,?_,?_,?_⟩
   · intro m hm;simp at hm;rcases hm with rfl|rfl<;>rfl
   · intro m hm hr;simp at hm;rcases hm with rfl|rfl|rfl|rfl|rfl|rfl|rfl|rfl|rfl|rfl|rfl|rfl|rfl|rfl|rfl|rfl|rfl|rfl<;>exact absurd (by simp) hr
   rw[if_pos (by simp),←hW1];rfl
 · have hcell:∀(R:List Nat) (w1:World),w1=(if 15∈R then W1 else W1.alloc (Obj.cells #[.int .i64 cf,.int .i64 ct,.int .i64 ck] 3))→
    (∀(j:Nat) (v:Value), #[Value.int IntKind.i64 xf,Value.int IntKind.i64 xt,Value.int IntKind.i64 xk][j]? =some v→w1.cell? ⟨w.heap.size,j,none⟩=some v)∧
    (∀(j:Nat) (v:Value), #[Value.int IntKind.i64 yf,Value.int IntKind.i64 yt,Value.int IntKind.i64 yk][j]? =some v→w1.cell? ⟨w.heap.size+1,j,none⟩=some v):=by
    intro R w1 hw1
    have hx:∀(j:Nat) (v:Value), #[Value.int IntKind.i64 xf,Value.int IntKind.i64 xt,Value.int IntKind.i64 xk][j]? =some v→W1.cell? ⟨w.heap.size,j,none⟩=some v:=by
     intro j v hv;rw[←hW1,World.cell?_drewN];exact cell?_alloc_some _ (by rw[cell_alloc_mark_at _ _ _ _ _ _ rfl];exact hv)
    have hy:∀(j:Nat) (v:Value), #[Value.int IntKind.i64 yf,Value.int IntKind.i64 yt,Value.int IntKind.i64 yk][j]? =some v→W1.cell? ⟨w.heap.size+1,j,none⟩=some v:=by
     intro j v hv;rw[←hW1,World.cell?_drewN];rw[cell_alloc_mark_at _ _ _ _ _ _ (by simp)];exact hv
    rw[hw1];split
    · exact⟨hx,hy⟩
    exact⟨fun j v h=>cell?_alloc_some _ (hx j v h),fun j v h=>cell?_alloc_some _ (hy j v h)⟩
   intro R i o ho hiR hpre a w1 ht Kc hK;have hi18:i<18:=by have:=(Array.getElem?_eq_some_iff.1 ho).1;simpa using this
   have e2:a.eval (.tmp 2)=.pointer (some ⟨w.heap.size,0,none⟩):=ht.bs (0,2,_) (by simp);have e3:a.eval (.tmp 3)=.pointer (some ⟨w.heap.size+1,0,none⟩):=ht.bs (0,3,_) (by simp);obtain⟨cx,cy⟩:=hcell R w1 ht.wd;have x0:=cx 0 _ rfl;have x1:=cx 1 _ rfl;have x2:=cx 2 _ rfl;have y0:=cy 0 _ rfl;have y1:=cy 1 _ rfl;have y2:=cy 2 _ rfl;have hput:=fun d v hd hb hu w' hw'=>ht.put i d v hd hb hu (w':=w') hw'
   match i,hi18 with
   | 0,_=>
     have ho0:=ho;cases ho;refine Q8 (nx:=.value (.pointer (some ⟨w.heap.size,0,none⟩))) (v:=.pointer (some ⟨w.heap.size,0,none⟩)) (w':=w1) ho0 rfl ?_ (.inl rfl) (hK _ _ (hput 5 (.pointer (some ⟨w.heap.size,0,none⟩)) (by decide) (by simp) (by simp) _ ?_))
     · unfold execOp;simp[e2,e3,fA0];done
     rw[ht.wd];simp[Q1]
   | 1,_=>
     have ho0:=ho;cases ho;have v5:a.eval (.tmp 5)=.pointer (some ⟨w.heap.size,0,none⟩):=ht.vs (0,5,_) (by simp) (hpre ⟨0,.data⟩ (by simp) rfl);refine Q8 (nx:=.value (.int .i64 xf)) (v:=.int .i64 xf) (w':=w1) ho0 rfl ?_ (.inl rfl) (hK _ _ (hput 6 (.int .i64 xf) (by decide) (by simp) (by simp) _ ?_))
     · unfold execOp;simp[v5,ldI x0];done
     rw[ht.wd];simp[Q1]
   | 2,_=>
     have ho0:=ho;cases ho;refine Q8 (nx:=.value (.pointer (some ⟨w.heap.size+1,0,none⟩))) (v:=.pointer (some ⟨w.heap.size+1,0,none⟩)) (w':=w1) ho0 rfl ?_ (.inl rfl) (hK _ _ (hput 7 (.pointer (some ⟨w.heap.size+1,0,none⟩)) (by decide) (by simp) (by simp) _ ?_))
     · unfold execOp;simp[e2,e3,fA0];done
     rw[ht.wd];simp[Q1]
   | 3,_=>
     have ho0:=ho;cases ho;have v7:a.eval (.tmp 7)=.pointer (some ⟨w.heap.size+1,0,none⟩):=ht.vs (2,7,_) (by simp) (hpre ⟨2,.data⟩ (by simp) rfl);refine Q8 (nx:=.value (.int .i64 yf)) (v:=.int .i64 yf) (w':=w1) ho0 rfl ?_ (.inl rfl) (hK _ _ (hput 8 (.int .i64 yf) (by decide) (by simp) (by simp) _ ?_))
     · unfold execOp;simp[v7,ldI y0];done
     rw[ht.wd];simp[Q1]
   | 4,_=>
     have ho0:=ho;cases ho;have v6:a.eval (.tmp 6)=.int .i64 xf:=ht.vs (1,6,_) (by simp) (hpre ⟨1,.data⟩ (by simp) rfl);have v8:a.eval (.tmp 8)=.int .i64 yf:=ht.vs (3,8,_) (by simp) (hpre ⟨3,.data⟩ (by simp) rfl);refine X1t (v:=.int .i64 cf) ho0 rfl (by unfold execOp;simp[resolve,invoke,Deferred.ofValue,eI,v6,v8];rfl) (c1 w1) (hK _ _ (hput 9 (.int .i64 cf) (by decide) (by simp) (by simp) _ ?_))
     all_goals first|(rw[ht.wd];simp[Q1];done)|skip
   | 5,_=>
     have ho0:=ho;cases ho;refine Q8 (nx:=.value (.pointer (some ⟨w.heap.size,1,none⟩))) (v:=.pointer (some ⟨w.heap.size,1,none⟩)) (w':=w1) ho0 rfl ?_ (.inl rfl) (hK _ _ (hput 10 (.pointer (some ⟨w.heap.size,1,none⟩)) (by decide) (by simp) (by simp) _ ?_))
     · unfold execOp;simp[e2,e3,fA1];done
     rw[ht.wd];simp[Q1]
   | 6,_=>
     have ho0:=ho;cases ho;have v10:a.eval (.tmp 10)=.pointer (some ⟨w.heap.size,1,none⟩):=ht.vs (5,10,_) (by simp) (hpre ⟨5,.data⟩ (by simp) rfl);refine Q8 (nx:=.value (.int .i64 xt)) (v:=.int .i64 xt) (w':=w1) ho0 rfl ?_ (.inl rfl) (hK _ _ (hput 11 (.int .i64 xt) (by decide) (by simp) (by simp) _ ?_))
     · unfold execOp;simp[v10,ldI x1];done
     rw[ht.wd];simp[Q1]
   | 7,_=>
     have ho0:=ho;cases ho;refine Q8 (nx:=.value (.pointer (some ⟨w.heap.size+1,1,none⟩))) (v:=.pointer (some ⟨w.heap.size+1,1,none⟩)) (w':=w1) ho0 rfl ?_ (.inl rfl) (hK _ _ (hput 12 (.pointer (some ⟨w.heap.size+1,1,none⟩)) (by decide) (by simp) (by simp) _ ?_))
     · unfold execOp;simp[e2,e3,fA1];done
     rw[ht.wd];simp[Q1]
   | 8,_=>
     have ho0:=ho;cases ho;have v12:a.eval (.tmp 12)=.pointer (some ⟨w.heap.size+1,1,none⟩):=ht.vs (7,12,_) (by simp) (hpre ⟨7,.data⟩ (by simp) rfl);refine Q8 (nx:=.value (.int .i64 yt)) (v:=.int .i64 yt) (w':=w1) ho0 rfl ?_ (.inl rfl) (hK _ _ (hput 13 (.int .i64 yt) (by decide) (by simp) (by simp) _ ?_))
     · unfold execOp;simp[v12,ldI y1];done
     rw[ht.wd];simp[Q1]
   | 9,_=>
     have ho0:=ho;cases ho;have v11:a.eval (.tmp 11)=.int .i64 xt:=ht.vs (6,11,_) (by simp) (hpre ⟨6,.data⟩ (by simp) rfl);have v13:a.eval (.tmp 13)=.int .i64 yt:=ht.vs (8,13,_) (by simp) (hpre ⟨8,.data⟩ (by simp) rfl);refine X1t (v:=.int .i64 ct) ho0 rfl (by unfold execOp;simp[resolve,invoke,Deferred.ofValue,eI,v11,v13];rfl) (c2 w1) (hK _ _ (hput 14 (.int .i64 ct) (by decide) (by simp) (by simp) _ ?_))
     all_goals first|(rw[ht.wd];simp[Q1];done)|skip
   | 10,_=>
     have ho0:=ho;cases ho;refine Q8 (nx:=.value (.pointer (some ⟨w.heap.size,2,none⟩))) (v:=.pointer (some ⟨w.heap.size,2,none⟩)) (w':=w1) ho0 rfl ?_ (.inl rfl) (hK _ _ (hput 15 (.pointer (some ⟨w.heap.size,2,none⟩)) (by decide) (by simp) (by simp) _ ?_))
     · unfold execOp;simp[e2,e3,fA2];done
     rw[ht.wd];simp[Q1]
   | 11,_=>
     have ho0:=ho;cases ho;have v15:a.eval (.tmp 15)=.pointer (some ⟨w.heap.size,2,none⟩):=ht.vs (10,15,_) (by simp) (hpre ⟨10,.data⟩ (by simp) rfl);refine Q8 (nx:=.value (.int .i64 xk)) (v:=.int .i64 xk) (w':=w1) ho0 rfl ?_ (.inl rfl) (hK _ _ (hput 16 (.int .i64 xk) (by decide) (by simp) (by simp) _ ?_))
     · unfold execOp;simp[v15,ldK x2];done
     rw[ht.wd];simp[Q1]
   | 12,_=>
     have ho0:=ho;cases ho;refine Q8 (nx:=.value (.pointer (some ⟨w.heap.size+1,2,none⟩))) (v:=.pointer (some ⟨w.heap.size+1,2,none⟩)) (w':=w1) ho0 rfl ?_ (.inl rfl) (hK _ _ (hput 17 (.pointer (some ⟨w.heap.size+1,2,none⟩)) (by decide) (by simp) (by simp) _ ?_))
     · unfold execOp;simp[e2,e3,fA2];done
     rw[ht.wd];simp[Q1]
   | 13,_=>
     have ho0:=ho;cases ho;have v17:a.eval (.tmp 17)=.pointer (some ⟨w.heap.size+1,2,none⟩):=ht.vs (12,17,_) (by simp) (hpre ⟨12,.data⟩ (by simp) rfl);refine Q8 (nx:=.value (.int .i64 yk)) (v:=.int .i64 yk) (w':=w1) ho0 rfl ?_ (.inl rfl) (hK _ _ (hput 18 (.int .i64 yk) (by decide) (by simp) (by simp) _ ?_))
     · unfold execOp;simp[v17,ldK y2];done
     rw[ht.wd];simp[Q1]
   | 14,_=>
     have ho0:=ho;cases ho;have v16:a.eval (.tmp 16)=.int .i64 xk:=ht.vs (11,16,_) (by simp) (hpre ⟨11,.data⟩ (by simp) rfl);have v18:a.eval (.tmp 18)=.int .i64 yk:=ht.vs (13,18,_) (by simp) (hpre ⟨13,.data⟩ (by simp) rfl);refine X1t (v:=.int .i64 ck) ho0 rfl (by unfold execOp;simp[resolve,invoke,Deferred.ofValue,eK,v16,v18];rfl) (c3 w1) (hK _ _ (hput 19 (.int .i64 ck) (by decide) (by simp) (by simp) _ ?_))
     all_goals first|(rw[ht.wd];simp[Q1];done)|skip
   | 15,_=>
     have ho0:=ho;cases ho;have v9:a.eval (.tmp 9)=.int .i64 cf:=ht.vs (4,9,_) (by simp) (hpre ⟨4,.data⟩ (by simp) rfl);have v14:a.eval (.tmp 14)=.int .i64 ct:=ht.vs (9,14,_) (by simp) (hpre ⟨9,.data⟩ (by simp) rfl);have v19:a.eval (.tmp 19)=.int .i64 ck:=ht.vs (14,19,_) (by simp) (hpre ⟨14,.data⟩ (by simp) rfl);refine Q8 (nx:=.value (.slice (some ⟨W1.heap.size,0,none⟩) 3 3)) (v:=.slice (some ⟨W1.heap.size,0,none⟩) 3 3) (w':=w1.alloc (Obj.cells #[.int .i64 cf,.int .i64 ct,.int .i64 ck] 3)) ho0 rfl ?_ (.inl rfl) (hK _ _ (hput 20 (.slice (some ⟨W1.heap.size,0,none⟩) 3 3) (by decide) (by simp) (by simp) _ ?_))
     · have h15:w1=W1:=by rw[ht.wd,if_pos hiR]
       subst h15;unfold execOp;simp[v9,v14,v19,bS3]
       done
     have h15:w1=W1:=by rw[ht.wd,if_pos hiR]
     rw[h15];simp[Q1]
   | 16,_=>
     have ho0:=ho;cases ho;have v20:a.eval (.tmp 20)=.slice (some ⟨W1.heap.size,0,none⟩) 3 3:=ht.vs (15,20,_) (by simp) (hpre ⟨15,.data⟩ (by simp) rfl);refine X1t (v:=.int .i64 (orF cf ct ck)) ho0 rfl (by unfold execOp;simp[resolve,invoke,Deferred.ofValue,eO,v20];rfl) (or_calls W1.heap.size 0 cf ct ck w1 ?_ ?_ ?_) (hK _ _ (hput 21 (.int .i64 (orF cf ct ck)) (by decide) (by simp) (by simp) _ ?_))
     · rw[ht.wd,if_neg (hpre ⟨15,.data⟩ (by simp) rfl),cell_alloc_mark_at _ _ _ _ _ _ rfl];rfl
     · rw[ht.wd,if_neg (hpre ⟨15,.data⟩ (by simp) rfl),cell_alloc_mark_at _ _ _ _ _ _ rfl];rfl
     · rw[ht.wd,if_neg (hpre ⟨15,.data⟩ (by simp) rfl),cell_alloc_mark_at _ _ _ _ _ _ rfl];rfl
     rw[ht.wd];simp[Q1]
   | 17,_=>
     have ho0:=ho;cases ho;have v21:a.eval (.tmp 21)=.int .i64 (orF cf ct ck):=ht.vs (16,21,_) (by simp) (hpre ⟨16,.data⟩ (by simp) rfl);refine Q8 (nx:=.value (.int .i64 (orF cf ct ck))) (v:=.int .i64 (orF cf ct ck)) (w':=w1) ho0 rfl ?_ (.inl rfl) (hK _ _ (hput 4 (.int .i64 (orF cf ct ck)) (by decide) (by simp) (by simp) _ ?_))
     · unfold execOp;simp[v21];done
     rw[ht.wd];simp[Q1]
 intro a' w' ht;have e4:a'.eval (.tmp 4)=.int .i64 (orF cf ct ck):=ht.vs (17,4,_) (by simp) (by simp);have hw:=ht.wd;rw[if_neg (by simp)]at hw;refine hK9 a' w' (wp_ret ?_);refine bodyPost_ret (v:=.int .i64 (orF cf ct ck)) ?_ ht.df ?_
 · rw[←e4];exact results_tmp rfl _ _ _
 refine⟨by rw[hres],1, #[Obj.cells #[Value.int IntKind.i64 xf,Value.int IntKind.i64 xt,Value.int IntKind.i64 xk] 51,Obj.cells #[Value.int IntKind.i64 yf,Value.int IntKind.i64 yt,Value.int IntKind.i64 yk] 51,Obj.cells #[.int .i64 cf,.int .i64 ct,.int .i64 ck] 3],?_⟩;rw[hw,←hW1];simp only[alloc_eq_grow];show grow (grow (grow (w.drewN 1) _) _) _=_;rw[grow_grow,grow_grow];rfl
instance instDp:Inhabited Dp:=⟨⟨0,0,0⟩⟩
theorem X7Q (x y:Dp) (w:World):Calls Tryz.prog 61 #[.agg (dpE x).toArray,.agg (dpE y).toArray] w fun e w'=>e=.returned (.int .i64 (X4a x y))∧∃q os',w'=grow (w.drewN q) os':=
 X5t x y w (fun a b w=>AnyG.cmp_Compare_int cmpIL a b w) (fun a b w=>AnyG.cmp_Compare_int cmpKL a b w)
theorem X2D (x y:Dp):ltOf X4a x y=dpB x y:=by
 rw[Bool.eq_iff_iff,WO];unfold ltOf X4a orF Lib.compareInt;simp only[decide_eq_true_eq]
 repeat' split
 all_goals omega
theorem swo_dpB:SWO (ltOf X4a):=by
 refine⟨fun x=>?_,fun x y z h1 h2=>?_,fun x y z h1 h2=>?_⟩
 · rw[X2D,←Bool.not_eq_true,WO];omega
 · rw[X2D,WO]at*;omega
 rw[X2D,←Bool.not_eq_true,WO]at*;omega
structure RowOutD (w w':World) (g o:Nat) (ys:List Dp):Prop where
 os:w'.os=w.os
 tape:w'.tape=w.tape
 output:w'.output=w.output
 size:w.heap.size≤w'.heap.size
 other:∀k,k<w.heap.size→k≠g→w'.heap[k]? =w.heap[k]?
 cells:∀cur t x,w.heap[g]? =some (.cells cur t x)→∃cur':Array Value,w'.heap[g]? =some (.cells cur' t x)∧cur'.size=cur.size∧∀k j y,ys[k]? =some y→j<3→o+(k*3+j)<cur.size→cur'[o+(k*3+j)]? =(dpE y)[j]?
theorem X1a (ys:List Dp) (k j:Nat) (y:Dp) (hk:ys[k]? =some y) (hj:j<3):(flatK dpE 3 ys.toArray)[k*3+j]! =(dpE y)[j]! :=by
 have hlt:=(List.getElem?_eq_some_iff.1 hk).1;rw[get_flatK _ _ _ _ (by simp;omega),show(k*3+j)/3=k by omega,show(k*3+j)%3=j by omega]
 have:ys.toArray[k]! =y:=by
  rw[getElem!_pos ys.toArray k (by simpa using hlt)];have:=(List.getElem?_eq_some_iff.1 hk).2;simpa using this
 rw[this]
theorem X9D (y:Dp) (j:Nat) (hj:j<3):(dpE y)[j]? =some (dpE y)[j]! :=by
 rw[getElem!_pos (dpE y) j (by simpa[dpE]using hj)];exact List.getElem?_eq_getElem _
theorem X7w (w:World) (q g o:Nat) (os:Array Obj) (ys:List Dp) (hg:g<w.heap.size):RowOutD w (sortWorldK dpE 3 w g o q ys.toArray os) g o ys:=by
 have hsz:(putRow id (Sort.ahead w q) g o (flatK dpE 3 ys.toArray)).heap.size=w.heap.size:=by simp[putRow,mapBlock]
 refine⟨rfl,rfl,rfl,by simp only[sortWorldK,putRowK,grow,Array.size_append,hsz];omega,fun k hk hne=>?_,fun cur t x hc=>?_⟩
 · simp only[sortWorldK,putRowK];rw[heap_grow_old _ _ (by rw[hsz];exact hk)];simp only[putRow,mapBlock,heap_ahead,Array.getElem?_modify];rw[if_neg fun h=>hne h.symm]
 refine⟨putCells id o (flatK dpE 3 ys.toArray) cur,?_,by simp[putCells],fun k j y hk hj hkc=>?_⟩
 · simp only[sortWorldK,putRowK];rw[heap_grow_old _ _ (by rw[hsz];exact hg)];simp only[putRow,mapBlock,heap_ahead,Array.getElem?_modify,if_true,hc];rfl
 have hlt:=(List.getElem?_eq_some_iff.1 hk).1;simp only[putCells,Array.getElem?_mapIdx,Array.getElem?_eq_getElem hkc,Option.map_some,Nat.add_sub_cancel_left];rw[if_pos ⟨by omega,by simp;omega⟩,X1a ys k j y hk hj,X9D y j hj];rfl
theorem getRC_D {zs:List Dp} {a b:Nat} {d:CD} (h:XF (XV zs) a b=some d):b<3∧∃y,zs[a]? =some y∧d=.lit (dpE y)[b]! :=by
 unfold XF XV at h;rw[List.getElem?_map]at h;cases hz:zs[a]? with
 |none=>rw[hz]at h;cases h
 | some n=>
   rw[hz]at h
   match b,h with
   |0,h=>cases h;exact⟨by omega,n,rfl,rfl⟩
   |1,h=>cases h;exact⟨by omega,n,rfl,rfl⟩
   |2,h=>cases h;exact⟨by omega,n,rfl,rfl⟩
   |b+3,h=>simp[Dp.enc]at h
theorem getRC_D' {zs:List Dp} {a b:Nat} {y:Dp} (h:zs[a]? =some y) (hb:b<3):XF (XV zs) a b=some (.lit (dpE y)[b]!):=by
 unfold XF XV;rw[List.getElem?_map,h]
 match b,hb with
 |0,_=>rfl
 |1,_=>rfl
 |2,_=>rfl
theorem X9O (y:Dp):∀v∈dpE y,v.oneCell'=true:=by
 intro v hv;simp only[dpE,List.mem_cons,List.not_mem_nil,or_false]at hv;rcases hv with rfl|rfl|rfl<;>rfl
theorem mem_dpE (y:Dp) (j:Nat) (hj:j<3):(dpE y)[j]! ∈dpE y:=by
 rw[getElem!_pos (dpE y) j (by simpa[dpE]using hj)];exact List.getElem_mem _
theorem X8i {zs:List Dp} (hn:zs.Nodup) {d':Array Dp} (hp:PermIn 0 zs.length zs.toArray d') (hs:SortedIn (ltOf X4a) 0 zs.length d'):d'.toList=Wr zs:=by
 obtain⟨h1,_,h3⟩:=hp;have hsz:d'.size=zs.length:=by simpa using h1
 have e1:d'.extract 0 zs.length=d':=by rw[←hsz];simp
 have e2:zs.toArray.extract 0 zs.length=zs.toArray:=by simp
 rw[e1,e2]at h3;have hnd:d'.toList.Nodup:=h3.nodup_iff.2 (by simpa using hn);refine X77 ?_ fun x=>by rw[h3.mem_iff]
 rw[List.pairwise_iff_getElem];intro i j hi hj hij;have:=hs i j (Nat.zero_le _) hij (by simpa[hsz]using hj);rw[X2D,getElem!_pos d' j (by simpa using hj),getElem!_pos d' i (by simpa using hi),←Bool.not_eq_true,WO]at this;rw[WO];have hne:d'.toList[i]≠d'.toList[j]:=List.pairwise_iff_getElem.1 hnd i j hi hj hij;simp only[Array.getElem_toList]at*;generalize d'[i]=a at*;generalize d'[j]=b at*;have:¬(a.f=b.f∧a.t=b.t∧a.k=b.k):=fun⟨e1,e2,e3⟩=>hne (by obtain⟨x,y,z⟩:=a;obtain⟨x',y',z'⟩:=b;simp only at e1 e2 e3;rw[e1,e2,e3]);omega
theorem X83 (zs:List Dp) (hn:zs.Nodup) (hl:zs.length≤17592186044416) (g o cap:Nat) (w:World) (hH:HoldsK dpE 3 w g o zs.toArray) (hg:g<w.heap.size):
  Calls Tryz.prog 58 #[.slice (some ⟨g,o,none⟩) zs.length cap,.func (.func 61) #[] #[]] w fun e w'=>e=.returned (.tuple #[])∧RowOutD w w' g o (Wr zs):=by
 have h:=AnyQ.slices_SortFunc (P:=Tryz.prog) (ρ:=X9n) sortDL 3 (fun w=>rfl) (fun w=>rfl) dpE (fun _=>rfl) X9O X4a swo_dpB 61 #[] g o cap zs.toArray w
  (enters_of Tryz.func61 (by kernel_rfl) rfl) (fun m os dk hs x y=>X7Q x y _) hH hg (by simp;omega)
 refine(show Calls Tryz.prog 58 #[.slice (some ⟨g,o,none⟩) zs.length cap,.func (.func 61) #[] #[]] w _ from h).mono ?_;rintro e w' ⟨rfl,d',n,os,hp,hs,rfl⟩;refine⟨rfl,?_⟩;have e:=X8i hn (by simpa using hp) (by simpa using hs);have:=X7w w n g o os (Wr zs) hg;rw[←e]at this⊢;simpa using this
theorem X5H (zs:List Dp) (hn:zs.Nodup):(Wr zs).length=zs.length:=by
 refine(List.Perm.length_eq ?_);refine(List.perm_ext_iff_of_nodup ?_ hn).2 fun x=>X0m zs x;exact(X1E zs).imp fun {a b} h e=>by rw[e,WO]at h;omega
end Go.Proofs.YtdajceakaakdoaaGreat

namespace Go.Proofs.YtdajceakaakdoaaGreat
open Go Go.Hl Go.Sort Go.Lib Go.Joins Go.Shelf
set_option maxHeartbeats 4000000
theorem X8N (p:Option Addr) (cap:Nat) (g:FuncId) (w:World):Calls Tryz.prog 168 #[.slice p 0 cap,.int .i64 0,.int .i64 0,.func (.func g) #[] #[]] w fun e w'=>e=.returned (.tuple #[])∧w'=w:=by
 go_enter Tryz.func168,Tryz.ntmps168
 go_wp2
 refine wp_loop_rounds 1 ?_;rw[rounds_succ]
 go_wp2
 go_end0
 exact⟨rfl,rfl⟩
theorem X9j (p:Option Addr) (cap:Nat) (g:FuncId) (w:World):Calls Tryz.prog 108 #[.slice p 0 cap,.int .i64 0,.int .i64 0,.int .i64 0,.func (.func g) #[] #[]] w fun e w'=>e=.returned (.tuple #[])∧w'=w:=by
 have e1:∀args w,(callFunc 168 args).run Tryz.prog w=.ok (.enter 168 args) w:=enters_of Tryz.func168 (by kernel_rfl) rfl
 go_enter Tryz.func108,Tryz.ntmps108
 go_wp2
 refine wp_loop_rounds 1 ?_;rw[rounds_succ]
 go_wp2_with (go_at_fn 168;refine(X8N p cap g _).mono ?_;rintro e w' ⟨rfl,rfl⟩)
 (try simp only[Exit.inBlock,Exit.then])
 refine bodyPost_ret (results_none rfl _ _ _) rfl ?_;exact⟨rfl,rfl⟩
theorem X6O (p:Option Addr) (cap:Nat) (g:FuncId) (w:World):Calls Tryz.prog 58 #[.slice p 0 cap,.func (.func g) #[] #[]] w fun e w'=>e=.returned (.tuple #[])∧w'=w:=by
 have hLen:∀w,Calls Tryz.prog 89 #[.int .u64 0] w fun e w'=>e=.returned (.int .i64 0)∧w'=w:=fun w=>Any.bits_Len (SlLaysF0.n15.bits (P:=Tryz.prog) (ρ:=X9n) {sortDL with}) 0 w (by omega) (by omega);have e1:∀args w,(callFunc 89 args).run Tryz.prog w=.ok (.enter 89 args) w:=enters_of Tryz.func89 (by kernel_rfl) rfl;have e2:∀args w,(callFunc 108 args).run Tryz.prog w=.ok (.enter 108 args) w:=enters_of Tryz.func108 (by kernel_rfl) rfl
 go_enter Tryz.func58,Tryz.ntmps58
 go_wp2_with (first
  |(go_at_fn 89;refine(hLen _).mono ?_;rintro e w' ⟨rfl,rfl⟩)
  |(go_at_fn 108;refine(X9j p cap g _).mono ?_;rintro e w' ⟨rfl,rfl⟩))
 go_end0
 exact⟨rfl,rfl⟩
end Go.Proofs.YtdajceakaakdoaaGreat

namespace Go.Proofs.YtdajceakaakdoaaGreat
open Go Go.Hl Go.Sort Go.Lib Go.Joins Go.Shelf
theorem XaQ {f c:FuncId} (hcall:XT Tryz.prog f=true) (zs ys:List Dp) (hz:0<zs.length) (hle:ys.length=zs.length)
  (key:∀(g o cap:Nat) (w:World),HoldsK dpE 3 w g o zs.toArray→g<w.heap.size→zs.length≤cap→cap≤maxLen→Calls Tryz.prog f #[.slice (some ⟨g,o,none⟩) zs.length cap,.func (.func c) #[] #[]] w fun e w'=>e=.returned (.tuple #[])∧RowOutD w w' g o ys):
  ConG2 Tryz.prog f c 51 3 (XV zs) (XV ys):=by
 refine⟨hcall,fun F B w v hro hF hvF=>?_⟩;obtain⟨h0,hrs,xs,⟨hxl,hown⟩,hx1,hc⟩:=hro;rcases hown with⟨_,hn⟩|⟨g,o,cap,cur,rfl,hB,hg,hcap,hmax,hcs,htake⟩
 · rw[ZB]at hn;omega
 rw[ZB]at hxl hcap htake⊢
 have hcur:∀k j y,zs[k]? =some y→j<3→cur[o+(k*3+j)]? =some (dpE y)[j]! :=by
  intro k j y hk hj;obtain⟨u,hu,hr⟩:=hc k j _ (getRC_D' hk hj);cases hr;have hlt:=(List.getElem?_eq_some_iff.1 hk).1;have:xs[k*3+j]? =cur[o+(k*3+j)]? :=by rw[←htake,List.getElem?_take,if_pos (by omega),List.getElem?_drop,Array.getElem?_toList]
  rw[←this];exact hu
 have hH:HoldsK dpE 3 w g o zs.toArray:=by
  intro t ht;have ht':t<zs.length*3:=by simpa using ht
  have hk:t/3<zs.length:=by omega
  refine⟨?_,?_⟩
  · have h1:w.cell? ⟨g,o+t,none⟩=cur[o+t]? :=by simp[World.cell?,hg]
    have h2:=hcur (t/3) (t%3) _ (List.getElem?_eq_getElem hk) (by omega);rw[show t/3*3+t%3=t by omega]at h2;have h3:=X1a zs (t/3) (t%3) _ (List.getElem?_eq_getElem hk) (by omega);rw[show t/3*3+t%3=t by omega]at h3;rw[h1,h2,h3];rfl
  simp[World.frozen?,hg]
 have hgs:g<w.heap.size:=(Array.getElem?_eq_some_iff.1 hg).1;refine(key g o cap w hH hgs hcap hmax).mono ?_;rintro e w' ⟨rfl,hout⟩;obtain⟨cur',hg',hcs',hcell⟩:=hout.cells cur _ _ hg
 have hcell2:∀k j y,ys[k]? =some y→j<3→((cur'.toList.drop o).take (ys.length*3))[k*3+j]? =some (dpE y)[j]! :=by
  intro k j y hk hj;have hlt:=(List.getElem?_eq_some_iff.1 hk).1;rw[List.getElem?_take,if_pos (by omega),List.getElem?_drop,Array.getElem?_toList,hcell k j y hk hj (by omega),X9D y j hj]
 refine⟨rfl,hout.os,hout.tape,hout.output,hout.size,fun k hk hne=>hout.other k hk fun e=>hne (by rw[e];rfl),by decide,?_,(cur'.toList.drop o).take (ys.length*3),⟨?_,.inr ⟨g,o,cap,cur',?_,hB,hg',by rw[ZB];omega,hmax,by omega,by rw[ZB]⟩⟩,?_,?_⟩
 · intro r hr;simp only[XV,List.mem_map]at hr;obtain⟨n,_,rfl⟩:=hr;rfl
 · simp only[List.length_take,List.length_drop,Array.length_toList,ZB];omega
 · rw[ZB,hle]
 · intro u hu;obtain⟨t,ht⟩:=List.getElem?_of_mem hu
   have hlt:t<ys.length*3:=by
    have:=(List.getElem?_eq_some_iff.1 ht).1;simp only[List.length_take]at this;omega
   have hk:t/3<ys.length:=by omega
   have h2:=hcell2 (t/3) (t%3) _ (List.getElem?_eq_getElem hk) (by omega);rw[show t/3*3+t%3=t by omega,ht]at h2;cases h2;exact X9O _ _ (mem_dpE _ _ (by omega))
 intro a b d hd;obtain⟨hb,y,hy,rfl⟩:=getRC_D hd;exact⟨_,hcell2 a b y hy hb,CRel.lit _⟩
theorem Xam (zs:List Dp) (hn:zs.Nodup) (hz:0<zs.length) (hl:zs.length≤17592186044416):
  ConG2 Tryz.prog 58 61 51 3 (XV zs) (XV (Wr zs)):=
 XaQ (by kernel_rfl) zs _ hz (X5H zs hn) fun g o cap w hH hg hcap hmax=>X83 zs hn hl g o cap w hH hg
end Go.Proofs.YtdajceakaakdoaaGreat

namespace Go.Proofs.YtdajceakaakdoaaGreat
open Go Go.Hl
end Go.Proofs.YtdajceakaakdoaaGreat

namespace Go.Proofs.YtdajceakaakdoaaGreat
open Go Go.Hl
def Inp.enc (i:Inp):List CD:=[.sl 1 (Xg i.s),.sl 1 (Xg i.p),.sl 1 (Xg i.r)]
def X19 (l:List Inp):List (List CD):=l.map Inp.enc
@[simp] theorem encNms_app (a b:List Inp):X19 (a++b)=X19 a++X19 b:=by simp[X19]
@[simp] theorem encNms_len (l:List Inp):(X19 l).length=l.length:=by simp[X19]
@[simp] theorem get_encNm (l:List Inp) (i:Nat):(X19 l)[i]? =l[i]?.map Inp.enc:=by simp[X19]
end Go.Proofs.YtdajceakaakdoaaGreat

namespace Go.Proofs.YtdajceakaakdoaaGreat
open Go Go.Hl
mutual
def tL:Tm→Int→Int
 | .mk _ _ ks,left=>tLs ks (left - 1)
def tLs:List Tm→Int→Int
 |[],left=>left
 |t::l,left=>if 0≤left then tLs l (tL t left)else left
end
def hL:List Ht→Int→Int
 |[],m=>m
 |h::l,m=>hL l (tL h.term m)
end Go.Proofs.YtdajceakaakdoaaGreat

namespace Go.Proofs.YtdajceakaakdoaaGreat
open Go Go.Hl
structure Fit (f:Fl) (a b c:Int):Prop where
 hv:f.vars.length≤10
 hh:f.hats.length≤10
 hn:Xs f.body+Wi f.hats≤80
 hb:Zv f.body=true
 code:Qg f=0
 good:X3a f.vars
 s1:spc f.vars 1≤a
 s2:spc f.vars 2≤b
 s3:spc f.vars 3≤c
end Go.Proofs.YtdajceakaakdoaaGreat

namespace Go.Proofs.YtdajceakaakdoaaGreat
open Go Go.Hl
def evL:List St→List St
 |[]=>[]
 | .mk d c v n t a b bs::l=>balS (.mk d c v n t (evL a) (evL b) bs)::evL l
end Go.Proofs.YtdajceakaakdoaaGreat

namespace Go.Proofs.YtdajceakaakdoaaGreat
open Go Go.Hl
end Go.Proofs.YtdajceakaakdoaaGreat

namespace Go.Proofs.YtdajceakaakdoaaGreat
open Go Go.Hl
theorem X7S (f:Fl) (hv:f.vars.length≤1000000) (hh:f.hats.length≤1000000) (hn:Xs f.body+Wi f.hats≤900000000) (hb:Zv f.body=true) (hc:Qg f=0) (d:Nat):
  Con Tryz.prog 191 true [aF f] (.tup [li (bdL CP f.body ⟨0,0,0⟩).s,li (bdL CP f.body ⟨0,0,0⟩).o,li (bdL CP f.body ⟨0,0,0⟩).t,li 0]) none d:=by
 have cc:=X0O f hv hh hn hb;have cu:=X5U f.body (by omega) (X3x _ _ (W4 hc).2.2.2.1);rw[hc]at cc;obtain⟨vars,hats,body⟩:=f;simp only at cu⊢;obtain⟨⟨bs,bo,bt⟩,hB⟩:∃x,bdL CP body ⟨0,0,0⟩=x:=⟨_,rfl⟩;rw[hB]at cu⊢;simp only[aB]at cu⊢;clear hB hc hn hb hv hh;refine X4 Tryz.func191 ?_;simp only[Tryz.f191];simp only[aF,Fl.enc,List.map_cons,List.map_nil]at cc⊢;refine X2 ?_;refine X0<|X0<|(Xm [⟨true,.v (li 0),none⟩] ?_ ?_)
 · first|exact cc _|exact trivial|simpa[*]using cc _
 refine X2 ?_;refine(Xb rfl (fun h3=>?_) fun h3=>?_)
 · exact absurd h3 (by simp)
 (try simp only[BN]at h3);refine Xp [⟨true,.v (.agg [.c (iC bs),.c (iC bo),.c (iC bt)]),none⟩] ?_ ?_
 · first|exact cu _|exact trivial|simpa[*]using cu _
 refine X0<|(QH (by kernel_rfl) (by kernel_rfl) (by rfl) (by simp[*];rfl) ?_);exact Xf
end Go.Proofs.YtdajceakaakdoaaGreat

namespace Go.Proofs.YtdajceakaakdoaaGreat
open Go Go.Hl
def stlB (f:Fl):Bool:=match f.body.getLast? with
 |some s=>decide (s.do_=6)&&decide ((bdL CP f.body ⟨0,0,0⟩).t≤(s.bounds[0]?).getD 0)
 |none=>false
set_option maxHeartbeats 8000000 in
theorem Xaw (f:Fl) (hv:f.vars.length≤1000000) (hh:f.hats.length≤1000000) (hn:Xs f.body+Wi f.hats≤900000000) (hb:Zv f.body=true) (hc:Qg f=0) (hl:f.body.length≤1000000) (hb6:∀s∈f.body,s.do_=6→s.bounds≠[]) (d:Nat):Con Tryz.prog 128 true [aF f] (.v (lb (stlB f))) none d:=by
 have cb:=X7S f hv hh hn hb hc;clear hv hh hn hb hc;obtain⟨vars,hats,body⟩:=f;simp only at cb hb6 hl⊢;unfold stlB;simp only;obtain⟨⟨bs,bo,bt⟩,hB⟩:∃x,bdL CP body ⟨0,0,0⟩=x:=⟨_,rfl⟩;rw[hB]at cb⊢;clear hB;cases hlast:body.getLast? with
 | none=>
   have hnil:body=[]:=by simpa using hlast
   subst hnil;clear hlast hb6 hl;refine X4 Tryz.func128 ?_;simp only[Tryz.f128];simp only[aF,Fl.enc,List.map_cons,List.map_nil]at cb⊢;refine X2 ?_;refine X0<|X0<|X1 ?_;refine(Xb rfl (fun h2=>?_) fun h2=>?_)
   · (try simp only[BN]at h2);refine X2 ?_;exact Xf
   exact absurd h2 (by simp)
 | some s=>
   have hpos:body.length≠0:=by intro h;rw[List.eq_nil_of_length_eq_zero h]at hlast;cases hlast
   have hs:body[body.length - 1]? =some s:=by rw[←hlast,List.getLast?_eq_getElem?]
   have hw1:IntKind.i64.wrap ((body.length:Int) - 1)=((body.length - 1:Nat):Int):=by simp[IntKind.wrap,IntKind.bits,IntKind.signed];omega
   have hb7:=hb6 s (List.mem_of_getElem? hs);have hse:=Qy hs;clear hb6 hlast;obtain⟨so,sc,sv,sn,⟨po,tn,tk⟩,sa,sb,sbs⟩:=s;simp only[St.do_,St.bounds]at hb7⊢;simp only[St.enc,Tm.enc,List.cons_append,List.nil_append]at hse;have hp1:¬((body.length:Int)=0):=by omega
   by_cases h6:so=6
   · match sbs,hb7 h6 with
     | b0::sb1,_=>
       clear hb7;subst h6;refine X4 Tryz.func128 ?_;simp only[Tryz.f128];simp only[aF,Fl.enc,List.map_cons,List.map_nil]at cb⊢;refine X2 ?_;refine X0<|X0<|X1 ?_;refine(Xb rfl (fun h2=>?_) fun h2=>?_)
       · exact absurd (by simpa using h2) hp1
       (try simp only[BN]at h2);refine X2 ?_;refine Xp [⟨true,.tup [li bs,li bo,li bt,li 0],none⟩] ?_ ?_
       · first|exact cb _|exact trivial|simpa[*]using cb _
       refine X2 ?_;exact Xf
   clear hb7;cases sbs with
   | nil=>
     refine X4 Tryz.func128 ?_;simp only[Tryz.f128];simp only[aF,Fl.enc,List.map_cons,List.map_nil]at cb⊢;refine X2 ?_;refine X0<|X0<|X1 ?_;refine(Xb rfl (fun h2=>?_) fun h2=>?_)
     · exact absurd (by simpa using h2) hp1
     (try simp only[BN]at h2);refine X2 ?_;refine Xp [⟨true,.tup [li bs,li bo,li bt,li 0],none⟩] ?_ ?_
     · first|exact cb _|exact trivial|simpa[*]using cb _
     refine X2 ?_;exact Xf
   | cons b0 sb1=>
     refine X4 Tryz.func128 ?_;simp only[Tryz.f128];simp only[aF,Fl.enc,List.map_cons,List.map_nil]at cb⊢;refine X2 ?_;refine X0<|X0<|X1 ?_;refine(Xb rfl (fun h2=>?_) fun h2=>?_)
     · exact absurd (by simpa using h2) hp1
     (try simp only[BN]at h2);refine X2 ?_;refine Xp [⟨true,.tup [li bs,li bo,li bt,li 0],none⟩] ?_ ?_
     · first|exact cb _|exact trivial|simpa[*]using cb _
     refine X2 ?_;exact Xf
end Go.Proofs.YtdajceakaakdoaaGreat

namespace Go.Proofs.YtdajceakaakdoaaGreat
open Go Go.Hl
theorem X4M (l:List St) (hn:Xs l≤1000000000) (d:Nat):Con Tryz.prog 129 true [lS l] (.tup [li (spL l (0,0)).1,lb (decide ((spL l (0,0)).1=(spL l (0,0)).2))]) none d:=by
 have cs:=Xaz l hn;obtain⟨p,hp⟩:∃x,spL l (0,0)=x:=⟨_,rfl⟩;rw[hp]at cs⊢;obtain⟨x,y⟩:=p;simp only at cs⊢;clear hp;refine X4 Tryz.func129 ?_;simp only[Tryz.f129];refine X2 ?_;refine Xp [⟨true,.tup [li x,li y],none⟩] ?_ ?_
 · first|exact cs _|exact trivial|simpa[*]using cs _
 refine X2 ?_;exact Xf
def cndQ (so x:Int) (ex:Bool) (y:Int) (ey:Bool) (po:Int):Bool:=(decide (so=3)&& !(ex&&(ey&&decide (x=y))))||(decide (so=4)&& !(ex&&decide (po=0)))
def cndP:St→Bool
 | .mk o _ _ _ (.mk po _ _) a b _=>cndQ o (spL a (0,0)).1 (decide ((spL a (0,0)).1=(spL a (0,0)).2)) (spL b (0,0)).1 (decide ((spL b (0,0)).1=(spL b (0,0)).2)) po
theorem tmP_drop (cnd:St→Bool) (e:Int) (st:List St) (k:Nat) (s:St) (h:st[k]? =some s):((st.zipIdx).drop k).flatMap (fun s=>if cnd s.1=true then [(⟨s.2,e,1⟩:Dp)] else [])=(if cnd s=true then [(⟨k,e,1⟩:Dp)] else [])++((st.zipIdx).drop (k+1)).flatMap (fun s=>if cnd s.1=true then [(⟨s.2,e,1⟩:Dp)] else []):=by
 have hz:st.zipIdx[k]? =some (s,k):=by simp[List.getElem?_zipIdx,h]
 obtain⟨p,h1,h2⟩:=Xr (show k<st.zipIdx.length by simpa using(List.getElem?_eq_some_iff.1 h).1);rw[hz]at h1;cases h1;rw[h2,List.flatMap_cons]
set_option maxHeartbeats 32000000 in
theorem Xag (vars:List Vr) (hats:List Ht) (body st:List St) (dp0:List Dp) (hv:vars.length≤100000) (hst:st.length≤100000) (hn:∀s∈st,Xs s.then_≤1000000000∧Xs s.else_≤1000000000)
  (cs:∀d,Con Tryz.prog 128 true [aF ⟨vars,hats,body⟩] (.v (lb (stlB ⟨vars,hats,body⟩))) none d):
  X0y Tryz.prog 67 none (pdF vars hats body st dp0) [.one (.at_ 1000001 0)] (fun _:Unit=>True) (fun _=>.tup []) (fun _=>pdF vars hats body st (XQ (if stlB ⟨vars,hats,body⟩=true then [] else tmP cndP ((st.length:Int)+vars.length) st) dp0)):=by
 obtain⟨sb,hsb⟩:∃x,stlB ⟨vars,hats,body⟩=x:=⟨_,rfl⟩;rw[hsb]at cs⊢;simp only[aF,Fl.enc,List.map_cons,List.map_nil]at cs;refine Qj Tryz.func67 rfl (by kernel_rfl) (Nat.le_of_ble_eq_true rfl) X9o (fun v h=>by cases h) ?_;simp only[Tryz.f67];cases sb with
 | true=>
   simp only[pdF];refine X0<|X0<|(Xm [⟨true,.v (lb true),none⟩] ?_ ?_)
   · first|exact cs _|exact trivial|simpa[*]using cs _
   refine(Xb rfl (fun h1=>?_) fun h1=>?_)
   · (try simp only[BN]at h1);exact Qf ⟨.inr rfl,(),trivial,_,le_refl _,⟨[],rfl,rfl⟩,fun n o h=>h⟩
   cases h1
 | false =>
   obtain⟨RES,hRES⟩:∃x,XQ (tmP cndP ((st.length:Int)+vars.length) st) dp0=x:=⟨_,rfl⟩;simp only[Bool.false_eq_true,if_false,hRES];unfold tmP at hRES;have cst:=X1T vars hats body st dp0 vars.length (by omega) (by omega) (by omega);simp only[pdF];refine X0<|X0<|(Xm [⟨true,.v (lb false),none⟩] ?_ ?_)
   · first|exact cs _|exact trivial|simpa[*]using cs _
   refine(Xb rfl (fun h1=>?_) fun h1=>?_)
   · cases h1
   (try simp only[BN]at h1);refine Xp [⟨true,.v (li ((st.length:Int)+vars.length)),none⟩] ?_ ?_
   · first|exact cst _|exact trivial|simpa[*]using cst _
   refine X2 ?_;refine X3<|(Xe [0,2,25,26] (fun(y:Nat×List Dp)=>[(27,.v (li y.1))]) (fun y=>[(900002,.mp (dpM y.2)),(1000001,.box [.c (.sl 5 (Xt vars)),.c (.sl 6 (Xx hats)),.c (.sl 10 (X7 body)),.c (.sl 10 (X7 st)),.own 900002])]) (fun y=>y.1≤st.length∧XQ (((st.zipIdx).drop y.1).flatMap fun s=>if cndP s.1=true then [(⟨s.2,(st.length:Int)+vars.length,1⟩:Dp)] else []) y.2=RES) (fun y=>st.length - y.1) (0,dp0) ⟨Nat.zero_le _,by simpa using hRES⟩ ?_ ?_)
   · exact X5 (fun n=>n) []
   rintro⟨i,dp⟩ ⟨hi,hD⟩;simp only[upS,X6,XL]
   try simp only[X6,KN,Nat.reduceBEq,if_true,if_false,ins,Nat.reduceLT]
   simp only at hi hD;clear hRES cs cst;refine X2 ?_;refine X0<|(X9 rfl (fun h7=>Xd ?_) (fun h7=>?_))
   · (try simp only[BN]at h7);have hlt:i<st.length:=by first|omega|simpa using h7
     have hw1:=XN hlt (by omega);have hi1:i+1≤st.length:=hlt;obtain⟨s,hs,_⟩:=Xr hlt;have hse:=Qy hs;rw[tmP_drop _ _ _ _ _ hs]at hD;obtain⟨n1,n2⟩:=hn s (List.mem_of_getElem? hs);obtain⟨so,sc,sv,sn,⟨po,tn,tk⟩,sa,sb,sbs⟩:=s;simp only[St.then_,St.else_]at n1 n2;have ca:=X4M sa n1;have cb:=X4M sb n2;simp only[St.enc,Tm.enc,List.cons_append,List.nil_append]at hse;have hcd:cndP (St.mk so sc sv sn (Tm.mk po tn tk) sa sb sbs)=cndQ so (spL sa (0,0)).1 (decide ((spL sa (0,0)).1=(spL sa (0,0)).2)) (spL sb (0,0)).1 (decide ((spL sb (0,0)).1=(spL sb (0,0)).2)) po:=by rw[cndP]
     obtain⟨cn,hcn⟩:∃c,cndP (St.mk so sc sv sn (Tm.mk po tn tk) sa sb sbs)=c:=⟨_,rfl⟩;rw[hcn]at hD;rw[hcd]at hcn;clear hcd;obtain⟨⟨x,x2⟩,hX⟩:∃z,spL sa (0,0)=z:=⟨_,rfl⟩;obtain⟨⟨y,y2⟩,hY⟩:∃z,spL sb (0,0)=z:=⟨_,rfl⟩;rw[hX]at ca hcn;rw[hY]at cb hcn;simp only at ca cb hcn;obtain⟨ex,hex⟩:∃e,decide (x=x2)=e:=⟨_,rfl⟩;obtain⟨ey,hey⟩:∃e,decide (y=y2)=e:=⟨_,rfl⟩;rw[hex]at ca hcn;rw[hey]at cb hcn;clear hX hY hex hey;unfold cndQ at hcn;clear hlt h7 hs;refine X0<|X3<|X0<|X1 ?_;refine Xp [⟨true,.tup [li x,lb ex],none⟩] ?_ ?_
     · first|exact ca _|exact trivial|simpa[*]using ca _
     refine Xp [⟨true,.tup [li y,lb ey],none⟩] ?_ ?_
     · first|exact cb _|exact trivial|simpa[*]using cb _
     refine Qe [0,2,3,25,26,27] (fun(q:Bool)=>[(73,.v (lb q))]) (fun(q:Bool)=>[(900002,.mp (dpM dp)),(1000001,.box [.c (.sl 5 (Xt vars)),.c (.sl 6 (Xx hats)),.c (.sl 10 (X7 body)),.c (.sl 10 (X7 st)),.own 900002])]) (fun(q:Bool)=>q=cn) ?_ ?_
     · clear ca cb hD hse;by_cases h3:so=3
       · subst h3;cases ex with
         |false=>(refine Xq (by simp;rfl) ?_;exact⟨true,by rw[←hcn];simp,Xy (fun n=>n) [] rfl (by simp[upS,X6]) (by simp[upS]) (by simp[upS])⟩)
         | true=>
           cases ey with
           |false=>(refine Xq (by simp;rfl) ?_;exact⟨true,by rw[←hcn];simp,Xy (fun n=>n) [] rfl (by simp[upS,X6]) (by simp[upS]) (by simp[upS])⟩)
           | true=>
             by_cases hxy:x=y
             · subst hxy
               (refine Xq (by simp;rfl) ?_;exact⟨false,by rw[←hcn];simp,Xy (fun n=>n) [] rfl (by simp[upS,X6]) (by simp[upS]) (by simp[upS])⟩)
             (refine Xq (by simp[hxy];rfl) ?_;exact⟨true,by rw[←hcn];simp[hxy],Xy (fun n=>n) [] rfl (by simp[upS,X6]) (by simp[upS]) (by simp[upS])⟩)
       by_cases h4:so=4
       · subst h4;cases ex with
         |false=>(refine Xq (by simp;rfl) ?_;exact⟨true,by rw[←hcn];simp,Xy (fun n=>n) [] rfl (by simp[upS,X6]) (by simp[upS]) (by simp[upS])⟩)
         | true=>
           by_cases ht:po=0
           · subst ht
             (refine Xq (by simp;rfl) ?_;exact⟨false,by rw[←hcn];simp,Xy (fun n=>n) [] rfl (by simp[upS,X6]) (by simp[upS]) (by simp[upS])⟩)
           (refine Xq (by simp[ht];rfl) ?_;exact⟨true,by rw[←hcn];simp[ht],Xy (fun n=>n) [] rfl (by simp[upS,X6]) (by simp[upS]) (by simp[upS])⟩)
       (refine Xq (by simp[h3,h4];rfl) ?_;exact⟨false,by rw[←hcn];simp[h3,h4],Xy (fun n=>n) [] rfl (by simp[upS,X6]) (by simp[upS]) (by simp[upS])⟩)
     rintro q hq;simp only[upS,X6,XL]
     try simp only[X6,KN,Nat.reduceBEq,if_true,if_false,ins,Nat.reduceLT]
     refine(Xb rfl (fun h12=>?_) fun h12=>?_)
     · (try simp only[BN]at h12);have hq1:cn=true:=by rw[←hq];simpa using h12
       rw[hq1,if_pos rfl]at hD;simp only[List.cons_append,List.nil_append,XQ]at hD;have cad:=X4L vars hats body st dp i ((st.length:Int)+vars.length) 1;simp only[pdF]at cad;clear h12 hq hq1 hcn ca cb hse;refine(XJ ?_);refine RunsN.cutE 3 [] (by simp;rfl) trivial (le_refl _) ?_;refine RunsN.callA (fun n=>n) (fun n=>if n=900002 then 900012 else n) cad fun _ _=>?_;refine RunsN.doneE [] rfl trivial ?_;refine XD (s':=⟨⟨79,none⟩,[(0,.v (.one (.at_ 1000001 0))),(2,.v (li ((st.length:Int)+vars.length))),(25,.v (.one (.c (.sl 10 (X7 st))))),(26,.v (li st.length)),(27,.v (li i))],[(900002,.mp (dpM (WE dp ⟨i,(st.length:Int)+vars.length,1⟩))),(1000001,.box [.c (.sl 5 (Xt vars)),.c (.sl 6 (Xx hats)),.c (.sl 10 (X7 body)),.c (.sl 10 (X7 st)),.own 900002])]⟩) (Xy (fun n=>if n=900002 then 900012 else n) [] rfl (by simp[Q7,QG,del,ins,CV.ren,Ob.ren]) (by simp[Q7,QG,del,ins,CV.ren,Ob.ren]) (by simp)) ?_;refine X1 ?_;exact⟨(i+1,WE dp ⟨i,(st.length:Int)+vars.length,1⟩),⟨hi1,hD⟩,by simp only;omega,X5 (fun n=>n) []⟩
     (try simp only[BN]at h12);have hq1:cn=false:=by rw[←hq];simpa using h12
     rw[hq1]at hD;simp only[Bool.false_eq_true,if_false,List.nil_append]at hD;clear h12 hq hq1 hcn ca cb hse;refine X1 ?_;exact⟨(i+1,dp),⟨hi1,hD⟩,by simp only;omega,X5 (fun n=>n) []⟩
   try simp only[BN]at h7
   have hil:i=st.length:=by
    have:¬i<st.length:=by first|omega|simpa using h7
    omega
   subst hil;rw[List.drop_eq_nil_of_le (by simp)]at hD;simp only[List.flatMap_nil,XQ]at hD;subst hD;refine(Xi ?_);exact⟨.inl rfl,(),trivial,_,le_refl _,⟨[],rfl,rfl⟩,fun n o h=>h⟩
end Go.Proofs.YtdajceakaakdoaaGreat

namespace Go.Proofs.YtdajceakaakdoaaGreat
open Go Go.Hl
theorem mem_flL {l:List St} {s:St} (h:s∈l):s∈flL l:=by
 induction l with
 |nil=>cases h
 | cons a l ih=>
   simp only[flL,List.mem_append];rcases List.mem_cons.1 h with rfl|h
   · left;obtain⟨o,c,v,n,t,a,b,bs⟩:=s;simp[flS]
   exact .inr (ih h)
structure PdOK (f:Fl):Prop where
 nd:∀x∈grN f.body,okN1 f.hats (flL f.body) x
 st:∀q∈flL f.body,meV q.term=tmV q.term∧q.term.nodes≤100000∧∀v∈tmV q.term,0≤v∧v≤1000000
 ht:∀h∈f.hats,meV h.term=tmV h.term∧h.term.nodes≤100000∧∀v∈tmV h.term,0≤v∧v≤1000000
 rl:∀r∈rcL (grN f.body) (flL f.body) f.vars.length,r.length≤100000∧∀d∈r,d≤1000000
 sz:∀s∈flL f.body,Xs s.then_≤1000000000∧Xs s.else_≤1000000000
theorem stl_b6 {f:Fl} (h0:Qg f=0):∀s∈f.body,s.do_=6→s.bounds≠[]:=by
 intro s hs h6;obtain⟨last,hsh⟩:=X25 f.body true (W4 h0).2.2.2.1 s (mem_flL hs);unfold shB at hsh;rw[h6]at hsh;simp only[Int.reduceEq,if_false,if_true,Bool.and_eq_true]at hsh;intro e;rw[e]at hsh;exact absurd hsh.2 (by decide)
theorem stld_con {f:Fl} (h:Sm f) (h0:Qg f=0) (d:Nat):Con Tryz.prog 128 true [aF f] (.v (lb (stlB f))) none d:=
 Xaw f (by have:=h.vars;omega) (by have:=h.hats;omega) (by have:=h.nodes;omega) h.bnd h0 (by have:=X4g f.body;have:=h.sz;omega) (stl_b6 h0) d
noncomputable def X2E (f:Fl):List Dp:=XQ (if stlB f=true then [] else tmP cndP (((flL f.body).length:Int)+f.vars.length) (flL f.body)) (XQ (X4E (flL f.body).length f.hats (flL f.body) (grN f.body) (rcL (grN f.body) (flL f.body) f.vars.length)) (XQ (ctL f.body (-1) 0) []))
theorem X29 (f:Fl):(X2E f).Nodup:=X03 _ _ (X03 _ _ (X03 _ _ List.nodup_nil))
end Go.Proofs.YtdajceakaakdoaaGreat

namespace Go.Proofs.YtdajceakaakdoaaGreat
open Go Go.Hl
noncomputable def bdR (f:Fl):RV:=.tup [.agg (if Qg f=0 then [.c (iC (flL f.body).length),.c (iC f.vars.length),.c (.sl 3 (XV (Wr (X2E f))))] else [.c (iC 0),.c (iC 0),.c (.lit XO)]),li (Qg f)]
theorem get_dpM {l:List Dp} {j:Nat} {k:Value} {v:CD} (h:(dpM l)[j]? =some (k,v)):∃x,l[j]? =some x∧k=d3V x.d3∧v=.lit (.bool true):=by
 unfold dpM d3M at h;simp only[List.getElem?_map]at h;cases hx:l[j]? with
 |none=>rw[hx]at h;cases h
 |some x=>rw[hx]at h;cases h;exact⟨x,rfl,rfl,rfl⟩
theorem XaZ {t:List Dp} (hnd:t.Nodup) {i j:Nat} {x:Dp} (hi:t[i]? =some x) (hj:t[j]? =some x):j=i:=by
 obtain⟨h1,h2⟩:=List.getElem?_eq_some_iff.1 hi;obtain⟨h3,h4⟩:=List.getElem?_eq_some_iff.1 hj;rcases Nat.lt_trichotomy i j with h|h|h
 · exact absurd (h2.trans h4.symm) (List.pairwise_iff_getElem.1 hnd i j h1 h3 h)
 · exact h.symm
 exact absurd (h4.trans h2.symm) (List.pairwise_iff_getElem.1 hnd j i h3 h1 h)
theorem X4Q (g:FuncId) (d:Nat):Con Tryz.prog 58 true [.one (.c (.sl 3 [])),.one (.fn g [])] (.tup []) none d:=by
 refine⟨by kernel_rfl,fun F w vs hF hsz hargs=>?_⟩;obtain⟨l⟩:=vs
 match l,hsz with
 | [v0,v1],_=>
   have a0:CRel F w (.sl 3 []) v0:=hargs 0 _ v0 rfl rfl
   have key:∃p cap,v0=.slice p 0 cap:=by
    cases a0 with
    |nil=>exact⟨_,_,rfl⟩
    |emp a cap=>exact⟨_,_,rfl⟩
    |sl rows b o cap cells=>exact⟨_,_,rfl⟩
   obtain⟨p,cap,rfl⟩:=key;have a1:Xk F noγ w (.fn g []) v1:=hargs 1 _ v1 rfl rfl;obtain⟨us,rfl,hl,_⟩:=a1;have hus':us=[]:=List.eq_nil_of_length_eq_zero hl;subst hus';refine(X6O p cap g w).mono ?_;rintro e w' ⟨rfl,rfl⟩;exact⟨_,fun _=>False,noγ,rfl,⟨rfl,rfl,rfl,Nat.le_refl _,fun _ _=>rfl⟩,fun b hb=>hb.elim,⟨#[],rfl,rfl,fun j t u h1 h2=>by simp at h1⟩,fun o ho=>by cases ho⟩
set_option maxHeartbeats 32000000 in
theorem X91 (f:Fl) (h:Sm f) (hok:Qg f=0→PdOK f∧(X2E f).length≤20000000) (d:Nat):Con Tryz.prog 23 false [aF f] (bdR f) none d:=by
 have cc:=X0O f (by have:=h.vars;omega) (by have:=h.hats;omega) (by have:=h.nodes;omega) h.bnd;have cb:=X6c f h;unfold bdR;by_cases h0:Qg f=0
 · have cr:=X6M f h h0;obtain⟨⟨hnd,hst,hht,hrl,hsz⟩,hDl⟩:=hok h0;have cst:=stld_con h h0;have hlen:=h.sz;have hfl:=Q6 f.body;have cl:=XaC f.vars f.hats f.body f.body (-1) [] [] (by simp only[List.length_nil];omega);have cd:=XaD f.vars f.hats f.body (flL f.body) (grN f.body) (rcL (grN f.body) (flL f.body) f.vars.length) (XQ (ctL f.body (-1) 0) []) (by omega) (by have:=X0N (X0x h0);have:=X3d f.body;omega) (X6d _ _ _) hrl hnd hst hht;have ct:=Xag f.vars f.hats f.body (flL f.body) (XQ (X4E (flL f.body).length f.hats (flL f.body) (grN f.body) (rcL (grN f.body) (flL f.body) f.vars.length)) (XQ (ctL f.body (-1) 0) [])) (by have:=h.vars;omega) (by omega) hsz cst;have hD:X2E f=XQ (if stlB f=true then [] else tmP cndP (((flL f.body).length:Int)+f.vars.length) (flL f.body)) (XQ (X4E (flL f.body).length f.hats (flL f.body) (grN f.body) (rcL (grN f.body) (flL f.body) f.vars.length)) (XQ (ctL f.body (-1) 0) [])):=rfl;have hDn:=X29 f;rw[←hD]at ct;rw[h0]at cc cb⊢;simp only[if_true,List.nil_append,List.length_nil]at cb cl⊢;have hv1:=h.vars;clear h hok h0 cst hnd hst hht hrl hsz hD;obtain⟨D,hD⟩:∃x,X2E f=x:=⟨_,rfl⟩;rw[hD]at ct hDn hDl⊢;clear hD;obtain⟨D1,hD1⟩:∃x,XQ (ctL f.body (-1) 0) []=x:=⟨_,rfl⟩;rw[hD1]at cl cd ct;clear hD1;obtain⟨D2,hD2⟩:∃x,XQ (X4E (flL f.body).length f.hats (flL f.body) (grN f.body) (rcL (grN f.body) (flL f.body) f.vars.length)) D1=x:=⟨_,rfl⟩;rw[hD2]at cd ct;clear hD2;obtain⟨RR,hRR⟩:∃x,rcL (grN f.body) (flL f.body) f.vars.length=x:=⟨_,rfl⟩;rw[hRR]at cd cr;clear hRR;obtain⟨vars,hats,body⟩:=f;simp only[aF,Fl.enc,List.map_cons,List.map_nil,grC]at cc cb cr cl cd ct hv1 hlen hfl⊢;obtain⟨G,hG⟩:∃x,grN body=x:=⟨_,rfl⟩;rw[hG]at cb cr cd;clear hG;obtain⟨Q,hQ⟩:∃x,flL body=x:=⟨_,rfl⟩;rw[hQ]at cl cd ct hfl⊢;clear hQ;have hQl:Q.length≤1000:=by omega
   clear hlen hfl;have dp0:dpM []=[]:=rfl;have es0:X7 []=[]:=rfl;simp only[pdO,pdF,dp0,es0]at cl cd ct;refine X4 Tryz.func23 ?_;simp only[Tryz.f23];refine X2 ?_;refine X0<|X0<|(Xm [⟨true,.v (li 0),none⟩] ?_ ?_)
   · first|exact cc _|exact trivial|simpa[*]using cc _
   refine X2 ?_;refine(Xb rfl (fun h3=>?_) fun h3=>?_)
   · exact absurd h3 (by simp)
   (try simp only[BN]at h3);refine Xp [⟨false,.tup [.agg [.c (.sl 4 (Qc G))],li 0],none⟩] ?_ ?_
   · first|exact cb _|exact trivial|simpa[*]using cb _
   refine X0<|X0<|X1 ?_;refine(Xb rfl (fun h8=>?_) fun h8=>?_)
   · exact absurd h8 (by simp)
   (try simp only[BN]at h8);refine Xp [⟨false,.tup [.one (.c (.sl 1 (WH RR))),li 0],none⟩] ?_ ?_
   · first|exact cr _|exact trivial|simpa[*]using cr _
   refine X0<|X0<|X1 ?_;refine(Xb rfl (fun h13=>?_) fun h13=>?_)
   · exact absurd h13 (by simp)
   (try simp only[BN]at h13);refine X2 ?_;refine XD (s':=⟨⟨78,none⟩,[(1,.v (.one (.at_ 1 0))),(2,.v (.one (.at_ 2 0))),(5,.v (.one (.at_ 5 0))),(7,.v (.one (.c (.sl 1 (WH RR))))),(8,.v (.one (.at_ 39 0)))],[(1,.box [.c (.sl 5 (Xt vars)),.c (.sl 6 (Xx hats)),.c (.sl 10 (X7 body))]),(2,.box [.c (iC 0),.c (iC 0),.c (.lit XO)]),(5,.box [.c (.sl 4 (Qc G))]),(39,.box [.c (.sl 5 (Xt vars)),.c (.sl 6 (Xx hats)),.c (.sl 10 (X7 body)),.own 900001,.own 900002]),(900001,.row 70 10 []),(900002,.mp [])]⟩) (Xy (fun n=>if n=900002 then 37 else n) [900001] rfl (by simp[upS,X6]) (by simp[upS,XO]) (by simp[upS])) ?_;refine X0<|(XJ ?_);refine RunsN.cutE 3 [] (by simp;rfl) trivial (le_refl _) ?_;refine RunsN.callA (fun n=>if n=1000001 then 39 else n) (fun n=>if n=1000001 then 39 else if n=900001 then 900011 else if n=900002 then 900012 else n) cl fun _ _=>?_;refine RunsN.doneE [] rfl trivial ?_;refine XD (s':=⟨⟨78,none⟩,[(1,.v (.one (.at_ 1 0))),(2,.v (.one (.at_ 2 0))),(5,.v (.one (.at_ 5 0))),(7,.v (.one (.c (.sl 1 (WH RR))))),(8,.v (.one (.at_ 39 0)))],[(1,.box [.c (.sl 5 (Xt vars)),.c (.sl 6 (Xx hats)),.c (.sl 10 (X7 body))]),(2,.box [.c (iC 0),.c (iC 0),.c (.lit XO)]),(5,.box [.c (.sl 4 (Qc G))]),(39,.box [.c (.sl 5 (Xt vars)),.c (.sl 6 (Xx hats)),.c (.sl 10 (X7 body)),.own 900001,.own 900002]),(900001,.row 70 10 (X7 Q)),(900002,.mp (dpM D1))]⟩) (Xy (fun n=>if n=900001 then 900011 else if n=900002 then 900012 else n) [] rfl (by simp[upS,X6,Q7,QG,del,ins,CV.ren,Ob.ren]) (by simp[upS,X6,Q7,QG,del,ins,CV.ren,Ob.ren]) (by simp[upS])) ?_;refine XD (Qr 900001 rfl) ?_;refine X0<|(XJ ?_);refine RunsN.cutE 3 [] (by simp;rfl) trivial (le_refl _) ?_;refine RunsN.callA (fun n=>if n=1000001 then 39 else n) (fun n=>if n=1000001 then 39 else if n=900002 then 900012 else n) cd fun _ _=>?_;refine RunsN.doneE [] rfl trivial ?_;refine XD (s':=⟨⟨78,none⟩,[(1,.v (.one (.at_ 1 0))),(2,.v (.one (.at_ 2 0))),(8,.v (.one (.at_ 39 0)))],[(1,.box [.c (.sl 5 (Xt vars)),.c (.sl 6 (Xx hats)),.c (.sl 10 (X7 body))]),(2,.box [.c (iC 0),.c (iC 0),.c (.lit XO)]),(39,.box [.c (.sl 5 (Xt vars)),.c (.sl 6 (Xx hats)),.c (.sl 10 (X7 body)),.c (.sl 10 (X7 Q)),.own 900002]),(900002,.mp (dpM D2))]⟩) (Xy (fun n=>if n=900002 then 900012 else n) [] rfl (by simp[upS,X6,Q7,QG,del,ins,CV.ren,Ob.ren]) (by simp[upS,X6,Q7,QG,del,ins,CV.ren,Ob.ren]) (by simp[upS])) ?_;refine X0<|(XJ ?_);refine RunsN.cutE 1 [] (by simp;rfl) trivial (le_refl _) ?_;refine RunsN.callA (fun n=>if n=1000001 then 39 else n) (fun n=>if n=1000001 then 39 else if n=900002 then 900012 else n) ct fun _ _=>?_;refine RunsN.doneE [] rfl trivial ?_;refine XD (s':=⟨⟨78,none⟩,[(1,.v (.one (.at_ 1 0))),(2,.v (.one (.at_ 2 0))),(8,.v (.one (.at_ 39 0)))],[(1,.box [.c (.sl 5 (Xt vars)),.c (.sl 6 (Xx hats)),.c (.sl 10 (X7 body))]),(2,.box [.c (iC 0),.c (iC 0),.c (.lit XO)]),(39,.box [.c (.sl 5 (Xt vars)),.c (.sl 6 (Xx hats)),.c (.sl 10 (X7 body)),.c (.sl 10 (X7 Q)),.own 900002]),(900002,.mp (dpM D))]⟩) (Xy (fun n=>if n=900002 then 900012 else n) [] rfl (by simp[upS,X6,Q7,QG,del,ins,CV.ren,Ob.ren]) (by simp[upS,X6,Q7,QG,del,ins,CV.ren,Ob.ren]) (by simp[upS])) ?_;refine XD (le_frzP 900002 rfl) ?_;refine X0<|(QH (by kernel_rfl) (by kernel_rfl) (by rfl) (by simp[*];rfl) ?_);refine X0<|X0<|X1 ?_;refine X3<|(Xe [2,9,63] (fun(y:List Nat×List Dp)=>[(2,.v (.one (.at_ 2 0))),(9,.v (.one (.at_ 9 0)))]) (fun y=>[(2,.box [.c (iC 0),.c (iC 0),.c (.lit XO)]),(9,.box [.c (iC Q.length),.c (iC vars.length),.own 1003]),(63,.it (dpM D) y.1),(1003,.row 51 3 (XV y.2))]) (fun y=>y.1.Nodup∧X35 y.1 D.length∧(∀d,d∈y.2↔∃j∈y.1,D[j]? =some d)∧y.2.Nodup∧y.2.length≤y.1.length) (fun y=>D.length - y.1.length) ([],[]) ⟨List.nodup_nil,by simp[X35],by simp,List.nodup_nil,Nat.le_refl _⟩ ?_ ?_)
   · exact X5 (fun n=>n) [1003]
   rintro⟨seen,out⟩ ⟨j1,j2,j3,j4,j5⟩;simp only[upS,X6,XL]
   try simp only[X6,KN,Nat.reduceBEq,if_true,if_false,ins,Nat.reduceLT]
   simp only at j1 j2 j3 j4 j5;refine X4I (fun j k v hj hn=>?_) (fun hall=>?_)
   skip
   · (try simp only[BN]at h24);obtain⟨x,hd,rfl,rfl⟩:=get_dpM hj;have hjl:j<D.length:=(List.getElem?_eq_some_iff.1 hd).1
     have hnd2:(seen++[j]).Nodup:=by
      rw[List.nodup_append];exact⟨j1,by simp,fun a ha b hb=>by rw[List.mem_singleton.1 hb];exact fun e=>hn (e▸ha)⟩
     have hin:X35 (seen++[j]) D.length:=fun i hi=>by
      rcases List.mem_append.1 hi with h|h
      · exact j2 i h
      rw[List.mem_singleton.1 h];exact hjl
     have hnew:(out++[x]).Nodup:=by
      rw[List.nodup_append];refine⟨j4,by simp,fun a ha b hb=>?_⟩;rw[List.mem_singleton.1 hb];rintro rfl;obtain⟨i,hi,he⟩:=(j3 a).1 ha;exact hn (XaZ hDn hd he▸hi)
     have hmem:∀y,y∈out++[x]↔∃i∈seen++[j],D[i]? =some y:=by
      intro y;rw[List.mem_append,j3,List.mem_singleton];constructor
      · rintro(⟨i,h1,h2⟩|rfl)
        · exact⟨i,List.mem_append_left _ h1,h2⟩
        exact⟨j,by simp,hd⟩
      rintro⟨i,h1,h2⟩;rcases List.mem_append.1 h1 with h1|h1
      · exact .inl ⟨i,h1,h2⟩
      rw[List.mem_singleton.1 h1,hd]at h2;exact .inr (Option.some.inj h2).symm
     have hap:XV (out++[x])=XV out++[[CD.lit (.int .i64 x.d3.1),CD.lit (.int .i64 x.d3.2.1),CD.lit (.int .i64 x.d3.2.2)]]:=by rw[Xa8];rfl
     have hsn:XV [x]=[[iC x.f,iC x.t,iC x.k]]:=rfl;have hle:=Wb hnd2 hin;simp only[List.length_append,List.length_singleton]at hle;have hroom:QV (out.length+1) 24:=⟨by unfold maxLen;omega,by omega⟩;clear hjl;refine X3<|X0<|(XJ ?_);refine RunsN.cutE 2 [] (by simp[*];rfl) trivial (le_d3 67 x.d3 rfl) ?_;refine RunsN.doneE [] (by simp[d3C];rfl) trivial ?_;refine X1 ?_;exact⟨(seen++[j],out++[x]),⟨hnd2,hin,hmem,hnew,by simp only[List.length_append,List.length_singleton];omega⟩,by simp only[List.length_append,List.length_singleton];omega,X5 (fun n=>if n=1003 then 72 else n) []⟩
   try simp only[BN]at h24
   have hout:∀d,d∈out↔d∈D:=by
    intro d;rw[j3];constructor
    · rintro⟨i,_,h⟩;exact List.mem_of_getElem? h
    intro h;obtain⟨i,hi⟩:=List.mem_iff_getElem?.1 h;exact⟨i,hall i (by rw[len_dpM];exact(List.getElem?_eq_some_iff.1 hi).1),hi⟩
   have hfin:Wr out=Wr D:=X3Q hout;have hsl:=Wb j1 j2;obtain⟨res,hres⟩:∃y,Wr D=y:=⟨_,rfl⟩;rw[hres]at hfin⊢;clear hall j1 j2 j3 hout hres;refine(Xi ?_);rcases out with _|⟨a0,o⟩
   · refine XD (Qr 1003 rfl) ?_;have hr0:res=[]:=by rw[←hfin];simp[Wr,XQ]
     subst hr0;refine Xp [⟨true,.tup [],none⟩] ?_ ?_
     · first|exact X4Q _ _|exact trivial|simpa[*]using X4Q _ _
     refine X2 ?_;exact Xf
   have cs:=Xam (a0::o) j4 (by simp) (by omega);rw[hfin]at cs;refine X0<|(XJ ?_);refine RunsN.cutE 2 [] (by simp;rfl) trivial (le_refl _) ?_;refine RunsN.rowG (by simp[rowGP,X1V];exact⟨rfl,rfl⟩) cs ?_;refine RunsN.doneE [] rfl trivial ?_;refine XD (Qr 1003 rfl) ?_;refine X2 ?_;exact Xf
 rw[if_neg h0];obtain⟨C,hC⟩:∃x,Qg f=x:=⟨_,rfl⟩;rw[hC]at cc h0⊢;clear cb h hok hC;obtain⟨vars,hats,body⟩:=f;simp only[aF,Fl.enc,List.map_cons,List.map_nil]at cc⊢;refine X4 Tryz.func23 ?_;simp only[Tryz.f23];refine X2 ?_;refine X0<|X0<|(Xm [⟨true,.v (li C),none⟩] ?_ ?_)
 · first|exact cc _|exact trivial|simpa[*]using cc _
 refine X2 ?_;refine(Xb rfl (fun h3=>?_) fun h3=>?_)
 · (try simp only[BN]at h3);refine X2 ?_;exact Xf
 exact absurd (by simpa using h3) h0
end Go.Proofs.YtdajceakaakdoaaGreat

namespace Go.Proofs.YtdajceakaakdoaaGreat
open Go Go.Hl
theorem rc_rl {f:Fl} (h:Sm f):∀r∈rcL (grN f.body) (flL f.body) f.vars.length,r.length≤100000∧∀d∈r,d≤1000000:=by
 have hs:=h.sz;have hv:=h.vars;have hl:=Q6 f.body;intro r hr;unfold rcL at hr;obtain⟨i,_,rfl⟩:=List.mem_map.1 hr;refine⟨Nat.le_trans (List.length_filter_le _ _) (by simp;omega),fun d hd=>?_⟩;have:=(List.mem_filter.1 hd).1;have:=List.mem_range.1 this;omega
end Go.Proofs.YtdajceakaakdoaaGreat

namespace Go.Proofs.YtdajceakaakdoaaGreat
open Go Go.Hl
mutual
theorem X6h {vars:List Vr} {inp:Bool}:∀t:Tm,Wq vars inp t=true→∀v∈tmV t,0≤v∧v<vars.length
 | .mk o n ks,h,v,hv=>by
   simp only[Wq,Bool.and_eq_true]at h;simp only[tmV,List.mem_append]at hv;rcases hv with hv|hv
   · split at hv
     · rename_i h24;rw[List.mem_singleton.1 hv];subst h24;have h1:=h.1;unfold QT at h1;simp only[Bool.and_eq_true,show ¬(24:Int)=0 by decide,if_false,if_true]at h1;have h2:=h1.2;unfold X3k at h2;simp only[Bool.and_eq_true,decide_eq_true_eq]at h2;refine⟨h2.1,?_⟩;cases hx:vars[n.toNat]? with
       |none=>rw[hx]at h2;exact absurd h2.2 (by simp)
       |some x=>have:=(List.getElem?_eq_some_iff.1 hx).1;omega
     cases hv
   exact X9E ks h.2 v hv
theorem X9E {vars:List Vr} {inp:Bool}:∀l:List Tm,Zj vars inp l=true→∀v∈X3q l,0≤v∧v<vars.length
 |[],_,v,hv=>by simp[X3q]at hv
 | t::l,h,v,hv=>by
   simp only[Zj,Bool.and_eq_true]at h;simp only[X3q,List.mem_append]at hv;rcases hv with hv|hv
   · exact X6h t h.1 v hv
   exact X9E l h.2 v hv
end
theorem X1i {vars:List Vr} {nh:Nat}:∀(l:List St) (top:Bool),ssC vars nh l top=0→∀q∈flL l,Wq vars false q.term=true
 |[],_,_,q,hq=>by simp[flL]at hq
 | .mk d c v n t a b bs::l,top,h,q,hq=>by
   have hs:Wq vars false t=true:=by
    simp only[ssC]at h;split at h
    · rename_i h0;unfold stC at h0;split at h0
      · cases h0
      split at h0
      · cases h0
      exact X20 h0
    rename_i h0;exact absurd h h0
   have hr:ssC vars nh a false=0∧ssC vars nh b false=0∧ssC vars nh l top=0:=by
    simp only[ssC]at h;split at h
    · split at h
      · split at h
        · rename_i ha hb;exact⟨ha,hb,h⟩
        rename_i hb;exact absurd h hb
      rename_i ha;exact absurd h ha
    rename_i h0;exact absurd h h0
   simp only[flL,flS,List.cons_append,List.mem_cons,List.mem_append]at hq;rcases hq with rfl|(hq|hq)|hq
   · exact hs
   · exact X1i a false hr.1 q hq
   · exact X1i b false hr.2.1 q hq
   exact X1i l top hr.2.2 q hq
theorem X0Z:∀(l:List St),∀q∈flL l,q.term.nodes+Xs q.then_+Xs q.else_≤Xs l
 |[],q,hq=>by simp[flL]at hq
 | .mk d c v n t a b bs::l,q,hq=>by
   simp only[flL,flS,List.cons_append,List.mem_cons,List.mem_append]at hq;simp only[Xs,St.nodes];rcases hq with rfl|(hq|hq)|hq
   · simp only[St.term,St.then_,St.else_];omega
   · have:=X0Z a q hq;omega
   · have:=X0Z b q hq;omega
   have:=X0Z l q hq;omega
theorem sh_hat' {vars:List Vr} {nh:Nat} {q:St} {last:Bool} (h:shB vars nh q.do_ q.var q.n q.term q.then_.length q.else_.length q.bounds last=true) (h5:q.do_=5):0≤q.n∧q.n<nh:=by
 unfold shB at h;rw[h5]at h;simp only[show ¬(5:Int)=0 by decide,show ¬(5:Int)=1 by decide,show ¬(5:Int)=2 by decide,show ¬(5:Int)=3 by decide,show ¬(5:Int)=4 by decide,if_false,if_true,Bool.and_eq_true,decide_eq_true_eq]at h;exact⟨h.1.1.1.2,h.1.1.2⟩
theorem pd_ok {f:Fl} (h:Sm f) (h0:Qg f=0):PdOK f:=by
 have hc:=W4 h0;have hs:=h.sz;have hv:=h.vars;have hn:=h.nodes;have hsh:=X25 f.body true hc.2.2.2.1;have hfm:=X1i f.body true hc.2.2.2.1;refine⟨fun x hx=>⟨?_,fun a q ha hq h5=>?_⟩,fun q hq=>?_,fun q hq=>?_,rc_rl h,fun q hq=>?_⟩
 · rcases(X6Y (X0x h0) x hx).ha with h1|⟨t,h1,h2⟩
   · exact .inl (by omega)
   exact .inr ⟨t,h1,by rw[Q6];exact h2⟩
 · obtain⟨last,h1⟩:=hsh q (List.mem_of_getElem? hq);have:=sh_hat' h1 h5;omega
 · have h1:=X0Z f.body q hq;exact⟨X6B q.term (hfm q hq),by omega,fun v hv=>by have:=X6h q.term (hfm q hq) v hv;omega⟩
 · have h1:=X2W f.hats [] hc.2.2.1 q hq;have h2:=X56 hq;exact⟨X6B q.term h1,by omega,fun v hv=>by have:=X6h q.term h1 v hv;omega⟩
 have h1:=X0Z f.body q hq;omega
def okDp (N:Int) (e:Dp):Prop:=(0≤e.f∧e.f≤N)∧(0≤e.t∧e.t≤N)∧(e.k=0∨e.k=1∨e.k=2)
theorem ctL_rng {N:Int}:∀l:List St,∀(c:Int) (p:Nat),c<N→(p:Int)+szL l≤N→∀e∈ctL l c p,okDp N e:=by
 apply St.lind
 · intro c p _ _ e he;simp[ctL]at he
 intro o c' w q t a b bs l ia ib il c p hc hp e he;simp only[szL,szS]at hp;simp only[ctL,List.mem_append]at he;rcases he with he|he|he|he|he
 · unfold ctE at he;split at he
   · rw[List.mem_singleton.1 he];exact⟨⟨by assumption,by simp only;omega⟩,⟨by simp only;omega,by simp only;omega⟩,.inr (.inl rfl)⟩
   cases he
 · split at he
   · rw[List.mem_singleton.1 he];exact⟨⟨by simp only;omega,by simp only;omega⟩,⟨by simp only;omega,by simp only;omega⟩,.inr (.inl rfl)⟩
   cases he
 · exact ia p (p+1) (by omega) (by omega) e he
 · exact ib p (p+1+szL a) (by omega) (by omega) e he
 exact il c _ hc (by omega) e he
theorem Xa4 {f:Fl} (h:Sm f) (h0:Qg f=0):∀e∈X2E f,okDp (((flL f.body).length:Int)+f.vars.length) e:=by
 have hc:=W4 h0;have hfm:=X1i f.body true hc.2.2.2.1;have hhm:=X2W f.hats [] hc.2.2.1;have hl:=Q6 f.body;intro e he;unfold X2E at he;rw[Zd,Zd,Zd]at he;rcases he with(((he|he)|he)|he)
 · cases he
 · exact ctL_rng f.body (-1) 0 (by omega) (by omega) e he
 · unfold X4E at he;obtain⟨⟨x,r⟩,hp,he⟩:=List.mem_flatMap.1 he;obtain⟨n,hx,hr⟩:=X4h.1 hp;simp only at hx hr he;unfold X2o at he;split at he
   · cases he
   rename_i hxa;split at he
   · rename_i s hs;have ha:=(List.getElem?_eq_some_iff.1 hs).1;split at he
     · split at he
       · rename_i hh hhe;obtain⟨v,hv,rfl⟩:=X6J.1 he;have:=X6h _ (hhm hh (List.mem_of_getElem? hhe)) v hv;exact⟨⟨by simp only;omega,by simp only;omega⟩,⟨by simp only;omega,by simp only;omega⟩,.inr (.inr rfl)⟩
       cases he
     obtain⟨v,hv,he⟩:=List.mem_flatMap.1 he;obtain⟨d,hd,rfl⟩:=List.mem_map.1 he;have hd:=(List.mem_filter.1 hd).1;unfold rcL at hr;obtain⟨k,hk1,hk2⟩:=List.mem_map.1 (List.mem_of_getElem? hr);rw[←hk2]at hd;have:=List.mem_range.1 (List.mem_filter.1 hd).1;exact⟨⟨by simp only;omega,by simp only;omega⟩,⟨by simp only;omega,by simp only;omega⟩,.inl rfl⟩
   cases he
 split at he
 · cases he
 obtain⟨i,s,hs,_,rfl⟩:=(tmP_mem _ _ _ _).1 he;have ha:=(List.getElem?_eq_some_iff.1 hs).1;exact⟨⟨by simp only;omega,by simp only;omega⟩,⟨by simp only;omega,by simp only;omega⟩,.inr (.inl rfl)⟩
theorem dp_few {N:Nat} {l:List Dp} (hn:l.Nodup) (h:∀e∈l,okDp N e):l.length≤(N+1)*(N+1)*3:=by
 have h1:Nb ((N+1)*(N+1)*3) (l.map fun e=>(e.f.toNat*(N+1)+e.t.toNat)*3+e.k.toNat):=by
  refine⟨?_,?_⟩
  · rw[List.nodup_iff_pairwise_ne,List.pairwise_map];refine List.Pairwise.imp_of_mem ?_ (List.nodup_iff_pairwise_ne.1 hn);intro a b ha hb hab e;obtain⟨⟨a1,a2⟩,⟨a3,a4⟩,a5⟩:=h a ha;obtain⟨⟨b1,b2⟩,⟨b3,b4⟩,b5⟩:=h b hb;apply hab;have e1:a.k.toNat=b.k.toNat:=by omega
    have e2:a.f.toNat*(N+1)+a.t.toNat=b.f.toNat*(N+1)+b.t.toNat:=by omega
    have e3:a.t.toNat=b.t.toNat:=by
     have:=congrArg (· %(N+1)) e2;simp only[Nat.mul_add_mod_self_right]at this
     rwa [Nat.mod_eq_of_lt (by omega),Nat.mod_eq_of_lt (by omega)]at this
    have e4:a.f.toNat=b.f.toNat:=Nat.eq_of_mul_eq_mul_right (show 0<N+1 by omega) (by omega);obtain⟨af,at_,ak⟩:=a;obtain⟨bf,bt,bk⟩:=b;simp only at*;have:af=bf:=by omega
    have:at_=bt:=by omega
    have:ak=bk:=by omega
    subst_vars
    rfl
  intro d hd;obtain⟨e,he,rfl⟩:=List.mem_map.1 hd;obtain⟨⟨a1,a2⟩,⟨a3,a4⟩,a5⟩:=h e he;have h3:e.f.toNat*(N+1)≤N*(N+1):=Nat.mul_le_mul_right _ (by omega);have h4:(N+1)*(N+1)=N*(N+1)+(N+1):=Nat.succ_mul ..;omega
 have:=h1.len
 rwa [List.length_map]at this
theorem Xa2 {f:Fl} (h:Sm f) (h0:Qg f=0):(X2E f).length≤20000000:=by
 have h1:=dp_few (N:=(flL f.body).length+f.vars.length) (X29 f) (by have:=Xa4 h h0;simpa using this);have hs:=h.sz;have hv:=h.vars;have hl:=Q6 f.body;have h2:((flL f.body).length+f.vars.length+1)*((flL f.body).length+f.vars.length+1)≤2001*2001:=Nat.mul_le_mul (by omega) (by omega);omega
theorem X3W (f:Fl) (h:Sm f) (d:Nat):Con Tryz.prog 23 false [aF f] (bdR f) none d:=X91 f h (fun h0=>⟨pd_ok h h0,Xa2 h h0⟩) d
end Go.Proofs.YtdajceakaakdoaaGreat

namespace Go.Proofs.YtdajceakaakdoaaGreat
open Go Go.Hl
section
variable {N:List Nd} {steps:List St} {vars:List Vr} {nh:Nat} {hv hw:List Int} {K:Nat→Bool} {ar:List Int} {kO:Nat→Bool} {nd:Nat→Bool}
structure Need (N:List Nd) (steps:List St) (nv:Nat) (K nd:Nat→Bool) (hv hw:List Int):Prop where
 ent:∀(o:Nat) q,K o=true→steps[o]? =some q→∀(k:Nat) (x:Nd),N[k]? =some x→x.k≠4→x.a=(o:Int)→∀d,Rc N steps nv k d→Qb steps d∈tmV q.term→steps.length≤d→nd (d - steps.length)=true
 hat:∀(o:Nat) q,K o=true→steps[o]? =some q→q.do_=5→(hv[q.n.toNat]?).getD 0=(hw[q.n.toNat]?).getD 0
def R2 (K nd:Nat→Bool) (n nv:Nat) (x y:Sta×(Nat→Nat)):Prop:=
 x.1.outs=y.1.outs∧x.1.vals.length=nv∧y.1.vals.length=nv∧∀v,v<nv→(K (x.2 v)=true∨n≤x.2 v)→(K (y.2 v)=true∨n≤y.2 v)→x.2 v=y.2 v∧((K (x.2 v)=true∨nd v=true)→x.1.vals[v]? =y.1.vals[v]?)
end
end Go.Proofs.YtdajceakaakdoaaGreat

namespace Go.Proofs.YtdajceakaakdoaaGreat
open Go Go.Hl
section
variable {vars:List Vr} {hv:List Int}
end
end Go.Proofs.YtdajceakaakdoaaGreat

namespace Go.Proofs.YtdajceakaakdoaaGreat
open Go Go.Hl
end Go.Proofs.YtdajceakaakdoaaGreat

namespace Go.Proofs.YtdajceakaakdoaaGreat
open Go Go.Hl
inductive Cz (P:List (Int×Int)) (R:Int→Prop):Int→Prop
 |base {n:Int}:R n→Cz P R n
 |step {a b:Int}:(a,b)∈P→Cz P R a→Cz P R b
def prs (back rel:Bool) (E:List Dp):List (Int×Int):=(E.filter fun x=>rel||decide (x.k≠2)).map fun x=>if back=true then(x.t,x.f)else(x.f,x.t)
theorem X0G {back rel:Bool} {E:List Dp} {p:Int×Int}:p∈prs back rel E↔∃x∈E,(rel=true∨x.k≠2)∧p=if back=true then(x.t,x.f)else(x.f,x.t):=by
 unfold prs;simp only[List.mem_map,List.mem_filter,Bool.or_eq_true,decide_eq_true_eq];constructor
 · rintro⟨x,⟨h1,h2⟩,rfl⟩;exact⟨x,h1,h2,rfl⟩
 rintro⟨x,h1,h2,rfl⟩;exact⟨x,⟨h1,h2⟩,rfl⟩
theorem Cz.mono {P Q:List (Int×Int)} {R:Int→Prop} (h:∀p∈P,p∈Q) {n:Int} (hc:Cz P R n):Cz Q R n:=by
 induction hc with
 |base h1=>exact .base h1
 |step h1 _ ih=>exact .step (h _ h1) ih
theorem Cz.dep {E:List Dp} {R:Int→Prop} {x:Dp} (hx:x∈E) (h:Cz (prs true true E) R x.t):Cz (prs true true E) R x.f:=.step (X0G.2 ⟨x,hx,.inl rfl,rfl⟩) h
theorem cz_dual {E:List Dp} {rel:Bool} {a b:Int} (h:Cz (prs true rel E) (fun n=>n=b) a):Cz (prs false rel E) (fun n=>n=a) b:=by
 have key:∀{c:Int},Cz (prs true rel E) (fun n=>n=b) c→∀R:Int→Prop,Cz (prs false rel E) R c→Cz (prs false rel E) R b:=by
  intro c hc
  induction hc with
  |base h1=>intro R hR;rw[←h1];exact hR
  | step h1 _ ih=>
    intro R hR;obtain⟨x,hx,hk,he⟩:=X0G.1 h1;simp only[if_true,Prod.mk.injEq]at he;refine ih R (.step (X0G.2 ⟨x,hx,hk,?_⟩) hR);simp only[he.1,he.2];rfl
 exact key h _ (.base rfl)
theorem cz_dual' {E:List Dp} {rel:Bool} {a b:Int} (h:Cz (prs false rel E) (fun n=>n=a) b):Cz (prs true rel E) (fun n=>n=b) a:=by
 have key:∀{c:Int},Cz (prs false rel E) (fun n=>n=a) c→∀R:Int→Prop,Cz (prs true rel E) R c→Cz (prs true rel E) R a:=by
  intro c hc
  induction hc with
  |base h1=>intro R hR;rw[←h1];exact hR
  | step h1 _ ih=>
    intro R hR;obtain⟨x,hx,hk,he⟩:=X0G.1 h1;simp only[Bool.false_eq_true,if_false,Prod.mk.injEq]at he;refine ih R (.step (X0G.2 ⟨x,hx,hk,?_⟩) hR);simp only[he.1,he.2,if_true]
 exact key h _ (.base rfl)
structure Dps (f:Fl) (E:List Dp):Prop where
 ctl:∀(j:Nat) a,(arL f.body (-1) 0)[j]? =some a→0≤a→(⟨a,j,1⟩:Dp)∈E
 dat:∀(o:Nat) q,(flL f.body)[o]? =some q→q.do_≠5→∀(k:Nat) (x:Nd),(grN f.body)[k]? =some x→x.k≠4→x.a=(o:Int)→∀d,Rc (grN f.body) (flL f.body) f.vars.length k d→Qb (flL f.body) d∈tmV q.term→(⟨d,o,0⟩:Dp)∈E
 rel:∀(o:Nat) q,(flL f.body)[o]? =some q→q.do_=5→∀g,f.hats[q.n.toNat]? =some g→∀v∈tmV g.term,(⟨((flL f.body).length:Int)+v,o,2⟩:Dp)∈E
section
variable {f:Fl} {E:List Dp} {R:Int→Prop}
open Classical in
end
end Go.Proofs.YtdajceakaakdoaaGreat

namespace Go.Proofs.YtdajceakaakdoaaGreat
open Go Go.Hl
open Classical in
noncomputable def czL (P:List (Int×Int)) (R:List Int) (N:Nat):List Bool:=(List.range N).map fun n:Nat=>decide (Cz P (fun x=>x∈R) (n:Int))
theorem X0M (P:List (Int×Int)) (R:List Int) (N:Nat):(czL P R N).length=N:=by simp[czL]
theorem X30 {P:List (Int×Int)} {R:List Int} {N n:Nat} (h:n<N):(czL P R N)[n]? =some true↔Cz P (fun x=>x∈R) (n:Int):=by
 unfold czL;rw[List.getElem?_map,List.getElem?_range h];simp
theorem X8Q {P:List (Int×Int)} {R:List Int} {N:Nat} {S:List Bool} (hl:S.length=N) (h:∀n:Nat,n<N→(S[n]? =some true↔Cz P (fun x=>x∈R) (n:Int))):S=czL P R N:=by
 apply List.ext_getElem?;intro n;by_cases hn:n<N
 · obtain⟨a,h1,_⟩:=Xr (show n<S.length by omega);obtain⟨b,h2,_⟩:=Xr (show n<(czL P R N).length by rw[X0M];exact hn);have h3:=(h n hn).trans (X30 (P:=P) (R:=R) hn).symm;rw[h1,h2]at h3⊢;cases a<;>cases b<;>simp_all
 rw[List.getElem?_eq_none (by omega),List.getElem?_eq_none (by rw[X0M];omega)]
def cfS:List Bool→Nat
 |[]=>0
 |b::l=>(if b=true then 0 else 1)+cfS l
theorem X6W:∀{S:List Bool} {k:Nat},S[k]? =some false→cfS (S.set k true)+1=cfS S
 |[],_,h=>by simp at h
 |b::S,0,h=>by cases h;simp[cfS];omega
 |b::S,k+1,h=>by have:=X6W (S:=S) (k:=k) (by simpa using h);simp only[List.set_cons_succ,cfS];omega
theorem cf_rep (N:Nat):cfS (List.replicate N false)=N:=by
 induction N with
 |zero=>rfl
 |succ N ih=>rw[List.replicate_succ,cfS,ih];simp;omega
theorem WB {S:List Bool} {k:Nat} (h:k<S.length) (n:Nat):(S.set k true)[n]? =some true↔n=k∨S[n]? =some true:=by
 rw[List.getElem?_set];by_cases e:k=n
 · subst e;simp[h]
 rw[if_neg e];constructor
 · exact .inr
 rintro(h1|h1)
 · exact absurd h1.symm e
 exact h1
def nxF (P:List (Int×Int)) (n:Int):List Int:=(P.filter fun p=>decide (p.1=n)).map (·.2)
theorem X6r {P:List (Int×Int)} {n x:Int}:x∈nxF P n↔(n,x)∈P:=by
 unfold nxF;rw[List.mem_map];constructor
 · rintro⟨⟨a,b⟩,h,rfl⟩;obtain⟨h1,h2⟩:=List.mem_filter.1 h;have h2:a=n:=by simpa using h2
   exact h2▸h1
 intro h;exact⟨(n,x),List.mem_filter.2 ⟨h,by simp⟩,rfl⟩
theorem X2t (P:List (Int×Int)) (n:Int):(nxF P n).length≤P.length:=by rw[nxF,List.length_map];exact List.length_filter_le ..
theorem X7N (P:List (Int×Int)) (a b n:Int):nxF (P++[(a,b)]) n=if a=n then nxF P n++[b] else nxF P n:=by
 unfold nxF;rw[List.filter_append,List.map_append];by_cases h:a=n<;>simp[h]
def inP (N:Nat) (P:List (Int×Int)):Prop:=∀p∈P,(0≤p.1∧p.1<N)∧(0≤p.2∧p.2<N)
structure Wk (N:Nat) (P:List (Int×Int)) (R:List Int) (S:List Bool) (W:List Int):Prop where
 len:S.length=N
 snd:∀n:Nat,S[n]? =some true→Cz P (fun x=>x∈R) (n:Int)
 wk:∀x∈W,(0≤x∧x<N)∧Cz P (fun x=>x∈R) x
 base:∀x∈R,x∈W∨S[x.toNat]? =some true
 cls:∀a b:Int,(a,b)∈P→S[a.toNat]? =some true→b∈W∨S[b.toNat]? =some true
 bd:cfS S*(P.length+1)+W.length≤N*(P.length+1)+R.length
theorem Wk.init {N:Nat} {P:List (Int×Int)} {R:List Int} (hR:∀x∈R,0≤x∧x<N):Wk N P R (List.replicate N false) R where
 len:=by simp
 snd:=fun n h=>by have:=List.mem_of_getElem? h;simp at this
 wk:=fun x hx=>⟨hR x hx,.base hx⟩
 base:=fun x hx=>.inl hx
 cls:=fun a b _ h=>by have:=List.mem_of_getElem? h;simp at this
 bd:=by rw[cf_rep];exact Nat.le_refl _
theorem Wk.skip {N:Nat} {P:List (Int×Int)} {R:List Int} {S:List Bool} {W:List Int} {x:Int} (h:Wk N P R S (W++[x])) (hx:S[x.toNat]? =some true):Wk N P R S W where
 len:=h.len
 snd:=h.snd
 wk:=fun y hy=>h.wk y (by simp[hy])
 base:=fun y hy=>by
  rcases h.base y hy with h1|h1
  · rcases List.mem_append.1 h1 with h1|h1
    · exact .inl h1
    rw[List.mem_singleton.1 h1];exact .inr hx
  exact .inr h1
 cls:=fun a b hab ha=>by
  rcases h.cls a b hab ha with h1|h1
  · rcases List.mem_append.1 h1 with h1|h1
    · exact .inl h1
    rw[List.mem_singleton.1 h1];exact .inr hx
  exact .inr h1
 bd:=by have:=h.bd;rw[List.length_append,List.length_singleton]at this;omega
theorem Wk.add {N:Nat} {P:List (Int×Int)} {R:List Int} {S:List Bool} {W:List Int} {x:Int} (hP:inP N P) (h:Wk N P R S (W++[x])) (hx:S[x.toNat]? =some false):Wk N P R (S.set x.toNat true) (W++nxF P x):=by
 obtain⟨⟨h0,h1⟩,hc⟩:=h.wk x (by simp);have hlt:x.toNat<S.length:=by rw[h.len];omega
 have hxx:((x.toNat:Nat):Int)=x:=by omega
 have hcf:=X6W hx;have hbd:=h.bd;have hnx:=X2t P x;refine⟨by rw[List.length_set];exact h.len,fun n hn=>?_,fun y hy=>?_,fun y hy=>?_,fun a b hab ha=>?_,?_⟩
 · rcases(WB hlt n).1 hn with rfl|hn
   · rw[hxx];exact hc
   exact h.snd n hn
 · rcases List.mem_append.1 hy with hy|hy
   · exact h.wk y (by simp[hy])
   exact⟨(hP _ (X6r.1 hy)).2,.step (X6r.1 hy) hc⟩
 · rcases h.base y hy with h2|h2
   · rcases List.mem_append.1 h2 with h2|h2
     · exact .inl (by simp[h2])
     rw[List.mem_singleton.1 h2];exact .inr ((WB hlt _).2 (.inl rfl))
   exact .inr ((WB hlt _).2 (.inr h2))
 · rcases(WB hlt _).1 ha with e|ha
   · have:=(hP _ hab).1;have e:a=x:=by simp only at this;omega
     subst e;exact .inl (List.mem_append_right _ (X6r.2 hab))
   rcases h.cls a b hab ha with h2|h2
   · rcases List.mem_append.1 h2 with h2|h2
     · exact .inl (by simp[h2])
     rw[List.mem_singleton.1 h2];exact .inr ((WB hlt _).2 (.inl rfl))
   exact .inr ((WB hlt _).2 (.inr h2))
 rw[←hcf,Nat.add_mul,List.length_append,List.length_singleton]at hbd;rw[List.length_append];omega
theorem Wk.lt {N:Nat} {P:List (Int×Int)} {R:List Int} {S:List Bool} {W:List Int} {x:Int} (hx:S[x.toNat]? =some false):cfS (S.set x.toNat true)*(P.length+1)+(W++nxF P x).length<cfS S*(P.length+1)+(W++[x]).length:=by
 have hcf:=X6W hx;have hnx:=X2t P x;rw[←hcf,Nat.add_mul,List.length_append,List.length_append,List.length_singleton];omega
theorem Wk.done {N:Nat} {P:List (Int×Int)} {R:List Int} {S:List Bool} (hP:inP N P) (hR:∀x∈R,0≤x∧x<N) (h:Wk N P R S []):S=czL P R N:=by
 refine X8Q h.len fun n hn=>⟨h.snd n,fun hc=>?_⟩
 have key:∀{x:Int},Cz P (fun x=>x∈R) x→S[x.toNat]? =some true:=by
  intro x hx
  induction hx with
  |base hb=>exact(h.base _ hb).resolve_left (by simp)
  |step hab _ ih=>exact(h.cls _ _ hab ih).resolve_left (by simp)
 simpa using key hc
structure Rn (N:Nat) (P:List (Int×Int)) (R:List Int) (S:List Bool):Prop where
 len:S.length=N
 snd:∀n:Nat,S[n]? =some true→Cz P (fun x=>x∈R) (n:Int)
 base:∀x∈R,S[x.toNat]? =some true
theorem Rn.add {N:Nat} {P:List (Int×Int)} {R:List Int} {S:List Bool} {a b:Int} (hP:inP N P) (h:Rn N P R S) (hab:(a,b)∈P) (ha:S[a.toNat]? =some true):Rn N P R (S.set b.toNat true):=by
 obtain⟨⟨h0,h1⟩,h2,h3⟩:=hP _ hab;simp only at h0 h1 h2 h3;have hlt:b.toNat<S.length:=by rw[h.len];omega
 have hbb:((b.toNat:Nat):Int)=b:=by omega
 have haa:((a.toNat:Nat):Int)=a:=by omega
 refine⟨by rw[List.length_set];exact h.len,fun n hn=>?_,fun y hy=>(WB hlt _).2 (.inr (h.base y hy))⟩;rcases(WB hlt n).1 hn with rfl|hn
 · rw[hbb];exact .step hab (haa▸h.snd _ ha)
 exact h.snd n hn
structure Ri (N:Nat) (P:List (Int×Int)) (R:List Int) (S0 S:List Bool) (grown:Bool) (Q:List (Int×Int)):Prop where
 rn:Rn N P R S
 le:cfS S≤cfS S0
 up:grown=true→cfS S<cfS S0
 same:grown=false→S=S0∧∀a b,(a,b)∈Q→S[a.toNat]? =some true→S[b.toNat]? =some true
theorem Ri.mono {N:Nat} {P:List (Int×Int)} {R:List Int} {S0 S:List Bool} {g:Bool} {Q Q':List (Int×Int)} (h:Ri N P R S0 S g Q) (hq:∀a b,(a,b)∈Q'→(a,b)∈Q∨¬S[a.toNat]? =some true∨S[b.toNat]? =some true):Ri N P R S0 S g Q':=by
 refine⟨h.rn,h.le,h.up,fun hg=>⟨(h.same hg).1,fun a b hab ha=>?_⟩⟩;rcases hq a b hab with h1|h1|h1
 · exact(h.same hg).2 a b h1 ha
 · exact absurd ha h1
 exact h1
theorem Ri.add {N:Nat} {P:List (Int×Int)} {R:List Int} {S0 S:List Bool} {g:Bool} {Q Q':List (Int×Int)} {a b:Int} (hP:inP N P) (h:Ri N P R S0 S g Q) (hab:(a,b)∈P) (ha:S[a.toNat]? =some true) (hb:S[b.toNat]? =some false):Ri N P R S0 (S.set b.toNat true) true Q':=by
 have:=X6W hb;have:=h.le;exact⟨h.rn.add hP hab ha,by omega,fun _=>by omega,fun hg=>by cases hg⟩
theorem Ri.done {N:Nat} {P:List (Int×Int)} {R:List Int} {S0 S:List Bool} (h:Ri N P R S0 S false P):S=czL P R N:=by
 refine X8Q h.rn.len fun n hn=>⟨h.rn.snd n,fun hc=>?_⟩
 have key:∀{x:Int},Cz P (fun x=>x∈R) x→S[x.toNat]? =some true:=by
  intro x hx
  induction hx with
  |base hb=>exact h.rn.base _ hb
  |step hab _ ih=>exact(h.same rfl).2 _ _ hab ih
 simpa using key hc
theorem prs_snoc (back rel:Bool) (E:List Dp) (x:Dp):prs back rel (E++[x])=prs back rel E++(if(rel||decide (x.k≠2))=true then [if back=true then(x.t,x.f)else(x.f,x.t)] else []):=by
 unfold prs;rw[List.filter_append,List.map_append];by_cases h:(rel||decide (x.k≠2))=true
 · simp only[List.filter_cons,h,if_true,List.filter_nil,List.map_cons,List.map_nil]
 simp only[List.filter_cons,h,if_false,List.filter_nil,List.map_nil];simp
theorem X6X (back rel:Bool) (E:List Dp):(prs back rel E).length≤E.length:=by rw[prs,List.length_map];exact List.length_filter_le ..
theorem prs_in {back rel:Bool} {E:List Dp} {N:Nat} (h:∀e∈E,(0≤e.f∧e.f<N)∧(0≤e.t∧e.t<N)):inP N (prs back rel E):=by
 intro p hp;obtain⟨x,hx,_,rfl⟩:=X0G.1 hp;have:=h x hx;cases back
 · exact⟨this.1,this.2⟩
 exact⟨this.2,this.1⟩
end Go.Proofs.YtdajceakaakdoaaGreat

namespace Go.Proofs.YtdajceakaakdoaaGreat
open Go Go.Hl
def depQ (f:Fl):List Dp:=edL (flL f.body).length f.hats f.body (-1) 0 (D0 (flL f.body).length f.vars.length)++(if stlB f=true then [] else tmP cndP (((flL f.body).length:Int)+f.vars.length) (flL f.body))
theorem depP_ref {f:Fl} (h:Sm f) (h0:Qg f=0) (x:Dp):x∈X2E f↔x∈depQ f:=by
 have hvf:∀q∈flL f.body,∀v∈tmV q.term,0≤v:=fun q hq v hv=>((pd_ok h h0).st q hq).2.2 v hv |>.1;have h1:=prog_ref h h0 hvf x;unfold X2E depQ;rw[Zd,Zd,Zd,List.mem_append,←h1,List.mem_append];simp only[List.not_mem_nil,false_or]
theorem sort_ref {f:Fl} (h:Sm f) (h0:Qg f=0):Wr (X2E f)=Wr (depQ f):=X3Q (depP_ref h h0)
def dsB (m l:List Dp):Bool:=(m.all fun x=>decide (x∈l))&&(l.all fun x=>decide (x∈m))
def ascB:List Dp→Bool
 |a::b::l=>dpB a b&&ascB (b::l)
 |_=>true
theorem dpB_tr {a b c:Dp} (h1:dpB a b=true) (h2:dpB b c=true):dpB a c=true:=by
 rw[WO]at*;omega
theorem X9F:∀{l:List Dp},ascB l=true→l.Pairwise (fun a b=>dpB a b=true)
 |[],_=>.nil
 |[a],_=>by simp
 | a::b::l,h=>by
   simp only[ascB,Bool.and_eq_true]at h;have ih:=X9F h.2;refine .cons (fun c hc=>?_) ih;rcases List.mem_cons.1 hc with rfl|hc
   · exact h.1
   exact dpB_tr h.1 ((List.pairwise_cons.1 ih).1 c hc)
theorem Xab {l m:List Dp} (h1:ascB m=true) (h2:dsB m l=true):Wr l=m:=by
 unfold dsB at h2;simp only[Bool.and_eq_true,List.all_eq_true,decide_eq_true_eq]at h2;exact(X77 (X9F h1) fun x=>⟨h2.1 x,h2.2 x⟩).symm
def ordB (P:List (Int×Int)) (R:List Int):List Int→List Int→Bool
 |_,[]=>true
 |s,x::l=>(decide (x∈R)||P.any fun p=>decide (p.2=x)&&decide (p.1∈s))&&ordB P R (x::s) l
theorem ord_cz {P:List (Int×Int)} {R:List Int}:∀(o s:List Int),ordB P R s o=true→(∀x∈s,Cz P (fun x=>x∈R) x)→∀x∈o,Cz P (fun x=>x∈R) x
 |[],_,_,_,x,hx=>by cases hx
 | y::o,s,h,hs,x,hx=>by
   simp only[ordB,Bool.and_eq_true,Bool.or_eq_true,decide_eq_true_eq,List.any_eq_true]at h
   have hy:Cz P (fun x=>x∈R) y:=by
    rcases h.1 with h1|⟨⟨a,b⟩,h1,h2,h3⟩
    · exact .base h1
    simp only at h2 h3;exact .step (h2▸h1) (hs a h3)
   rcases List.mem_cons.1 hx with rfl|hx
   · exact hy
   exact ord_cz o (y::s) h.2 (fun z hz=>by
    rcases List.mem_cons.1 hz with rfl|hz
    · exact hy
    exact hs z hz) x hx
theorem czL_run {P:List (Int×Int)} {R:List Int} {N:Nat} (o:List Int) (h1:ordB P R [] o=true) (h2:(R.all fun x=>decide (x∈o))=true) (h3:(P.all fun p=> !decide (p.1∈o)||decide (p.2∈o))=true):czL P R N=(List.range N).map fun n:Nat=>decide ((n:Int)∈o):=by
 refine(X8Q (by simp) fun n hn=>?_).symm;rw[List.getElem?_map,List.getElem?_range hn];simp only[Option.map_some,Option.some.injEq,decide_eq_true_eq];simp only[List.all_eq_true,Bool.or_eq_true,Bool.not_eq_true',decide_eq_false_iff_not,decide_eq_true_eq]at h2 h3;refine⟨ord_cz o [] h1 (fun x hx=>by cases hx) n,fun hc=>?_⟩
 have key:∀{x:Int},Cz P (fun x=>x∈R) x→x∈o:=by
  intro x hx
  induction hx with
  |base hb=>exact h2 _ hb
  |step hab _ ih=>exact(h3 _ hab).resolve_left fun h=>h ih
 exact key hc
def rfT (n:Int):Tm:=⟨24,n,[]⟩
def exP:Fl:=⟨[⟨⟨#[120]⟩,1,0,1,0⟩,⟨⟨#[121]⟩,0,0,1,0⟩,⟨⟨#[122]⟩,0,0,1,0⟩],[⟨⟨#[104]⟩,0,1,rfT 0⟩],
 [.mk 0 0 1 0 (rfT 0) [] [] [],.mk 3 0 0 0 (rfT 1) [.mk 0 1 2 0 ⟨0,1,[]⟩ [] [] []] [] [],.mk 1 0 0 0 (rfT 2) [] [] [],.mk 5 0 1 0 ⟨0,0,[]⟩ [] [] [],.mk 1 0 0 0 (rfT 1) [] [] []]⟩
def exW:List Dp:=[⟨0,1,0⟩,⟨1,2,1⟩,⟨1,9,1⟩,⟨2,3,0⟩,⟨4,5,0⟩,⟨6,0,0⟩,⟨6,4,2⟩,⟨8,3,0⟩]
theorem X50:Qg exP=0:=by
 simp only[exP,rfT,Qg,X4A,sdL,ZX,ssC];kernel_rfl
theorem X9u:Sm exP:=⟨by decide,by decide,by decide,by decide⟩
theorem X6C (a b:List Nat) (l:List Nat) (h:l.Pairwise (· < ·)) (ha:a.Pairwise (· < ·)) (hm:∀x,x∈l↔x∈a∨x∈b):uniL a b=l:=
 X6E (X7M b ha) h fun x=>by rw[X7e,hm]
theorem exP_q:depQ exP=[⟨6,0,0⟩,⟨0,1,0⟩,⟨1,2,1⟩,⟨2,3,0⟩,⟨8,3,0⟩,⟨6,4,2⟩,⟨4,5,0⟩,⟨1,9,1⟩]:=by
 have j1:Z3 [[6],[0],[2]] [[6],[0],[8]]=[[6],[0],[2,8]]:=by
  simp only[Z3];rw[X6C [6] [6] [6] (by simp) (by simp) (by simp),X6C [0] [0] [0] (by simp) (by simp) (by simp),X6C [2] [8] [2,8] (by simp) (by simp) (by simp)]
 have e:edL 6 exP.hats exP.body (-1) 0 (D0 6 3)=[⟨6,0,0⟩,⟨0,1,0⟩,⟨1,2,1⟩]++edL 6 exP.hats (exP.body.drop 2) (-1) 3 (Z3 [[6],[0],[2]] [[6],[0],[8]]):=by kernel_rfl
 have e2:edL 6 exP.hats (exP.body.drop 2) (-1) 3 [[6],[0],[2,8]]=[⟨2,3,0⟩,⟨8,3,0⟩,⟨6,4,2⟩,⟨4,5,0⟩]:=by kernel_rfl
 have e3:(if stlB exP=true then [] else tmP cndP (((flL exP.body).length:Int)+exP.vars.length) (flL exP.body))=[⟨1,9,1⟩]:=by kernel_rfl
 unfold depQ;rw[show(flL exP.body).length=6 from rfl,show exP.vars.length=3 from rfl]at*;rw[e,j1,e2,e3];rfl
theorem X9P:Wr (X2E exP)=exW:=by
 rw[sort_ref X9u X50];rw[exP_q];exact Xab (by kernel_rfl) (by kernel_rfl)
theorem exP_src:czL (prs true false exW) [5] 10=[false,false,false,false,true,true,false,false,false,false]:=by
 rw[czL_run [5,4] (by kernel_rfl) (by kernel_rfl) (by kernel_rfl)];kernel_rfl
end Go.Proofs.YtdajceakaakdoaaGreat

namespace Go.Proofs.YtdajceakaakdoaaGreat
open Go Go.Hl Go.Sort Go.Lib Go.Joins Go.Shelf
theorem X8q {F:Nat→Prop} {w:World} {x:Dp} {v:Value} (h:XB F noγ w (.agg [.c (iC x.f),.c (iC x.t),.c (iC x.k)]) v):v=.agg (dpE x).toArray:=by
 obtain⟨vs,rfl,hc⟩:=h;obtain⟨l⟩:=vs;obtain⟨hs,hc⟩:=hc
 match l,hs with
 | [a,b,c],_=>
   have e1:=hc 0 _ a rfl rfl;have e2:=hc 1 _ b rfl rfl;have e3:=hc 2 _ c rfl rfl;cases e1;cases e2;cases e3;rfl
theorem cmp_con (x y:Dp) (d:Nat):Con Tryz.prog 61 true [.agg [.c (iC x.f),.c (iC x.t),.c (iC x.k)],.agg [.c (iC y.f),.c (iC y.t),.c (iC y.k)]] (.v (li (X4a x y))) none d:=by
 refine⟨by kernel_rfl,fun F w vs hF hsz hargs=>?_⟩;obtain⟨l⟩:=vs
 match l,hsz with
 | [v0,v1],_=>
   have a0:=X8q (hargs 0 _ v0 rfl rfl);have a1:=X8q (hargs 1 _ v1 rfl rfl);subst a0;subst a1;refine(X7Q x y w).mono ?_;rintro e w' ⟨rfl,q,os',rfl⟩;exact⟨_,fun _=>False,noγ,rfl,⟨rfl,rfl,rfl,by show w.heap.size≤(w.heap++os').size;rw[Array.size_append];omega,fun j hj=>heap_grow_old (w.drewN q) os' (k:=j) hj⟩,fun b hb=>hb.elim,.lit _,fun o ho=>by cases ho⟩
def aPd (ns nv:Int) (E:List Dp):TV:=.agg [.c (iC ns),.c (iC nv),.c (.sl 3 (XV E))]
theorem bf_con (x y:Dp) (d:Nat):Con Tryz.prog 60 true [.agg [.c (iC x.f),.c (iC x.t),.c (iC x.k)],.agg [.c (iC y.f),.c (iC y.t),.c (iC y.k)]] (.v (lb (dpB x y))) none d:=by
 obtain⟨xf,xt,xk⟩:=x;obtain⟨yf,yt,yk⟩:=y;simp only[dpB];refine X4 Tryz.func60 ?_;simp only[Tryz.f60];refine X2 ?_;refine X0<|X0<|X1 ?_;refine(Xb rfl (fun h2=>?_) fun h2=>?_)
 · (try simp only[BN]at h2);refine X2 ?_;exact Xf
 (try simp only[BN]at h2);refine X0<|X0<|X1 ?_;refine(Xb rfl (fun h6=>?_) fun h6=>?_)
 · (try simp only[BN]at h6);refine X2 ?_;exact Xf
 (try simp only[BN]at h6);refine X2 ?_;exact Xf
theorem lt_cmpD' (x y:Dp):decide (X4a x y<0)=dpB x y:=X2D x y
end Go.Proofs.YtdajceakaakdoaaGreat

namespace Go.Proofs.YtdajceakaakdoaaGreat
open Go Go.Hl
def X3j (N:Int) (x:Dp):Bool:=(decide (0≤x.f)&&decide (x.f≤N))&&(decide (0≤x.t)&&decide (x.t≤N))
def kdB (x:Dp):Bool:=decide (x.k=0)||(decide (x.k=1)||decide (x.k=2))
def pvD (E:List Dp) (k:Nat):Option Dp:=if k=0 then none else E[k - 1]?
def ordF (p:Option Dp) (x:Dp):Bool:=match p with
 |some q=>dpB q x
 |none=>true
def chL (N:Int) (p:Option Dp):List Dp→Int
 |[]=>0
 |x::l=>if X3j N x=false then 3 else if kdB x=false then 1 else if ordF p x=false then 10 else chL N (some x) l
def hdB (ns nv:Int):Bool:=(decide (0≤ns)&&decide (ns≤1024))&&(decide (0≤nv)&&decide (nv≤64))
def chF (ns nv:Int) (E:List Dp):Int:=if hdB ns nv=false then 3 else chL (ns+nv) none E
theorem chL_at {N:Int} {E:List Dp} {k:Nat} {x:Dp} (hx:E[k]? =some x) (hd:E.drop k=x::E.drop (k+1)):chL N (pvD E k) (E.drop k)=if X3j N x=false then 3 else if kdB x=false then 1 else if ordF (pvD E k) x=false then 10 else chL N (pvD E (k+1)) (E.drop (k+1)):=by
 rw[hd,chL];have:pvD E (k+1)=some x:=by unfold pvD;rw[if_neg (by omega)];simpa using hx
 rw[this]
theorem X5p {ns nv:Int} (h:hdB ns nv=true):(0≤ns∧ns≤1024)∧(0≤nv∧nv≤64):=by
 unfold hdB at h;simpa using h
set_option maxHeartbeats 16000000 in
theorem X4P (ns nv:Int) (E:List Dp) (hl:E.length≤20000000) (d:Nat):Con Tryz.prog 21 true [aPd ns nv E] (.v (li (chF ns nv E))) none d:=by
 unfold aPd chF;by_cases hh:hdB ns nv=true
 · rw [if_neg (by rw[hh];decide)];obtain⟨⟨n0,n1⟩,v0,v1⟩:=X5p hh;have hwN:IntKind.i64.wrap (ns+nv)=ns+nv:=Xc (by omega) (by omega);obtain⟨res,hres⟩:∃r,chL (ns+nv) none E=r:=⟨_,rfl⟩;rw[hres];clear hh;refine X4 Tryz.func21 ?_;simp only[Tryz.f21];refine X2 ?_;refine X0<|X0<|X1 ?_;refine(Xb rfl (fun h2=>?_) fun h2=>?_)
   · exfalso;simp at h2<;>omega
   (try simp only[BN]at h2);refine X2 ?_;refine X0<|X0<|X1 ?_;refine X3<|(Xe [1,3,30,31] (fun(y:Nat)=>[(32,.v (li y))]) (fun y=>[(1,.box [.c (iC ns),.c (iC nv),.c (.sl 3 (XV E))])]) (fun y=>y≤E.length∧chL (ns+nv) (pvD E y) (E.drop y)=res) (fun y=>E.length - y) (0:Nat) ⟨Nat.zero_le _,hres⟩ ?_ ?_)
   · exact X5 (fun n=>n) []
   rintro y ⟨hy,hj⟩;simp only[upS,X6,XL]
   try simp only[X6,KN,Nat.reduceBEq,if_true,if_false,ins,Nat.reduceLT]
   refine X2 ?_;refine X0<|(X9 rfl (fun h9=>Xd ?_) (fun h9=>?_))
   · (try simp only[BN]at h9);have hlt:y<E.length:=by omega
     have hw1:=XN hlt (by omega);obtain⟨x,hx,hdr⟩:=Xr hlt;have hxe:=Wc hx;rw[chL_at hx hdr]at hj;clear hdr;obtain⟨xf,xt,xk⟩:=x;simp only[Dp.enc]at hxe;have hlt2:y+1≤E.length:=hlt;clear h9 hlt;refine X0<|X3<|X0<|X1 ?_;refine X3<|X0<|X1 ?_;refine(X9 rfl (fun h12=>?_) (fun h12=>?_))
     · try simp only[BN]at h12
       have hr:X3j (ns+nv) ⟨xf,xt,xk⟩=false:=by
        rw[←Bool.not_eq_true];intro h;simp[X3j]at h h12;omega
       rw[if_pos hr]at hj;subst hj;refine X2 ?_;exact Xf
     try simp only[BN]at h12
     have hr:X3j (ns+nv) ⟨xf,xt,xk⟩=true:=by
      simp[X3j]at h12⊢;omega
     rw[if_neg (by rw[hr];decide)]at hj;clear h12;refine X2 ?_;refine(X9 rfl (fun h16=>?_) (fun h16=>?_))
     · try simp only[BN]at h16
       have hr:kdB ⟨xf,xt,xk⟩=false:=by
        rw[←Bool.not_eq_true];intro h;simp[kdB]at h h16;omega
       rw[if_pos hr]at hj;subst hj;refine X2 ?_;exact Xf
     try simp only[BN]at h16
     have hr:kdB ⟨xf,xt,xk⟩=true:=by
      simp[kdB]at h16⊢;omega
     rw[if_neg (by rw[hr];decide)]at hj;clear h16;rcases y with _|k
     · have hw0:IntKind.i64.wrap 1=1:=by decide
       refine X0<|(Zy [none] (by kernel_rfl) (by kernel_rfl) (by rfl) (by simp[*];first|exact⟨rfl,Iff.rfl⟩|exact⟨rfl,trivial⟩|rfl) ?_ ?_)
       · trivial
       refine(Xb rfl (fun h20=>?_) fun h20=>?_)
       · (try simp only[BN]at h20);refine X2 ?_;exact Xf
       (try simp only[BN]at h20);rw[if_neg (by simp[pvD,ordF])]at hj;refine X1 ?_;exact⟨1,⟨hlt2,hj⟩,by omega,X5 (fun n=>n) []⟩
     obtain⟨q,hq,hdq⟩:=Xr (show k<E.length by omega);have hqe:=Wc hq;have cq:=cmp_con q ⟨xf,xt,xk⟩;have hpv:pvD E (k+1)=some q:=hq;have hlq:=lt_cmpD' q ⟨xf,xt,xk⟩;rw[hpv]at hj;simp only[ordF,←hlq]at hj;obtain⟨c,hc⟩:∃c,X4a q ⟨xf,xt,xk⟩=c:=⟨_,rfl⟩;rw[hc]at cq hj;obtain⟨qf,qt,qk⟩:=q;simp only[Dp.enc]at hqe cq;have hw2:IntKind.i64.wrap (((k+1:Nat):Int) - 1)=(k:Int):=by rw[Xc (by omega) (by omega)];omega
     have hk1:(0:Int)<(k:Int)+1:=by omega
     have hw4:IntKind.i64.wrap ((k:Int)+1+1)=(k:Int)+1+1:=Xc (by omega) (by omega);have hw3:IntKind.i64.wrap (k:Int)=(k:Int):=Xc (by omega) (by omega);clear hc hlq hpv hq hdq;refine X0<|(Zy [some ⟨true,.v (li c),none⟩] (by kernel_rfl) (by kernel_rfl) (by rfl) (by simp[*];first|exact⟨rfl,Iff.rfl⟩|exact⟨rfl,trivial⟩|rfl) ?_ ?_)
     · first|exact cq _|simpa using cq _
     refine(Xb rfl (fun h20=>?_) fun h20=>?_)
     · try simp only[BN]at h20
       have hr:res=10:=by
        rw[←hj,if_pos];simp at h20⊢;omega
       subst hr;refine X2 ?_;exact Xf
     (try simp only[BN]at h20);rw[if_neg (by simp at h20⊢;omega)]at hj;refine X1 ?_;exact⟨k+1+1,⟨hlt2,hj⟩,by omega,X5 (fun n=>n) []⟩
   try simp only[BN]at h9
   have hr:res=0:=by
    rw[←hj,List.drop_eq_nil_of_le (by omega),chL]
   subst hr;refine(Xi ?_);refine X2 ?_;exact Xf
 have hh:hdB ns nv=false:=by simpa using hh
 rw[if_pos hh]
 have hneg:¬((0≤ns∧ns≤1024)∧(0≤nv∧nv≤64)):=by
  intro h;have:hdB ns nv=true:=by unfold hdB;simpa using h
  rw[hh]at this;cases this
 refine X4 Tryz.func21 ?_;simp only[Tryz.f21];refine X2 ?_;refine X0<|X0<|X1 ?_;refine(Xb rfl (fun h2=>?_) fun h2=>?_)
 · (try simp only[BN]at h2);refine X2 ?_;exact Xf
 exfalso;simp at h2<;>omega
set_option maxHeartbeats 16000000 in
theorem X59 (ns nv:Int) (E:List Dp) (hl:E.length≤20000000) (d:Nat):Con Tryz.prog 22 true [aPd ns nv E] (.v (li (chF ns nv E))) none d:=by
 unfold aPd chF;by_cases hh:hdB ns nv=true
 · rw [if_neg (by rw[hh];decide)];obtain⟨⟨n0,n1⟩,v0,v1⟩:=X5p hh;have hwN:IntKind.i64.wrap (ns+nv)=ns+nv:=Xc (by omega) (by omega);obtain⟨res,hres⟩:∃r,chL (ns+nv) none E=r:=⟨_,rfl⟩;rw[hres];clear hh;refine X4 Tryz.func22 ?_;simp only[Tryz.f22];refine X2 ?_;refine X0<|X0<|X1 ?_;refine(Xb rfl (fun h2=>?_) fun h2=>?_)
   · exfalso;simp at h2<;>omega
   (try simp only[BN]at h2);refine X0<|X0<|X1 ?_;refine X3<|(Xe [1,24,25] (fun(y:Nat)=>[(26,.v (li y))]) (fun y=>[(1,.box [.c (iC ns),.c (iC nv),.c (.sl 3 (XV E))])]) (fun y=>y≤E.length∧chL (ns+nv) (pvD E y) (E.drop y)=res) (fun y=>E.length - y) (0:Nat) ⟨Nat.zero_le _,hres⟩ ?_ ?_)
   · exact X5 (fun n=>n) []
   rintro y ⟨hy,hj⟩;simp only[upS,X6,XL]
   try simp only[X6,KN,Nat.reduceBEq,if_true,if_false,ins,Nat.reduceLT]
   refine X2 ?_;refine X0<|(X9 rfl (fun h8=>Xd ?_) (fun h8=>?_))
   · (try simp only[BN]at h8);have hlt:y<E.length:=by omega
     have hw1:=XN hlt (by omega);obtain⟨x,hx,hdr⟩:=Xr hlt;have hxe:=Wc hx;rw[chL_at hx hdr]at hj;clear hdr;obtain⟨xf,xt,xk⟩:=x;simp only[Dp.enc]at hxe;have hlt2:y+1≤E.length:=hlt;clear h8 hlt;refine X0<|X3<|X0<|X1 ?_;refine X0<|X0<|X1 ?_;refine(Xb rfl (fun h11=>?_) fun h11=>?_)
     · try simp only[BN]at h11
       have hr:X3j (ns+nv) ⟨xf,xt,xk⟩=false:=by
        rw[←Bool.not_eq_true];intro h;simp[X3j]at h h11;omega
       rw[if_pos hr]at hj;subst hj;refine X2 ?_;exact Xf
     try simp only[BN]at h11
     have hr:X3j (ns+nv) ⟨xf,xt,xk⟩=true:=by
      simp[X3j]at h11⊢;omega
     rw[if_neg (by rw[hr];decide)]at hj;clear h11;refine X0<|X0<|X1 ?_;refine(Xb rfl (fun h15=>?_) fun h15=>?_)
     · try simp only[BN]at h15
       have hr:kdB ⟨xf,xt,xk⟩=false:=by
        rw[←Bool.not_eq_true];intro h;simp[kdB]at h h15;omega
       rw[if_pos hr]at hj;subst hj;refine X2 ?_;exact Xf
     try simp only[BN]at h15
     have hr:kdB ⟨xf,xt,xk⟩=true:=by
      simp[kdB]at h15⊢;omega
     rw[if_neg (by rw[hr];decide)]at hj;clear h15;rcases y with _|k
     · have hw0:IntKind.i64.wrap 1=1:=by decide
       refine X0<|(Zy [none] (by kernel_rfl) (by kernel_rfl) (by rfl) (by simp[*];first|exact⟨rfl,Iff.rfl⟩|exact⟨rfl,trivial⟩|rfl) ?_ ?_)
       · trivial
       refine(Xb rfl (fun h19=>?_) fun h19=>?_)
       · (try simp only[BN]at h19);refine X2 ?_;exact Xf
       (try simp only[BN]at h19);rw[if_neg (by simp[pvD,ordF])]at hj;refine X1 ?_;exact⟨1,⟨hlt2,hj⟩,by omega,X5 (fun n=>n) []⟩
     obtain⟨q,hq,hdq⟩:=Xr (show k<E.length by omega);have hqe:=Wc hq;have cq:=bf_con q ⟨xf,xt,xk⟩;have hpv:pvD E (k+1)=some q:=hq;rw[hpv]at hj;simp only[ordF]at hj;obtain⟨c,hc⟩:∃c,dpB q ⟨xf,xt,xk⟩=c:=⟨_,rfl⟩;rw[hc]at cq;simp only[hc]at hj;obtain⟨qf,qt,qk⟩:=q;simp only[Dp.enc]at hqe cq;have hw2:IntKind.i64.wrap (((k+1:Nat):Int) - 1)=(k:Int):=by rw[Xc (by omega) (by omega)];omega
     have hk1:(0:Int)<(k:Int)+1:=by omega
     have hw4:IntKind.i64.wrap ((k:Int)+1+1)=(k:Int)+1+1:=Xc (by omega) (by omega);have hw3:IntKind.i64.wrap (k:Int)=(k:Int):=Xc (by omega) (by omega);clear hc hpv hq hdq;refine X0<|(Zy [some ⟨true,.v (lb c),none⟩] (by kernel_rfl) (by kernel_rfl) (by rfl) (by simp[*];first|exact⟨rfl,Iff.rfl⟩|exact⟨rfl,trivial⟩|rfl) ?_ ?_)
     · first|exact cq _|simpa using cq _
     refine(Xb rfl (fun h19=>?_) fun h19=>?_)
     · try simp only[BN]at h19
       have hr:res=10:=by
        rw[←hj,if_pos];simpa using h19
       subst hr;refine X2 ?_;exact Xf
     (try simp only[BN]at h19);rw[if_neg (by simpa using h19)]at hj;refine X1 ?_;exact⟨k+1+1,⟨hlt2,hj⟩,by omega,X5 (fun n=>n) []⟩
   try simp only[BN]at h8
   have hr:res=0:=by
    rw[←hj,List.drop_eq_nil_of_le (by omega),chL]
   subst hr;refine(Xi ?_);refine X2 ?_;exact Xf
 have hh:hdB ns nv=false:=by simpa using hh
 rw[if_pos hh]
 have hneg:¬((0≤ns∧ns≤1024)∧(0≤nv∧nv≤64)):=by
  intro h;have:hdB ns nv=true:=by unfold hdB;simpa using h
  rw[hh]at this;cases this
 refine X4 Tryz.func22 ?_;simp only[Tryz.f22];refine X2 ?_;refine X0<|X0<|X1 ?_;refine(Xb rfl (fun h2=>?_) fun h2=>?_)
 · (try simp only[BN]at h2);refine X2 ?_;exact Xf
 exfalso;simp at h2<;>omega
end Go.Proofs.YtdajceakaakdoaaGreat

namespace Go.Proofs.YtdajceakaakdoaaGreat
open Go Go.Hl
def X3v (E:List Dp):List (List CD):=E.map fun x=>[iC x.f,iC x.t]
@[simp] theorem edgE_len (E:List Dp):(X3v E).length=E.length:=by simp[X3v]
@[simp] theorem edgE_nil:X3v []=[]:=rfl
theorem Xb1 {E:List Dp} {y:Nat} {x:Dp} (hx:E[y]? =some x):X3v (E.take (y+1))=X3v (E.take y)++[[iC x.f,iC x.t]]:=by
 rw[List.take_add_one,hx];simp[X3v]
def grpF (ns nv:Int) (E:List Dp):RV:=.tup [.agg (if chF ns nv E=0 then [.c (iC (ns+nv+1)),.c (.sl 2 (X3v E))] else [.c (iC 0),.c (.lit XO)]),li (if chF ns nv E=0 then 0 else 1)]
theorem X86 {ns nv:Int} {E:List Dp} (h:chF ns nv E=0):hdB ns nv=true:=by
 unfold chF at h;split at h
 · cases h
 rename_i h1;simpa using h1
theorem Xb7 (ns nv:Int) (E:List Dp) (hl:E.length≤20000000) (d:Nat):Con Tryz.prog 20 false [aPd ns nv E] (grpF ns nv E) none d:=by
 have cc:=X4P ns nv E hl;unfold grpF;by_cases h0:chF ns nv E=0
 · obtain⟨⟨n0,n1⟩,v0,v1⟩:=X5p (X86 h0);have hw1:IntKind.i64.wrap (ns+nv)=ns+nv:=Xc (by omega) (by omega);have hw2:IntKind.i64.wrap (ns+nv+1)=ns+nv+1:=Xc (by omega) (by omega);rw[h0]at cc;simp only[h0,if_true];clear h0;unfold aPd at cc⊢;refine X4 Tryz.func20 ?_;simp only[Tryz.f20];refine X2 ?_;refine X0<|X0<|(Xm [⟨true,.v (li 0),none⟩] ?_ ?_)
   · first|exact cc _|exact trivial|simpa[*]using cc _
   refine(Xb rfl (fun h2=>?_) fun h2=>?_)
   · exact absurd h2 (by simp)
   (try simp only[BN]at h2);refine X2 ?_;refine X0<|X0<|X1 ?_;refine X3<|(Xe [2,4,19,20] (fun(y:Nat)=>[(21,.v (li y)),(4,.v (.one (.at_ 4 0)))]) (fun y=>[(2,.box [.c (iC 0),.c (.lit XO)]),(4,.box [.c (iC (ns+nv+1)),.own 1003]),(1003,.row 52 2 (X3v (E.take y)))]) (fun y=>y≤E.length) (fun y=>E.length - y) (0:Nat) (Nat.zero_le _) ?_ ?_)
   · exact X5 (fun n=>n) [1003]
   rintro y hy;simp only[upS,X6,XL]
   try simp only[X6,KN,Nat.reduceBEq,if_true,if_false,ins,Nat.reduceLT]
   refine X2 ?_;refine X0<|(X9 rfl (fun h9=>Xd ?_) (fun h9=>?_))
   · (try simp only[BN]at h9);have hlt:y<E.length:=by omega
     have hw3:=XN hlt (by omega);obtain⟨x,hx,_⟩:=Xr hlt;have hxe:=Wc hx;have htk:=Xb1 hx;obtain⟨xf,xt,xk⟩:=x;simp only[Dp.enc]at hxe;simp only at htk;have hlt2:y+1≤E.length:=hlt;have hll:(X3v (E.take y)).length=y:=by simp;omega
     have hroom:QV (y+1) 16:=⟨by unfold maxLen;omega,by omega⟩;clear h9 hlt;refine X0<|X3<|X0<|X1 ?_;refine(Xq (by simp[*,XH,Qo,XW,QK];rfl) ?_);refine X1 ?_;exact⟨y+1,hlt2,by omega,X5 (fun n=>if n=1003 then 33 else n) []⟩
   (try simp only[BN]at h9);have hyl:y=E.length:=by omega
   subst hyl;have hte:E.take E.length=E:=List.take_length;rw[hte];refine(Xi ?_);refine XD (Qr 1003 rfl) ?_;refine X2 ?_;exact Xf
 obtain⟨C,hC⟩:∃x,chF ns nv E=x:=⟨_,rfl⟩;rw[hC]at cc h0;simp only[hC,if_neg h0];clear hC;unfold aPd at cc⊢;refine X4 Tryz.func20 ?_;simp only[Tryz.f20];refine X2 ?_;refine X0<|X0<|(Xm [⟨true,.v (li C),none⟩] ?_ ?_)
 · first|exact cc _|exact trivial|simpa[*]using cc _
 refine(Xb rfl (fun h2=>?_) fun h2=>?_)
 · (try simp only[BN]at h2);refine X2 ?_;exact Xf
 exact absurd (by simpa using h2) h0
end Go.Proofs.YtdajceakaakdoaaGreat

namespace Go.Proofs.YtdajceakaakdoaaGreat
open Go Go.Hl
def ZU (l:List Bool):List (List CD):=l.map fun b=>[bC b]
@[simp] theorem encBl_len (l:List Bool):(ZU l).length=l.length:=by simp[ZU]
theorem QN {l:List Bool} {k:Nat} {b:Bool} (h:l[k]? =some b):(ZU l)[k]? =some [bC b]:=by simp[ZU,h]
theorem X3l (l:List Bool) (k:Nat) (b:Bool):(ZU l).set k [CD.lit (.bool b)]=ZU (l.set k b):=by
 unfold ZU;rw[List.map_set]
theorem X60 (n:Nat):ZU (List.replicate n false)=List.replicate n [bC false]:=by simp[ZU]
@[simp] def lBl (l:List Bool):TV:=.one (.c (.sl 1 (ZU l)))
def ZW (S:List (List Int)):List (Option (List (List CD))):=S.map fun l=>some (Xg l)
@[simp] theorem rowI_len (S:List (List Int)):(ZW S).length=S.length:=by simp[ZW]
theorem X7I {S:List (List Int)} {i:Nat} {l:List Int} (h:S[i]? =some l):(ZW S)[i]? =some (some (Xg l)):=by simp[ZW,h]
theorem X8B (S:List (List Int)) (i:Nat) (l:List Int) (d:Int):(ZW S).set i (some (Xg l++[[iC d]]))=ZW (S.set i (l++[d])):=by
 simp only[ZW,List.map_set];congr 2;simp[Xg]
def nxM (N:Nat) (P:List (Int×Int)):List (List Int):=(List.range N).map fun n:Nat=>nxF P n
@[simp] theorem nxM_len (N:Nat) (P:List (Int×Int)):(nxM N P).length=N:=by simp[nxM]
theorem X6H {N n:Nat} (P:List (Int×Int)) (h:n<N):(nxM N P)[n]? =some (nxF P n):=by simp[nxM,h]
theorem X9Y {N a:Nat} (P:List (Int×Int)) (b:Int):(nxM N P).set a (nxF P a++[b])=nxM N (P++[((a:Int),b)]):=by
 apply List.ext_getElem?;intro k;rw[List.getElem?_set];unfold nxM;simp only[List.length_map,List.length_range,List.getElem?_map];by_cases e:a=k
 · subst e;by_cases h:a<N
   · simp[h,X7N]
   simp[h]
 rw[if_neg e];by_cases h:k<N
 · rw[List.getElem?_range h];simp only[Option.map_some,Option.some.injEq];rw[X7N,if_neg (by omega)]
 rw[List.getElem?_eq_none (by simpa using h)];rfl
theorem nxM_nil (N:Nat):ZW (nxM N [])=List.replicate N (some []):=by
 apply List.ext_getElem?;intro k;simp only[ZW,nxM,List.getElem?_map,List.getElem?_replicate];by_cases h:k<N
 · simp[h,nxF,Xg]
 simp[h]
theorem X7G {E:List Dp} {y:Nat} {x:Dp} (hx:E[y]? =some x) (back rel:Bool):prs back rel (E.take (y+1))=prs back rel (E.take y)++(if(rel||decide (x.k≠2))=true then [if back=true then(x.t,x.f)else(x.f,x.t)] else []):=by
 rw[List.take_add_one,hx];exact prs_snoc ..
def X41 (S:List (List Int)):List (List CD):=S.map fun l=>[.sl 1 (Xg l)]
@[simp] theorem encII_len (S:List (List Int)):(X41 S).length=S.length:=by simp[X41]
theorem Xb9 {S:List (List Int)} {i:Nat} {l:List Int} (h:S[i]? =some l):(X41 S)[i]? =some [.sl 1 (Xg l)]:=by simp[X41,h]
theorem rowI_mat (S:List (List Int)):(ZW S).map (fun r=>[X46 1 r])=X41 S:=by simp[ZW,X41,X46]
theorem snoc_of {l:List Int} (h:l≠[]):∃W x,l=W++[x]:=⟨l.dropLast,l.getLast h,(List.dropLast_concat_getLast h).symm⟩
theorem X8E (l:List Int) (hl:l.length≤1000000000) (d:Nat) (hd:d<1000000):Con Tryz.prog 72 false [lI l] (.v (.one (.own d))) (some (.row 3 1 (Xg l))) d:=by
 have hroom:QV l.length 8:=⟨by unfold maxLen;omega,by omega⟩;cases l with
 | nil=>
   refine X9y ?_ ?_
   · refine X4 Tryz.func72 ?_;simp only[Tryz.f72];refine X2 ?_;refine X0<|X0<|X1 ?_;refine(Xb rfl (fun h2=>?_) fun h2=>?_)
     · (try simp only[BN]at h2);refine X2 ?_;exact Qf ⟨.inr rfl,_,le_nameN 2 d 3 1 rfl (by decide) hd,⟨⟨_,by simp;rfl,by simp[XY]⟩,by simp,fun h=>by cases h⟩⟩
     exact absurd h2 (by simp)
   intro a cap;refine X4 Tryz.func72 ?_;simp only[Tryz.f72];refine X2 ?_;refine X0<|X0<|X1 ?_;refine(Xb rfl (fun h2=>?_) fun h2=>?_)
   · exact absurd h2 (by simp)
   (try simp only[BN]at h2);refine XD (le_emp 0 1 rfl) ?_;refine X2 ?_;exact Qf ⟨.inr rfl,_,X2I 2 7 d rfl rfl hd,⟨⟨_,by simp;rfl,by simp[XY]⟩,by simp,fun h=>by cases h⟩⟩
 | cons v r=>
   refine X4 Tryz.func72 ?_;simp only[Tryz.f72];rw[List.length_cons]at hroom;refine X2 ?_;refine X0<|X0<|X1 ?_;refine(Xb rfl (fun h2=>?_) fun h2=>?_)
   · exact absurd h2 (by simp)
   (try simp only[BN]at h2);refine X2 ?_;exact Qf ⟨.inr rfl,_,X2I 2 7 d rfl rfl hd,⟨⟨_,by simp;rfl,by simp[XY]⟩,by simp,fun h=>by cases h⟩⟩
set_option maxHeartbeats 64000000 in
theorem X43 (ns nv:Int) (E:List Dp) (nodes:List Int) (back rel:Bool) (g:FuncId) (N:Nat) (hN:ns+nv+1=N) (n0:0≤ns) (v0:0≤nv) (hN2:N≤100000) (hl:E.length≤20000000) (hE:∀e∈E,(0≤e.f∧e.f<N)∧(0≤e.t∧e.t<N)) (hnl:nodes.length≤1000000) (hR:∀x∈nodes,0≤x∧x<N)
  (hg:∀(k:Int) d,Con Tryz.prog g true [li k] (.v (lb (rel||decide (k≠2)))) none d) (d:Nat):Con Tryz.prog 43 false [aPd ns nv E,lI nodes,lb back,.one (.fn g [])] (.v (lBl (czL (prs back rel E) nodes N))) none d:=by
 have hP:=prs_in (back:=back) (rel:=rel) hE;have hPl:=X6X back rel E;have hdone:=fun S=>Wk.done (S:=S) hP hR;have hinit:=Wk.init (P:=prs back rel E) hR;obtain⟨res,hres⟩:∃r,czL (prs back rel E) nodes N=r:=⟨_,rfl⟩;simp only[hres]at hdone⊢;clear hres;have hw1:IntKind.i64.wrap (ns+nv)=ns+nv:=Xc (by omega) (by omega);have hw2:IntKind.i64.wrap (ns+nv+1)=N:=by rw[hN];exact Xc (by omega) (by omega)
 have hwN:IntKind.i64.wrap (N:Int)=N:=Xc (by omega) (by omega);have ccl:=X8E nodes (by omega);have hbig:(8:Int)*N≤281474976710656:=by omega
 have hbig2:(N:Int)≤281474976710656:=by omega
 have hbig3:(24:Int)*N≤281474976710656:=by omega
 have hmx:N≤maxLen:=by unfold maxLen;omega
 have hnil:=nxM_nil N;have hrep:=X60 N;unfold aPd;refine X4 Tryz.func43 ?_;simp only[Tryz.f43];refine X2 ?_;refine X2 ?_;refine XD (le_mat 21 3 1 (by decide) (by decide) rfl rfl rfl) ?_;refine XD (le_matE 21 900001 rfl rfl) ?_;refine XD (s':=⟨⟨95,none⟩,[(1,.v (.one (.c (.sl 1 (Xg nodes))))),(2,.v (lb back)),(3,.v (.one (.fn g []))),(4,.v (.one (.at_ 4 0))),(9,.v (.one (.own 900001)))],[(4,.box [.c (iC ns),.c (iC nv),.c (.sl 3 (XV E))]),(900001,.mat 29 3 1 (ZW (nxM N (prs back rel (E.take 0)))))]⟩) (Xy (fun n=>n) [] rfl (by simp[Wg,RV.mv,TV.mv,CV.mv]) (by simp[Wg,Ob.mv,CV.mv,ins,del,prs,hnil]) (by simp)) ?_;refine X0<|X0<|X1 ?_;refine X3<|(Xe [1,2,3,9,23,24] (fun(y:Nat)=>[(25,.v (li y)),(9,.v (.one (.own 900001)))]) (fun y=>[(900001,.mat 29 3 1 (ZW (nxM N (prs back rel (E.take y)))))]) (fun y=>y≤E.length) (fun y=>E.length - y) (0:Nat) (Nat.zero_le _) ?_ ?_)
 · exact X5 (fun n=>n) []
 rintro y hy;simp only[upS,X6,XL]
 try simp only[X6,KN,Nat.reduceBEq,if_true,if_false,ins,Nat.reduceLT]
 refine X2 ?_;refine X0<|(X9 rfl (fun h5=>Xd ?_) (fun h5=>?_))
 · (try simp only[BN]at h5);have hlt:y<E.length:=by omega
   have hw3:=XN hlt (by omega);obtain⟨x,hx,_⟩:=Xr hlt;have hxe:=Wc hx;have htp:=X7G hx back rel;obtain⟨⟨f0,f1⟩,t0,t1⟩:=hE x (List.mem_of_getElem? hx);obtain⟨xf,xt,xk⟩:=x;simp only at f0 f1 t0 t1;obtain⟨f,rfl⟩:∃f:Nat,xf=f:=⟨xf.toNat,by omega⟩;obtain⟨t,rfl⟩:∃t:Nat,xt=t:=⟨xt.toNat,by omega⟩;simp only[Dp.enc]at hxe;simp only at htp;have hlt2:y+1≤E.length:=hlt;clear h5 hlt;refine X0<|X3<|X0<|X1 ?_;refine X0<|X0<|(Xm [⟨true,.v (lb (rel||decide (xk≠2))),none⟩] ?_ ?_)
   · first|exact hg xk _|exact trivial|simpa[*]using hg xk _
   refine(Xb rfl (fun h8=>?_) fun h8=>?_)
   · (try simp only[BN]at h8);have hu:(rel||decide (xk≠2))=false:=by simpa using h8
     rw[hu]at htp;simp only[Bool.false_eq_true,if_false,List.append_nil]at htp;clear h8 hu;refine(Xi ?_);refine X1 ?_;exact⟨y+1,hlt2,by omega,X5 (fun n=>n) []⟩
   try simp only[BN]at h8
   have hu:(rel||decide (xk≠2))=true:=by
    rcases Bool.eq_false_or_eq_true (rel||decide (xk≠2))with h|h
    · exact h
    exfalso;simp at h h8;rcases h8 with e|e
    · rw[h.1]at e;cases e
    exact e h.2
   rw[hu]at htp;simp only[if_true]at htp;clear h8 hu;refine X2 ?_;refine(X9 rfl (fun h12=>?_) (fun h12=>?_))
   · (try simp only[BN]at h12);have hb:back=true:=by simpa using h12
     subst hb;simp only[if_true]at htp;have hrg:=X7I (X6H (prs true rel (E.take y)) (show t<N by omega));have hrs:=X8B (nxM N (prs true rel (E.take y))) t (nxF (prs true rel (E.take y)) t) f;rw[X9Y,←htp]at hrs;have ht1:t+1≤(ZW (nxM N (prs true rel (E.take y)))).length:=by simp;omega
     have hroom:QV ((nxF (prs true rel (E.take y)) t).length+1) 8:=by
      have h1:=X2t (prs true rel (E.take y)) t;have h2:=X6X true rel (E.take y);have h3:(E.take y).length≤E.length:=by simp;omega
      exact⟨by unfold maxLen;omega,by omega⟩
     clear h12;refine XD (s':=⟨⟨95,none⟩,[(1,.v (.one (.c (.sl 1 (Xg nodes))))),(2,.v (lb true)),(3,.v (.one (.fn g []))),(9,.v (.one (.own 900001))),(11,.v (.one (.at_ 11 0))),(23,.v (.one (.c (.sl 3 (XV E))))),(24,.v (li E.length)),(25,.v (li y))],[(11,.box [.c (iC f),.c (iC t),.c (iC xk)]),(900001,.mat 29 3 1 (ZW (nxM N (prs true rel (E.take y)))))]⟩) (Xy (fun n=>n) [] rfl (by simp) (by simp) (by simp)) ?_;refine(rg114_13 (Xg nodes) (XV E) E.length g (ZW (nxM N (prs true rel (E.take y)))) (Xg (nxF (prs true rel (E.take y)) t)) y f t xk hrg ht1 (by simpa using hroom) ?_);refine XD (s':=⟨⟨95,none⟩,[(1,.v (.one (.c (.sl 1 (Xg nodes))))),(2,.v (lb true)),(3,.v (.one (.fn g []))),(9,.v (.one (.own 900001))),(23,.v (.one (.c (.sl 3 (XV E))))),(24,.v (li E.length)),(25,.v (li y))],[(900001,.mat 29 3 1 (ZW (nxM N (prs true rel (E.take (y+1))))))]⟩) (Xy (fun n=>if n=900001 then 46 else n) [] rfl (by simp[Qn,trS,Wg,RV.mv,TV.mv,CV.mv,ins]) (by simp[Wg,Ob.mv,CV.mv,hrs,del,ins]) (by simp)) ?_;refine X1 ?_;exact⟨y+1,hlt2,by omega,X5 (fun n=>n) []⟩
   (try simp only[BN]at h12);have hb:back=false:=by simpa using h12
   subst hb;simp only[Bool.false_eq_true,if_false]at htp;have hrg:=X7I (X6H (prs false rel (E.take y)) (show f<N by omega));have hrs:=X8B (nxM N (prs false rel (E.take y))) f (nxF (prs false rel (E.take y)) f) t;rw[X9Y,←htp]at hrs;have ht1:f+1≤(ZW (nxM N (prs false rel (E.take y)))).length:=by simp;omega
   have hroom:QV ((nxF (prs false rel (E.take y)) f).length+1) 8:=by
    have h1:=X2t (prs false rel (E.take y)) f;have h2:=X6X false rel (E.take y);have h3:(E.take y).length≤E.length:=by simp;omega
    exact⟨by unfold maxLen;omega,by omega⟩
   clear h12;refine XD (s':=⟨⟨95,none⟩,[(1,.v (.one (.c (.sl 1 (Xg nodes))))),(2,.v (lb false)),(3,.v (.one (.fn g []))),(9,.v (.one (.own 900001))),(11,.v (.one (.at_ 11 0))),(23,.v (.one (.c (.sl 3 (XV E))))),(24,.v (li E.length)),(25,.v (li y))],[(11,.box [.c (iC f),.c (iC t),.c (iC xk)]),(900001,.mat 29 3 1 (ZW (nxM N (prs false rel (E.take y)))))]⟩) (Xy (fun n=>n) [] rfl (by simp) (by simp) (by simp)) ?_;refine(rg114_16 (Xg nodes) (XV E) E.length g (ZW (nxM N (prs false rel (E.take y)))) (Xg (nxF (prs false rel (E.take y)) f)) y f t xk hrg ht1 (by simpa using hroom) ?_);refine XD (s':=⟨⟨95,none⟩,[(1,.v (.one (.c (.sl 1 (Xg nodes))))),(2,.v (lb false)),(3,.v (.one (.fn g []))),(9,.v (.one (.own 900001))),(23,.v (.one (.c (.sl 3 (XV E))))),(24,.v (li E.length)),(25,.v (li y))],[(900001,.mat 29 3 1 (ZW (nxM N (prs false rel (E.take (y+1))))))]⟩) (Xy (fun n=>if n=900001 then 59 else n) [] rfl (by simp[Qn,trS,Wg,RV.mv,TV.mv,CV.mv,ins]) (by simp[Wg,Ob.mv,CV.mv,hrs,del,ins]) (by simp)) ?_;refine X1 ?_;exact⟨y+1,hlt2,by omega,X5 (fun n=>n) []⟩
 (try simp only[BN]at h5);have hyl:y=E.length:=by omega
 subst hyl;have hte:E.take E.length=E:=List.take_length;rw[hte];clear h5;obtain⟨P,hPP⟩:∃p,prs back rel E=p:=⟨_,rfl⟩;rw[hPP]at hP hPl hdone hinit⊢;have hmat:=rowI_mat (nxM N P);clear hPP hte;refine(Xi ?_);refine XD (le_frzM 900001 rfl) ?_;refine XD (s':=⟨⟨95,none⟩,[(1,.v (.one (.c (.sl 1 (Xg nodes))))),(9,.v (.one (.c (.sl 1 (X41 (nxM N P))))))],[]⟩) (Xy (fun n=>n) [] rfl (by simp[HS.frz,ZW,X41]) (by simp[HS.frz]) (by simp)) ?_;refine X2 ?_;refine Xp [⟨false,.v (.one (.own 66)),some (.row 3 1 (Xg nodes))⟩] ?_ ?_
 · first|exact ccl _ (by decide)|exact trivial|simpa[*]using ccl _ (by decide)
 refine X0<|X3<|(Xe [9,12] (fun(y:List Bool×List Int)=>[(13,.v (.one (.own 1013)))]) (fun y=>[(64,.row 4 1 (ZU y.1)),(1013,.row 3 1 (Xg y.2))]) (fun y=>Wk N P nodes y.1 y.2) (fun y=>cfS y.1*(P.length+1)+y.2.length) (List.replicate N false,nodes) hinit ?_ ?_)
 · exact X5 (fun n=>if n=1013 then 66 else n) []
 rintro⟨S,W0⟩ hj;simp only[upS,X6,XL]
 try simp only[X6,KN,Nat.reduceBEq,if_true,if_false,ins,Nat.reduceLT]
 simp only at hj;have hbd:=hj.bd
 have hWl:W0.length≤3000000000000:=by
  have h1:N*(P.length+1)≤100000*20000001:=Nat.mul_le_mul hN2 (by omega);omega
 clear hbd;refine X0<|X0<|X1 ?_;refine(X9 rfl (fun h23=>Xd ?_) (fun h23=>?_))
 · (try simp only[BN]at h23);obtain⟨W,x,rfl⟩:=snoc_of (l:=W0) (by rintro rfl;simp at h23);obtain⟨⟨x0,x1⟩,_⟩:=hj.wk x (by simp);obtain⟨k,rfl⟩:∃k:Nat,x=k:=⟨x.toNat,by omega⟩;have hkN:k<N:=by omega
   have hSl:=hj.len;obtain⟨b,hb,_⟩:=Xr (show k<S.length by omega);have hbe:=QN hb;have hwx:(Xg (W++[(k:Int)]))[W.length]? =some [iC k]:=by simp[Xg]
   have hwl:(Xg (W++[(k:Int)])).length=W.length+1:=by simp
   have hwt:(Xg (W++[(k:Int)])).take W.length=Xg W:=by simp[Xg]
   have hw4:IntKind.i64.wrap ((W.length:Int)+1 - 1)=W.length:=by rw[List.length_append]at hWl;simp only[List.length_singleton]at hWl;rw[Xc (by omega) (by omega)];omega
   have hw5:IntKind.i64.wrap (W.length:Int)=W.length:=by rw[List.length_append]at hWl;simp only[List.length_singleton]at hWl;exact Xc (by omega) (by omega)
   have hroomW:QV (W.length+(nxF P k).length) 8:=by
    have h1:=X2t P k;rw[List.length_append]at hWl;simp only[List.length_singleton]at hWl;exact⟨by unfold maxLen;omega,by omega⟩
   have hne:=Xb9 (X6H P hkN);have hset:=X3l S k true;clear h23 hkN hSl x1;refine X3<|X0<|X1 ?_;refine X0<|(XJ ?_);refine RunsN.cutE 4 [] (by simp[*];rfl) trivial (le_refl _) ?_;refine RunsN.cutR (l:=0) (hi:=W.length) rfl rfl rfl rfl rfl rfl rfl rfl rfl rfl rfl (by simp[X0i, *]) (Nat.zero_le _) (by simp) ?_;refine RunsN.doneE [] (by simp[*];rfl) trivial ?_;refine X0<|X0<|X1 ?_;refine(Xb rfl (fun h27=>?_) fun h27=>?_)
   · (try simp only[BN]at h27);have hbt:b=true:=by simpa using h27
     subst hbt;have hj2:=hj.skip (by simpa using hb);have hlt3:cfS S*(P.length+1)+W.length<cfS S*(P.length+1)+(W++[(k:Int)]).length:=by simp
     clear hj;refine(Xi ?_);exact⟨(S,W),hj2,hlt3,X5 (fun n=>if n=1013 then 80 else n) []⟩
   (try simp only[BN]at h27);have hbt:b=false:=by simpa using h27
   subst hbt;have hb2:S[(k:Int).toNat]? =some false:=by simpa using hb
   have hj2:=hj.add hP hb2;have hlt3:=Wk.lt (N:=N) (R:=nodes) (P:=P) (W:=W) hb2;simp only[Int.toNat_natCast]at hj2 hlt3;clear hj;refine X2 ?_;refine X1 ?_;exact⟨(S.set k true,W++nxF P k),hj2,hlt3,X5 (fun n=>if n=1013 then 93 else n) []⟩
 try simp only[BN]at h23
 have hW0:W0=[]:=by
  rcases W0 with _|⟨a,W0⟩
  · rfl
  simp at h23<;>omega
 subst hW0;have hS:=hdone S hj;rw[hS];refine(Xi ?_);refine XD (Qr 64 rfl) ?_;refine X2 ?_;exact Xf
end Go.Proofs.YtdajceakaakdoaaGreat

namespace Go.Proofs.YtdajceakaakdoaaGreat
open Go Go.Hl
theorem X9W {N:Int}:∀{l:List Dp} {p:Option Dp},chL N p l=0→∀e∈l,X3j N e=true
 |[],_,_,e,he=>by cases he
 | x::l,p,h,e,he=>by
   simp only[chL]at h;split at h
   · cases h
   split at h
   · cases h
   split at h
   · cases h
   rename_i h1 _ _;rcases List.mem_cons.1 he with rfl|he
   · simpa using h1
   exact X9W h e he
theorem ch_all {ns nv:Int} {E:List Dp} (h:chF ns nv E=0):∀e∈E,X3j (ns+nv) e=true:=by
 unfold chF at h;split at h
 · cases h
 exact X9W h
theorem ch_in {ns nv:Int} {E:List Dp} {N:Nat} (hN:ns+nv+1=N) (h:chF ns nv E=0):∀e∈E,(0≤e.f∧e.f<N)∧(0≤e.t∧e.t<N):=by
 intro e he;have h1:=ch_all h e he;simp only[X3j,Bool.and_eq_true,decide_eq_true_eq]at h1;omega
theorem all_con (k:Int) (d:Nat):Con Tryz.prog 131 true [li k] (.v (lb (true||decide (k≠2)))) none d:=by
 refine X4 Tryz.func131 ?_;simp only[Tryz.f131];refine X2 ?_;refine X2 ?_;exact Xf
theorem X8I (k:Int) (d:Nat):Con Tryz.prog 44 true [li k] (.v (lb (false||decide (k≠2)))) none d:=by
 refine X4 Tryz.func44 ?_;simp only[Tryz.f44];refine X2 ?_;refine X2 ?_;exact Xf
def ZR (N:Int) (l:List Int):Bool:=l.all fun x=>decide (0≤x)&&decide (x<N)
theorem nodB_at {N:Int} {l:List Int} {y:Nat} {x:Int} (hd:l.drop y=x::l.drop (y+1)):ZR N (l.drop y)=((decide (0≤x)&&decide (x<N))&&ZR N (l.drop (y+1))):=by
 rw[hd];rfl
theorem X5e {N:Int} {l:List Int} (h:ZR N l=true):∀x∈l,0≤x∧x<N:=by
 intro x hx;unfold ZR at h;simpa using List.all_eq_true.1 h x hx
noncomputable def wkR (back:Bool) (ns nv:Int) (E:List Dp) (nodes:List Int):RV:=
 .tup [if chF ns nv E=0∧ZR (ns+nv+1) nodes=true then lBl (czL (prs back true E) nodes (ns+nv+1).toNat)else .one (.c (.lit XO)),li (if chF ns nv E=0 then(if ZR (ns+nv+1) nodes=true then 0 else 3)else 1)]
theorem X8a (back:Bool) (ns nv:Int) (E:List Dp) (nodes:List Int) (hl:E.length≤20000000) (hnl:nodes.length≤1000000) (d:Nat):Con Tryz.prog 70 false [aPd ns nv E,lI nodes,lb back] (wkR back ns nv E nodes) none d:=by
 have cc:=X4P ns nv E hl;unfold wkR;by_cases h0:chF ns nv E=0
 · obtain⟨⟨n0,n1⟩,v0,v1⟩:=X5p (X86 h0);obtain⟨N,hN⟩:∃N:Nat,ns+nv+1=N:=⟨(ns+nv+1).toNat,by omega⟩;have cr:=fun hR=>X43 ns nv E nodes back true 131 N hN n0 v0 (by omega) hl (ch_in hN h0) hnl hR all_con;have hw1:IntKind.i64.wrap (ns+nv)=ns+nv:=Xc (by omega) (by omega);rw[h0]at cc;simp only[h0,if_true,true_and,hN,Int.toNat_natCast];have hmem:=X5e (N:=(N:Int)) (l:=nodes);obtain⟨B,hB⟩:∃b,ZR (N:Int) nodes=b:=⟨_,rfl⟩;rw[hB]at hmem⊢;obtain⟨Z,hZ⟩:∃z,czL (prs back true E) nodes N=z:=⟨_,rfl⟩;rw[hZ]at cr⊢;clear h0 hZ;unfold aPd at cc cr⊢;refine X4 Tryz.func70 ?_;simp only[Tryz.f70];refine X2 ?_;refine X0<|X0<|(Xm [⟨true,.v (li 0),none⟩] ?_ ?_)
   · first|exact cc _|exact trivial|simpa[*]using cc _
   refine(Xb rfl (fun h2=>?_) fun h2=>?_)
   · exact absurd h2 (by simp)
   (try simp only[BN]at h2);refine X0<|X0<|X1 ?_;refine X3<|(Xe [1,2,3,13,14] (fun(y:Nat)=>[(15,.v (li y))]) (fun y=>[(3,.box [.c (iC ns),.c (iC nv),.c (.sl 3 (XV E))])]) (fun y=>y≤nodes.length∧ZR (N:Int) (nodes.drop y)=B) (fun y=>nodes.length - y) (0:Nat) ⟨Nat.zero_le _,hB⟩ ?_ ?_)
   · exact X5 (fun n=>n) []
   rintro y ⟨hy,hj⟩;simp only[upS,X6,XL]
   try simp only[X6,KN,Nat.reduceBEq,if_true,if_false,ins,Nat.reduceLT]
   refine X2 ?_;refine X0<|(X9 rfl (fun h8=>Xd ?_) (fun h8=>?_))
   · (try simp only[BN]at h8);have hlt:y<nodes.length:=by omega
     have hw2:=XN hlt (by omega);obtain⟨x,hx,hdr⟩:=Xr hlt;rw[nodB_at hdr]at hj;have hlt2:y+1≤nodes.length:=hlt;clear h8 hlt hdr;refine X0<|X3<|X0<|X1 ?_;refine X2 ?_;refine(Xb rfl (fun h11=>?_) fun h11=>?_)
     · try simp only[BN]at h11
       have hb:B=false:=by
        rw[←hj]
        have h12:¬(0≤x∧x<(N:Int)):=by
         try simp at h11
         omega
        rw[show(decide (0≤x)&&decide (x<(N:Int)))=false by rw[←Bool.not_eq_true];simpa using h12];rfl
       subst hb;refine X2 ?_;exact Xf
     try simp only[BN]at h11
     have hb:ZR (N:Int) (nodes.drop (y+1))=B:=by
      rw[←hj]
      have h12:0≤x∧x<(N:Int):=by
       try simp at h11
       omega
      rw[show(decide (0≤x)&&decide (x<(N:Int)))=true by simpa using h12];rfl
     clear h11;refine X1 ?_;exact⟨y+1,⟨hlt2,hb⟩,by omega,X5 (fun n=>n) []⟩
   (try simp only[BN]at h8);have hyl:y=nodes.length:=by omega
   subst hyl
   have hb:B=true:=by
    rw[←hj,List.drop_length];rfl
   subst hb;have cr:=cr (hmem rfl);refine(Xi ?_);refine Xp [⟨false,.v (lBl Z),none⟩] ?_ ?_
   · first|exact cr _|exact trivial|simpa[*]using cr _
   exact Xf
 obtain⟨C,hC⟩:∃x,chF ns nv E=x:=⟨_,rfl⟩;rw[hC]at cc h0;simp only[hC,if_neg h0,h0,false_and,if_false];clear hC;unfold aPd at cc⊢;refine X4 Tryz.func70 ?_;simp only[Tryz.f70];refine X2 ?_;refine X0<|X0<|(Xm [⟨true,.v (li C),none⟩] ?_ ?_)
 · first|exact cc _|exact trivial|simpa[*]using cc _
 refine(Xb rfl (fun h2=>?_) fun h2=>?_)
 · (try simp only[BN]at h2);refine X2 ?_;exact Xf
 exact absurd (by simpa using h2) h0
theorem X84 (ns nv:Int) (E:List Dp) (nodes:List Int) (hl:E.length≤20000000) (hnl:nodes.length≤1000000) (d:Nat):Con Tryz.prog 28 false [aPd ns nv E,lI nodes] (wkR true ns nv E nodes) none d:=by
 have cc:=X8a true ns nv E nodes hl hnl;unfold wkR at cc⊢;obtain⟨A,hA⟩:∃x,(if chF ns nv E=0∧ZR (ns+nv+1) nodes=true then lBl (czL (prs true true E) nodes (ns+nv+1).toNat)else .one (.c (.lit XO)))=x:=⟨_,rfl⟩;obtain⟨C,hC⟩:∃x,(if chF ns nv E=0 then(if ZR (ns+nv+1) nodes=true then(0:Int)else 3)else 1)=x:=⟨_,rfl⟩;have hAd:∃D:CD,A=.one (.c D):=by rw[←hA];split<;>exact⟨_,rfl⟩
 rw[hA,hC]at cc⊢;obtain⟨D,rfl⟩:=hAd;clear hA hC;unfold aPd at cc⊢;refine X4 Tryz.func28 ?_;simp only[Tryz.f28];refine X2 ?_;refine Xp [⟨false,.tup [.one (.c D),li C],none⟩] ?_ ?_
 · first|exact cc _|exact trivial|simpa[*]using cc _
 exact Xf
theorem X5N (ns nv:Int) (E:List Dp) (nodes:List Int) (hl:E.length≤20000000) (hnl:nodes.length≤1000000) (d:Nat):Con Tryz.prog 33 false [aPd ns nv E,lI nodes] (wkR false ns nv E nodes) none d:=by
 have cc:=X8a false ns nv E nodes hl hnl;unfold wkR at cc⊢;obtain⟨A,hA⟩:∃x,(if chF ns nv E=0∧ZR (ns+nv+1) nodes=true then lBl (czL (prs false true E) nodes (ns+nv+1).toNat)else .one (.c (.lit XO)))=x:=⟨_,rfl⟩;obtain⟨C,hC⟩:∃x,(if chF ns nv E=0 then(if ZR (ns+nv+1) nodes=true then(0:Int)else 3)else 1)=x:=⟨_,rfl⟩;have hAd:∃D:CD,A=.one (.c D):=by rw[←hA];split<;>exact⟨_,rfl⟩
 rw[hA,hC]at cc⊢;obtain⟨D,rfl⟩:=hAd;clear hA hC;unfold aPd at cc⊢;refine X4 Tryz.func33 ?_;simp only[Tryz.f33];refine X2 ?_;refine Xp [⟨false,.tup [.one (.c D),li C],none⟩] ?_ ?_
 · first|exact cc _|exact trivial|simpa[*]using cc _
 exact Xf
end Go.Proofs.YtdajceakaakdoaaGreat

namespace Go.Proofs.YtdajceakaakdoaaGreat
open Go Go.Hl
end Go.Proofs.YtdajceakaakdoaaGreat

namespace Go.Proofs.YtdajceakaakdoaaGreat
open Go Go.Hl
end Go.Proofs.YtdajceakaakdoaaGreat

namespace Go.Proofs.YtdajceakaakdoaaGreat
open Go Go.Hl
theorem Zk:∀(l:List St) (i:Int),i<0→Z6 l i=none
 |[],i,h=>X2x i
 | .mk d c v n t a b bs::l,i,h=>by
   rw[X0u];rw[if_neg (by omega),Zk a _ (by omega)];simp only;rw[Zk b _ (by omega)];simp only;exact Zk l _ (by omega)
theorem X0b:∀(l:List St) (i:Int),(szL l:Int)≤i→Z6 l i=none
 |[],i,h=>X2x i
 | .mk d c v n t a b bs::l,i,h=>by
   simp only[szL,szS]at h;rw[X0u];rw[if_neg (by omega),X0b a _ (by omega)];simp only;rw[X0b b _ (by omega)];simp only;exact X0b l _ (by omega)
theorem X2q:∀(l:List St) (i:Int),0≤i→i<(szL l:Int)→∃s,Z6 l i=some s∧s.nodes≤Xs l∧(Zv l=true→X4c s=true)∧i+szS s≤szL l∧szL (woL l i)+szS s=szL l
 |[],i,h0,h=>by simp only[szL]at h;omega
 | .mk d c v n t a b bs::l,i,h0,h=>by
   simp only[szL,szS]at h;rw[X0u];split
   · rename_i e;subst e;refine⟨_,rfl,?_,?_,?_,?_⟩
     · simp only[Xs];omega
     · intro hb;simp only[Zv,Bool.and_eq_true]at hb;exact hb.1
     · simp only[szL,szS];omega
     simp only[woL,if_pos,List.nil_append,szL];rw[X06 l _ (by have:=X6F (.mk d c v n t a b bs);omega)];omega
   rename_i e;by_cases ha:i - 1<(szL a:Int)
   · obtain⟨s,h1,h2,h3,h4,h5⟩:=X2q a (i - 1) (by omega) ha;rw[h1];refine⟨s,rfl,?_,?_,?_,?_⟩
     · simp only[Xs,St.nodes];omega
     · intro hb;simp only[Zv,X4c,Bool.and_eq_true]at hb;exact h3 hb.1.2.1
     · simp only[szL,szS];omega
     simp only[woL,if_neg e,woS,List.cons_append,List.nil_append,szL,szS];rw[X06 b _ (by omega),X06 l _ (by omega)];omega
   rw[X0b a _ (by omega)];simp only;by_cases hb:i - 1 - (szL a:Int)<(szL b:Int)
   · obtain⟨s,h1,h2,h3,h4,h5⟩:=X2q b (i - 1 - szL a) (by omega) hb;rw[h1];refine⟨s,rfl,?_,?_,?_,?_⟩
     · simp only[Xs,St.nodes];omega
     · intro hb;simp only[Zv,X4c,Bool.and_eq_true]at hb;exact h3 hb.1.2.2
     · simp only[szL,szS];omega
     simp only[woL,if_neg e,woS,List.cons_append,List.nil_append,szL,szS];rw[X06 a _ (by omega),X06 l _ (by omega)];omega
   rw[X0b b _ (by omega)];simp only;obtain⟨s,h1,h2,h3,h4,h5⟩:=X2q l (i - 1 - szL a - szL b) (by omega) (by omega);rw[h1];refine⟨s,rfl,?_,?_,?_,?_⟩
   · simp only[Xs];omega
   · intro hb;simp only[Zv,Bool.and_eq_true]at hb;exact h3 hb.2
   · simp only[szL,szS];omega
   simp only[woL,if_neg e,woS,List.cons_append,List.nil_append,szL,szS];rw[X06 a _ (by omega),X06 b _ (by omega),show i - ((1+szL a+szL b:Nat):Int)=i - 1 - szL a - szL b by omega];omega
end Go.Proofs.YtdajceakaakdoaaGreat

namespace Go.Proofs.YtdajceakaakdoaaGreat
open Go Go.Hl
theorem fnd_flL:∀l:List St,∀i:Int,0≤i→Z6 l i=(flL l)[i.toNat]? :=by
 apply St.lind
 · intro i _;rw[X2x];simp[flL]
 intro d c v n t a b bs l ia ib il i hi;rw[X0u];simp only[flL,flS,List.cons_append,List.append_assoc];split
 · rename_i h0;subst h0;simp
 rename_i h0;have e1:i.toNat=(i - 1).toNat+1:=by omega
 rw[e1,List.getElem?_cons_succ];by_cases h1:i - 1<szL a
 · rw[ia (i - 1) (by omega),List.getElem?_append_left (by rw[Q6];omega)];have hl:(i - 1).toNat<(flL a).length:=by rw[Q6];omega
   rw[List.getElem?_eq_getElem hl]
 rw[X0b a _ (by omega)];simp only;rw[List.getElem?_append_right (by rw[Q6];omega),Q6];have e2:(i - 1).toNat - szL a=(i - 1 - szL a).toNat:=by omega
 rw[e2];by_cases h2:i - 1 - szL a<szL b
 · rw[ib (i - 1 - szL a) (by omega),List.getElem?_append_left (by rw[Q6];omega)];have hl:(i - 1 - szL a).toNat<(flL b).length:=by rw[Q6];omega
   rw[List.getElem?_eq_getElem hl]
 rw[X0b b _ (by omega)];simp only;rw[List.getElem?_append_right (by rw[Q6];omega),Q6];have e3:(i - 1 - szL a).toNat - szL b=(i - 1 - szL a - szL b).toNat:=by omega
 rw[e3,il _ (by omega)]
end Go.Proofs.YtdajceakaakdoaaGreat

namespace Go.Proofs.YtdajceakaakdoaaGreat
open Go Go.Hl
def fdC:Option St→CD
 |none=>.lit (.pointer none)
 |some s=>.ptr s.enc
def fdO (o:Option St) (fd:Option St):Option St:=match o with|some s=>some s|none=>fd
theorem fd_step (s:St) (l:List St) (i a:Int) (fd:Option St) (h:0≤a):
  fdO (Z6 (s::l) (i - a)) fd=fdO (Z6 l (i - (a+1+szL s.then_+szL s.else_))) (fdO (Z6 s.else_ (i - (a+1+szL s.then_))) (fdO (Z6 s.then_ (i - (a+1))) (if a=i then some s else fd))):=by
 obtain⟨d,c,v,n,t,sa,sb,bs⟩:=s;simp only[St.then_,St.else_];rw[X0u,show i - (a+1)=i - a - 1 by omega,show i - (a+1+(szL sa:Int))=i - a - 1 - szL sa by omega,show i - (a+1+(szL sa:Int)+szL sb)=i - a - 1 - szL sa - szL sb by omega];obtain⟨j,hj⟩:∃j,i - a=j:=⟨_,rfl⟩;rw[hj];by_cases h0:j=0
 · rw[if_pos h0,if_pos (by omega),Zk sa _ (by omega),Zk sb _ (by omega),Zk l _ (by omega)];rfl
 rw[if_neg h0,if_neg (by omega)];cases ha:Z6 sa (j - 1)with
 | some x=>
   have:j - 1<szL sa:=by
    rcases Int.lt_or_le (j - 1) (szL sa)with h|h
    · exact h
    rw[X0b sa _ h]at ha;cases ha
   rw[Zk sb _ (by omega),Zk l _ (by omega)];rfl
 | none=>
   cases hb:Z6 sb (j - 1 - szL sa)with
   | some x=>
     have:j - 1 - szL sa<szL sb:=by
      rcases Int.lt_or_le (j - 1 - szL sa) (szL sb)with h|h
      · exact h
      rw[X0b sb _ h]at hb;cases hb
     rw[Zk l _ (by omega)];rfl
   |none=>rfl
def atO (i a:Int) (fd:CD):List (Nat×Ob):=[(1000000,.box [.c (iC a)]),(1000001,.box [.c (iC i)]),(1000002,.box [.c fd]),(1000003,.box [.fn 86 [(1000000,0),(1000001,0),(1000002,0),(1000003,0)]])]
theorem at1_con (i:Int) (l:List St):Xs l≤1000000→∀(a:Int) (fd:Option St),0≤a→a+szL l≤5000000→
  X49 Tryz.prog 86 (atO i a (fdC fd)) [lS l,.one (.at_ 1000000 0),.one (.at_ 1000001 0),.one (.at_ 1000002 0),.one (.at_ 1000003 0)] (.tup []) (atO i (a+szL l) (fdC (fdO (Z6 l (i - a)) fd))):=by
 revert l
 apply St.lists;intro l ih hn a fd h0 h1;have hlen:=WP l;obtain⟨A,hA⟩:∃x,a+(szL l:Int)=x:=⟨_,rfl⟩;obtain⟨R,hR⟩:∃x,fdO (Z6 l (i - a)) fd=x:=⟨_,rfl⟩;rw[hA]at h1⊢;rw[hR];simp only[atO]at ih⊢;refine X8A Tryz.func86 rfl (by kernel_rfl) (Nat.le_of_ble_eq_true rfl) (pin_mk rfl) ?_;simp only[Tryz.f86];refine X2 ?_;refine X3<|(Xe [0,1,2,3,4,8] (fun(x:Nat×Int×Option St)=>[(9,.v (li x.1))]) (fun x=>[(1000000,.box [.c (iC x.2.1)]),(1000001,.box [.c (iC i)]),(1000002,.box [.c (fdC x.2.2)]),(1000003,.box [.fn 86 [(1000000,0),(1000001,0),(1000002,0),(1000003,0)]])]) (fun x=>x.1≤l.length∧x.2.1+(szL (l.drop x.1):Int)=A∧fdO (Z6 (l.drop x.1) (i - x.2.1)) x.2.2=R∧0≤x.2.1) (fun x=>l.length - x.1) (0,a,fd) ⟨Nat.zero_le _,hA,hR,h0⟩ ?_ ?_)
 · exact X5 (fun n=>n) []
 rintro⟨k,c,fc⟩ ⟨hk,hJ,hF,hc0⟩;simp only[upS,X6,XL]
 try simp only[X6,KN,Nat.reduceBEq,if_true,if_false,ins,Nat.reduceLT]
 simp only at hk hJ hF hc0;clear hA hR h0;refine X2 ?_;refine X0<|(X9 rfl (fun h3=>Xd ?_) (fun h3=>?_))
 · (try simp only[BN]at h3);have hlt:k<l.length:=by omega
   obtain⟨s,he,hd⟩:=Xr hlt;have hw1:=XN hlt (by omega);have hk1:k+1≤l.length:=hlt;have hmem:s∈l:=List.mem_of_getElem? he;have hnm:=ZF hmem;have he':=Qy he;have iha:=(ih s hmem).1 (by omega);have ihb:=(ih s hmem).2 (by omega);rw[hd]at hJ hF;rw[fd_step s _ i c fc hc0]at hF;simp only[szL]at hJ;obtain⟨f1,hf1⟩:∃x,(if c=i then some s else fc)=x:=⟨_,rfl⟩;rw[hf1]at hF;have hlb:=X1U s.else_;have hla:=X1U s.then_
   have hss:szS s=1+szL s.then_+szL s.else_:=by
    obtain⟨sd,sc,sv,sn,t,sa,sb,sbs⟩:=s;simp only[szS,St.then_,St.else_]
   have iha:=iha (c+1) f1 (by omega) (by omega);have ihb:=ihb (c+1+szL s.then_) (fdO (Z6 s.then_ (i - (c+1))) f1) (by omega) (by omega);obtain⟨f2,hf2⟩:∃x,fdO (Z6 s.then_ (i - (c+1))) f1=x:=⟨_,rfl⟩;rw[hf2]at iha ihb hF;obtain⟨f3,hf3⟩:∃x,fdO (Z6 s.else_ (i - (c+1+(szL s.then_:Int)))) f2=x:=⟨_,rfl⟩;rw[hf3]at ihb hF
   have hfs:c=i→fdC f1=.ptr s.enc:=by
    intro h;rw[←hf1,if_pos h];rfl
   have hfn:¬c=i→f1=fc:=by
    intro h;rw[←hf1,if_neg h]
   obtain⟨sd,sc,sv,sn,⟨so,stn,sks⟩,sa,sb,sbs⟩:=s;simp only[St.then_,St.else_,St.term]at iha ihb hnm hF hla hlb;simp only[szS]at hJ;clear hss;simp only[St.enc,Tm.enc,List.cons_append,List.nil_append]at he' hfs;generalize szL sa=na at*;generalize szL sb=nb at*;have hwa:IntKind.i64.wrap (c+1)=c+1:=Xc (by omega) (by omega);clear hlt h3 ih hmem hd he hf1 hf2 hf3;refine X0<|X3<|X0<|X1 ?_;refine(Qe [0,1,2,3,4,6,8,9] (fun(z:Unit)=>[]) (fun(z:Unit)=>[(1000000,.box [.c (iC c)]),(1000001,.box [.c (iC i)]),(1000002,.box [.c (fdC f1)]),(1000003,.box [.fn 86 [(1000000,0),(1000001,0),(1000002,0),(1000003,0)]])]) (fun(z:Unit)=>True) ?_ ?_)
   ·
    refine X2 ?_;refine(Xb rfl (fun h7=>?_) fun h7=>?_)
    · (try simp only[BN]at h7);have hfs:=hfs (by simpa using h7);clear h7 hfn;refine X1 ?_;exact⟨(),trivial,X5 (fun n=>n) []⟩
    (try simp only[BN]at h7);have hfn:=hfn (by simpa using h7);clear h7 hfs;subst hfn;exact⟨(),trivial,X5 (fun n=>n) []⟩
   rintro⟨⟩ hz;simp only[upS,X6,XL]
   try simp only[X6,KN,Nat.reduceBEq,if_true,if_false,ins,Nat.reduceLT]
   clear hfs hfn;refine X2 ?_;refine X0<|(X7o [] 6 [] (fun n=>n) (fun n=>n) (by kernel_rfl) (by kernel_rfl) (by rfl) (by kernel_rfl) (by rfl) (by simp[*,evcH,hokB,Qs];first|exact⟨rfl,Iff.rfl⟩|exact⟨rfl,trivial⟩|rfl) trivial (by rfl) (by simp;rfl) (Wn (by simp) (by simp) (by simp) (by simp) (by simp)) iha (by rfl) ?_);refine(X7o [] 6 [] (fun n=>n) (fun n=>n) (by kernel_rfl) (by kernel_rfl) (by rfl) (by kernel_rfl) (by rfl) (by simp[*,evcH,hokB,Qs];first|exact⟨rfl,Iff.rfl⟩|exact⟨rfl,trivial⟩|rfl) trivial (by rfl) (by simp;rfl) (Wn (by simp) (by simp) (by simp) (by simp) (by simp)) ihb (by rfl) ?_);refine X1 ?_;exact⟨(k+1,c+1+na+nb,f3),⟨hk1,by simp only;omega,hF,by simp only;omega⟩,by simp only;omega,X5 (fun n=>n) []⟩
 (try simp only[BN]at h3);have hkl:k=l.length:=by omega
 rw[hkl,List.drop_length]at hJ hF;rw[X2x]at hF;simp only[szL,fdO]at hJ hF;have hJ:c=A:=by omega
 subst hJ hF;refine(Xi ?_);exact⟨.inl rfl,HT_endS (by simp;rfl) (by simp[XY]) (by simp[*])⟩
end Go.Proofs.YtdajceakaakdoaaGreat

namespace Go.Proofs.YtdajceakaakdoaaGreat
open Go Go.Hl
theorem atP_con (f:Fl) (hn:Xs f.body≤1000000) (hb:Zv f.body=true) (i:Int) (s:St) (hs:Z6 f.body i=some s) (d:Nat):Con Tryz.prog 45 false [aF f,li i] (.tup [aS s,li 0]) none d:=by
 have hsl:=X1U f.body
 have h0:0≤i:=by
  rcases Int.lt_or_le i 0 with h|h
  · rw[Zk _ _ h]at hs;cases hs
  exact h
 have h1:i<szL f.body:=by
  rcases Int.lt_or_le i (szL f.body)with h|h
  · exact h
  rw[X0b _ _ h]at hs;cases hs
 obtain⟨s',e1,e2,e3,_⟩:=X2q f.body i h0 h1;rw[hs]at e1;cases e1;have cc:=XaW s (by omega) (e3 hb);have ca:=at1_con i f.body hn 0 none (by decide) (by omega);rw[Int.sub_zero,hs]at ca;obtain⟨A,hA⟩:∃x,(0:Int)+(szL f.body:Int)=x:=⟨_,rfl⟩;rw[hA]at ca;obtain⟨vars,hats,body⟩:=f;obtain⟨sd,sc,sv,sn,⟨so,stn,sks⟩,sa,sb,sbs⟩:=s;simp only[atO,fdC,fdO,St.enc,Tm.enc,List.cons_append,List.nil_append]at ca;simp only[aS,St.enc,Tm.enc,List.map_cons,List.map_nil,List.cons_append,List.nil_append]at cc;clear hsl h0 h1 e2 e3 hs hn hb hA;refine X4 Tryz.func45 ?_;simp only[Tryz.f45];simp only[aF,Fl.enc,aS,St.enc,Tm.enc,List.map_cons,List.map_nil,List.cons_append,List.nil_append];refine X2 ?_;refine X2 ?_;refine X2 ?_;refine X2 ?_;refine X2 ?_;refine X0<|(HT_runsS ?_);refine RunsS.cutE 3 [] (by simp[*];rfl) trivial (le_refl _) ?_;refine RunsS.call (fun n=>if n=1000000 then 8 else if n=1000001 then 3 else if n=1000002 then 6 else if n=1000003 then 7 else n) (fun n=>if n=1000000 then 8 else if n=1000001 then 3 else if n=1000002 then 6 else if n=1000003 then 7 else n) (by simp;rfl) (Wn (by simp) (by simp) (by simp) (by simp) (by simp)) ca (by rfl) ?_;refine RunsS.doneE [] (by simp;rfl) trivial ?_;refine X0<|X0<|X1 ?_;refine(Xb rfl (fun h7=>?_) fun h7=>?_)
 · exact Bool.noConfusion h7
 (try simp only[BN]at h7);refine Xp [⟨false,.v (.agg [.c (iC sd),.c (iC sc),.c (iC sv),.c (iC sn),.c (iC so),.c (iC stn),.c (.sl 3 (XS sks)),.c (.sl 10 (X7 sa)),.c (.sl 10 (X7 sb)),.c (.sl 1 (Xg sbs))]),none⟩] ?_ ?_
 · first|exact cc _|exact trivial|simpa[*]using cc _
 exact Qf ⟨.inr rfl,_,le_refl _,⟨⟨_,by simp;rfl,by simp[XY]⟩,by simp,fun h=>by cases h⟩⟩
end Go.Proofs.YtdajceakaakdoaaGreat

namespace Go.Proofs.YtdajceakaakdoaaGreat
open Go Go.Hl
theorem X2P (d:Nat):Con Tryz.prog 47 false [lI []] (.v (lI [])) none d:=by
 refine X4 Tryz.func47 ?_;simp only[Tryz.f47];refine X2 ?_;refine X0<|X0<|X1 ?_;refine(Xb rfl (fun h2=>?_) fun h2=>?_)
 · (try simp only[BN]at h2);refine X2 ?_;exact Xf
 exact absurd h2 (by simp)
def kdV (vars:List Vr) (v:Nat):Bool:=match vars[v]? with
 |some x=>decide (x.kind≠0)
 |none=>false
def X3h (vars:List Vr) (S:List Bool) (n y:Nat):List Int:=((List.range y).filter fun v=>kdV vars v&&(S[n+v]?.getD false)).map fun v:Nat=>(v:Int)
theorem XaO (vars:List Vr) (S:List Bool) (n y:Nat):X3h vars S n (y+1)=X3h vars S n y++(if(kdV vars y&&(S[n+y]?.getD false))=true then [(y:Int)] else []):=by
 unfold X3h;rw[List.range_succ,List.filter_append,List.map_append];congr 1;by_cases h:(kdV vars y&&(S[n+y]?.getD false))=true
 · simp only[List.filter_cons,h,if_true,List.filter_nil,List.map_cons,List.map_nil]
 simp only[List.filter_cons,h,if_false,List.filter_nil,List.map_nil];simp
theorem srcI_len (vars:List Vr) (S:List Bool) (n y:Nat):(X3h vars S n y).length≤y:=by
 unfold X3h;rw[List.length_map];exact Nat.le_trans (List.length_filter_le _ _) (by simp)
@[simp] theorem srcI_zero (vars:List Vr) (S:List Bool) (n:Nat):X3h vars S n 0=[]:=rfl
def rlS (steps:List St) (S:List Bool) (i:Nat):Bool:=match steps[i]? with
 |some s=>decide (s.do_=5)&&(S[i]?.getD false)
 |none=>false
def stN (steps:List St) (i:Nat):Int:=match steps[i]? with
 |some s=>s.n
 |none=>0
def X3s (steps:List St) (S:List Bool) (y:Nat):List Int:=((List.range y).filter fun i=>rlS steps S i).map fun i=>stN steps i
theorem Xad (steps:List St) (S:List Bool) (y:Nat):X3s steps S (y+1)=X3s steps S y++(if rlS steps S y=true then [stN steps y] else []):=by
 unfold X3s;rw[List.range_succ,List.filter_append,List.map_append];congr 1;by_cases h:rlS steps S y=true
 · simp only[List.filter_cons,h,if_true,List.filter_nil,List.map_cons,List.map_nil]
 simp only[List.filter_cons,h,if_false,List.filter_nil,List.map_nil];simp
@[simp] theorem hatS_zero (steps:List St) (S:List Bool):X3s steps S 0=[]:=rfl
theorem X8C (steps:List St) (S:List Bool) (y:Nat):(X3s steps S y).length≤y:=by
 unfold X3s;rw[List.length_map];exact Nat.le_trans (List.length_filter_le _ _) (by simp)
def hatC (l:List Int):List Int:=Lib.compact (l.mergeSort fun x y=>decide (x≤y))
noncomputable def depL (f:Fl):List Dp:=Wr (X2E f)
noncomputable def dirZ (f:Fl) (node:Int):List Bool:=czL (prs true false (depL f)) [node] ((flL f.body).length+f.vars.length+1)
noncomputable def srcR (f:Fl) (node:Int):RV:=
 .tup (if Qg f=0 then(if 0≤node∧node≤((flL f.body).length:Int)+f.vars.length then [lI (X3h f.vars (dirZ f node) (flL f.body).length f.vars.length),lI (hatC (X3s (flL f.body) (dirZ f node) (flL f.body).length)),li 0] else [.one (.c (.lit XO)),.one (.c (.lit XO)),li 3])
  else [.one (.c (.lit XO)),.one (.c (.lit XO)),li (Qg f)])
theorem depL_len {f:Fl} (h:Sm f) (h0:Qg f=0):(depL f).length≤20000000:=by
 unfold depL;rw[X5H _ (X29 f)];exact Xa2 h h0
theorem depL_rng {f:Fl} (h:Sm f) (h0:Qg f=0):∀e∈depL f,okDp (((flL f.body).length:Int)+f.vars.length) e:=fun e he=>Xa4 h h0 e ((X0m _ _).1 he)
theorem depL_in {f:Fl} (h:Sm f) (h0:Qg f=0):∀e∈depL f,(0≤e.f∧e.f<(((flL f.body).length+f.vars.length+1:Nat):Int))∧(0≤e.t∧e.t<(((flL f.body).length+f.vars.length+1:Nat):Int)):=by
 intro e he;have:=depL_rng h h0 e he;unfold okDp at this;omega
set_option maxHeartbeats 16000000 in
theorem X5u (f:Fl) (h:Sm f) (node:Int) (d:Nat):Con Tryz.prog 14 false [aF f,li node] (srcR f node) none d:=by
 have cb:=X3W f h;have hat:=fun(i:Nat) (s:St) (hs:(flL f.body)[i]? =some s)=>atP_con f (by have:=h.nodes;omega) h.bnd i s (by rw[fnd_flL f.body i (by omega)];simpa using hs);unfold srcR;unfold bdR at cb;by_cases h0:Qg f=0
 · rw [h0]at cb;simp only[h0,if_true]at cb⊢;have hv:=h.vars;have hsz:=h.sz;have hfl:=Q6 f.body;have hEl:=depL_len h h0;have hEi:=depL_in h h0;have cr:=fun hR=>X43 ((flL f.body).length:Int) f.vars.length (depL f) [node] true false 44 ((flL f.body).length+f.vars.length+1) (by omega) (by omega) (by omega) (by omega) hEl hEi (by simp) hR X8I;have hZl:(dirZ f node).length=(flL f.body).length+f.vars.length+1:=X0M ..;have hdz:czL (prs true false (depL f)) [node] ((flL f.body).length+f.vars.length+1)=dirZ f node:=rfl;rw[hdz]at cr;have hdl:Wr (X2E f)=depL f:=rfl;rw[hdl]at cb;clear hdz hdl hEi h h0;obtain⟨Z,hZ⟩:∃z,dirZ f node=z:=⟨_,rfl⟩;rw[hZ]at cr hZl⊢;obtain⟨E,hE⟩:∃z,depL f=z:=⟨_,rfl⟩;rw[hE]at cr cb hEl;clear hZ hE;obtain⟨vars,hats,body⟩:=f;simp only[aF,Fl.enc,List.map_cons,List.map_nil]at*;obtain⟨st,hst⟩:∃z,flL body=z:=⟨_,rfl⟩;rw[hst]at hat cb cr hZl hfl⊢;obtain⟨n,hn⟩:∃n,st.length=n:=⟨_,rfl⟩;obtain⟨V,hV⟩:∃n,vars.length=n:=⟨_,rfl⟩;rw[hn]at cb cr hZl hfl⊢;rw[hV]at cb cr hZl hv⊢;have hn1:n≤1000:=by omega
   clear hfl hsz hst;have hw1:IntKind.i64.wrap ((n:Int)+V)=n+V:=Xc (by omega) (by omega);unfold aPd at cr;by_cases hr:0≤node∧node≤(n:Int)+V
   · simp only[hr,and_self,if_true];have cr:=cr (by intro x hx;rw[List.mem_singleton.1 hx];omega);refine X4 Tryz.func14 ?_;simp only[Tryz.f14];refine X2 ?_;refine Xp [⟨false,.tup [.agg [.c (iC n),.c (iC V),.c (.sl 3 (XV E))],li 0],none⟩] ?_ ?_
     · first|exact cb _|exact trivial|simpa[*]using cb _
     refine X0<|X0<|X1 ?_;refine(Xb rfl (fun h3=>?_) fun h3=>?_)
     · exact absurd h3 (by simp)
     (try simp only[BN]at h3);refine X0<|X0<|X1 ?_;refine(Xb rfl (fun h7=>?_) fun h7=>?_)
     · exfalso;simp at h7<;>omega
     (try simp only[BN]at h7);have hnd:Xg [node]=[[iC node]]:=rfl;refine X0<|(X4l 3 [] [⟨false,.v (lBl Z),none⟩] (by simp[*];rfl) trivial (Qr 38 rfl) (by simp[*];first|exact⟨rfl,Iff.rfl⟩|exact⟨rfl,trivial⟩|rfl) ?_ ?_)
     · first|exact cr _|simpa using cr _
     refine X2 ?_;refine X0<|X0<|X1 ?_;refine X3<|(Xe [2,7,9,11,41,42] (fun(y:Nat)=>[(10,.v (.one (.own 1010))),(43,.v (li y))]) (fun y=>[(2,.box [.c (.sl 5 (Xt vars)),.c (.sl 6 (Xx hats)),.c (.sl 10 (X7 body))]),(7,.box [.c (iC n),.c (iC V),.c (.sl 3 (XV E))]),(1010,.row 3 1 (Xg (X3h vars Z n y)))]) (fun y=>y≤V) (fun y=>V - y) (0:Nat) (Nat.zero_le _) ?_ ?_)
     · exact X5 (fun n=>n) [1010]
     rintro y hy;simp only[upS,X6,XL]
     try simp only[X6,KN,Nat.reduceBEq,if_true,if_false,ins,Nat.reduceLT]
     refine X2 ?_;refine X0<|(X9 rfl (fun h15=>Xd ?_) (fun h15=>?_))
     · (try simp only[BN]at h15);have hlt:y<V:=by omega
       have hw3:=XN hlt (by omega);obtain⟨x,hx,_⟩:=Xr (show y<vars.length by omega);obtain⟨b,hb,_⟩:=Xr (show n+y<Z.length by omega);have hbe:=QN hb;have hw4:IntKind.i64.wrap ((n:Int)+y)=((n+y:Nat):Int):=by rw[Xc (by omega) (by omega)];omega
       have hsc:=XaO vars Z n y;have hkd:kdV vars y=decide (x.kind≠0):=by unfold kdV;rw[hx]
       rw[hkd,hb]at hsc;simp only[Option.getD_some]at hsc;have hll:=srcI_len vars Z n y;have hroom:QV ((X3h vars Z n y).length+1) 8:=Qa (by omega) (by decide);have hlt2:y+1≤V:=hlt;obtain⟨k,hk⟩:∃k,n+y=k:=⟨_,rfl⟩;rw[hk]at hw4 hbe;obtain⟨xn,xk,xl,xh,xi⟩:=x;replace hsc:X3h vars Z n (y+1)=X3h vars Z n y++(if(decide (xk≠0)&&b)=true then [(y:Int)] else []):=hsc;have hsn:Xg [(y:Int)]=[[iC y]]:=rfl;clear h15 hlt hb hk hkd hll;refine X0<|X3<|X0<|X1 ?_;refine X2 ?_;refine(Xb rfl (fun h18=>?_) fun h18=>?_)
       · (try simp only[BN]at h18);have hu:(decide (xk≠0)&&b)=true:=by simpa using h18
         simp only[hu,if_true]at hsc;refine X1 ?_;refine X1 ?_;exact⟨y+1,hlt2,by omega,X5 (fun n=>if n=1010 then 63 else n) []⟩
       (try simp only[BN]at h18);have hu:(decide (xk≠0)&&b)=false:=by rcases h18 with e|e<;>simp[e]
       simp only[hu,Bool.false_eq_true,if_false,List.append_nil]at hsc;refine X1 ?_;exact⟨y+1,hlt2,by omega,X5 (fun n=>n) []⟩
     (try simp only[BN]at h15);obtain rfl:y=V:=by omega
     clear h15;refine(Xi ?_);refine X0<|X0<|X1 ?_;refine X3<|(Xe [2,9,10,66] (fun(z:Nat)=>[(11,.v (.one (.own 1011))),(67,.v (li z))]) (fun z=>[(2,.box [.c (.sl 5 (Xt vars)),.c (.sl 6 (Xx hats)),.c (.sl 10 (X7 body))]),(1010,.row 3 1 (Xg (X3h vars Z n y))),(1011,.row 3 1 (Xg (X3s st Z z)))]) (fun z=>z≤n) (fun z=>n - z) (0:Nat) (Nat.zero_le _) ?_ ?_)
     · exact X5 (fun n=>n) [1011]
     rintro z hz;simp only[upS,X6,XL]
     try simp only[X6,KN,Nat.reduceBEq,if_true,if_false,ins,Nat.reduceLT]
     refine X2 ?_;refine X0<|(X9 rfl (fun h27=>Xd ?_) (fun h27=>?_))
     · try simp only[BN]at h27
       have hlt:z<n:=by
        have:(z:Int)<n:=by simpa using h27
        omega
       have hw3:=XN hlt (by omega);obtain⟨s,hs,_⟩:=Xr (show z<st.length by omega);have ca:=hat z s hs;obtain⟨b,hb,_⟩:=Xr (show z<Z.length by omega);have hbe:=QN hb;have hsc:=Xad st Z z;have hkd:rlS st Z z=(decide (s.do_=5)&&b):=by unfold rlS;rw[hs,hb];rfl
       have hkn:stN st z=s.n:=by unfold stN;rw[hs]
       rw[hkd,hkn]at hsc;have hll:=X8C st Z z;have hroom:QV ((X3s st Z z).length+1) 8:=Qa (by omega) (by decide);have hlt2:z+1≤n:=hlt;obtain⟨so,sc,sv,sn,⟨po,tn,tk⟩,sa,sb,sbs⟩:=s;simp only[aS,St.enc,Tm.enc,List.cons_append,List.nil_append,List.map_cons,List.map_nil]at ca;replace hsc:X3s st Z (z+1)=X3s st Z z++(if(decide (so=5)&&b)=true then [sn] else []):=hsc;have hsn:Xg [sn]=[[iC sn]]:=rfl;clear h27 hlt hs hb hkd hkn hll hat;refine X0<|X3<|X0<|X1 ?_;refine Xp [⟨false,.tup [.agg [.c (iC so),.c (iC sc),.c (iC sv),.c (iC sn),.c (iC po),.c (iC tn),.c (.sl 3 (XS tk)),.c (.sl 10 (X7 sa)),.c (.sl 10 (X7 sb)),.c (.sl 1 (Xg sbs))],li 0],none⟩] ?_ ?_
       · first|exact ca _|exact trivial|simpa[*]using ca _
       refine X2 ?_;refine(Xb rfl (fun h31=>?_) fun h31=>?_)
       · (try simp only[BN]at h31);have hu:(decide (so=5)&&b)=true:=by simpa using h31
         simp only[hu,if_true]at hsc;refine X1 ?_;refine X1 ?_;exact⟨z+1,hlt2,by omega,X5 (fun n=>if n=1011 then 89 else n) []⟩
       (try simp only[BN]at h31);have hu:(decide (so=5)&&b)=false:=by rcases h31 with e|e<;>simp[e]
       simp only[hu,Bool.false_eq_true,if_false,List.append_nil]at hsc;refine X1 ?_;exact⟨z+1,hlt2,by omega,X5 (fun n=>n) []⟩
     try simp only[BN]at h27
     obtain rfl:z=n:=by
      have:¬(z:Int)<n:=by simpa using h27
      omega
     have hll:=X8C st Z z;obtain⟨H,hH⟩:∃H,X3s st Z z=H:=⟨_,rfl⟩;rw[hH]at hll⊢;clear h27 hH;refine(Xi ?_);rcases H with _|⟨a0,o⟩
     · refine XD (Qr 1010 rfl) ?_;refine XD (Qr 1011 rfl) ?_;have hc0:hatC []=[]:=by simp[hatC,Lib.compact,Lib.compactUpTo]
       rw[hc0];refine Xp [⟨true,.tup [],none⟩] ?_ ?_
       · first|exact X3i _|exact trivial|simpa[*]using X3i _
       refine Xp [⟨false,.v (lI []),none⟩] ?_ ?_
       · first|exact X2P _|exact trivial|simpa[*]using X2P _
       exact Xf
     refine XD (Qr 1010 rfl) ?_;have cs1:=X5y (a0::o) (by simp) (by omega);have cs2:=X7B ((a0::o).mergeSort fun x y=>decide (x≤y)) (by rw[List.length_mergeSort];simp) (by rw[List.length_mergeSort];omega);have hcc:Lib.compact ((a0::o).mergeSort fun x y=>decide (x≤y))=hatC (a0::o):=rfl;rw[hcc]at cs2;obtain⟨S1,hS1⟩:∃x,((a0::o).mergeSort fun x y=>decide (x≤y))=x:=⟨_,rfl⟩;rw[hS1]at cs1 cs2;obtain⟨S2,hS2⟩:∃x,hatC (a0::o)=x:=⟨_,rfl⟩;rw[hS2]at cs2⊢;clear hcc hS1 hS2;refine X0<|(XJ ?_);refine RunsN.cutE 1 [] (by simp;rfl) trivial (le_refl _) ?_;refine RunsN.rowA (by simp[rowAP,X1V];exact⟨rfl,rfl⟩) cs1 ?_;refine RunsN.doneE [] rfl trivial ?_;refine X0<|(XJ ?_);refine RunsN.cutE 2 [] (by simp;rfl) trivial (le_refl _) ?_;refine RunsN.callA (fun n=>if n=900001 then 1011 else n) (fun n=>if n=900001 then 1016 else n) cs2.toN fun _ _=>?_;refine RunsN.doneE [] rfl trivial ?_;refine XD (Qr 1016 rfl) ?_;exact Xf
   simp only[if_neg hr];refine X4 Tryz.func14 ?_;simp only[Tryz.f14];refine X2 ?_;refine Xp [⟨false,.tup [.agg [.c (iC n),.c (iC V),.c (.sl 3 (XV E))],li 0],none⟩] ?_ ?_
   · first|exact cb _|exact trivial|simpa[*]using cb _
   refine X0<|X0<|X1 ?_;refine(Xb rfl (fun h3=>?_) fun h3=>?_)
   · exact absurd h3 (by simp)
   (try simp only[BN]at h3);refine X0<|X0<|X1 ?_;refine(Xb rfl (fun h7=>?_) fun h7=>?_)
   · (try simp only[BN]at h7);refine X2 ?_;exact Xf
   exfalso;simp at h7<;>omega
 obtain⟨C,hC⟩:∃x,Qg f=x:=⟨_,rfl⟩;rw[hC]at cb h0;simp only[hC,if_neg h0]at cb⊢;clear hC hat h;obtain⟨vars,hats,body⟩:=f;simp only[aF,Fl.enc,List.map_cons,List.map_nil]at*;refine X4 Tryz.func14 ?_;simp only[Tryz.f14];refine X2 ?_;refine Xp [⟨false,.tup [.agg [.c (iC 0),.c (iC 0),.c (.lit XO)],li C],none⟩] ?_ ?_
 · first|exact cb _|exact trivial|simpa[*]using cb _
 refine X0<|X0<|X1 ?_;refine(Xb rfl (fun h3=>?_) fun h3=>?_)
 · (try simp only[BN]at h3);refine X2 ?_;exact Xf
 exact absurd (by simpa using h3) h0
end Go.Proofs.YtdajceakaakdoaaGreat

namespace Go.Proofs.YtdajceakaakdoaaGreat
open Go Go.Hl
theorem eqGA {α:Type} (a b:List α) (hl:a.length=b.length) (h:∀j:Nat,j<a.length→a[j]? =b[j]?):a=b:=by
 apply List.ext_getElem?;intro i;by_cases hi:i<a.length
 · exact h i hi
 rw[List.getElem?_eq_none (by omega),List.getElem?_eq_none (by omega)]
@[simp] theorem fsDp:X53 Tryz.prog 51=some [true,true,true]:=by kernel_rfl
@[simp] theorem arDp:arrI Tryz.prog 51=none:=by kernel_rfl
def lDp (l:List Dp):TV:=.one (.c (.sl 3 (XV l)))
theorem eqDp_con (a b:List Dp) (ha:a.length≤1000000000) (hb:b.length≤1000000000) (d:Nat):Con Tryz.prog 24 true [lDp a,lDp b] (.v (lb (decide (a=b)))) none d:=by
 obtain⟨res,hres⟩:∃r,decide (a=b)=r:=⟨_,rfl⟩;rw[hres];simp only[lBl,lDp];refine X4 Tryz.func24 ?_;simp only[Tryz.f24];refine X2 ?_;refine X0<|X0<|X1 ?_;refine(Xb rfl (fun h2=>?_) fun h2=>?_)
 · try simp only[BN]at h2
   have hz:res=false:=by
    rw[←hres,decide_eq_false_iff_not];intro h;subst h;simp at h2
   subst hz;refine X2 ?_;exact Xf
 (try simp only[BN]at h2);have hle:a.length=b.length:=by omega
 clear h2;refine X0<|X0<|X1 ?_;refine X3<|(Xe [0,1,12] (fun(z:Nat)=>[(13,.v (li z))]) (fun z=>[]) (fun z=>z≤a.length∧∀k:Nat,k<z→a[k]? =b[k]?) (fun z=>a.length - z) (0:Nat) ⟨Nat.zero_le _,fun k hk=>absurd hk (Nat.not_lt_zero k)⟩ ?_ ?_)
 · exact X5 (fun n=>n) []
 rintro k ⟨hk,hall⟩;simp only[upS,X6,XL]
 try simp only[X6,KN,Nat.reduceBEq,if_true,if_false,ins,Nat.reduceLT]
 refine X2 ?_;refine X0<|(X9 rfl (fun h8=>Xd ?_) (fun h8=>?_))
 · (try simp only[BN]at h8);have hlt:k<a.length:=by omega
   obtain⟨x,he,_⟩:=Xr hlt;obtain⟨y,hey,_⟩:=Xr (show k<b.length by omega);have hw1:=XN hlt (by omega);have hk1:k+1≤a.length:=hlt;have hxe:=Wc he;have hye:=Wc hey;obtain⟨xf,xt,xk⟩:=x;obtain⟨yf,yt,yk⟩:=y;simp only[Dp.enc]at hxe hye;clear hlt h8;refine X0<|X3<|X0<|X1 ?_;refine X0<|(QH (by kernel_rfl) (by kernel_rfl) (by rfl) (by simp[*];rfl) ?_);refine(Xb rfl (fun h11=>?_) fun h11=>?_)
   · try simp only[BN]at h11
     have hz:res=false:=by
      rw[←hres,decide_eq_false_iff_not];intro h;subst h;rw[he]at hey;cases hey;simp at h11
     subst hz;refine X2 ?_;exact Xf
   (try simp only[BN]at h11);refine X1 ?_
   exact⟨k+1,⟨hk1,fun j hj=>by
    rcases Nat.lt_or_eq_of_le (Nat.le_of_lt_succ hj)with h|h
    · exact hall j h
    rw[h,he,hey];have:xf=yf∧xt=yt∧xk=yk:=by simpa using h11
    rw[this.1,this.2.1,this.2.2]⟩,by omega,X5 (fun n=>n) []⟩
 try simp only[BN]at h8
 have hz:res=true:=by
  rw[←hres,decide_eq_true_eq];exact eqGA a b hle fun j hj=>hall j (by omega)
 subst hz;refine(Xi ?_);refine X2 ?_;exact Xf
theorem X7v (a b:List Bool) (ha:a.length≤1000000000) (hb:b.length≤1000000000) (d:Nat):Con Tryz.prog 34 true [lBl a,lBl b] (.v (lb (decide (a=b)))) none d:=by
 obtain⟨res,hres⟩:∃r,decide (a=b)=r:=⟨_,rfl⟩;rw[hres];simp only[lBl,lDp];refine X4 Tryz.func34 ?_;simp only[Tryz.f34];refine X2 ?_;refine X0<|X0<|X1 ?_;refine(Xb rfl (fun h2=>?_) fun h2=>?_)
 · try simp only[BN]at h2
   have hz:res=false:=by
    rw[←hres,decide_eq_false_iff_not];intro h;subst h;simp at h2
   subst hz;refine X2 ?_;exact Xf
 (try simp only[BN]at h2);have hle:a.length=b.length:=by omega
 clear h2;refine X0<|X0<|X1 ?_;refine X3<|(Xe [0,1,12] (fun(z:Nat)=>[(13,.v (li z))]) (fun z=>[]) (fun z=>z≤a.length∧∀k:Nat,k<z→a[k]? =b[k]?) (fun z=>a.length - z) (0:Nat) ⟨Nat.zero_le _,fun k hk=>absurd hk (Nat.not_lt_zero k)⟩ ?_ ?_)
 · exact X5 (fun n=>n) []
 rintro k ⟨hk,hall⟩;simp only[upS,X6,XL]
 try simp only[X6,KN,Nat.reduceBEq,if_true,if_false,ins,Nat.reduceLT]
 refine X2 ?_;refine X0<|(X9 rfl (fun h8=>Xd ?_) (fun h8=>?_))
 · (try simp only[BN]at h8);have hlt:k<a.length:=by omega
   obtain⟨x,he,_⟩:=Xr hlt;obtain⟨y,hey,_⟩:=Xr (show k<b.length by omega);have hw1:=XN hlt (by omega);have hk1:k+1≤a.length:=hlt;have hxe:=QN he;have hye:=QN hey;clear hlt h8;refine X0<|X3<|X0<|X1 ?_;refine X0<|(QH (by kernel_rfl) (by kernel_rfl) (by rfl) (by simp[*];rfl) ?_);refine(Xb rfl (fun h11=>?_) fun h11=>?_)
   · try simp only[BN]at h11
     have hz:res=false:=by
      rw[←hres,decide_eq_false_iff_not];intro h;subst h;rw[he]at hey;cases hey;simp at h11
     subst hz;refine X2 ?_;exact Xf
   (try simp only[BN]at h11);refine X1 ?_
   exact⟨k+1,⟨hk1,fun j hj=>by
    rcases Nat.lt_or_eq_of_le (Nat.le_of_lt_succ hj)with h|h
    · exact hall j h
    rw[h,he,hey];have:x=y:=by simpa using h11
    rw[this]⟩,by omega,X5 (fun n=>n) []⟩
 try simp only[BN]at h8
 have hz:res=true:=by
  rw[←hres,decide_eq_true_eq];exact eqGA a b hle fun j hj=>hall j (by omega)
 subst hz;refine(Xi ?_);refine X2 ?_;exact Xf
theorem X3B (n:Int) (d:Nat):Con Tryz.prog 85 false [li n] (.v (aT (rfT n))) none d:=by
 simp only[aT,rfT,Tm.enc,XS,List.map_cons,List.map_nil];refine X4 Tryz.func85 ?_;simp only[Tryz.f85];refine X2 ?_;refine X0<|(X4l 2 [] [] (by simp[XH,Qo,XW];rfl) trivial (X1l 4 [.c (iC 24),.c (iC n),.c (.sl 3 [])] rfl (by(repeat'(first|exact LWk.nil|apply LWk.cons|exact CWk.refl _|exact CWk.nil _)))) (by simp;rfl) trivial ?_);exact Xf
set_option maxHeartbeats 8000000 in
theorem X6K (d:Nat):Con Tryz.prog 40 false [] (.v (aF exP)) none d:=by
 have c0:=X3B 0;have c1:=X3B 1;have c2:=X3B 2;have hq1:QV 1 144:=Qa (by decide) (by decide);have hq2:QV 5 144:=Qa (by decide) (by decide);have hq3:QV 3 48:=Qa (by decide) (by decide);have hq4:QV 1 72:=Qa (by decide) (by decide);simp only[exP,rfT,aF,aT,Fl.enc,Vr.enc,Ht.enc,Xt,Xx,Xg,X7,XS,St.enc,Tm.enc,List.map_cons,List.map_nil,List.cons_append,List.nil_append]at c0 c1 c2⊢;refine X4 Tryz.func40 ?_;simp only[Tryz.f40];refine X2 ?_;refine X2 ?_;refine X0<|(XJ ?_);refine RunsN.cutE 6 [⟨false,.v (.agg [.c (iC 24),.c (iC 0),.c (.sl 3 [])]),none⟩] (by simp[*,XH,Qo,XW];first|exact⟨rfl,Iff.rfl⟩|exact⟨rfl,trivial⟩|rfl) (by first|exact c0 _|simpa using c0 _) (le_refl _) ?_;refine RunsN.cutE 5 [⟨false,.v (.agg [.c (iC 24),.c (iC 0),.c (.sl 3 [])]),none⟩] (by simp[*,XH,Qo,XW];first|exact⟨rfl,Iff.rfl⟩|exact⟨rfl,trivial⟩|rfl) (by first|exact c0 _|simpa using c0 _) (X1l 12 [.c (iC 0),.c (iC 0),.c (iC 1),.c (iC 0),.c (iC 24),.c (iC 0),.c (.sl 3 []),.c (.sl 10 []),.c (.sl 10 []),.c (.sl 1 [])] rfl (by(repeat'(first|exact LWk.nil|apply LWk.cons|exact CWk.refl _|exact CWk.nil _)))) ?_;refine RunsN.cutE 4 [⟨false,.v (.agg [.c (iC 24),.c (iC 1),.c (.sl 3 [])]),none⟩] (by simp[*,XH,Qo,XW];first|exact⟨rfl,Iff.rfl⟩|exact⟨rfl,trivial⟩|rfl) (by first|exact c1 _|simpa using c1 _) (X1l 16 [.c (iC 0),.c (iC 1),.c (iC 2),.c (iC 0),.c (iC 0),.c (iC 1),.c (.sl 3 []),.c (.sl 10 []),.c (.sl 10 []),.c (.sl 1 [])] rfl (by(repeat'(first|exact LWk.nil|apply LWk.cons|exact CWk.refl _|exact CWk.nil _)))) ?_;refine RunsN.cutE 1 [] (by simp[*,XH,Qo,XW];rfl) trivial (Qr 17 rfl) ?_;refine RunsN.cutE 1 [] (by simp[*,XH,Qo,XW];rfl) trivial (X1l 18 [.c (iC 3),.c (iC 0),.c (iC 0),.c (iC 0),.c (iC 24),.c (iC 1),.c (.sl 3 []),.c (.sl 10 [[iC 0,iC 1,iC 2,iC 0,iC 0,iC 1,.sl 3 [],.sl 10 [],.sl 10 [],.sl 1 []]]),.c (.sl 10 []),.c (.sl 1 [])] rfl (by(repeat'(first|exact LWk.nil|apply LWk.cons|exact CWk.refl _|exact CWk.nil _)))) ?_;refine RunsN.cutE 3 [⟨false,.v (.agg [.c (iC 24),.c (iC 2),.c (.sl 3 [])]),none⟩] (by simp[*,XH,Qo,XW];first|exact⟨rfl,Iff.rfl⟩|exact⟨rfl,trivial⟩|rfl) (by first|exact c2 _|simpa using c2 _) (X1l 21 [.c (iC 1),.c (iC 0),.c (iC 0),.c (iC 0),.c (iC 24),.c (iC 2),.c (.sl 3 []),.c (.sl 10 []),.c (.sl 10 []),.c (.sl 1 [])] rfl (by(repeat'(first|exact LWk.nil|apply LWk.cons|exact CWk.refl _|exact CWk.nil _)))) ?_;refine RunsN.cutE 1 [] (by simp[*,XH,Qo,XW];rfl) trivial (X1l 22 [.c (iC 5),.c (iC 0),.c (iC 1),.c (iC 0),.c (iC 0),.c (iC 0),.c (.sl 3 []),.c (.sl 10 []),.c (.sl 10 []),.c (.sl 1 [])] rfl (by(repeat'(first|exact LWk.nil|apply LWk.cons|exact CWk.refl _|exact CWk.nil _)))) ?_;refine RunsN.cutE 3 [⟨false,.v (.agg [.c (iC 24),.c (iC 1),.c (.sl 3 [])]),none⟩] (by simp[*,XH,Qo,XW];first|exact⟨rfl,Iff.rfl⟩|exact⟨rfl,trivial⟩|rfl) (by first|exact c1 _|simpa using c1 _) (X1l 25 [.c (iC 1),.c (iC 0),.c (iC 0),.c (iC 0),.c (iC 24),.c (iC 1),.c (.sl 3 []),.c (.sl 10 []),.c (.sl 10 []),.c (.sl 1 [])] rfl (by(repeat'(first|exact LWk.nil|apply LWk.cons|exact CWk.refl _|exact CWk.nil _)))) ?_;refine RunsN.cutE 1 [] (by simp[*,XH,Qo,XW];rfl) trivial (le_trans (Qr 5 rfl) (le_trans (Qr 9 rfl) (Qr 26 rfl))) ?_;refine RunsN.cutE 1 [] (by simp[*,XH,Qo,XW];rfl) trivial (X1l 27 [.c (.sl 5 [[sC ⟨#[120]⟩,iC 1,iC 0,iC 1,iC 0],[sC ⟨#[121]⟩,iC 0,iC 0,iC 1,iC 0],[sC ⟨#[122]⟩,iC 0,iC 0,iC 1,iC 0]]),.c (.sl 6 [[sC ⟨#[104]⟩,iC 0,iC 1,iC 24,iC 0,.sl 3 []]]),.c (.sl 10 [[iC 0,iC 0,iC 1,iC 0,iC 24,iC 0,.sl 3 [],.sl 10 [],.sl 10 [],.sl 1 []],[iC 3,iC 0,iC 0,iC 0,iC 24,iC 1,.sl 3 [],.sl 10 [[iC 0,iC 1,iC 2,iC 0,iC 0,iC 1,.sl 3 [],.sl 10 [],.sl 10 [],.sl 1 []]],.sl 10 [],.sl 1 []],[iC 1,iC 0,iC 0,iC 0,iC 24,iC 2,.sl 3 [],.sl 10 [],.sl 10 [],.sl 1 []],[iC 5,iC 0,iC 1,iC 0,iC 0,iC 0,.sl 3 [],.sl 10 [],.sl 10 [],.sl 1 []],[iC 1,iC 0,iC 0,iC 0,iC 24,iC 1,.sl 3 [],.sl 10 [],.sl 10 [],.sl 1 []]])] rfl (by(repeat'(first|exact LWk.nil|apply LWk.cons|exact CWk.refl _|exact CWk.nil _)))) ?_;refine RunsN.doneE [] (by simp[*,XH,Qo,XW];rfl) trivial ?_;exact Xf
theorem ex_dirZ:dirZ exP 5=[false,false,false,false,true,true,false,false,false,false]:=by
 unfold dirZ depL;rw[X9P];exact exP_src
set_option maxHeartbeats 16000000 in
theorem X1n (d:Nat):Con Tryz.prog 12 false [] (.v (lb true)) none d:=by
 have ce:=X6K;have cb:=X3W exP X9u;have cs:=X5u exP X9u 5;have e1:=eqDp_con exW exW (by decide) (by decide);have e2:=eqSl_con [0] [0] (by decide) (by decide)
 have hb:bdR exP=.tup [.agg [.c (iC 6),.c (iC 3),.c (.sl 3 (XV exW))],li 0]:=by
  unfold bdR;rw[X50,X9P];rfl
 have hs:srcR exP 5=.tup [lI [],lI [0],li 0]:=by
  unfold srcR;rw[X50,ex_dirZ];have e1:X3h exP.vars [false,false,false,false,true,true,false,false,false,false] (flL exP.body).length exP.vars.length=[]:=by kernel_rfl
  have e2:X3s (flL exP.body) [false,false,false,false,true,true,false,false,false,false] (flL exP.body).length=[0]:=by kernel_rfl
  rw[e1,e2];have e3:hatC [0]=[0]:=by unfold hatC;rw[List.mergeSort_singleton];rfl
  rw[e3];rfl
 rw[hb]at cb;rw[hs]at cs;have hq1:QV 8 24:=Qa (by decide) (by decide);have hq2:QV 1 8:=Qa (by decide) (by decide);simp only[exW,lDp,XV,Dp.enc,exP,rfT,aF,aT,Fl.enc,Vr.enc,Ht.enc,Xt,Xx,Xg,X7,XS,St.enc,Tm.enc,List.map_cons,List.map_nil,List.cons_append,List.nil_append,if_true,decide_true,Bool.and_true,lI]at ce cb cs e1 e2;clear hb hs;refine X4 Tryz.func12 ?_;simp only[Tryz.f12];refine X2 ?_;refine Xp [⟨false,.v (.agg [.c (.sl 5 [[sC ⟨#[120]⟩,iC 1,iC 0,iC 1,iC 0],[sC ⟨#[121]⟩,iC 0,iC 0,iC 1,iC 0],[sC ⟨#[122]⟩,iC 0,iC 0,iC 1,iC 0]]),.c (.sl 6 [[sC ⟨#[104]⟩,iC 0,iC 1,iC 24,iC 0,.sl 3 []]]),.c (.sl 10 [[iC 0,iC 0,iC 1,iC 0,iC 24,iC 0,.sl 3 [],.sl 10 [],.sl 10 [],.sl 1 []],[iC 3,iC 0,iC 0,iC 0,iC 24,iC 1,.sl 3 [],.sl 10 [[iC 0,iC 1,iC 2,iC 0,iC 0,iC 1,.sl 3 [],.sl 10 [],.sl 10 [],.sl 1 []]],.sl 10 [],.sl 1 []],[iC 1,iC 0,iC 0,iC 0,iC 24,iC 2,.sl 3 [],.sl 10 [],.sl 10 [],.sl 1 []],[iC 5,iC 0,iC 1,iC 0,iC 0,iC 0,.sl 3 [],.sl 10 [],.sl 10 [],.sl 1 []],[iC 1,iC 0,iC 0,iC 0,iC 24,iC 1,.sl 3 [],.sl 10 [],.sl 10 [],.sl 1 []]])]),none⟩,⟨false,.tup [.agg [.c (iC 6),.c (iC 3),.c (.sl 3 [[iC 0,iC 1,iC 0],[iC 1,iC 2,iC 1],[iC 1,iC 9,iC 1],[iC 2,iC 3,iC 0],[iC 4,iC 5,iC 0],[iC 6,iC 0,iC 0],[iC 6,iC 4,iC 2],[iC 8,iC 3,iC 0]])],li 0],none⟩] ?_ ?_
 · first|exact⟨ce _,cb _⟩|exact trivial|(repeat' first|exact trivial|exact ce _|exact cb _|apply And.intro)
 refine X0<|(Xq (by simp[*,XH,Qo,XW,cellsOf,QK];rfl) ?_);refine Xp [⟨false,.v (.agg [.c (.sl 5 [[sC ⟨#[120]⟩,iC 1,iC 0,iC 1,iC 0],[sC ⟨#[121]⟩,iC 0,iC 0,iC 1,iC 0],[sC ⟨#[122]⟩,iC 0,iC 0,iC 1,iC 0]]),.c (.sl 6 [[sC ⟨#[104]⟩,iC 0,iC 1,iC 24,iC 0,.sl 3 []]]),.c (.sl 10 [[iC 0,iC 0,iC 1,iC 0,iC 24,iC 0,.sl 3 [],.sl 10 [],.sl 10 [],.sl 1 []],[iC 3,iC 0,iC 0,iC 0,iC 24,iC 1,.sl 3 [],.sl 10 [[iC 0,iC 1,iC 2,iC 0,iC 0,iC 1,.sl 3 [],.sl 10 [],.sl 10 [],.sl 1 []]],.sl 10 [],.sl 1 []],[iC 1,iC 0,iC 0,iC 0,iC 24,iC 2,.sl 3 [],.sl 10 [],.sl 10 [],.sl 1 []],[iC 5,iC 0,iC 1,iC 0,iC 0,iC 0,.sl 3 [],.sl 10 [],.sl 10 [],.sl 1 []],[iC 1,iC 0,iC 0,iC 0,iC 24,iC 1,.sl 3 [],.sl 10 [],.sl 10 [],.sl 1 []]])]),none⟩,⟨false,.tup [.one (.c (.sl 1 [])),.one (.c (.sl 1 [[iC 0]])),li 0],none⟩] ?_ ?_
 · first|exact⟨ce _,cs _⟩|exact trivial|(repeat' first|exact trivial|exact ce _|exact cs _|apply And.intro)
 refine Xp [⟨true,.v (lb true),none⟩,⟨true,.v (lb true),none⟩] ?_ ?_
 · first|exact⟨e1 _,e2 _⟩|exact trivial|(repeat' first|exact trivial|exact e1 _|exact e2 _|apply And.intro)
 exact Xf
end Go.Proofs.YtdajceakaakdoaaGreat

namespace Go.Proofs.YtdajceakaakdoaaGreat
open Go Go.Hl
theorem X5D (ns nv:Int) (E:List Dp) (d:Nat):Con Tryz.prog 32 true [aPd ns nv E] (.v (lb ((decide (ns≤60)&&decide (nv≤40))&&decide ((E.length:Int)≤300)))) none d:=by
 unfold aPd;refine X4 Tryz.func32 ?_;simp only[Tryz.f32];refine X2 ?_;refine X2 ?_;exact Xf
theorem edgE_get {E:List Dp} {k:Nat} {x:Dp} (h:E[k]? =some x):(X3v E)[k]? =some [iC x.f,iC x.t]:=by simp[X3v,h]
set_option maxHeartbeats 16000000 in
theorem X6G (ns nv:Int) (E:List Dp) (d:Nat):Con Tryz.prog 4 true [aPd ns nv E] (.v (lb true)) none d:=by
 have ck:=X1n;by_cases hbig:E.length≤300
 · have cg:=Xb7 ns nv E (by omega);have cc:=X4P ns nv E (by omega);have cr:=X59 ns nv E (by omega);unfold grpF at cg;by_cases h0:chF ns nv E=0
   · obtain⟨⟨n0,n1⟩,v0,v1⟩:=X5p (X86 h0);have hw1:IntKind.i64.wrap (ns+nv)=ns+nv:=Xc (by omega) (by omega);have hw2:IntKind.i64.wrap (ns+nv+1)=ns+nv+1:=Xc (by omega) (by omega);simp only[h0,if_true]at cg cc cr;clear h0;unfold aPd at cg cc cr⊢;refine X4 Tryz.func4 ?_;simp only[Tryz.f4];refine X2 ?_;refine X0<|X0<|(Xm [⟨false,.v (lb true),none⟩] ?_ ?_)
     · first|exact ck _|exact trivial|simpa[*]using ck _
     refine(Xb rfl (fun h2=>?_) fun h2=>?_)
     · exact absurd h2 (by simp)
     (try simp only[BN]at h2);refine X0<|X0<|X1 ?_;refine(Xb rfl (fun h6=>?_) fun h6=>?_)
     · exfalso;simp at h6<;>omega
     (try simp only[BN]at h6);refine Xp [⟨false,.tup [.agg [.c (iC (ns+nv+1)),.c (.sl 2 (X3v E))],li 0],none⟩] ?_ ?_
     · first|exact cg _|exact trivial|simpa[*]using cg _
     refine X0<|X0<|(Z2 [⟨true,.v (li 0),none⟩,⟨true,.v (li 0),none⟩] (by kernel_rfl) (by kernel_rfl) (by rfl) (by simp[*];first|exact⟨rfl,Iff.rfl⟩|exact⟨rfl,trivial⟩|rfl) ?_ ?_)
     · first|exact⟨cc _,cr _⟩|exact trivial|(repeat' first|exact trivial|exact cc _|exact cr _|apply And.intro)
     refine(Xb rfl (fun h11=>?_) fun h11=>?_)
     · exact absurd h11 (by simp)
     (try simp only[BN]at h11);refine X0<|X0<|(Xm [⟨true,.v (li 0),none⟩] ?_ ?_)
     · first|exact cr _|exact trivial|simpa[*]using cr _
     refine(Xb rfl (fun h15=>?_) fun h15=>?_)
     · exact absurd h15 (by simp)
     (try simp only[BN]at h15);refine X0<|X0<|X1 ?_;refine(Xb rfl (fun h19=>?_) fun h19=>?_)
     · exact absurd h19 (by simp)
     (try simp only[BN]at h19);refine X0<|X0<|X1 ?_;refine X3<|(Xe [3,62,63] (fun(y:Nat)=>[(64,.v (li y))]) (fun y=>[(3,.box [.c (iC (ns+nv+1)),.c (.sl 2 (X3v E))])]) (fun y=>y≤E.length) (fun y=>E.length - y) (0:Nat) (Nat.zero_le _) ?_ ?_)
     · exact X5 (fun n=>n) []
     rintro y hy;simp only[upS,X6,XL]
     try simp only[X6,KN,Nat.reduceBEq,if_true,if_false,ins,Nat.reduceLT]
     refine X2 ?_;refine X0<|(X9 rfl (fun h25=>Xd ?_) (fun h25=>?_))
     · (try simp only[BN]at h25);have hlt:y<E.length:=by omega
       have hw3:=XN hlt (by omega);obtain⟨x,hx,_⟩:=Xr hlt;have hxe:=Wc hx;have hxg:=edgE_get hx;obtain⟨xf,xt,xk⟩:=x;simp only[Dp.enc]at hxe;simp only at hxg;have hlt2:y+1≤E.length:=hlt;clear h25 hlt;refine X0<|X3<|X0<|X1 ?_;refine X0<|(QH (by kernel_rfl) (by kernel_rfl) (by rfl) (by simp[*,XH,Qo,XW,cellsOf,QK];rfl) ?_);refine(Xb rfl (fun h28=>?_) fun h28=>?_)
       · exact absurd h28 (by simp)
       (try simp only[BN]at h28);refine X1 ?_;exact⟨y+1,hlt2,by omega,X5 (fun n=>n) []⟩
     (try simp only[BN]at h25);refine(Xi ?_);refine X2 ?_;exact Xf
   obtain⟨C,hC⟩:∃x,chF ns nv E=x:=⟨_,rfl⟩;rw[hC]at h0;simp only[hC,if_neg h0]at cg cc cr;clear hC;unfold aPd at cg cc cr⊢;refine X4 Tryz.func4 ?_;simp only[Tryz.f4];refine X2 ?_;refine X0<|X0<|(Xm [⟨false,.v (lb true),none⟩] ?_ ?_)
   · first|exact ck _|exact trivial|simpa[*]using ck _
   refine(Xb rfl (fun h2=>?_) fun h2=>?_)
   · exact absurd h2 (by simp)
   (try simp only[BN]at h2);refine X0<|X0<|X1 ?_;refine(Xb rfl (fun h6=>?_) fun h6=>?_)
   · exfalso;simp at h6<;>omega
   (try simp only[BN]at h6);refine Xp [⟨false,.tup [.agg [.c (iC 0),.c (.lit XO)],li 1],none⟩] ?_ ?_
   · first|exact cg _|exact trivial|simpa[*]using cg _
   refine X0<|X0<|(Z2 [⟨true,.v (li C),none⟩,⟨true,.v (li C),none⟩] (by kernel_rfl) (by kernel_rfl) (by rfl) (by simp[*];first|exact⟨rfl,Iff.rfl⟩|exact⟨rfl,trivial⟩|rfl) ?_ ?_)
   · first|exact⟨cc _,cr _⟩|exact trivial|(repeat' first|exact trivial|exact cc _|exact cr _|apply And.intro)
   refine(Xb rfl (fun h11=>?_) fun h11=>?_)
   · exact absurd h11 (by simp)
   (try simp only[BN]at h11);refine X0<|X0<|(Xm [⟨true,.v (li C),none⟩] ?_ ?_)
   · first|exact cr _|exact trivial|simpa[*]using cr _
   refine(Xb rfl (fun h15=>?_) fun h15=>?_)
   · (try simp only[BN]at h15);refine X2 ?_;exact Xf
   exact absurd (by simpa using h15) h0
 unfold aPd;refine X4 Tryz.func4 ?_;simp only[Tryz.f4];refine X2 ?_;refine X0<|X0<|(Xm [⟨false,.v (lb true),none⟩] ?_ ?_)
 · first|exact ck _|exact trivial|simpa[*]using ck _
 refine(Xb rfl (fun h2=>?_) fun h2=>?_)
 · exact absurd h2 (by simp)
 (try simp only[BN]at h2);refine X0<|X0<|X1 ?_;refine(Xb rfl (fun h6=>?_) fun h6=>?_)
 · (try simp only[BN]at h6);refine X2 ?_;exact Xf
 exfalso;simp at h6<;>omega
end Go.Proofs.YtdajceakaakdoaaGreat
