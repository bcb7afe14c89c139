/- Part 8: contracts of functions of the program and of the reference, and plain facts about what they compute; used by the proof of the claimed statement. Conditions: as each theorem states. -/
import Derived.Test.YtdajceakaakdoaaGreatI7
import Derived.Test.YtdajceakaakdoaaGreatHmZR
import Derived.KernelRfl
import Derived.Deep.LoopGhost
import Derived.Deep.DeepCutAuto
import Derived.Deep.DeepFit
import Derived.Deep.RegionLaw
import Derived.Lib.Small
import Derived.Lib.Walk
import Derived.Sort.Grow
import Derived.Lib.SliceRun
import Derived.Lib.SmallJoins
import Derived.WalkKit
import Derived.OwnWalk
import Derived.Test.YtdajceakaakdoaaGreatHmZS
import Derived.Test.YtdajceakaakdoaaGreatI3
import Derived.Test.YtdajceakaakdoaaGreatI5
import Derived.Test.YtdajceakaakdoaaGreatHmZD
import Derived.Test.YtdajceakaakdoaaGreatI1
set_option linter.unusedSimpArgs false
set_option linter.unusedVariables false
set_option linter.unnecessarySimpa false
set_option maxRecDepth 100000
set_option maxHeartbeats 2000000
namespace Go.Proofs.YtdajceakaakdoaaGreat
open Go Go.Hl Go.Sort Go.Lib Go.Joins Go.Shelf
def cmpIR:Ren:=⟨fun f=>if f=5 then 110 else if f=7 then 176 else f,fun t=>if t=3 then 3 else if t=4 then 4 else if t=22 then 3 else t,fun g=>g⟩
def cmpKR:Ren:=⟨fun f=>if f=5 then 111 else if f=7 then 177 else f,fun t=>if t=3 then 3 else if t=4 then 4 else if t=22 then 49 else t,fun g=>g⟩
theorem cmpIL:SlLaysC2.n5 Tryz.prog cmpIR where
 mixed:=by kernel_rfl
 f5:=⟨Tryz.f110.name,by kernel_rfl,by kernel_rfl⟩
 f7:=⟨Tryz.f176.name,by kernel_rfl,by kernel_rfl⟩
 t3:=by kernel_rfl
 a3:=fun w=>rfl
 z3:=fun w=>rfl
 v3:=fun w=>rfl
 t4:=by kernel_rfl
 a4:=fun w=>rfl
 z4:=fun w=>rfl
 v4:=fun w=>rfl
 t22:=by kernel_rfl
 a22:=fun w=>rfl
 z22:=fun w=>rfl
 v22:=fun w=>rfl
theorem cmpKL:SlLaysC2.n5 Tryz.prog cmpKR where
 mixed:=by kernel_rfl
 f5:=⟨Tryz.f111.name,by kernel_rfl,by kernel_rfl⟩
 f7:=⟨Tryz.f177.name,by kernel_rfl,by kernel_rfl⟩
 t3:=by kernel_rfl
 a3:=fun w=>rfl
 z3:=fun w=>rfl
 v3:=fun w=>rfl
 t4:=by kernel_rfl
 a4:=fun w=>rfl
 z4:=fun w=>rfl
 v4:=fun w=>rfl
 t22:=by kernel_rfl
 a22:=fun w=>rfl
 z22:=fun w=>rfl
 v22:=fun w=>rfl
def orF (a b c:Int):Int:=if a≠0 then a else if b≠0 then b else c
theorem or_calls (b o:Nat) (a1 a2 a3:Int) (w:World) (h1:w.cell? ⟨b,o,none⟩=some (.int .i64 a1)) (h2:w.cell? ⟨b,o+1,none⟩=some (.int .i64 a2)) (h3:w.cell? ⟨b,o+2,none⟩=some (.int .i64 a3)):
  Calls Tryz.prog 109 #[.slice (some ⟨b,o,none⟩) 3 3] w fun e w'=>e=.returned (.int .i64 (orF a1 a2 a3))∧w'=w:=by
 go_enter Tryz.func109,Tryz.ntmps109
 go_wp2
 go_loopg [8] (3 - 0) (fun k s8 wx=>∃m:Nat,m≤3∧k=3 - m∧s8=.int .i64 m∧wx=w∧(1≤m→a1=0)∧(2≤m→a2=0)∧(3≤m→a3=0))
 case atStart=>exact⟨0,by omega,rfl,rfl,rfl,by omega,by omega,by omega⟩
 case round=>
  obtain⟨m,hm,hg,rfl,hw,z1,z2,z3⟩:=hrel;subst hw;have HG:Aside (gk=3 - m):=hg;clear hg;have fin:∀(m:Nat) (a:Int),m<3→wr.cell? ⟨b,o+m,none⟩=some (.int .i64 a)→True:=fun _ _ _ _=>trivial;clear fin
  match m,hm with
  | 0,_=>
    clear z1 z2 z3;by_cases ha:a1=0
    · go_wp2
      go_roundg (3 - 1)
      case measure=>have:=HG.out;omega
      case rel=>exact⟨1,by omega,rfl,rfl,rfl,fun _=>ha,by omega,by omega⟩
    go_wp2
    go_ret
    exact⟨by simp[orF,ha],rfl⟩
  | 1,_=>
    have ha1:=z1 (by omega);clear z1 z2 z3;by_cases ha:a2=0
    · go_wp2
      go_roundg (3 - 2)
      case measure=>have:=HG.out;omega
      case rel=>exact⟨2,by omega,rfl,rfl,rfl,fun _=>ha1,fun _=>ha,by omega⟩
    go_wp2
    go_ret
    exact⟨by simp[orF,ha,ha1],rfl⟩
  | 2,_=>
    have ha1:=z1 (by omega);have ha2:=z2 (by omega);clear z1 z2 z3;by_cases ha:a3=0
    · go_wp2
      go_roundg (3 - 3)
      case measure=>have:=HG.out;omega
      case rel=>exact⟨3,by omega,rfl,rfl,rfl,fun _=>ha1,fun _=>ha2,fun _=>ha⟩
    go_wp2
    go_ret
    exact⟨by simp[orF,ha,ha1,ha2],rfl⟩
  | 3,_=>
    have ha1:=z1 (by omega);have ha2:=z2 (by omega);have ha3:=z3 (by omega);clear z1 z2 z3
    go_wp2
    go_ret
    exact⟨by simp[orF,ha1,ha2,ha3],rfl⟩
def dpE (x:Dp):List Value:=[.int .i64 x.f,.int .i64 x.t,.int .i64 x.k]
def X4I (x y:Dp):Int:=orF (Lib.compareInt x.f y.f) (Lib.compareInt x.t y.t) (Lib.compareInt x.k y.k)
structure TRc (n:Nat) (base vals:List (Nat×Nat×Value)) (wd:List Nat→World) (R:List Nat) (a:Act) (w:World):Prop where
 sz:a.tmps.size=n
 df:a.defers=[]
 bs:∀m∈base,a.eval (.tmp m.2.1)=m.2.2
 vs:∀m∈vals,m.1∉R→a.eval (.tmp m.2.1)=m.2.2
 wd:w=wd R
theorem TRc.put {n:Nat} {base vals:List (Nat×Nat×Value)} {wd:List Nat→World} {R:List Nat} {a:Act} {w w':World} (h:TRc n base vals wd R a w) (i d:Nat) (v:Value) (hd:d<n) (hb:∀m∈base,m.2.1≠d) (hu:∀m∈vals,(m.1≠i→m.2.1≠d)∧(m.1=i→m.2.1=d∧m.2.2=v)) (hw:w'=wd (Qj R i)):TRc n base vals wd (Qj R i) (a.put (some d) v) w':=by
 have hs:d<a.tmps.size:=by rw[h.sz];exact hd
 refine⟨by simp[Act.put,h.sz],h.df,fun m hm=>?_,fun m hm hr=>?_,hw⟩
 · rw[X09 (by simp[neT,hb m hm])];exact h.bs m hm
 by_cases e:m.1=i
 · obtain⟨e1,e2⟩:=(hu m hm).2 e;rw[e1,e2,X0R hs]
 rw[X09 (by simp[neT,(hu m hm).1 e])];refine h.vs m hm fun hR=>hr ?_;rw[Q2];exact⟨hR,e⟩
theorem X1X {P:Program} {ops:Array Oper} {i:Nat} {o:Oper} {a:Act} {w:World} {Q:Exit→Act→World→Prop} {Kc:Act→World→Prop} {f:FuncId} {args:Array Value} {v:Value} (hi:ops[i]? =some o) (hg:o.guard=none) (hrun:(execOp a.eval o).run P w=.ok (.enter f args) w)
  (hc:Calls P f args w fun e w'=>e=.returned v∧w'=w) (hk:Kc (a.put o.dst v) w):wpOp P ops Q i Kc a w:=by
 unfold wpOp;rw[hi];simp only;have hwant:Region.wanted o (yielded ops a.tmps)=true:=by unfold Region.wanted;rw[hg]
 rw[hwant];simp only[if_true];refine .inl ?_;unfold Oper.wp;rw[hrun,Oper.upon_enter];refine hc.mono ?_;rintro e w' ⟨rfl,rfl⟩;exact hk
theorem X50 {P:Program} {t:TypeId} {d:TypeDesc} (hd:P.underlying t=some d) (hg:X6M d=false) {b o:Nat} {v:Value} {w:World} (h:w.cell? ⟨b,o,none⟩=some v):(Instr.loadAt t (.pointer (some ⟨b,o,none⟩))).run P w=.ok v w:=by
 simp[Instr.loadAt,Instr.sureAddr,loadVar,Wg hd,hg,h]
theorem depU:∃fs fd0 fd1 fd2 i0 i1 i2,Tryz.prog.underlying 51=some (.struct fs)∧fs[0]? =some fd0∧fs[1]? =some fd1∧fs[2]? =some fd2∧Tryz.prog.info? fd0.type=some i0∧Tryz.prog.info? fd1.type=some i1∧Tryz.prog.info? fd2.type=some i2∧i0.size=1∧i1.size=1∧i2.size=1∧fd0.offset=0∧fd1.offset=1∧fd2.offset=2:=
 ⟨_,_,_,_,_,_,_,rfl,rfl,rfl,rfl,rfl,rfl,rfl,rfl,rfl,rfl,rfl,rfl,rfl⟩
theorem fA0 (b:Nat) (w:World):(Instr.fieldAt 51 (.pointer (some ⟨b,0,none⟩)) 0).run Tryz.prog w=.ok (.pointer (some ⟨b,0,none⟩)) w:=by
 obtain⟨fs,fd0,fd1,fd2,i0,i1,i2,hu,h0,h1,h2,j0,j1,j2,s0,s1,s2,o0,o1,o2⟩:=depU;have:=QV (w:=w) hu h0 j0 (by omega) b 0
 rwa [o0]at this
theorem fA1 (b:Nat) (w:World):(Instr.fieldAt 51 (.pointer (some ⟨b,0,none⟩)) 1).run Tryz.prog w=.ok (.pointer (some ⟨b,1,none⟩)) w:=by
 obtain⟨fs,fd0,fd1,fd2,i0,i1,i2,hu,h0,h1,h2,j0,j1,j2,s0,s1,s2,o0,o1,o2⟩:=depU;have:=QV (w:=w) hu h1 j1 (by omega) b 0
 rwa [o1]at this
theorem fA2 (b:Nat) (w:World):(Instr.fieldAt 51 (.pointer (some ⟨b,0,none⟩)) 2).run Tryz.prog w=.ok (.pointer (some ⟨b,2,none⟩)) w:=by
 obtain⟨fs,fd0,fd1,fd2,i0,i1,i2,hu,h0,h1,h2,j0,j1,j2,s0,s1,s2,o0,o1,o2⟩:=depU;have:=QV (w:=w) hu h2 j2 (by omega) b 0
 rwa [o2]at this
theorem ldI {b o:Nat} {v:Value} {w:World} (h:w.cell? ⟨b,o,none⟩=some v):(Instr.loadAt 3 (.pointer (some ⟨b,o,none⟩))).run Tryz.prog w=.ok v w:=
 X50 (P:=Tryz.prog) (t:=3) rfl rfl h
theorem ldK {b o:Nat} {v:Value} {w:World} (h:w.cell? ⟨b,o,none⟩=some v):(Instr.loadAt 49 (.pointer (some ⟨b,o,none⟩))).run Tryz.prog w=.ok v w:=
 X50 (P:=Tryz.prog) (t:=49) rfl rfl h
theorem cellsI (a:Int):(Value.int IntKind.i64 a).cells= #[Value.int IntKind.i64 a]:=rfl
theorem bS3 (a b c:Int) (w:World):(Instr.buildSlice 29 3 #[(0,.int .i64 a),(1,.int .i64 b),(2,.int .i64 c)]).run Tryz.prog w=.ok (.slice (some ⟨w.heap.size,0,none⟩) 3 3) (w.alloc (Obj.cells #[.int .i64 a,.int .i64 b,.int .i64 c] 3)):=by
 have hu:Tryz.prog.underlying 29=some (.slice 3):=rfl;obtain⟨i,z,hi,hz,h1,hz3⟩:∃i z,Tryz.prog.info? 3=some i∧i.zero=some z∧i.size=1∧z=.int .i64 0:=⟨_,_,rfl,rfl,rfl,rfl⟩;have hr1:(Array.range 3)= #[0,1,2]:=by decide
 subst hz3;simp[Instr.buildSlice,run_underlying hu,sizeOf,zeroValue,typeInfo,hi,hz,h1,newRow];simp[Instr.fill,hr1,cellsI]
 done
theorem X67 (x y:Dp) (w:World) (hcI:∀(a b:Int) (w:World),Calls Tryz.prog 110 #[.int .i64 a,.int .i64 b] w fun e w'=>e=.returned (.int .i64 (Lib.compareInt a b))∧w'=w)
  (hcK:∀(a b:Int) (w:World),Calls Tryz.prog 111 #[.int .i64 a,.int .i64 b] w fun e w'=>e=.returned (.int .i64 (Lib.compareInt a b))∧w'=w):
  Calls Tryz.prog 61 #[.agg (dpE x).toArray,.agg (dpE y).toArray] w fun e w'=>e=.returned (.int .i64 (X4I x y))∧∃q os',w'=grow (w.drewN q) os':=by
 obtain⟨xf,xt,xk⟩:=x;obtain⟨yf,yt,yk⟩:=y;simp only[dpE]
 go_enter Tryz.func61,Tryz.ntmps61
 go_wp2_with fail
 rename_i Q9 K9 hK9;have eI:∀args w,(callFunc 110 args).run Tryz.prog w=.ok (.enter 110 args) w:=enters_of Tryz.func110 (by kernel_rfl) rfl;have eK:∀args w,(callFunc 111 args).run Tryz.prog w=.ok (.enter 111 args) w:=enters_of Tryz.func111 (by kernel_rfl) rfl;have eO:∀args w,(callFunc 109 args).run Tryz.prog w=.ok (.enter 109 args) w:=enters_of Tryz.func109 (by kernel_rfl) rfl;obtain⟨W1,hW1⟩:∃W1,(((w.alloc (Obj.cells #[Value.int IntKind.i64 xf,Value.int IntKind.i64 xt,Value.int IntKind.i64 xk] 51)).alloc (Obj.cells #[Value.int IntKind.i64 yf,Value.int IntKind.i64 yt,Value.int IntKind.i64 yk] 51)).drewN 1)=W1:=⟨_,rfl⟩;obtain⟨cf,hcf⟩:∃c,Lib.compareInt xf yf=c:=⟨_,rfl⟩;obtain⟨ct,hct⟩:∃c,Lib.compareInt xt yt=c:=⟨_,rfl⟩;obtain⟨ck,hck⟩:∃c,Lib.compareInt xk yk=c:=⟨_,rfl⟩;have c1:=fun w=>hcI xf yf w;have c2:=fun w=>hcI xt yt w;have c3:=fun w=>hcK xk yk w;rw[hcf]at c1;rw[hct]at c2;rw[hck]at c3;have hres:X4I ⟨xf,xt,xk⟩ ⟨yf,yt,yk⟩=orF cf ct ck:=by simp only[X4I,hcf,hct,hck]
 refine wp_ind (TR:=TRc 22 [(0,2,.pointer (some ⟨w.heap.size,0,none⟩)),(0,3,.pointer (some ⟨w.heap.size+1,0,none⟩))]
  [(0,5,.pointer (some ⟨w.heap.size,0,none⟩)),(1,6,.int .i64 xf),(2,7,.pointer (some ⟨w.heap.size+1,0,none⟩)),(3,8,.int .i64 yf),(4,9,.int .i64 cf),(5,10,.pointer (some ⟨w.heap.size,1,none⟩)),(6,11,.int .i64 xt),(7,12,.pointer (some ⟨w.heap.size+1,1,none⟩)),(8,13,.int .i64 yt),(9,14,.int .i64 ct),
   (10,15,.pointer (some ⟨w.heap.size,2,none⟩)),(11,16,.int .i64 xk),(12,17,.pointer (some ⟨w.heap.size+1,2,none⟩)),(13,18,.int .i64 yk),(14,19,.int .i64 ck),(15,20,.slice (some ⟨W1.heap.size,0,none⟩) 3 3),(16,21,.int .i64 (orF cf ct ck)),(17,4,.int .i64 (orF cf ct ck))]
  (fun R=>if 15∈R then W1 else W1.alloc (Obj.cells #[.int .i64 cf,.int .i64 ct,.int .i64 ck] 3))) rfl (by kernel_rfl) ?_ ?_ ?_
 · refine⟨rfl,rfl,?_,?_,?_⟩
   · intro m hm;simp at hm;rcases hm with rfl|rfl<;>rfl
   · intro m hm hr;simp at hm;rcases hm with rfl|rfl|rfl|rfl|rfl|rfl|rfl|rfl|rfl|rfl|rfl|rfl|rfl|rfl|rfl|rfl|rfl|rfl<;>exact absurd (by simp) hr
   rw[if_pos (by simp),←hW1];rfl
 · have hcell:∀(R:List Nat) (w1:World),w1=(if 15∈R then W1 else W1.alloc (Obj.cells #[.int .i64 cf,.int .i64 ct,.int .i64 ck] 3))→
    (∀(j:Nat) (v:Value), #[Value.int IntKind.i64 xf,Value.int IntKind.i64 xt,Value.int IntKind.i64 xk][j]? =some v→w1.cell? ⟨w.heap.size,j,none⟩=some v)∧
    (∀(j:Nat) (v:Value), #[Value.int IntKind.i64 yf,Value.int IntKind.i64 yt,Value.int IntKind.i64 yk][j]? =some v→w1.cell? ⟨w.heap.size+1,j,none⟩=some v):=by
    intro R w1 hw1
    have hx:∀(j:Nat) (v:Value), #[Value.int IntKind.i64 xf,Value.int IntKind.i64 xt,Value.int IntKind.i64 xk][j]? =some v→W1.cell? ⟨w.heap.size,j,none⟩=some v:=by
     intro j v hv;rw[←hW1,World.cell?_drewN];exact cell?_alloc_some _ (by rw[cell_alloc_mark_at _ _ _ _ _ _ rfl];exact hv)
    have hy:∀(j:Nat) (v:Value), #[Value.int IntKind.i64 yf,Value.int IntKind.i64 yt,Value.int IntKind.i64 yk][j]? =some v→W1.cell? ⟨w.heap.size+1,j,none⟩=some v:=by
     intro j v hv;rw[←hW1,World.cell?_drewN];rw[cell_alloc_mark_at _ _ _ _ _ _ (by simp)];exact hv
    rw[hw1];split
    · exact⟨hx,hy⟩
    exact⟨fun j v h=>cell?_alloc_some _ (hx j v h),fun j v h=>cell?_alloc_some _ (hy j v h)⟩
   intro R i o ho hiR hpre a w1 ht Kc hK;have hi18:i<18:=by have:=(Array.getElem?_eq_some_iff.1 ho).1;simpa using this
   have e2:a.eval (.tmp 2)=.pointer (some ⟨w.heap.size,0,none⟩):=ht.bs (0,2,_) (by simp);have e3:a.eval (.tmp 3)=.pointer (some ⟨w.heap.size+1,0,none⟩):=ht.bs (0,3,_) (by simp);obtain⟨cx,cy⟩:=hcell R w1 ht.wd;have x0:=cx 0 _ rfl;have x1:=cx 1 _ rfl;have x2:=cx 2 _ rfl;have y0:=cy 0 _ rfl;have y1:=cy 1 _ rfl;have y2:=cy 2 _ rfl;have hput:=fun d v hd hb hu w' hw'=>ht.put i d v hd hb hu (w':=w') hw'
   match i,hi18 with
   | 0,_=>
     have ho0:=ho;cases ho;refine Qh (nx:=.value (.pointer (some ⟨w.heap.size,0,none⟩))) (v:=.pointer (some ⟨w.heap.size,0,none⟩)) (w':=w1) ho0 rfl ?_ (.inl rfl) (hK _ _ (hput 5 (.pointer (some ⟨w.heap.size,0,none⟩)) (by decide) (by simp) (by simp) _ ?_))
     · unfold execOp;simp[e2,e3,fA0];done
     rw[ht.wd];simp[Q2]
   | 1,_=>
     have ho0:=ho;cases ho;have v5:a.eval (.tmp 5)=.pointer (some ⟨w.heap.size,0,none⟩):=ht.vs (0,5,_) (by simp) (hpre ⟨0,.data⟩ (by simp) rfl);refine Qh (nx:=.value (.int .i64 xf)) (v:=.int .i64 xf) (w':=w1) ho0 rfl ?_ (.inl rfl) (hK _ _ (hput 6 (.int .i64 xf) (by decide) (by simp) (by simp) _ ?_))
     · unfold execOp;simp[v5,ldI x0];done
     rw[ht.wd];simp[Q2]
   | 2,_=>
     have ho0:=ho;cases ho;refine Qh (nx:=.value (.pointer (some ⟨w.heap.size+1,0,none⟩))) (v:=.pointer (some ⟨w.heap.size+1,0,none⟩)) (w':=w1) ho0 rfl ?_ (.inl rfl) (hK _ _ (hput 7 (.pointer (some ⟨w.heap.size+1,0,none⟩)) (by decide) (by simp) (by simp) _ ?_))
     · unfold execOp;simp[e2,e3,fA0];done
     rw[ht.wd];simp[Q2]
   | 3,_=>
     have ho0:=ho;cases ho;have v7:a.eval (.tmp 7)=.pointer (some ⟨w.heap.size+1,0,none⟩):=ht.vs (2,7,_) (by simp) (hpre ⟨2,.data⟩ (by simp) rfl);refine Qh (nx:=.value (.int .i64 yf)) (v:=.int .i64 yf) (w':=w1) ho0 rfl ?_ (.inl rfl) (hK _ _ (hput 8 (.int .i64 yf) (by decide) (by simp) (by simp) _ ?_))
     · unfold execOp;simp[v7,ldI y0];done
     rw[ht.wd];simp[Q2]
   | 4,_=>
     have ho0:=ho;cases ho;have v6:a.eval (.tmp 6)=.int .i64 xf:=ht.vs (1,6,_) (by simp) (hpre ⟨1,.data⟩ (by simp) rfl);have v8:a.eval (.tmp 8)=.int .i64 yf:=ht.vs (3,8,_) (by simp) (hpre ⟨3,.data⟩ (by simp) rfl);refine X1X (v:=.int .i64 cf) ho0 rfl (by unfold execOp;simp[resolve,invoke,Deferred.ofValue,eI,v6,v8];rfl) (c1 w1) (hK _ _ (hput 9 (.int .i64 cf) (by decide) (by simp) (by simp) _ ?_))
     all_goals first|(rw[ht.wd];simp[Q2];done)|skip
   | 5,_=>
     have ho0:=ho;cases ho;refine Qh (nx:=.value (.pointer (some ⟨w.heap.size,1,none⟩))) (v:=.pointer (some ⟨w.heap.size,1,none⟩)) (w':=w1) ho0 rfl ?_ (.inl rfl) (hK _ _ (hput 10 (.pointer (some ⟨w.heap.size,1,none⟩)) (by decide) (by simp) (by simp) _ ?_))
     · unfold execOp;simp[e2,e3,fA1];done
     rw[ht.wd];simp[Q2]
   | 6,_=>
     have ho0:=ho;cases ho;have v10:a.eval (.tmp 10)=.pointer (some ⟨w.heap.size,1,none⟩):=ht.vs (5,10,_) (by simp) (hpre ⟨5,.data⟩ (by simp) rfl);refine Qh (nx:=.value (.int .i64 xt)) (v:=.int .i64 xt) (w':=w1) ho0 rfl ?_ (.inl rfl) (hK _ _ (hput 11 (.int .i64 xt) (by decide) (by simp) (by simp) _ ?_))
     · unfold execOp;simp[v10,ldI x1];done
     rw[ht.wd];simp[Q2]
   | 7,_=>
     have ho0:=ho;cases ho;refine Qh (nx:=.value (.pointer (some ⟨w.heap.size+1,1,none⟩))) (v:=.pointer (some ⟨w.heap.size+1,1,none⟩)) (w':=w1) ho0 rfl ?_ (.inl rfl) (hK _ _ (hput 12 (.pointer (some ⟨w.heap.size+1,1,none⟩)) (by decide) (by simp) (by simp) _ ?_))
     · unfold execOp;simp[e2,e3,fA1];done
     rw[ht.wd];simp[Q2]
   | 8,_=>
     have ho0:=ho;cases ho;have v12:a.eval (.tmp 12)=.pointer (some ⟨w.heap.size+1,1,none⟩):=ht.vs (7,12,_) (by simp) (hpre ⟨7,.data⟩ (by simp) rfl);refine Qh (nx:=.value (.int .i64 yt)) (v:=.int .i64 yt) (w':=w1) ho0 rfl ?_ (.inl rfl) (hK _ _ (hput 13 (.int .i64 yt) (by decide) (by simp) (by simp) _ ?_))
     · unfold execOp;simp[v12,ldI y1];done
     rw[ht.wd];simp[Q2]
   | 9,_=>
     have ho0:=ho;cases ho;have v11:a.eval (.tmp 11)=.int .i64 xt:=ht.vs (6,11,_) (by simp) (hpre ⟨6,.data⟩ (by simp) rfl);have v13:a.eval (.tmp 13)=.int .i64 yt:=ht.vs (8,13,_) (by simp) (hpre ⟨8,.data⟩ (by simp) rfl);refine X1X (v:=.int .i64 ct) ho0 rfl (by unfold execOp;simp[resolve,invoke,Deferred.ofValue,eI,v11,v13];rfl) (c2 w1) (hK _ _ (hput 14 (.int .i64 ct) (by decide) (by simp) (by simp) _ ?_))
     all_goals first|(rw[ht.wd];simp[Q2];done)|skip
   | 10,_=>
     have ho0:=ho;cases ho;refine Qh (nx:=.value (.pointer (some ⟨w.heap.size,2,none⟩))) (v:=.pointer (some ⟨w.heap.size,2,none⟩)) (w':=w1) ho0 rfl ?_ (.inl rfl) (hK _ _ (hput 15 (.pointer (some ⟨w.heap.size,2,none⟩)) (by decide) (by simp) (by simp) _ ?_))
     · unfold execOp;simp[e2,e3,fA2];done
     rw[ht.wd];simp[Q2]
   | 11,_=>
     have ho0:=ho;cases ho;have v15:a.eval (.tmp 15)=.pointer (some ⟨w.heap.size,2,none⟩):=ht.vs (10,15,_) (by simp) (hpre ⟨10,.data⟩ (by simp) rfl);refine Qh (nx:=.value (.int .i64 xk)) (v:=.int .i64 xk) (w':=w1) ho0 rfl ?_ (.inl rfl) (hK _ _ (hput 16 (.int .i64 xk) (by decide) (by simp) (by simp) _ ?_))
     · unfold execOp;simp[v15,ldK x2];done
     rw[ht.wd];simp[Q2]
   | 12,_=>
     have ho0:=ho;cases ho;refine Qh (nx:=.value (.pointer (some ⟨w.heap.size+1,2,none⟩))) (v:=.pointer (some ⟨w.heap.size+1,2,none⟩)) (w':=w1) ho0 rfl ?_ (.inl rfl) (hK _ _ (hput 17 (.pointer (some ⟨w.heap.size+1,2,none⟩)) (by decide) (by simp) (by simp) _ ?_))
     · unfold execOp;simp[e2,e3,fA2];done
     rw[ht.wd];simp[Q2]
   | 13,_=>
     have ho0:=ho;cases ho;have v17:a.eval (.tmp 17)=.pointer (some ⟨w.heap.size+1,2,none⟩):=ht.vs (12,17,_) (by simp) (hpre ⟨12,.data⟩ (by simp) rfl);refine Qh (nx:=.value (.int .i64 yk)) (v:=.int .i64 yk) (w':=w1) ho0 rfl ?_ (.inl rfl) (hK _ _ (hput 18 (.int .i64 yk) (by decide) (by simp) (by simp) _ ?_))
     · unfold execOp;simp[v17,ldK y2];done
     rw[ht.wd];simp[Q2]
   | 14,_=>
     have ho0:=ho;cases ho;have v16:a.eval (.tmp 16)=.int .i64 xk:=ht.vs (11,16,_) (by simp) (hpre ⟨11,.data⟩ (by simp) rfl);have v18:a.eval (.tmp 18)=.int .i64 yk:=ht.vs (13,18,_) (by simp) (hpre ⟨13,.data⟩ (by simp) rfl);refine X1X (v:=.int .i64 ck) ho0 rfl (by unfold execOp;simp[resolve,invoke,Deferred.ofValue,eK,v16,v18];rfl) (c3 w1) (hK _ _ (hput 19 (.int .i64 ck) (by decide) (by simp) (by simp) _ ?_))
     all_goals first|(rw[ht.wd];simp[Q2];done)|skip
   | 15,_=>
     have ho0:=ho;cases ho;have v9:a.eval (.tmp 9)=.int .i64 cf:=ht.vs (4,9,_) (by simp) (hpre ⟨4,.data⟩ (by simp) rfl);have v14:a.eval (.tmp 14)=.int .i64 ct:=ht.vs (9,14,_) (by simp) (hpre ⟨9,.data⟩ (by simp) rfl);have v19:a.eval (.tmp 19)=.int .i64 ck:=ht.vs (14,19,_) (by simp) (hpre ⟨14,.data⟩ (by simp) rfl);refine Qh (nx:=.value (.slice (some ⟨W1.heap.size,0,none⟩) 3 3)) (v:=.slice (some ⟨W1.heap.size,0,none⟩) 3 3) (w':=w1.alloc (Obj.cells #[.int .i64 cf,.int .i64 ct,.int .i64 ck] 3)) ho0 rfl ?_ (.inl rfl) (hK _ _ (hput 20 (.slice (some ⟨W1.heap.size,0,none⟩) 3 3) (by decide) (by simp) (by simp) _ ?_))
     · have h15:w1=W1:=by rw[ht.wd,if_pos hiR]
       subst h15;unfold execOp;simp[v9,v14,v19,bS3]
       done
     have h15:w1=W1:=by rw[ht.wd,if_pos hiR]
     rw[h15];simp[Q2]
   | 16,_=>
     have ho0:=ho;cases ho;have v20:a.eval (.tmp 20)=.slice (some ⟨W1.heap.size,0,none⟩) 3 3:=ht.vs (15,20,_) (by simp) (hpre ⟨15,.data⟩ (by simp) rfl);refine X1X (v:=.int .i64 (orF cf ct ck)) ho0 rfl (by unfold execOp;simp[resolve,invoke,Deferred.ofValue,eO,v20];rfl) (or_calls W1.heap.size 0 cf ct ck w1 ?_ ?_ ?_) (hK _ _ (hput 21 (.int .i64 (orF cf ct ck)) (by decide) (by simp) (by simp) _ ?_))
     · rw[ht.wd,if_neg (hpre ⟨15,.data⟩ (by simp) rfl),cell_alloc_mark_at _ _ _ _ _ _ rfl];rfl
     · rw[ht.wd,if_neg (hpre ⟨15,.data⟩ (by simp) rfl),cell_alloc_mark_at _ _ _ _ _ _ rfl];rfl
     · rw[ht.wd,if_neg (hpre ⟨15,.data⟩ (by simp) rfl),cell_alloc_mark_at _ _ _ _ _ _ rfl];rfl
     rw[ht.wd];simp[Q2]
   | 17,_=>
     have ho0:=ho;cases ho;have v21:a.eval (.tmp 21)=.int .i64 (orF cf ct ck):=ht.vs (16,21,_) (by simp) (hpre ⟨16,.data⟩ (by simp) rfl);refine Qh (nx:=.value (.int .i64 (orF cf ct ck))) (v:=.int .i64 (orF cf ct ck)) (w':=w1) ho0 rfl ?_ (.inl rfl) (hK _ _ (hput 4 (.int .i64 (orF cf ct ck)) (by decide) (by simp) (by simp) _ ?_))
     · unfold execOp;simp[v21];done
     rw[ht.wd];simp[Q2]
 intro a' w' ht;have e4:a'.eval (.tmp 4)=.int .i64 (orF cf ct ck):=ht.vs (17,4,_) (by simp) (by simp);have hw:=ht.wd;rw[if_neg (by simp)]at hw;refine hK9 a' w' (wp_ret ?_);refine bodyPost_ret (v:=.int .i64 (orF cf ct ck)) ?_ ht.df ?_
 · rw[←e4];exact results_tmp rfl _ _ _
 refine⟨by rw[hres],1, #[Obj.cells #[Value.int IntKind.i64 xf,Value.int IntKind.i64 xt,Value.int IntKind.i64 xk] 51,Obj.cells #[Value.int IntKind.i64 yf,Value.int IntKind.i64 yt,Value.int IntKind.i64 yk] 51,Obj.cells #[.int .i64 cf,.int .i64 ct,.int .i64 ck] 3],?_⟩;rw[hw,←hW1];simp only[alloc_eq_grow];show grow (grow (grow (w.drewN 1) _) _) _=_;rw[grow_grow,grow_grow];rfl
instance instDp:Inhabited Dp:=⟨⟨0,0,0⟩⟩
theorem X7P (x y:Dp) (w:World):Calls Tryz.prog 61 #[.agg (dpE x).toArray,.agg (dpE y).toArray] w fun e w'=>e=.returned (.int .i64 (X4I x y))∧∃q os',w'=grow (w.drewN q) os':=
 X67 x y w (fun a b w=>AnyG.cmp_Compare_int cmpIL a b w) (fun a b w=>AnyG.cmp_Compare_int cmpKL a b w)
theorem X2U (x y:Dp):ltOf X4I x y=dpB x y:=by
 rw[Bool.eq_iff_iff,Z0];unfold ltOf X4I orF Lib.compareInt;simp only[decide_eq_true_eq]
 repeat' split
 all_goals omega
theorem swo_dpB:SWO (ltOf X4I):=by
 refine⟨fun x=>?_,fun x y z h1 h2=>?_,fun x y z h1 h2=>?_⟩
 · rw[X2U,←Bool.not_eq_true,Z0];omega
 · rw[X2U,Z0]at*;omega
 rw[X2U,←Bool.not_eq_true,Z0]at*;omega
structure RowOutD (w w':World) (g o:Nat) (ys:List Dp):Prop where
 os:w'.os=w.os
 tape:w'.tape=w.tape
 output:w'.output=w.output
 size:w.heap.size≤w'.heap.size
 other:∀k,k<w.heap.size→k≠g→w'.heap[k]? =w.heap[k]?
 cells:∀cur t x,w.heap[g]? =some (.cells cur t x)→∃cur':Array Value,w'.heap[g]? =some (.cells cur' t x)∧cur'.size=cur.size∧∀k j y,ys[k]? =some y→j<3→o+(k*3+j)<cur.size→cur'[o+(k*3+j)]? =(dpE y)[j]?
theorem X1D (ys:List Dp) (k j:Nat) (y:Dp) (hk:ys[k]? =some y) (hj:j<3):(flatK dpE 3 ys.toArray)[k*3+j]! =(dpE y)[j]! :=by
 have hlt:=(List.getElem?_eq_some_iff.1 hk).1;rw[get_flatK _ _ _ _ (by simp;omega),show(k*3+j)/3=k by omega,show(k*3+j)%3=j by omega]
 have:ys.toArray[k]! =y:=by
  rw[getElem!_pos ys.toArray k (by simpa using hlt)];have:=(List.getElem?_eq_some_iff.1 hk).2;simpa using this
 rw[this]
theorem XaM (y:Dp) (j:Nat) (hj:j<3):(dpE y)[j]? =some (dpE y)[j]! :=by
 rw[getElem!_pos (dpE y) j (by simpa[dpE]using hj)];exact List.getElem?_eq_getElem _
theorem X8H (w:World) (q g o:Nat) (os:Array Obj) (ys:List Dp) (hg:g<w.heap.size):RowOutD w (sortWorldK dpE 3 w g o q ys.toArray os) g o ys:=by
 have hsz:(putRow id (Sort.ahead w q) g o (flatK dpE 3 ys.toArray)).heap.size=w.heap.size:=by simp[putRow,mapBlock]
 refine⟨rfl,rfl,rfl,by simp only[sortWorldK,putRowK,grow,Array.size_append,hsz];omega,fun k hk hne=>?_,fun cur t x hc=>?_⟩
 · simp only[sortWorldK,putRowK];rw[heap_grow_old _ _ (by rw[hsz];exact hk)];simp only[putRow,mapBlock,heap_ahead,Array.getElem?_modify];rw[if_neg fun h=>hne h.symm]
 refine⟨putCells id o (flatK dpE 3 ys.toArray) cur,?_,by simp[putCells],fun k j y hk hj hkc=>?_⟩
 · simp only[sortWorldK,putRowK];rw[heap_grow_old _ _ (by rw[hsz];exact hg)];simp only[putRow,mapBlock,heap_ahead,Array.getElem?_modify,if_true,hc];rfl
 have hlt:=(List.getElem?_eq_some_iff.1 hk).1;simp only[putCells,Array.getElem?_mapIdx,Array.getElem?_eq_getElem hkc,Option.map_some,Nat.add_sub_cancel_left];rw[if_pos ⟨by omega,by simp;omega⟩,X1D ys k j y hk hj,XaM y j hj];rfl
theorem getRC_D {zs:List Dp} {a b:Nat} {d:CD} (h:XG (Qn zs) a b=some d):b<3∧∃y,zs[a]? =some y∧d=.lit (dpE y)[b]! :=by
 unfold XG Qn at h;rw[List.getElem?_map]at h;cases hz:zs[a]? with
 |none=>rw[hz]at h;cases h
 | some n=>
   rw[hz]at h
   match b,h with
   |0,h=>cases h;exact⟨by omega,n,rfl,rfl⟩
   |1,h=>cases h;exact⟨by omega,n,rfl,rfl⟩
   |2,h=>cases h;exact⟨by omega,n,rfl,rfl⟩
   |b+3,h=>simp[Dp.enc]at h
theorem getRC_D' {zs:List Dp} {a b:Nat} {y:Dp} (h:zs[a]? =some y) (hb:b<3):XG (Qn zs) a b=some (.lit (dpE y)[b]!):=by
 unfold XG Qn;rw[List.getElem?_map,h]
 match b,hb with
 |0,_=>rfl
 |1,_=>rfl
 |2,_=>rfl
theorem XaV (y:Dp):∀v∈dpE y,v.oneCell'=true:=by
 intro v hv;simp only[dpE,List.mem_cons,List.not_mem_nil,or_false]at hv;rcases hv with rfl|rfl|rfl<;>rfl
theorem mem_dpE (y:Dp) (j:Nat) (hj:j<3):(dpE y)[j]! ∈dpE y:=by
 rw[getElem!_pos (dpE y) j (by simpa[dpE]using hj)];exact List.getElem_mem _
theorem X8V {zs:List Dp} (hn:zs.Nodup) {d':Array Dp} (hp:PermIn 0 zs.length zs.toArray d') (hs:SortedIn (ltOf X4I) 0 zs.length d'):d'.toList=Wr zs:=by
 obtain⟨h1,_,h3⟩:=hp;have hsz:d'.size=zs.length:=by simpa using h1
 have e1:d'.extract 0 zs.length=d':=by rw[←hsz];simp
 have e2:zs.toArray.extract 0 zs.length=zs.toArray:=by simp
 rw[e1,e2]at h3;have hnd:d'.toList.Nodup:=h3.nodup_iff.2 (by simpa using hn);refine X9h ?_ fun x=>by rw[h3.mem_iff]
 rw[List.pairwise_iff_getElem];intro i j hi hj hij;have:=hs i j (Nat.zero_le _) hij (by simpa[hsz]using hj);rw[X2U,getElem!_pos d' j (by simpa using hj),getElem!_pos d' i (by simpa using hi),←Bool.not_eq_true,Z0]at this;rw[Z0];have hne:d'.toList[i]≠d'.toList[j]:=List.pairwise_iff_getElem.1 hnd i j hi hj hij;simp only[Array.getElem_toList]at*;generalize d'[i]=a at*;generalize d'[j]=b at*;have:¬(a.f=b.f∧a.t=b.t∧a.k=b.k):=fun⟨e1,e2,e3⟩=>hne (by obtain⟨x,y,z⟩:=a;obtain⟨x',y',z'⟩:=b;simp only at e1 e2 e3;rw[e1,e2,e3]);omega
theorem X8K (zs:List Dp) (hn:zs.Nodup) (hl:zs.length≤17592186044416) (g o cap:Nat) (w:World) (hH:HoldsK dpE 3 w g o zs.toArray) (hg:g<w.heap.size):
  Calls Tryz.prog 58 #[.slice (some ⟨g,o,none⟩) zs.length cap,.func (.func 61) #[] #[]] w fun e w'=>e=.returned (.tuple #[])∧RowOutD w w' g o (Wr zs):=by
 have h:=AnyQ.slices_SortFunc (P:=Tryz.prog) (ρ:=X9H) sortDL 3 (fun w=>rfl) (fun w=>rfl) dpE (fun _=>rfl) XaV X4I swo_dpB 61 #[] g o cap zs.toArray w
  (enters_of Tryz.func61 (by kernel_rfl) rfl) (fun m os dk hs x y=>X7P x y _) hH hg (by simp;omega)
 refine(show Calls Tryz.prog 58 #[.slice (some ⟨g,o,none⟩) zs.length cap,.func (.func 61) #[] #[]] w _ from h).mono ?_;rintro e w' ⟨rfl,d',n,os,hp,hs,rfl⟩;refine⟨rfl,?_⟩;have e:=X8V hn (by simpa using hp) (by simpa using hs);have:=X8H w n g o os (Wr zs) hg;rw[←e]at this⊢;simpa using this
theorem X6r (zs:List Dp) (hn:zs.Nodup):(Wr zs).length=zs.length:=by
 refine(List.Perm.length_eq ?_);refine(List.perm_ext_iff_of_nodup ?_ hn).2 fun x=>ZO zs x;exact(X0v zs).imp fun {a b} h e=>by rw[e,Z0]at h;omega
end Go.Proofs.YtdajceakaakdoaaGreat

namespace Go.Proofs.YtdajceakaakdoaaGreat
open Go Go.Hl Go.Sort Go.Lib Go.Joins Go.Shelf
set_option maxHeartbeats 4000000
theorem X9q (p:Option Addr) (cap:Nat) (g:FuncId) (w:World):Calls Tryz.prog 168 #[.slice p 0 cap,.int .i64 0,.int .i64 0,.func (.func g) #[] #[]] w fun e w'=>e=.returned (.tuple #[])∧w'=w:=by
 go_enter Tryz.func168,Tryz.ntmps168
 go_wp2
 refine wp_loop_rounds 1 ?_;rw[rounds_succ]
 go_wp2
 go_end0
 exact⟨rfl,rfl⟩
theorem Xa0 (p:Option Addr) (cap:Nat) (g:FuncId) (w:World):Calls Tryz.prog 108 #[.slice p 0 cap,.int .i64 0,.int .i64 0,.int .i64 0,.func (.func g) #[] #[]] w fun e w'=>e=.returned (.tuple #[])∧w'=w:=by
 have e1:∀args w,(callFunc 168 args).run Tryz.prog w=.ok (.enter 168 args) w:=enters_of Tryz.func168 (by kernel_rfl) rfl
 go_enter Tryz.func108,Tryz.ntmps108
 go_wp2
 refine wp_loop_rounds 1 ?_;rw[rounds_succ]
 go_wp2_with (go_at_fn 168;refine(X9q p cap g _).mono ?_;rintro e w' ⟨rfl,rfl⟩)
 (try simp only[Exit.inBlock,Exit.then])
 refine bodyPost_ret (results_none rfl _ _ _) rfl ?_;exact⟨rfl,rfl⟩
theorem X7O (p:Option Addr) (cap:Nat) (g:FuncId) (w:World):Calls Tryz.prog 58 #[.slice p 0 cap,.func (.func g) #[] #[]] w fun e w'=>e=.returned (.tuple #[])∧w'=w:=by
 have hLen:∀w,Calls Tryz.prog 89 #[.int .u64 0] w fun e w'=>e=.returned (.int .i64 0)∧w'=w:=fun w=>Any.bits_Len (SlLaysF0.n15.bits (P:=Tryz.prog) (ρ:=X9H) {sortDL with}) 0 w (by omega) (by omega);have e1:∀args w,(callFunc 89 args).run Tryz.prog w=.ok (.enter 89 args) w:=enters_of Tryz.func89 (by kernel_rfl) rfl;have e2:∀args w,(callFunc 108 args).run Tryz.prog w=.ok (.enter 108 args) w:=enters_of Tryz.func108 (by kernel_rfl) rfl
 go_enter Tryz.func58,Tryz.ntmps58
 go_wp2_with (first
  |(go_at_fn 89;refine(hLen _).mono ?_;rintro e w' ⟨rfl,rfl⟩)
  |(go_at_fn 108;refine(Xa0 p cap g _).mono ?_;rintro e w' ⟨rfl,rfl⟩))
 go_end0
 exact⟨rfl,rfl⟩
end Go.Proofs.YtdajceakaakdoaaGreat

namespace Go.Proofs.YtdajceakaakdoaaGreat
open Go Go.Hl Go.Sort Go.Lib Go.Joins Go.Shelf
theorem Xby {f c:FuncId} (hcall:XU Tryz.prog f=true) (zs ys:List Dp) (hz:0<zs.length) (hle:ys.length=zs.length)
  (key:∀(g o cap:Nat) (w:World),HoldsK dpE 3 w g o zs.toArray→g<w.heap.size→zs.length≤cap→cap≤maxLen→Calls Tryz.prog f #[.slice (some ⟨g,o,none⟩) zs.length cap,.func (.func c) #[] #[]] w fun e w'=>e=.returned (.tuple #[])∧RowOutD w w' g o ys):
  ConG2 Tryz.prog f c 51 3 (Qn zs) (Qn ys):=by
 refine⟨hcall,fun F B w v hro hF hvF=>?_⟩;obtain⟨h0,hrs,xs,⟨hxl,hown⟩,hx1,hc⟩:=hro;rcases hown with⟨_,hn⟩|⟨g,o,cap,cur,rfl,hB,hg,hcap,hmax,hcs,htake⟩
 · rw[ZQ]at hn;omega
 rw[ZQ]at hxl hcap htake⊢
 have hcur:∀k j y,zs[k]? =some y→j<3→cur[o+(k*3+j)]? =some (dpE y)[j]! :=by
  intro k j y hk hj;obtain⟨u,hu,hr⟩:=hc k j _ (getRC_D' hk hj);cases hr;have hlt:=(List.getElem?_eq_some_iff.1 hk).1;have:xs[k*3+j]? =cur[o+(k*3+j)]? :=by rw[←htake,List.getElem?_take,if_pos (by omega),List.getElem?_drop,Array.getElem?_toList]
  rw[←this];exact hu
 have hH:HoldsK dpE 3 w g o zs.toArray:=by
  intro t ht;have ht':t<zs.length*3:=by simpa using ht
  have hk:t/3<zs.length:=by omega
  refine⟨?_,?_⟩
  · have h1:w.cell? ⟨g,o+t,none⟩=cur[o+t]? :=by simp[World.cell?,hg]
    have h2:=hcur (t/3) (t%3) _ (List.getElem?_eq_getElem hk) (by omega);rw[show t/3*3+t%3=t by omega]at h2;have h3:=X1D zs (t/3) (t%3) _ (List.getElem?_eq_getElem hk) (by omega);rw[show t/3*3+t%3=t by omega]at h3;rw[h1,h2,h3];rfl
  simp[World.frozen?,hg]
 have hgs:g<w.heap.size:=(Array.getElem?_eq_some_iff.1 hg).1;refine(key g o cap w hH hgs hcap hmax).mono ?_;rintro e w' ⟨rfl,hout⟩;obtain⟨cur',hg',hcs',hcell⟩:=hout.cells cur _ _ hg
 have hcell2:∀k j y,ys[k]? =some y→j<3→((cur'.toList.drop o).take (ys.length*3))[k*3+j]? =some (dpE y)[j]! :=by
  intro k j y hk hj;have hlt:=(List.getElem?_eq_some_iff.1 hk).1;rw[List.getElem?_take,if_pos (by omega),List.getElem?_drop,Array.getElem?_toList,hcell k j y hk hj (by omega),XaM y j hj]
 refine⟨rfl,hout.os,hout.tape,hout.output,hout.size,fun k hk hne=>hout.other k hk fun e=>hne (by rw[e];rfl),by decide,?_,(cur'.toList.drop o).take (ys.length*3),⟨?_,.inr ⟨g,o,cap,cur',?_,hB,hg',by rw[ZQ];omega,hmax,by omega,by rw[ZQ]⟩⟩,?_,?_⟩
 · intro r hr;simp only[Qn,List.mem_map]at hr;obtain⟨n,_,rfl⟩:=hr;rfl
 · simp only[List.length_take,List.length_drop,Array.length_toList,ZQ];omega
 · rw[ZQ,hle]
 · intro u hu;obtain⟨t,ht⟩:=List.getElem?_of_mem hu
   have hlt:t<ys.length*3:=by
    have:=(List.getElem?_eq_some_iff.1 ht).1;simp only[List.length_take]at this;omega
   have hk:t/3<ys.length:=by omega
   have h2:=hcell2 (t/3) (t%3) _ (List.getElem?_eq_getElem hk) (by omega);rw[show t/3*3+t%3=t by omega,ht]at h2;cases h2;exact XaV _ _ (mem_dpE _ _ (by omega))
 intro a b d hd;obtain⟨hb,y,hy,rfl⟩:=getRC_D hd;exact⟨_,hcell2 a b y hy hb,CRel.lit _⟩
theorem Xb6 (zs:List Dp) (hn:zs.Nodup) (hz:0<zs.length) (hl:zs.length≤17592186044416):
  ConG2 Tryz.prog 58 61 51 3 (Qn zs) (Qn (Wr zs)):=
 Xby (by kernel_rfl) zs _ hz (X6r zs hn) fun g o cap w hH hg hcap hmax=>X8K zs hn hl g o cap w hH hg
end Go.Proofs.YtdajceakaakdoaaGreat

namespace Go.Proofs.YtdajceakaakdoaaGreat
open Go Go.Hl
end Go.Proofs.YtdajceakaakdoaaGreat

namespace Go.Proofs.YtdajceakaakdoaaGreat
open Go Go.Hl
def Inp.enc (i:Inp):List CD:=[.sl 1 (Xi i.s),.sl 1 (Xi i.p),.sl 1 (Xi i.r)]
def X1K (l:List Inp):List (List CD):=l.map Inp.enc
@[simp] theorem encNms_app (a b:List Inp):X1K (a++b)=X1K a++X1K b:=by simp[X1K]
@[simp] theorem encNms_len (l:List Inp):(X1K l).length=l.length:=by simp[X1K]
@[simp] theorem get_encNm (l:List Inp) (i:Nat):(X1K l)[i]? =l[i]?.map Inp.enc:=by simp[X1K]
end Go.Proofs.YtdajceakaakdoaaGreat

namespace Go.Proofs.YtdajceakaakdoaaGreat
open Go Go.Hl
mutual
def tL:Tm→Int→Int
 | .mk _ _ ks,left=>tLs ks (left - 1)
def tLs:List Tm→Int→Int
 |[],left=>left
 |t::l,left=>if 0≤left then tLs l (tL t left)else left
end
def lo1 (x:Int):Int:=if x<0 then x else -1
mutual
theorem X5g:∀(t:Tm) (left:Int),lo1 (left - 1)≤tL t left∧tL t left≤left - 1
 | .mk _ _ ks,left=>by
   simp only[tL];exact X9F ks (left - 1)
theorem X9F:∀(l:List Tm) (left:Int),lo1 left≤tLs l left∧tLs l left≤left
 | [],left=>by
   simp only[tLs,lo1];split<;>omega
 | t ::l,left=>by
   simp only[tLs];split
   · have h1:=X5g t left;have h2:=X9F l (tL t left);unfold lo1 at*;refine⟨?_,by omega⟩;split
     · omega
     refine Int.le_trans ?_ h2.1;split<;>(try split at h1)<;>omega
   unfold lo1;split<;>omega
end
theorem tLs_neg (l:List Tm) (left:Int) (h:left<0):tLs l left=left:=by
 cases l with
 |nil=>rfl
 |cons t l=>simp only[tLs];rw[if_neg (by omega)]
mutual
theorem X9W:∀(t:Tm) (left:Int),0≤tL t left→tL t left=left - t.nodes
 | .mk _ _ ks,left=>by
   simp only[tL,Tm.nodes];intro h;have:=XaS ks (left - 1) h;omega
theorem XaS:∀(l:List Tm) (left:Int),0≤tLs l left→tLs l left=left - Qb l
 |[],left=>by simp[tLs,Qb]
 | t::l,left=>by
   simp only[tLs,Qb];split
   · intro h;have h1:=XaS l (tL t left) h;have h2:=X9F l (tL t left);have h3:=X9W t left (by omega);omega
   intro h;omega
end
def sL:List St→Int→Int
 |[],left=>left
 | .mk _ _ _ _ t a b bs::l,left=>
   if 0≤left then(if tL t (left - 1)<bs.length then -1 else sL l (sL b (sL a (tL t (left - 1) - bs.length))))else left
theorem sL_neg (l:List St) (left:Int) (h:left<0):sL l left=left:=by
 cases l with
 |nil=>simp[sL]
 |cons s l=>obtain⟨d,c,v,n,t,a,b,bs⟩:=s;simp only[sL];rw[if_neg (by omega)]
theorem X34:∀(l:List St) (left:Int),lo1 left≤sL l left∧sL l left≤left
 | [],left=>by
   simp only[sL,lo1];split<;>omega
 | .mk _ _ _ _ t a b bs::l,left=>by
   simp only[sL];by_cases h0:0≤left
   · rw[if_pos h0];have e:lo1 left=-1:=by unfold lo1;rw[if_neg (by omega)]
     rw[e];split
     · omega
     have h1:=X5g t (left - 1);have ha:=X34 a (tL t (left - 1) - bs.length);have hb:=X34 b (sL a (tL t (left - 1) - bs.length));have hl:=X34 l (sL b (sL a (tL t (left - 1) - bs.length)));refine⟨?_,by omega⟩;generalize sL l (sL b (sL a (tL t (left - 1) - bs.length)))=z at*;generalize sL b (sL a (tL t (left - 1) - bs.length))=y at*;generalize sL a (tL t (left - 1) - bs.length)=x at*;generalize tL t (left - 1)=w at*;unfold lo1 at ha hb hl
     (repeat' split at ha)<;>(repeat' split at hb)<;>(repeat' split at hl)<;>omega
   rw[if_neg h0];unfold lo1;split<;>omega
theorem X7K:∀(l:List St) (left:Int),left≤1000000→0≤sL l left→sL l left≤left - Xl l∧Z3 l=true
 |[],left,_,_=>by simp[sL,Xl,Z3]
 | .mk _ _ _ _ t a b bs::l,left,hle,h=>by
   simp only[sL]at h⊢;by_cases h0:0≤left
   · rw[if_pos h0]at h⊢;split at h
     · omega
     rename_i hbs;rw[if_neg hbs];have i0:=X5g t (left - 1);have ia:=X34 a (tL t (left - 1) - bs.length);have ib:=X34 b (sL a (tL t (left - 1) - bs.length));have il:=X34 l (sL b (sL a (tL t (left - 1) - bs.length)));have p3:=X7K l (sL b (sL a (tL t (left - 1) - bs.length))) (by omega) h;have p2:=X7K b (sL a (tL t (left - 1) - bs.length)) (by omega) (by omega);have p1:=X7K a (tL t (left - 1) - bs.length) (by omega) (by omega);have p0:=X9W t (left - 1) (by omega);simp only[Xl,St.nodes,Z3,X3i,p1.2,p2.2,p3.2,Bool.and_true,decide_eq_true_eq];omega
   rw[if_neg h0]at h;omega
def hL:List Ht→Int→Int
 |[],m=>m
 |h::l,m=>hL l (tL h.term m)
theorem hL_le:∀(l:List Ht) (m:Int),hL l m≤m
 |[],m=>by simp[hL]
 | h::l,m=>by
   have h1:=hL_le l (tL h.term m);have h2:=X5g h.term m;simp only[hL];omega
theorem hL_pos:∀(l:List Ht) (m:Int),0≤hL l m→hL l m=m - Qr l
 |[],m,_=>by simp[hL,Qr]
 | h::l,m,h0=>by
   simp only[hL,Qr]at h0⊢;have h1:=hL_pos l _ h0;have h2:=hL_le l (tL h.term m);have h3:=X9W h.term m (by omega);omega
def fewB (f:Fl) (vars nodes:Int):Bool:=if vars<f.vars.length∨vars<f.hats.length then false else decide (0≤hL f.hats (sL f.body nodes))
theorem fewB_in {f:Fl} {vars nodes:Int} (hn:nodes≤1000000) (h:fewB f vars nodes=true):f.vars.length≤vars∧f.hats.length≤vars∧Xl f.body+Qr f.hats≤nodes∧Z3 f.body=true:=by
 unfold fewB at h;split at h
 · cases h
 rename_i h1;simp only[decide_eq_true_eq]at h;have e1:=hL_pos _ _ h;have e2:=hL_le f.hats (sL f.body nodes);have e3:=X7K f.body nodes hn (by omega);exact⟨by omega,by omega,by omega,e3.2⟩
theorem X6P (t:Tm):∀left:Int,-1000000≤left→left≤1000000→∀d:Nat,Con Tryz.prog 42 true [aT t,li left] (.v (li (tL t left))) none d:=by
 induction t using Tm.ind with
 |h o n ks ih=>
 intro left h1 h2 d;obtain⟨res,hres⟩:∃r,tL (.mk o n ks) left=r:=⟨_,rfl⟩;rw[hres];simp only[tL]at hres;have hw0:IntKind.i64.wrap (left - 1)=left - 1:=Xa (by omega) (by omega);refine X5 Tryz.func42 ?_;simp only[Tryz.f42];simp only[aT,Tm.enc];refine X1 ?_;refine X1 ?_;refine X0<|X0<|X2 ?_;refine X3<|(Xf [2] (fun(x:Nat×Int)=>[(1,.v (li x.2)),(5,.v (li x.1))]) (fun x=>[(2,.box [.c (iC o),.c (iC n),.c (.sl 3 (XI ks))])]) (fun x=>x.1≤ks.length∧tLs (ks.drop x.1) x.2=res∧-1000001≤x.2∧x.2+x.1≤1000000) (fun x=>ks.length - x.1) (0,left - 1) ⟨Nat.zero_le _,by simpa using hres,by simp only;omega,by simp only;omega⟩ ?_ ?_)
 · exact X4 (fun n=>n) []
 rintro⟨k,m⟩ ⟨hk,hJ,hm,hm2⟩;simp only[upS,X6,XB]
 try simp only[X6,KN,Nat.reduceBEq,if_true,if_false,ins,Nat.reduceLT]
 simp only at hk hJ hm hm2;refine X0<|X0<|X2 ?_;refine(X7 rfl (fun h5=>Xb ?_) (fun h5=>?_))
 · (try simp only[BN]at h5);have hlt:k<ks.length:=by omega
   have hm0:0≤m:=by omega
   obtain⟨⟨eo,en,ek⟩,he,hd⟩:=Xt hlt;have he':=Wv he;simp only[Tm.enc]at he';have hw1:IntKind.i64.wrap ((k:Int)+1)=(k:Int)+1:=Xa (by omega) (by omega);rw[hd]at hJ;simp only[tLs]at hJ;rw[if_pos hm0]at hJ;have hk1:k+1≤ks.length:=hlt;have c:=ih _ (List.mem_of_getElem? he) m (by omega) (by omega);have hti:=X5g (.mk eo en ek) m;have hlo:-1≤lo1 (m - 1):=by unfold lo1;split<;>omega
   obtain⟨M,hM⟩:∃x,tL (.mk eo en ek) m=x:=⟨_,rfl⟩;rw[hM]at c hJ hti;clear hlt h5 hM ih hd;refine X0<|X3<|(Xp [⟨true,.v (li M),none⟩] ?_ ?_)
   · first|exact c _|exact trivial|simpa[*]using c _
   refine X2 ?_;exact⟨(k+1,M),⟨hk1,hJ,by simp only;omega,by simp only;omega⟩,by simp only;omega,X4 (fun n=>n) []⟩
 try simp only[BN]at h5
 have hz:tLs (ks.drop k) m=m:=by
  by_cases hm0:m<0
  · exact tLs_neg _ _ hm0
  have hkl:k=ks.length:=by omega
  rw[hkl,List.drop_length];rfl
 rw[hz]at hJ;subst hJ;refine(Xg ?_);refine X1 ?_;exact Xe
theorem XbV (l:List St):∀left:Int,-1000000≤left→left≤1000000→∀d:Nat,Con Tryz.prog 41 true [lS l,li left] (.v (li (sL l left))) none d:=by
 revert l
 apply St.lists;intro l ih left h1 h2 d;obtain⟨res,hres⟩:∃r,sL l left=r:=⟨_,rfl⟩;rw[hres];refine X5 Tryz.func41 ?_;simp only[Tryz.f41];refine X1 ?_;refine X0<|X0<|X2 ?_;refine X3<|(Xf [0] (fun(x:Nat×Int)=>[(1,.v (li x.2)),(5,.v (li x.1))]) (fun x=>[]) (fun x=>x.1≤l.length∧sL (l.drop x.1) x.2=res∧-1000001≤x.2∧x.2+x.1≤1000000) (fun x=>l.length - x.1) (0,left) ⟨Nat.zero_le _,hres,by simp only;omega,by simp only;omega⟩ ?_ ?_)
 · exact X4 (fun n=>n) []
 rintro⟨k,m⟩ ⟨hk,hJ,hm,hm2⟩;simp only[upS,X6,XB]
 try simp only[X6,KN,Nat.reduceBEq,if_true,if_false,ins,Nat.reduceLT]
 simp only at hk hJ hm hm2;clear hres;refine X0<|X0<|X2 ?_;refine(X7 rfl (fun h4=>Xb ?_) (fun h4=>?_))
 · (try simp only[BN]at h4);have hlt:k<l.length:=by omega
   have hm0:0≤m:=by omega
   obtain⟨s,he,hd⟩:=Xt hlt;have hmem:s∈l:=List.mem_of_getElem? he;have iha:=(ih s hmem).1;have ihb:=(ih s hmem).2;have hw1:IntKind.i64.wrap ((k:Int)+1)=(k:Int)+1:=Xa (by omega) (by omega);have hk1:k+1≤l.length:=hlt;have he':=Q5 he;obtain⟨sd,sc,sv,sn,⟨so,stn,sks⟩,sa,sb,sbs⟩:=s;simp only[St.then_,St.else_]at iha ihb;simp only[St.enc,Tm.enc,List.cons_append,List.nil_append]at he';rw[hd]at hJ;simp only[sL]at hJ;rw[if_pos hm0]at hJ;have hw2:IntKind.i64.wrap (m - 1)=m - 1:=Xa (by omega) (by omega);have c:=X6P (.mk so stn sks) (m - 1) (by omega) (by omega);have hti:=X5g (.mk so stn sks) (m - 1);have hlo:-2≤lo1 (m - 1 - 1):=by unfold lo1;split<;>omega
   obtain⟨M,hM⟩:∃x,tL (.mk so stn sks) (m - 1)=x:=⟨_,rfl⟩;rw[hM]at c hJ hti;simp only[aT,Tm.enc,List.map_cons,List.map_nil]at c;clear hlt h4 hM ih hd hmem;refine X0<|X3<|X0<|(Xp [⟨true,.v (li M),none⟩] ?_ ?_)
   · first|exact c _|exact trivial|simpa[*]using c _
   refine X0<|X0<|X2 ?_;refine(Xc rfl (fun h7=>?_) fun h7=>?_)
   · (try simp only[BN]at h7);rw[if_pos h7]at hJ;subst hJ;refine X1 ?_;exact Xe
   (try simp only[BN]at h7);rw[if_neg (by omega)]at hJ;have hw3:IntKind.i64.wrap (M - (sbs.length:Int))=M - (sbs.length:Int):=Xa (by omega) (by omega);have c1:=iha (M - sbs.length) (by omega) (by omega);have s1:=X34 sa (M - sbs.length);have hl1:-1≤lo1 (M - sbs.length):=by unfold lo1;split<;>omega
   obtain⟨M1,hM1⟩:∃x,sL sa (M - sbs.length)=x:=⟨_,rfl⟩;rw[hM1]at c1 s1 hJ;have c2:=ihb M1 (by omega) (by omega);have s2:=X34 sb M1;have hl2:-1≤lo1 M1:=by unfold lo1;split<;>omega
   obtain⟨M2,hM2⟩:∃x,sL sb M1=x:=⟨_,rfl⟩;rw[hM2]at c2 s2 hJ;clear iha ihb hM1 hM2 h7 c;refine(QH [⟨true,.v (li M1),none⟩,⟨true,.v (li M2),none⟩] (by kernel_rfl) (by kernel_rfl) (by rfl) (by simp[*];first|exact⟨rfl,Iff.rfl⟩|exact⟨rfl,trivial⟩|rfl) ?_ ?_)
   · first|exact⟨c1 _,c2 _⟩|exact trivial|(repeat' first|exact trivial|exact c1 _|exact c2 _|apply And.intro)
   refine X2 ?_;exact⟨(k+1,M2),⟨hk1,hJ,by simp only;omega,by simp only;omega⟩,by simp only;omega,X4 (fun n=>n) []⟩
 try simp only[BN]at h4
 have hz:sL (l.drop k) m=m:=by
  by_cases hm0:m<0
  · exact sL_neg _ _ hm0
  have hkl:k=l.length:=by omega
  rw[hkl,List.drop_length];simp[sL]
 rw[hz]at hJ;subst hJ;refine(Xg ?_);refine X1 ?_;exact Xe
theorem few_con (f:Fl) (vars nodes:Int) (hv:0≤vars∧vars≤1000) (hn:0≤nodes∧nodes≤1000) (d:Nat):Con Tryz.prog 13 true [aF f,li vars,li nodes] (.v (lb (fewB f vars nodes))) none d:=by
 obtain⟨vs,hats,body⟩:=f;obtain⟨res,hres⟩:∃r,fewB ⟨vs,hats,body⟩ vars nodes=r:=⟨_,rfl⟩;rw[hres];unfold fewB at hres;simp only at hres;have cs:=XbV body nodes (by omega) (by omega);have hsi:=X34 body nodes;have hlo:-2≤lo1 nodes:=by unfold lo1;split<;>omega
 obtain⟨S,hS⟩:∃x,sL body nodes=x:=⟨_,rfl⟩;rw[hS]at hres cs hsi;clear hS;refine X5 Tryz.func13 ?_;simp only[Tryz.f13];simp only[aF,Fl.enc,List.map_cons,List.map_nil];refine X1 ?_;refine X0<|X0<|X2 ?_;refine(Xc rfl (fun h2=>?_) fun h2=>?_)
 · (try simp only[BN]at h2);rw[if_pos (by omega)]at hres;subst hres;refine X1 ?_;exact Xe
 (try simp only[BN]at h2);rw[if_neg (by omega)]at hres;obtain⟨E,hE⟩:∃x,hL hats S=x:=⟨_,rfl⟩;rw[hE]at hres;refine Xm [⟨true,.v (li S),none⟩] ?_ ?_
 · first|exact cs _|exact trivial|simpa[*]using cs _
 refine X0<|X0<|X2 ?_;refine X3<|(Xf [27,28] (fun(x:Nat×Int)=>[(7,.v (li x.2)),(29,.v (li x.1))]) (fun x=>[]) (fun x=>x.1≤hats.length∧hL (hats.drop x.1) x.2=E∧-2 - (x.1:Int)≤x.2∧x.2≤1000) (fun x=>hats.length - x.1) (0,S) ⟨Nat.zero_le _,hE,by simp only;omega,by simp only;omega⟩ ?_ ?_)
 · exact X4 (fun n=>n) []
 rintro⟨k,m⟩ ⟨hk,hJ,hm,hm2⟩;simp only[upS,X6,XB]
 try simp only[X6,KN,Nat.reduceBEq,if_true,if_false,ins,Nat.reduceLT]
 simp only at hk hJ hm hm2;clear hE;refine X1 ?_;refine X0<|(X7 rfl (fun h9=>Xb ?_) (fun h9=>?_))
 · (try simp only[BN]at h9);have hlt:k<hats.length:=by omega
   obtain⟨h,he,hd⟩:=Xt hlt;have hw1:IntKind.i64.wrap ((k:Int)+1)=(k:Int)+1:=Xa (by omega) (by omega);have hk1:k+1≤hats.length:=hlt;have c:=X6P h.term m (by omega) (by omega);have hti:=X5g h.term m;have hl1:-3 - (k:Int)≤lo1 (m - 1):=by unfold lo1;split<;>omega
   rw[hd]at hJ;simp only[hL]at hJ;obtain⟨nm,lo,hi,⟨o,tn,ks⟩⟩:=h;simp only at c hti hJ;obtain⟨M,hM⟩:∃x,tL (.mk o tn ks) m=x:=⟨_,rfl⟩;rw[hM]at c hJ hti;simp only[aT,Tm.enc,List.map_cons,List.map_nil]at c;clear hlt h9 hM hd;refine X0<|X3<|X0<|X2 ?_;refine(Xp [⟨true,.v (li M),none⟩] ?_ ?_)
   · first|exact c _|exact trivial|simpa[*]using c _
   refine X2 ?_;exact⟨(k+1,M),⟨hk1,hJ,by simp only;omega,by simp only;omega⟩,by simp only;omega,X4 (fun n=>n) []⟩
 (try simp only[BN]at h9);have hkl:k=hats.length:=by omega
 rw[hkl,List.drop_length]at hJ;simp only[hL]at hJ;subst hJ;subst hres;refine(Xg ?_);refine X1 ?_;exact Xe
end Go.Proofs.YtdajceakaakdoaaGreat

namespace Go.Proofs.YtdajceakaakdoaaGreat
open Go Go.Hl
structure Fit (f:Fl) (a b c:Int):Prop where
 hv:f.vars.length≤10
 hh:f.hats.length≤10
 hn:Xl f.body+Qr f.hats≤80
 hb:Z3 f.body=true
 code:XR f=0
 good:X1S f.vars
 s1:spc f.vars 1≤a
 s2:spc f.vars 2≤b
 s3:spc f.vars 3≤c
end Go.Proofs.YtdajceakaakdoaaGreat

namespace Go.Proofs.YtdajceakaakdoaaGreat
open Go Go.Hl
attribute [simp] Ob.flat
end Go.Proofs.YtdajceakaakdoaaGreat

namespace Go.Proofs.YtdajceakaakdoaaGreat
open Go Go.Hl
def waitL (n:Int):List St:=if n=0 then [] else [.mk 2 n 0 0 (.mk 0 0 []) [] [] []]
def posI (n:Int):Int:=if 0<n then n else 0
def balS:St→St
 | .mk d c v n t a b bs=>
   if d=3 then .mk d c v n t (a++waitL (posI ((spL b (0,0)).1 - (spL a (0,0)).1))) (b++waitL (posI ((spL a (0,0)).1 - (spL b (0,0)).1))) bs
   else if d=4∧t.op≠0 then .mk d c v n (.mk 0 1 []) [.mk 3 0 0 0 t a (waitL (spL a (0,0)).1) []] b bs
   else .mk d c v n t a b bs
end Go.Proofs.YtdajceakaakdoaaGreat

namespace Go.Proofs.YtdajceakaakdoaaGreat
open Go Go.Hl
def evL:List St→List St
 |[]=>[]
 | .mk d c v n t a b bs::l=>balS (.mk d c v n t (evL a) (evL b) bs)::evL l
end Go.Proofs.YtdajceakaakdoaaGreat

namespace Go.Proofs.YtdajceakaakdoaaGreat
open Go Go.Hl
end Go.Proofs.YtdajceakaakdoaaGreat

namespace Go.Proofs.YtdajceakaakdoaaGreat
open Go Go.Hl
def X42:List Int→Int→Nat→Int
 |[],_,_=>-1
 |y::l,x,k=>if x=y then k else X42 l x (k+1)
theorem X7T:∀(l:List Int) (x:Int) (k:Nat),x∈l→0≤X42 l x k
 |[],_,_,h=>by cases h
 | y::l,x,k,h=>by
   simp only[X42];split
   · omega
   rename_i hne;rcases List.mem_cons.1 h with h|h
   · exact absurd h hne
   exact X7T l x _ h
theorem Xc6 (l:List Int) (x:Int) (hl:l.length≤1000000000) (d:Nat):Con Tryz.prog 74 true [lI l,li x] (.v (li (X42 l x 0))) none d:=by
 obtain⟨res,hres⟩:∃r,X42 l x 0=r:=⟨_,rfl⟩;rw[hres];refine X5 Tryz.func74 ?_;simp only[Tryz.f74];refine X1 ?_;refine X0<|X0<|X2 ?_;refine X3<|(Xf [0,1,7] (fun(z:Nat)=>[(8,.v (li z))]) (fun z=>[]) (fun z=>z≤l.length∧X42 (l.drop z) x z=res) (fun z=>l.length - z) (0:Nat) ⟨Nat.zero_le _,hres⟩ ?_ ?_)
 · exact X4 (fun n=>n) []
 rintro k ⟨hk,hJ⟩;simp only[upS,X6,XB]
 try simp only[X6,KN,Nat.reduceBEq,if_true,if_false,ins,Nat.reduceLT]
 clear hres;refine X1 ?_;refine X0<|(X7 rfl (fun h4=>Xb ?_) (fun h4=>?_))
 · (try simp only[BN]at h4);have hlt:k<l.length:=by omega
   obtain⟨b,he,hd⟩:=Xt hlt;have hw1:=XE hlt (by omega);have hk1:k+1≤l.length:=hlt;rw[hd]at hJ;simp only[X42]at hJ;clear hlt h4 hd;refine X0<|X3<|X0<|X2 ?_;refine X1 ?_;refine(Xc rfl (fun h7=>?_) fun h7=>?_)
   · (try simp only[BN]at h7);rw[if_pos (by simpa using h7)]at hJ;subst hJ;refine X1 ?_;exact Xe
   (try simp only[BN]at h7);rw[if_neg (by simpa using h7)]at hJ;refine X2 ?_;exact⟨k+1,⟨hk1,hJ⟩,by omega,X4 (fun n=>n) []⟩
 (try simp only[BN]at h4);have hkl:k=l.length:=by omega
 rw[hkl,List.drop_length]at hJ;simp only[X42]at hJ;subst hJ;refine(Xg ?_);refine X1 ?_;exact Xe
theorem X7x (l:List Int) (x:Int) (hl:l.length≤1000000000) (d:Nat):Con Tryz.prog 36 true [lI l,li x] (.v (lb (decide (0≤X42 l x 0)))) none d:=by
 have ci:=Xc6 l x hl;obtain⟨res,hres⟩:∃r,X42 l x 0=r:=⟨_,rfl⟩;rw[hres]at ci⊢;clear hres;refine X5 Tryz.func36 ?_;simp only[Tryz.f36];refine X1 ?_;refine Xm [⟨true,.v (li res),none⟩] ?_ ?_
 · first|exact ci _|exact trivial|simpa[*]using ci _
 exact Xe
theorem X86 (f:Fl) (hv:f.vars.length≤1000000) (hh:f.hats.length≤1000000) (hn:Xl f.body+Qr f.hats≤900000000) (hb:Z3 f.body=true) (hc:XR f=0) (d:Nat):
  Con Tryz.prog 191 true [aF f] (.tup [li (bdL CP f.body ⟨0,0,0⟩).s,li (bdL CP f.body ⟨0,0,0⟩).o,li (bdL CP f.body ⟨0,0,0⟩).t,li 0]) none d:=by
 have cc:=X1f f hv hh hn hb;have cu:=X6v f.body (by omega) (X2I _ _ (QS hc).2.2.2.1);rw[hc]at cc;obtain⟨vars,hats,body⟩:=f;simp only at cu⊢;obtain⟨⟨bs,bo,bt⟩,hB⟩:∃x,bdL CP body ⟨0,0,0⟩=x:=⟨_,rfl⟩;rw[hB]at cu⊢;simp only[aB]at cu⊢;clear hB hc hn hb hv hh;refine X5 Tryz.func191 ?_;simp only[Tryz.f191];simp only[aF,Fl.enc,List.map_cons,List.map_nil]at cc⊢;refine X1 ?_;refine X0<|X0<|(Xp [⟨true,.v (li 0),none⟩] ?_ ?_)
 · first|exact cc _|exact trivial|simpa[*]using cc _
 refine X1 ?_;refine(Xc rfl (fun h3=>?_) fun h3=>?_)
 · exact absurd h3 (by simp)
 (try simp only[BN]at h3);refine Xm [⟨true,.v (.agg [.c (iC bs),.c (iC bo),.c (iC bt)]),none⟩] ?_ ?_
 · first|exact cu _|exact trivial|simpa[*]using cu _
 refine X0<|(Qe (by kernel_rfl) (by kernel_rfl) (by rfl) (by simp[*];rfl) ?_);exact Xe
end Go.Proofs.YtdajceakaakdoaaGreat

namespace Go.Proofs.YtdajceakaakdoaaGreat
open Go Go.Hl
section
variable {N:List Nd} {steps:List St} {vars:List Vr} {nh:Nat} {hv hw:List Int} {K:Nat→Bool} {ar:List Int} {kO:Nat→Bool} {nd:Nat→Bool}
structure Need (N:List Nd) (steps:List St) (nv:Nat) (K nd:Nat→Bool) (hv hw:List Int):Prop where
 ent:∀(o:Nat) q,K o=true→steps[o]? =some q→∀(k:Nat) (x:Nd),N[k]? =some x→x.k≠4→x.a=(o:Int)→∀d,Rc N steps nv k d→Qi steps d∈tmV q.term→steps.length≤d→nd (d - steps.length)=true
 hat:∀(o:Nat) q,K o=true→steps[o]? =some q→q.do_=5→(hv[q.n.toNat]?).getD 0=(hw[q.n.toNat]?).getD 0
def R2 (K nd:Nat→Bool) (n nv:Nat) (x y:Sta×(Nat→Nat)):Prop:=
 x.1.outs=y.1.outs∧x.1.vals.length=nv∧y.1.vals.length=nv∧∀v,v<nv→(K (x.2 v)=true∨n≤x.2 v)→(K (y.2 v)=true∨n≤y.2 v)→x.2 v=y.2 v∧((K (x.2 v)=true∨nd v=true)→x.1.vals[v]? =y.1.vals[v]?)
end
end Go.Proofs.YtdajceakaakdoaaGreat

namespace Go.Proofs.YtdajceakaakdoaaGreat
open Go Go.Hl
theorem Xc4 (l:List St):Xl l≤1000000000→∀d:Nat,Con Tryz.prog 16 true [lS l] (.v (li (szL l))) none d:=by
 revert l
 apply St.lists;intro l ih hn d;have hlen:=Qx l;have hsl:=X13 l;obtain⟨res,hres⟩:∃r,szL l=r:=⟨_,rfl⟩;rw[hres]at hsl⊢;refine X5 Tryz.func16 ?_;simp only[Tryz.f16];refine X1 ?_;refine X1 ?_;refine X0<|X0<|X2 ?_;refine X3<|(Xf [0] (fun(x:Nat×Nat)=>[(3,.v (li ((x.2:Nat):Int))),(4,.v (li x.1))]) (fun x=>[]) (fun x=>x.1≤l.length∧x.2+szL (l.drop x.1)=res) (fun x=>l.length - x.1) (0,0) ⟨Nat.zero_le _,by simp[hres]⟩ ?_ ?_)
 · exact X4 (fun n=>n) []
 rintro⟨k,m⟩ ⟨hk,hJ⟩;simp only[upS,X6,XB]
 try simp only[X6,KN,Nat.reduceBEq,if_true,if_false,ins,Nat.reduceLT]
 simp only at hk hJ;refine X0<|X0<|X2 ?_;refine(X7 rfl (fun h5=>Xb ?_) (fun h5=>?_))
 · (try simp only[BN]at h5);have hlt:k<l.length:=by omega
   obtain⟨s,he,hd⟩:=Xt hlt;have hmem:s∈l:=List.mem_of_getElem? he;have hnm:=QT hmem;have iha:=fun h=>(ih s hmem).1 h;have ihb:=fun h=>(ih s hmem).2 h;have hw1:=XE hlt (by omega);have hk1:k+1≤l.length:=hlt;rw[hd]at hJ;obtain⟨sd,sc,sv,sn,⟨so,stn,sks⟩,sa,sb,sbs⟩:=s;simp only[St.then_,St.else_,St.term]at iha ihb hnm;simp only[szL,szS]at hJ;have ca:=iha (by omega);have cb:=ihb (by omega);have he':=Q5 he;simp only[St.enc,Tm.enc,List.cons_append,List.nil_append]at he';generalize szL sa=na at*;generalize szL sb=nb at*;have hw2:IntKind.i64.wrap ((m:Int)+1)=(m:Int)+1:=Xa (by omega) (by omega);have hw3:IntKind.i64.wrap ((m:Int)+1+(na:Int))=(m:Int)+1+(na:Int):=Xa (by omega) (by omega);have hw4:IntKind.i64.wrap ((m:Int)+1+(na:Int)+(nb:Int))=(m:Int)+1+(na:Int)+(nb:Int):=Xa (by omega) (by omega);clear hlt h5 ih hmem iha ihb;refine X0<|X3<|(QH [⟨true,.v (li (na:Int)),none⟩,⟨true,.v (li (nb:Int)),none⟩] (by kernel_rfl) (by kernel_rfl) (by rfl) (by simp[*];first|exact⟨rfl,Iff.rfl⟩|exact⟨rfl,trivial⟩|rfl) ?_ ?_)
   · first|exact⟨ca _,cb _⟩|exact trivial|(repeat' first|exact trivial|exact ca _|exact cb _|apply And.intro)
   refine X2 ?_;exact⟨(k+1,m+1+na+nb),⟨hk1,by simp only;omega⟩,by simp only;omega,X4 (fun n=>n) []⟩
 (try simp only[BN]at h5);have hkl:k=l.length:=by omega
 rw[hkl,List.drop_length]at hJ;simp only[szL]at hJ;have hm:m=res:=by omega
 refine(Xg ?_);refine X1 ?_;exact Xe
end Go.Proofs.YtdajceakaakdoaaGreat

namespace Go.Proofs.YtdajceakaakdoaaGreat
open Go Go.Hl
theorem Xbf (t:Tm):t.nodes≤1000000→∀d:Nat,Con Tryz.prog 148 false [aT t] (.v (aT t)) none d:=by
 revert t
 refine Tm.ind ?_;intro o n ks ih hn d;simp only[Tm.nodes]at hn;have hlen:=We ks;refine X5 Tryz.func148 ?_;simp only[Tryz.f148];simp only[aT,Tm.enc,List.map_cons,List.map_nil];refine X1 ?_;refine X1 ?_;refine X0<|X0<|X2 ?_;refine X3<|(Xf [2,3,12,13] (fun(x:Nat)=>[(14,.v (li x))]) (fun x=>[(2,.box [.c (iC 0),.c (iC 0),.c (.lit XW)]),(3,.box [.c (iC o),.c (iC n),.own 900001]),(900001,.row 68 3 (XI (ks.take x)))]) (fun x=>x≤ks.length) (fun x=>ks.length - x) (0:Nat) (Nat.zero_le _) ?_ ?_)
 · exact X4 (fun n=>n) [900001]
 rintro k hk;simp only[upS,X6,XB]
 try simp only[X6,KN,Nat.reduceBEq,if_true,if_false,ins,Nat.reduceLT]
 refine X1 ?_;refine X0<|(X7 rfl (fun h5=>Xb ?_) (fun h5=>?_))
 · (try simp only[BN]at h5);have hlt:k<ks.length:=by omega
   obtain⟨t,he,hd⟩:=Xt hlt;have hw1:=XE hlt (by omega);have hk1:k+1≤ks.length:=hlt;have hmem:t∈ks:=List.mem_of_getElem? he;have hnm:=X8y hmem;have ct:=ih t hmem (by omega);have htl:(ks.take k).length=k:=by rw[List.length_take];omega
   have hroom:Wa (k+1) 40:=Qc (by omega) (by omega)
   have hsn:XI (ks.take (k+1))=XI (ks.take k)++[t.enc]:=by
    rw[X0I,X0I,List.take_add_one,he,Option.toList_some,List.map_append];rfl
   have he':=Wv he;obtain⟨so,stn,sks⟩:=t;simp only[Tm.enc]at he' hsn;simp only[aT,Tm.enc,List.map_cons,List.map_nil]at ct;clear hlt h5 ih hmem hnm he hd;refine X0<|X3<|X0<|X2 ?_;refine(Xb7 [(18,3),(24,3)] [⟨false,.v (.agg [.c (iC so),.c (iC stn),.c (.sl 3 (XI sks))]),none⟩] (by kernel_rfl) (by kernel_rfl) (by rfl) (by simp[evcH,hokB,QD, *];first|exact⟨rfl,Iff.rfl⟩|exact⟨rfl,trivial⟩|rfl) ?_ ?_)
   · first|exact ct _|exact trivial|simpa[*]using ct _
   refine X2 ?_;exact⟨k+1,hk1,by omega,X4 (fun n=>if n=900001 then 23 else n) []⟩
 (try simp only[BN]at h5);have hkl:k=ks.length:=by omega
 subst hkl;simp only[List.take_length];refine(Xg ?_);refine XH (QQ 900001 rfl) ?_;refine X1 ?_;exact Qm ⟨.inr rfl,_,le_refl _,⟨⟨_,by simp;rfl,by simp[XK]⟩,by simp,fun h=>by cases h⟩⟩
end Go.Proofs.YtdajceakaakdoaaGreat

namespace Go.Proofs.YtdajceakaakdoaaGreat
open Go Go.Hl
theorem X8f (s:St) (hn:s.nodes≤1000000) (hb:X3i s=true) (ca:∀d:Nat,Con Tryz.prog 149 false [lS s.then_] (.v (lS s.then_)) none d) (cb:∀d:Nat,Con Tryz.prog 149 false [lS s.else_] (.v (lS s.else_)) none d) (d:Nat):
  Con Tryz.prog 87 false [aS s] (.v (aS s)) none d:=by
 have ct:=Xbf s.term;have cc:=X9N s.bounds;obtain⟨sd,sc,sv,sn,⟨so,stn,sks⟩,sa,sb,sbs⟩:=s;simp only[St.then_,St.else_,St.term,St.bounds]at ca cb ct cc;simp only[X3i,Bool.and_eq_true,decide_eq_true_eq]at hb;have cc:=cc hb.1;simp only[St.nodes]at hn;have ct:=ct (by omega);simp only[aT,Tm.enc,List.map_cons,List.map_nil]at ct;clear hn hb;refine X5 Tryz.func87 ?_;simp only[Tryz.f87];simp only[aS,St.enc,Tm.enc,List.map_cons,List.map_nil,List.cons_append,List.nil_append];refine X1 ?_;refine X0<|(QH [⟨false,.v (.agg [.c (iC so),.c (iC stn),.c (.sl 3 (XI sks))]),none⟩,⟨false,.v (lS sa),none⟩,⟨false,.v (lS sb),none⟩,⟨false,.v (lI sbs),none⟩] (by kernel_rfl) (by kernel_rfl) (by rfl) (by simp[*,XO,QE,Q3];first|exact⟨rfl,Iff.rfl⟩|exact⟨rfl,trivial⟩|rfl) ?_ ?_)
 · first|exact⟨ct _,ca _,cb _,cc _⟩|exact trivial|(repeat' first|exact trivial|exact ct _|exact ca _|exact cb _|exact cc _|apply And.intro)
 exact Qm ⟨.inr rfl,_,le_refl _,⟨⟨_,by simp;rfl,by simp[XK]⟩,by simp,fun h=>by cases h⟩⟩
theorem X5K (l:List St):Xl l≤1000000→Z3 l=true→∀d:Nat,Con Tryz.prog 149 false [lS l] (.v (lS l)) none d:=by
 revert l
 apply St.lists;intro l ih hn hbn d;have hlen:=Qx l;refine X5 Tryz.func149 ?_;simp only[Tryz.f149];refine X1 ?_;refine X1 ?_;refine X0<|X0<|X2 ?_;refine X3<|(Xf [6,7] (fun(x:Nat)=>[(3,.v (.one (.own 1003))),(8,.v (li x))]) (fun x=>[(1003,.row 70 10 (X8 (l.take x)))]) (fun x=>x≤l.length) (fun x=>l.length - x) (0:Nat) (Nat.zero_le _) ?_ ?_)
 · exact X4 (fun n=>n) [1003]
 rintro k hk;simp only[upS,X6,XB]
 try simp only[X6,KN,Nat.reduceBEq,if_true,if_false,ins,Nat.reduceLT]
 refine X1 ?_;refine X0<|(X7 rfl (fun h5=>Xb ?_) (fun h5=>?_))
 · (try simp only[BN]at h5);have hlt:k<l.length:=by omega
   obtain⟨s,he,hd⟩:=Xt hlt;have hw1:=XE hlt (by omega);have hk1:k+1≤l.length:=hlt;have hmem:s∈l:=List.mem_of_getElem? he;have hnm:=QT hmem;have hbm:=X58 hbn hmem
   have hsz:s.nodes≤1000000:=by
    obtain⟨sd,sc,sv,sn,t,sa,sb,sbs⟩:=s;simp only[St.then_,St.else_,St.term,St.nodes]at*;omega
   have hbab:Z3 s.then_=true∧Z3 s.else_=true:=by
    obtain⟨sd,sc,sv,sn,t,sa,sb,sbs⟩:=s;simp only[X3i,Bool.and_eq_true,decide_eq_true_eq]at hbm;exact hbm.2
   have cs:=X8f s hsz hbm ((ih s hmem).1 (by omega) hbab.1) ((ih s hmem).2 (by omega) hbab.2);have htl:(l.take k).length=k:=by rw[List.length_take];omega
   have hroom:Wa (k+1) 144:=Qc (by omega) (by omega)
   have hsn:X8 (l.take (k+1))=X8 (l.take k)++[s.enc]:=by
    rw[WD,WD,List.take_add_one,he,Option.toList_some,List.map_append];rfl
   have he':=Q5 he;obtain⟨sd,sc,sv,sn,⟨so,stn,sks⟩,sa,sb,sbs⟩:=s;simp only[St.enc,Tm.enc,List.cons_append,List.nil_append]at he' hsn;simp only[aS,St.enc,Tm.enc,List.map_cons,List.map_nil,List.cons_append,List.nil_append]at cs;clear hlt h5 ih hmem hnm he hd hbm hsz hbab;refine X0<|X3<|X0<|X2 ?_;refine(Xp [⟨false,.v (aS (.mk sd sc sv sn (.mk so stn sks) sa sb sbs)),none⟩] ?_ ?_)
   · first|exact cs _|exact trivial|simpa[*]using cs _
   refine X2 ?_;exact⟨k+1,hk1,by omega,X4 (fun n=>if n=1003 then 16 else n) []⟩
 (try simp only[BN]at h5);have hkl:k=l.length:=by omega
 subst hkl;simp only[List.take_length];refine(Xg ?_);refine X1 ?_;exact Qm ⟨.inr rfl,_,QQ 1003 rfl,⟨⟨_,by simp;rfl,by simp[XK]⟩,by simp,fun h=>by cases h⟩⟩
theorem Xb5 (s:St) (hn:s.nodes≤1000000) (hb:X3i s=true) (d:Nat):Con Tryz.prog 87 false [aS s] (.v (aS s)) none d:=by
 have hx:Xl s.then_≤1000000∧Xl s.else_≤1000000∧Z3 s.then_=true∧Z3 s.else_=true:=by
  obtain⟨sd,sc,sv,sn,t,sa,sb,sbs⟩:=s;simp only[St.then_,St.else_,St.nodes,X3i,Bool.and_eq_true,decide_eq_true_eq]at*;exact⟨by omega,by omega,hb.2⟩
 exact X8f s hn hb (X5K _ hx.1 hx.2.2.1) (X5K _ hx.2.1 hx.2.2.2) d
mutual
def woS:St→Int→St
 | .mk d c v n t a b bs,i=>.mk d c v n t (woL a i) (woL b (i - szL a)) bs
def woL:List St→Int→List St
 |[],_=>[]
 |s::l,i=>(if i=0 then [] else [woS s (i - 1)])++woL l (i - szS s)
end
mutual
theorem woS_id:∀(s:St) (i:Int),i<0∨(szS s:Int) - 1≤i→woS s i=s
 | .mk d c v n t a b bs,i,h=>by
   simp only[szS]at h;simp only[woS];rw[X0m a i (by omega),X0m b _ (by omega)]
theorem X0m:∀(l:List St) (i:Int),i<0∨(szL l:Int)≤i→woL l i=l
 |[],i,h=>rfl
 | s::l,i,h=>by
   have hp:=X7u s;simp only[szL]at h;simp only[woL];rw[if_neg (by omega),woS_id s _ (by omega),X0m l _ (by omega)];rfl
end
mutual
def fndS:St→Int→Option St
 | .mk d c v n t a b bs,i=>if i=0 then some (.mk d c v n t a b bs)else
   match Zi a (i - 1)with
   |some x=>some x
   |none=>Zi b (i - 1 - szL a)
def Zi:List St→Int→Option St
 |[],_=>none
 | s::l,i=>match fndS s i with
   |some x=>some x
   |none=>Zi l (i - szS s)
end
theorem X3n (i:Int):Zi [] i=none:=by simp only[Zi]
theorem X0B (d c v n:Int) (t:Tm) (a b:List St) (bs:List Int) (l:List St) (i:Int):Zi (.mk d c v n t a b bs::l) i=
  if i=0 then some (.mk d c v n t a b bs)else
  match Zi a (i - 1)with
  |some x=>some x
  | none=>match Zi b (i - 1 - szL a)with
    |some x=>some x
    |none=>Zi l (i - 1 - szL a - szL b):=by
 have h:i - ((1+szL a+szL b:Nat):Int)=i - 1 - szL a - szL b:=by omega
 simp only[Zi,fndS,szS];rw[h];by_cases h0:i=0
 · simp only[h0,if_true]
 simp only[h0,if_false];cases Zi a (i - 1)with
 |some x=>rfl
 |none=>rfl
end Go.Proofs.YtdajceakaakdoaaGreat

namespace Go.Proofs.YtdajceakaakdoaaGreat
open Go Go.Hl
end Go.Proofs.YtdajceakaakdoaaGreat

namespace Go.Proofs.YtdajceakaakdoaaGreat
open Go Go.Hl
end Go.Proofs.YtdajceakaakdoaaGreat

namespace Go.Proofs.YtdajceakaakdoaaGreat
open Go Go.Hl
theorem Zx:∀(l:List St) (i:Int),i<0→Zi l i=none
 |[],i,h=>X3n i
 | .mk d c v n t a b bs::l,i,h=>by
   rw[X0B];rw[if_neg (by omega),Zx a _ (by omega)];simp only;rw[Zx b _ (by omega)];simp only;exact Zx l _ (by omega)
theorem X0t:∀(l:List St) (i:Int),(szL l:Int)≤i→Zi l i=none
 |[],i,h=>X3n i
 | .mk d c v n t a b bs::l,i,h=>by
   simp only[szL,szS]at h;rw[X0B];rw[if_neg (by omega),X0t a _ (by omega)];simp only;rw[X0t b _ (by omega)];simp only;exact X0t l _ (by omega)
theorem X3G:∀(l:List St) (i:Int),0≤i→i<(szL l:Int)→∃s,Zi l i=some s∧s.nodes≤Xl l∧(Z3 l=true→X3i s=true)∧i+szS s≤szL l∧szL (woL l i)+szS s=szL l
 |[],i,h0,h=>by simp only[szL]at h;omega
 | .mk d c v n t a b bs::l,i,h0,h=>by
   simp only[szL,szS]at h;rw[X0B];split
   · rename_i e;subst e;refine⟨_,rfl,?_,?_,?_,?_⟩
     · simp only[Xl];omega
     · intro hb;simp only[Z3,Bool.and_eq_true]at hb;exact hb.1
     · simp only[szL,szS];omega
     simp only[woL,if_pos,List.nil_append,szL];rw[X0m l _ (by have:=X7u (.mk d c v n t a b bs);omega)];omega
   rename_i e;by_cases ha:i - 1<(szL a:Int)
   · obtain⟨s,h1,h2,h3,h4,h5⟩:=X3G a (i - 1) (by omega) ha;rw[h1];refine⟨s,rfl,?_,?_,?_,?_⟩
     · simp only[Xl,St.nodes];omega
     · intro hb;simp only[Z3,X3i,Bool.and_eq_true]at hb;exact h3 hb.1.2.1
     · simp only[szL,szS];omega
     simp only[woL,if_neg e,woS,List.cons_append,List.nil_append,szL,szS];rw[X0m b _ (by omega),X0m l _ (by omega)];omega
   rw[X0t a _ (by omega)];simp only;by_cases hb:i - 1 - (szL a:Int)<(szL b:Int)
   · obtain⟨s,h1,h2,h3,h4,h5⟩:=X3G b (i - 1 - szL a) (by omega) hb;rw[h1];refine⟨s,rfl,?_,?_,?_,?_⟩
     · simp only[Xl,St.nodes];omega
     · intro hb;simp only[Z3,X3i,Bool.and_eq_true]at hb;exact h3 hb.1.2.2
     · simp only[szL,szS];omega
     simp only[woL,if_neg e,woS,List.cons_append,List.nil_append,szL,szS];rw[X0m a _ (by omega),X0m l _ (by omega)];omega
   rw[X0t b _ (by omega)];simp only;obtain⟨s,h1,h2,h3,h4,h5⟩:=X3G l (i - 1 - szL a - szL b) (by omega) (by omega);rw[h1];refine⟨s,rfl,?_,?_,?_,?_⟩
   · simp only[Xl];omega
   · intro hb;simp only[Z3,Bool.and_eq_true]at hb;exact h3 hb.2
   · simp only[szL,szS];omega
   simp only[woL,if_neg e,woS,List.cons_append,List.nil_append,szL,szS];rw[X0m a _ (by omega),X0m b _ (by omega),show i - ((1+szL a+szL b:Nat):Int)=i - 1 - szL a - szL b by omega];omega
end Go.Proofs.YtdajceakaakdoaaGreat

namespace Go.Hl
open Go Go.RowKit
theorem pin_mk {objs:List (Nat×Ob)} (h:(objs.all fun p=>match p.2 with| .box _=>decide (1000000≤p.1)|_=>true)=true) (n:Nat) (cs:List CV) (hl:lkp objs n=some (.box cs)):1000000≤n:=by
 rw[List.all_eq_true]at h;have:=h _ (Xy hl);simpa using this
theorem HT_endS {P:Program} {rs:List ResultVar} {s:HS} {r:RV} {objs':List (Nat×Ob)} {ts:List TV} (hr:X3j P s rs=some ts) (he:r=XK ts) (ho:∀p∈objs',lkp s.objs p.1=some p.2):
  ∃s2,le s s2∧(∃ts,X3j P s2 rs=some ts∧r=XK ts)∧∀n o,lkp objs' n=some o→lkp s2.objs n=some o:=
 ⟨s,le_refl s,⟨ts,hr,he⟩,fun n o h=>ho _ (Xy h)⟩
attribute [simp] Qf okTV X3r QN WV rbB
end Go.Hl
namespace Go.Proofs.YtdajceakaakdoaaGreat
open Go Go.Hl
end Go.Proofs.YtdajceakaakdoaaGreat

namespace Go.Proofs.YtdajceakaakdoaaGreat
open Go Go.Hl
def fdC:Option St→CD
 |none=>.lit (.pointer none)
 |some s=>.ptr s.enc
def fdO (o:Option St) (fd:Option St):Option St:=match o with|some s=>some s|none=>fd
theorem fd_step (s:St) (l:List St) (i a:Int) (fd:Option St) (h:0≤a):
  fdO (Zi (s::l) (i - a)) fd=fdO (Zi l (i - (a+1+szL s.then_+szL s.else_))) (fdO (Zi s.else_ (i - (a+1+szL s.then_))) (fdO (Zi s.then_ (i - (a+1))) (if a=i then some s else fd))):=by
 obtain⟨d,c,v,n,t,sa,sb,bs⟩:=s;simp only[St.then_,St.else_];rw[X0B,show i - (a+1)=i - a - 1 by omega,show i - (a+1+(szL sa:Int))=i - a - 1 - szL sa by omega,show i - (a+1+(szL sa:Int)+szL sb)=i - a - 1 - szL sa - szL sb by omega];obtain⟨j,hj⟩:∃j,i - a=j:=⟨_,rfl⟩;rw[hj];by_cases h0:j=0
 · rw[if_pos h0,if_pos (by omega),Zx sa _ (by omega),Zx sb _ (by omega),Zx l _ (by omega)];rfl
 rw[if_neg h0,if_neg (by omega)];cases ha:Zi sa (j - 1)with
 | some x=>
   have:j - 1<szL sa:=by
    rcases Int.lt_or_le (j - 1) (szL sa)with h|h
    · exact h
    rw[X0t sa _ h]at ha;cases ha
   rw[Zx sb _ (by omega),Zx l _ (by omega)];rfl
 | none=>
   cases hb:Zi sb (j - 1 - szL sa)with
   | some x=>
     have:j - 1 - szL sa<szL sb:=by
      rcases Int.lt_or_le (j - 1 - szL sa) (szL sb)with h|h
      · exact h
      rw[X0t sb _ h]at hb;cases hb
     rw[Zx l _ (by omega)];rfl
   |none=>rfl
def atO (i a:Int) (fd:CD):List (Nat×Ob):=[(1000000,.box [.c (iC a)]),(1000001,.box [.c (iC i)]),(1000002,.box [.c fd]),(1000003,.box [.fn 86 [(1000000,0),(1000001,0),(1000002,0),(1000003,0)]])]
theorem at1_con (i:Int) (l:List St):Xl l≤1000000→∀(a:Int) (fd:Option St),0≤a→a+szL l≤5000000→
  X4N Tryz.prog 86 (atO i a (fdC fd)) [lS l,.one (.at_ 1000000 0),.one (.at_ 1000001 0),.one (.at_ 1000002 0),.one (.at_ 1000003 0)] (.tup []) (atO i (a+szL l) (fdC (fdO (Zi l (i - a)) fd))):=by
 revert l
 apply St.lists;intro l ih hn a fd h0 h1;have hlen:=Qx l;obtain⟨A,hA⟩:∃x,a+(szL l:Int)=x:=⟨_,rfl⟩;obtain⟨R,hR⟩:∃x,fdO (Zi l (i - a)) fd=x:=⟨_,rfl⟩;rw[hA]at h1⊢;rw[hR];simp only[atO]at ih⊢;refine X8Q Tryz.func86 rfl (by kernel_rfl) (Nat.le_of_ble_eq_true rfl) (pin_mk rfl) ?_;simp only[Tryz.f86];refine X1 ?_;refine X3<|(Xf [0,1,2,3,4,8] (fun(x:Nat×Int×Option St)=>[(9,.v (li x.1))]) (fun x=>[(1000000,.box [.c (iC x.2.1)]),(1000001,.box [.c (iC i)]),(1000002,.box [.c (fdC x.2.2)]),(1000003,.box [.fn 86 [(1000000,0),(1000001,0),(1000002,0),(1000003,0)]])]) (fun x=>x.1≤l.length∧x.2.1+(szL (l.drop x.1):Int)=A∧fdO (Zi (l.drop x.1) (i - x.2.1)) x.2.2=R∧0≤x.2.1) (fun x=>l.length - x.1) (0,a,fd) ⟨Nat.zero_le _,hA,hR,h0⟩ ?_ ?_)
 · exact X4 (fun n=>n) []
 rintro⟨k,c,fc⟩ ⟨hk,hJ,hF,hc0⟩;simp only[upS,X6,XB]
 try simp only[X6,KN,Nat.reduceBEq,if_true,if_false,ins,Nat.reduceLT]
 simp only at hk hJ hF hc0;clear hA hR h0;refine X1 ?_;refine X0<|(X7 rfl (fun h3=>Xb ?_) (fun h3=>?_))
 · (try simp only[BN]at h3);have hlt:k<l.length:=by omega
   obtain⟨s,he,hd⟩:=Xt hlt;have hw1:=XE hlt (by omega);have hk1:k+1≤l.length:=hlt;have hmem:s∈l:=List.mem_of_getElem? he;have hnm:=QT hmem;have he':=Q5 he;have iha:=(ih s hmem).1 (by omega);have ihb:=(ih s hmem).2 (by omega);rw[hd]at hJ hF;rw[fd_step s _ i c fc hc0]at hF;simp only[szL]at hJ;obtain⟨f1,hf1⟩:∃x,(if c=i then some s else fc)=x:=⟨_,rfl⟩;rw[hf1]at hF;have hlb:=X13 s.else_;have hla:=X13 s.then_
   have hss:szS s=1+szL s.then_+szL s.else_:=by
    obtain⟨sd,sc,sv,sn,t,sa,sb,sbs⟩:=s;simp only[szS,St.then_,St.else_]
   have iha:=iha (c+1) f1 (by omega) (by omega);have ihb:=ihb (c+1+szL s.then_) (fdO (Zi s.then_ (i - (c+1))) f1) (by omega) (by omega);obtain⟨f2,hf2⟩:∃x,fdO (Zi s.then_ (i - (c+1))) f1=x:=⟨_,rfl⟩;rw[hf2]at iha ihb hF;obtain⟨f3,hf3⟩:∃x,fdO (Zi s.else_ (i - (c+1+(szL s.then_:Int)))) f2=x:=⟨_,rfl⟩;rw[hf3]at ihb hF
   have hfs:c=i→fdC f1=.ptr s.enc:=by
    intro h;rw[←hf1,if_pos h];rfl
   have hfn:¬c=i→f1=fc:=by
    intro h;rw[←hf1,if_neg h]
   obtain⟨sd,sc,sv,sn,⟨so,stn,sks⟩,sa,sb,sbs⟩:=s;simp only[St.then_,St.else_,St.term]at iha ihb hnm hF hla hlb;simp only[szS]at hJ;clear hss;simp only[St.enc,Tm.enc,List.cons_append,List.nil_append]at he' hfs;generalize szL sa=na at*;generalize szL sb=nb at*;have hwa:IntKind.i64.wrap (c+1)=c+1:=Xa (by omega) (by omega);clear hlt h3 ih hmem hd he hf1 hf2 hf3;refine X0<|X3<|X0<|X2 ?_;refine(XV [0,1,2,3,4,6,8,9] (fun(z:Unit)=>[]) (fun(z:Unit)=>[(1000000,.box [.c (iC c)]),(1000001,.box [.c (iC i)]),(1000002,.box [.c (fdC f1)]),(1000003,.box [.fn 86 [(1000000,0),(1000001,0),(1000002,0),(1000003,0)]])]) (fun(z:Unit)=>True) ?_ ?_)
   ·
    refine X1 ?_;refine(Xc rfl (fun h7=>?_) fun h7=>?_)
    · (try simp only[BN]at h7);have hfs:=hfs (by simpa using h7);clear h7 hfn;refine X2 ?_;exact⟨(),trivial,X4 (fun n=>n) []⟩
    (try simp only[BN]at h7);have hfn:=hfn (by simpa using h7);clear h7 hfs;subst hfn;exact⟨(),trivial,X4 (fun n=>n) []⟩
   rintro⟨⟩ hz;simp only[upS,X6,XB]
   try simp only[X6,KN,Nat.reduceBEq,if_true,if_false,ins,Nat.reduceLT]
   clear hfs hfn;refine X1 ?_;refine X0<|(X8Z [] 6 [] (fun n=>n) (fun n=>n) (by kernel_rfl) (by kernel_rfl) (by rfl) (by kernel_rfl) (by rfl) (by simp[*,evcH,hokB,QD];first|exact⟨rfl,Iff.rfl⟩|exact⟨rfl,trivial⟩|rfl) trivial (by rfl) (by simp;rfl) (WB (by simp) (by simp) (by simp) (by simp) (by simp)) iha (by rfl) ?_);refine(X8Z [] 6 [] (fun n=>n) (fun n=>n) (by kernel_rfl) (by kernel_rfl) (by rfl) (by kernel_rfl) (by rfl) (by simp[*,evcH,hokB,QD];first|exact⟨rfl,Iff.rfl⟩|exact⟨rfl,trivial⟩|rfl) trivial (by rfl) (by simp;rfl) (WB (by simp) (by simp) (by simp) (by simp) (by simp)) ihb (by rfl) ?_);refine X2 ?_;exact⟨(k+1,c+1+na+nb,f3),⟨hk1,by simp only;omega,hF,by simp only;omega⟩,by simp only;omega,X4 (fun n=>n) []⟩
 (try simp only[BN]at h3);have hkl:k=l.length:=by omega
 rw[hkl,List.drop_length]at hJ hF;rw[X3n]at hF;simp only[szL,fdO]at hJ hF;have hJ:c=A:=by omega
 subst hJ hF;refine(Xg ?_);exact⟨.inl rfl,HT_endS (by simp;rfl) (by simp[XK]) (by simp[*])⟩
end Go.Proofs.YtdajceakaakdoaaGreat

namespace Go.Proofs.YtdajceakaakdoaaGreat
open Go Go.Hl
theorem atP_con (f:Fl) (hn:Xl f.body≤1000000) (hb:Z3 f.body=true) (i:Int) (s:St) (hs:Zi f.body i=some s) (d:Nat):Con Tryz.prog 45 false [aF f,li i] (.tup [aS s,li 0]) none d:=by
 have hsl:=X13 f.body
 have h0:0≤i:=by
  rcases Int.lt_or_le i 0 with h|h
  · rw[Zx _ _ h]at hs;cases hs
  exact h
 have h1:i<szL f.body:=by
  rcases Int.lt_or_le i (szL f.body)with h|h
  · exact h
  rw[X0t _ _ h]at hs;cases hs
 obtain⟨s',e1,e2,e3,_⟩:=X3G f.body i h0 h1;rw[hs]at e1;cases e1;have cc:=Xb5 s (by omega) (e3 hb);have ca:=at1_con i f.body hn 0 none (by decide) (by omega);rw[Int.sub_zero,hs]at ca;obtain⟨A,hA⟩:∃x,(0:Int)+(szL f.body:Int)=x:=⟨_,rfl⟩;rw[hA]at ca;obtain⟨vars,hats,body⟩:=f;obtain⟨sd,sc,sv,sn,⟨so,stn,sks⟩,sa,sb,sbs⟩:=s;simp only[atO,fdC,fdO,St.enc,Tm.enc,List.cons_append,List.nil_append]at ca;simp only[aS,St.enc,Tm.enc,List.map_cons,List.map_nil,List.cons_append,List.nil_append]at cc;clear hsl h0 h1 e2 e3 hs hn hb hA;refine X5 Tryz.func45 ?_;simp only[Tryz.f45];simp only[aF,Fl.enc,aS,St.enc,Tm.enc,List.map_cons,List.map_nil,List.cons_append,List.nil_append];refine X1 ?_;refine X1 ?_;refine X1 ?_;refine X1 ?_;refine X1 ?_;refine X0<|(HT_runsS ?_);refine RunsS.cutE 3 [] (by simp[*];rfl) trivial (le_refl _) ?_;refine RunsS.call (fun n=>if n=1000000 then 8 else if n=1000001 then 3 else if n=1000002 then 6 else if n=1000003 then 7 else n) (fun n=>if n=1000000 then 8 else if n=1000001 then 3 else if n=1000002 then 6 else if n=1000003 then 7 else n) (by simp;rfl) (WB (by simp) (by simp) (by simp) (by simp) (by simp)) ca (by rfl) ?_;refine RunsS.doneE [] (by simp;rfl) trivial ?_;refine X0<|X0<|X2 ?_;refine(Xc rfl (fun h7=>?_) fun h7=>?_)
 · exact Bool.noConfusion h7
 (try simp only[BN]at h7);refine Xm [⟨false,.v (.agg [.c (iC sd),.c (iC sc),.c (iC sv),.c (iC sn),.c (iC so),.c (iC stn),.c (.sl 3 (XI sks)),.c (.sl 10 (X8 sa)),.c (.sl 10 (X8 sb)),.c (.sl 1 (Xi sbs))]),none⟩] ?_ ?_
 · first|exact cc _|exact trivial|simpa[*]using cc _
 exact Qm ⟨.inr rfl,_,le_refl _,⟨⟨_,by simp;rfl,by simp[XK]⟩,by simp,fun h=>by cases h⟩⟩
end Go.Proofs.YtdajceakaakdoaaGreat

namespace Go.Proofs.YtdajceakaakdoaaGreat
open Go Go.Hl
theorem X8n:∀(l:List Int) (x:Int) (k:Nat),¬x∈l→X42 l x k=-1
 |[],_,_,_=>rfl
 | y::l,x,k,h=>by
   simp only[List.mem_cons,not_or]at h;simp only[X42,h.1,if_false];exact X8n l x _ h.2
theorem idxF_iff (l:List Int) (x:Int):decide (0≤X42 l x 0)=decide (x∈l):=by
 by_cases h:x∈l
 · simp[h,X7T l x 0 h]
 simp[h,X8n l x 0 h]
theorem has_con (l:List Int) (x:Int) (hl:l.length≤1000000000) (d:Nat):Con Tryz.prog 36 true [lI l,li x] (.v (lb (decide (x∈l)))) none d:=by
 have:=X7x l x hl d
 rwa [idxF_iff]at this
end Go.Proofs.YtdajceakaakdoaaGreat

namespace Go.Proofs.YtdajceakaakdoaaGreat
open Go Go.Hl
theorem eqG2 (a b:List Int) (h:a.length=b.length) (hall:∀k:Nat,k<a.length→a[k]? =b[k]?):a=b:=by
 apply List.ext_getElem?;intro k;by_cases hk:k<a.length
 · exact hall k hk
 rw[List.getElem?_eq_none (by omega),List.getElem?_eq_none (by omega)]
theorem eqSl_con (a b:List Int) (ha:a.length≤1000000000) (hb:b.length≤1000000000) (d:Nat):Con Tryz.prog 19 true [lI a,lI b] (.v (lb (decide (a=b)))) none d:=by
 obtain⟨res,hres⟩:∃r,decide (a=b)=r:=⟨_,rfl⟩;rw[hres];refine X5 Tryz.func19 ?_;simp only[Tryz.f19];refine X1 ?_;refine X0<|X0<|X2 ?_;refine(Xc rfl (fun h2=>?_) fun h2=>?_)
 · try simp only[BN]at h2
   have hz:res=false:=by
    rw[←hres,decide_eq_false_iff_not];intro h;subst h;simp at h2
   subst hz;refine X1 ?_;exact Xe
 (try simp only[BN]at h2);have hle:a.length=b.length:=by omega
 clear h2;refine X0<|X0<|X2 ?_;refine X3<|(Xf [0,1,12] (fun(z:Nat)=>[(13,.v (li z))]) (fun z=>[]) (fun z=>z≤a.length∧∀k:Nat,k<z→a[k]? =b[k]?) (fun z=>a.length - z) (0:Nat) ⟨Nat.zero_le _,fun k hk=>absurd hk (Nat.not_lt_zero k)⟩ ?_ ?_)
 · exact X4 (fun n=>n) []
 rintro k ⟨hk,hall⟩;simp only[upS,X6,XB]
 try simp only[X6,KN,Nat.reduceBEq,if_true,if_false,ins,Nat.reduceLT]
 refine X1 ?_;refine X0<|(X7 rfl (fun h8=>Xb ?_) (fun h8=>?_))
 · (try simp only[BN]at h8);have hlt:k<a.length:=by omega
   obtain⟨x,he,_⟩:=Xt hlt;obtain⟨y,hey,_⟩:=Xt (show k<b.length by omega);have hw1:=XE hlt (by omega);have hk1:k+1≤a.length:=hlt;clear hlt h8;refine X0<|X3<|X0<|X2 ?_;refine X0<|(Qe (by kernel_rfl) (by kernel_rfl) (by rfl) (by simp[*];rfl) ?_);refine(Xc rfl (fun h11=>?_) fun h11=>?_)
   · try simp only[BN]at h11
     have hz:res=false:=by
      rw[←hres,decide_eq_false_iff_not];intro h;subst h;rw[he]at hey;cases hey;simp at h11
     subst hz;refine X1 ?_;exact Xe
   (try simp only[BN]at h11);refine X2 ?_
   exact⟨k+1,⟨hk1,fun j hj=>by
    rcases Nat.lt_or_eq_of_le (Nat.le_of_lt_succ hj)with h|h
    · exact hall j h
    rw[h,he,hey];have:x=y:=by simpa using h11
    rw[this]⟩,by omega,X4 (fun n=>n) []⟩
 try simp only[BN]at h8
 have hz:res=true:=by
  rw[←hres,decide_eq_true_eq];exact eqG2 a b hle fun j hj=>hall j (by omega)
 subst hz;refine(Xg ?_);refine X1 ?_;exact Xe
end Go.Proofs.YtdajceakaakdoaaGreat

namespace Go.Proofs.YtdajceakaakdoaaGreat
open Go Go.Hl
abbrev l8 (n:Nat):TV:=.one (.c (.lit (.int .u8 n)))
def X4M (hats:List Ht) (x:Int) (l:List Int):Bool:=l.any fun h=>match hats[h.toNat]? with
 |some g=>decide (x∈tmV g.term)
 |none=>false
theorem XbQ (hats:List Ht) (x:Int) (l:List Int) (y:Int):X4M hats x (l++[y])=(X4M hats x l||match hats[y.toNat]? with
 |some g=>decide (x∈tmV g.term)
 |none=>false):=by
 unfold X4M;rw[List.any_append];simp
set_option maxHeartbeats 32000000 in
theorem X9f (vars:List Vr) (hats:List Ht) (body:List St) (nd k n V M:Nat) (I H:List Int) (Z:List Bool) (ED:List (List CD))
  (ck:∀d,Con Tryz.prog 12 false [] (.v (lb true)) none d)
  (cf:∀d,Con Tryz.prog 13 true [.agg [.c (.sl 5 (Xu vars)),.c (.sl 6 (Xv hats)),.c (.sl 10 (X8 body))],li 12,li 120] (.v (lb true)) none d)
  (cc:∀d,Con Tryz.prog 15 true [.agg [.c (.sl 5 (Xu vars)),.c (.sl 6 (Xv hats)),.c (.sl 10 (X8 body))]] (.v (li 0)) none d)
  (csz:∀d,Con Tryz.prog 16 true [lS body] (.v (li n)) none d)
  (cs:∀d,Con Tryz.prog 14 false [.agg [.c (.sl 5 (Xu vars)),.c (.sl 6 (Xv hats)),.c (.sl 10 (X8 body))],li k] (.tup [lI I,lI H,li 0]) none d)
  (cb:∀d,Con Tryz.prog 23 false [.agg [.c (.sl 5 (Xu vars)),.c (.sl 6 (Xv hats)),.c (.sl 10 (X8 body))]] (.tup [.agg [.c (iC n),.c (iC V),.c (.sl 3 ED)],li 0]) none d)
  (cB:∀d,Con Tryz.prog 28 false [.agg [.c (iC n),.c (iC V),.c (.sl 3 ED)],lI [(k:Int)]] (.tup [lBl Z,li 0]) none d)
  (hmen:∀h∈hats,∀(x:Int) d,Con Tryz.prog 37 true [aT h.term,li x] (.v (lb (decide (x∈tmV h.term)))) none d)
  (hnd:nd<256) (hV:vars.length=V) (hv1:V≤12) (hh1:hats.length≤12) (hM:n+V+1=M) (hN0:M≤1000) (hkM:k<M) (m1:(nd:Int).tmod (M:Int)=(k:Int)) (hZl:Z.length=M) (hIl:I.length≤V) (hHn:H.length≤n) (hHr:∀y∈H,0≤y∧y<hats.length)
  (hin:∀x:Nat,x<V→∀v,vars[x]? =some v→v.kind≠0→∀b,Z[n+x]? =some b→b=(decide ((x:Int)∈I)||X4M hats x H)) (d:Nat):
  Con Tryz.prog 10 true [.agg [.c (.sl 5 (Xu vars)),.c (.sl 6 (Xv hats)),.c (.sl 10 (X8 body))],l8 nd] (.v (lb true)) none d:=by
 have hw1:IntKind.i64.wrap ((n:Int)+V)=n+V:=Xa (by omega) (by omega);have hw2:IntKind.i64.wrap ((n:Int)+V+1)=M:=by rw[show(n:Int)+V+1=(M:Int) by omega];exact Xa (by omega) (by omega)
 have hwk:IntKind.i64.wrap (k:Int)=k:=Xa (by omega) (by omega);have hwn:IntKind.i64.wrap (nd:Int)=nd:=Xa (by omega) (by omega);have hM0:¬M=0:=by omega
 have hnk:Xi [(k:Int)]=[[iC (k:Int)]]:=rfl;simp only[lI,hnk]at cB;have hik:Tryz.prog.intKind 3=.i64:=by kernel_rfl
 refine X5 Tryz.func10 ?_;simp only[Tryz.f10];refine X1 ?_;refine X0<|X0<|(Xp [⟨false,.v (lb true),none⟩] ?_ ?_)
 · first|exact ck _|exact trivial|simpa[*]using ck _
 refine(Xc rfl (fun h2=>?_) fun h2=>?_)
 · exact absurd h2 (by simp)
 (try simp only[BN]at h2);refine X0<|X0<|(Xp [⟨true,.v (lb true),none⟩,⟨true,.v (li 0),none⟩] ?_ ?_)
 · first|exact⟨cf _,cc _⟩|exact trivial|(repeat' first|exact trivial|exact cf _|exact cc _|apply And.intro)
 refine(Xc rfl (fun h6=>?_) fun h6=>?_)
 · exact absurd h6 (by simp)
 (try simp only[BN]at h6);refine Xm [⟨true,.v (li n),none⟩] ?_ ?_
 · first|exact csz _|exact trivial|simpa[*]using csz _
 refine X0<|(HT_runsC ?_);refine RunsC.cutE 1 [] (by simp[*];rfl) trivial (le_refl _) ?_;refine RunsC.conv 5 3 (.tmp 32) .u8 nd rfl rfl (by simp) (by simp) (by kernel_rfl) (by kernel_rfl) ?_;rw[hik,hwn];refine RunsC.doneE [] (by simp[*];rfl) trivial ?_;refine Xm [⟨false,.tup [lI I,lI H,li 0],none⟩] ?_ ?_
 · first|exact cs _|exact trivial|simpa[*]using cs _
 refine Xm [⟨false,.tup [.agg [.c (iC n),.c (iC V),.c (.sl 3 ED)],li 0],none⟩] ?_ ?_
 · first|exact cb _|exact trivial|simpa[*]using cb _
 refine X0<|(X6X 3 [] [⟨false,.tup [lBl Z,li 0],none⟩] (by simp[*];rfl) trivial (QQ 56 rfl) (by simp[*];first|exact⟨rfl,Iff.rfl⟩|exact⟨rfl,trivial⟩|rfl) ?_ ?_)
 · first|exact cB _|simpa using cB _
 refine X0<|X0<|X2 ?_;refine(Xc rfl (fun h15=>?_) fun h15=>?_)
 · exact Bool.noConfusion h15
 (try simp only[BN]at h15);refine X0<|X0<|X2 ?_;refine X3<|(Xf [2,5,7,8,12,82,83] (fun(y:Nat)=>[(84,.v (li y))]) (fun y=>[(2,.box [.c (.sl 5 (Xu vars)),.c (.sl 6 (Xv hats)),.c (.sl 10 (X8 body))])]) (fun y=>y≤V) (fun y=>V - y) (0:Nat) (Nat.zero_le _) ?_ ?_)
 · exact X4 (fun n=>n) []
 rintro y hy;simp only[upS,X6,XB]
 try simp only[X6,KN,Nat.reduceBEq,if_true,if_false,ins,Nat.reduceLT]
 refine X1 ?_;refine X0<|(X7 rfl (fun h21=>Xb ?_) (fun h21=>?_))
 · (try simp only[BN]at h21);have hlt:y<V:=by omega
   have hw3:=XE hlt (by omega);obtain⟨v,hv,hvd⟩:=Xt (show y<vars.length by omega);obtain⟨b,hb,hbd⟩:=Xt (show n+y<Z.length by omega);have hbe:=X20 hb;have hib:=fun h=>hin y hlt v hv h b hb;have hw4:IntKind.i64.wrap ((n:Int)+y)=((n+y:Nat):Int):=by rw[Xa (by omega) (by omega)];omega
   obtain⟨m,hm⟩:∃m,n+y=m:=⟨_,rfl⟩;rw[hm]at hw4 hbe;have hlt2:y+1≤V:=hlt;have chas:=has_con I y (by omega);obtain⟨c0,hc0⟩:∃z,decide ((y:Int)∈I)=z:=⟨_,rfl⟩;rw[hc0]at chas hib;obtain⟨vn,vk,vl,vh,vi⟩:=v;simp only at hib;clear h21 hlt hb hbd hvd hm hc0 hin;refine X0<|X3<|X0<|X2 ?_;refine Xm [⟨true,.v (lb c0),none⟩] ?_ ?_
   · first|exact chas _|exact trivial|simpa[*]using chas _
   refine X0<|X0<|X2 ?_;refine X3<|(Xf [2,5,7,8,12,14,15,82,83,84,92,93] (fun(z:Nat×Bool)=>[(16,.v (lb z.2)),(94,.v (li z.1))]) (fun z=>[(2,.box [.c (.sl 5 (Xu vars)),.c (.sl 6 (Xv hats)),.c (.sl 10 (X8 body))]),(15,.box [.c (sC vn),.c (iC vk),.c (iC vl),.c (iC vh),.c (iC vi)])]) (fun z=>z.1≤H.length∧(c0||X4M hats y (H.take z.1))=z.2) (fun z=>H.length - z.1) (0,c0) ⟨Nat.zero_le _,by simp[X4M]⟩ ?_ ?_)
   · exact X4 (fun n=>n) []
   rintro⟨z,w⟩ ⟨hz,hj⟩;simp only[upS,X6,XB]
   try simp only[X6,KN,Nat.reduceBEq,if_true,if_false,ins,Nat.reduceLT]
   simp only at hz hj;refine X1 ?_;refine X0<|(X7 rfl (fun h27=>Xb ?_) (fun h27=>?_))
   · (try simp only[BN]at h27);have hlt:z<H.length:=by omega
     have hw5:=XE hlt (by omega);obtain⟨h,hh,hhd⟩:=Xt hlt;obtain⟨h0,h1⟩:=hHr h (List.mem_of_getElem? hh);obtain⟨q,rfl⟩:∃q:Nat,h=q:=⟨h.toNat,by omega⟩;obtain⟨g,hg,hgd⟩:=Xt (show q<hats.length by omega);have cm:=hmen g (List.mem_of_getElem? hg) y
     have htk:X4M hats y (H.take (z+1))=(X4M hats y (H.take z)||decide ((y:Int)∈tmV g.term)):=by
      rw[List.take_add_one,hh];simp only[Option.toList_some];rw[XbQ];simp[hg]
     obtain⟨u,hu⟩:∃u,decide ((y:Int)∈tmV g.term)=u:=⟨_,rfl⟩;rw[hu]at cm htk;have hj2:(c0||X4M hats y (H.take (z+1)))=(w||u):=by rw[htk,←hj,Bool.or_assoc]
     have hlt3:z+1≤H.length:=hlt;obtain⟨gn,gl,gh,⟨go,gm,gk⟩⟩:=g;simp only[aT,Tm.enc,List.map_cons,List.map_nil]at cm;have hql:¬(hats.length:Int)≤q:=by omega
     clear h27 hlt hhd hgd hu htk h1 hj;refine X0<|X3<|X0<|X2 ?_;refine X0<|X0<|X2 ?_;refine(Xc rfl (fun h30=>?_) fun h30=>?_)
     · exfalso;simp at h30<;>omega
     (try simp only[BN]at h30);rcases w with _|_
     · refine(Xp [⟨true,.v (lb u),none⟩] ?_ ?_)
       · first|exact cm _|exact trivial|simpa[*]using cm _
       refine X2 ?_;exact⟨(z+1,u),⟨hlt3,by simpa using hj2⟩,by simp only;omega,X4 (fun n=>n) []⟩
     refine(X0F [none] (by simp[*];first|exact⟨rfl,Iff.rfl⟩|exact⟨rfl,trivial⟩|rfl) ?_ ?_)
     · first|exact trivial|exact trivial|simpa using trivial
     refine X2 ?_;exact⟨(z+1,true),⟨hlt3,by simpa using hj2⟩,by simp only;omega,X4 (fun n=>n) []⟩
   (try simp only[BN]at h27);obtain rfl:z=H.length:=by omega
   rw[List.take_length]at hj;rw[hj]at hib;clear hj h27;refine(Xg ?_);refine X1 ?_;refine(Xc rfl (fun h37=>?_) fun h37=>?_)
   · exfalso;have h38:=hib (by have h39:=h37;simp at h39;simpa using h39.1);subst h38;simp at h37
   (try simp only[BN]at h37);refine X2 ?_;exact⟨y+1,hlt2,by omega,X4 (fun n=>n) []⟩
 (try simp only[BN]at h21);refine(Xg ?_);refine X1 ?_;exact Xe
end Go.Proofs.YtdajceakaakdoaaGreat
