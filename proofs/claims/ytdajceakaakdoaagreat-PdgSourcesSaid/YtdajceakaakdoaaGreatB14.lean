/- Contracts of functions and plain facts about what they compute. Conditions: as each theorem states. -/
import Derived.Test.YtdajceakaakdoaaGreatB12
import Derived.Test.YtdajceakaakdoaaGreatH7
import Derived.Shelf.SlSortCmp.WholeK
import Derived.Shelf.SlicesG.Cmp
import Derived.KernelRfl
import Derived.Deep.LoopGhost
import Derived.Deep.DeepCutAuto
import Derived.Deep.DeepFit
import Derived.Deep.RegionLaw
import Derived.Lib.Small
import Derived.Lib.Walk
import Derived.Sort.Grow
import Derived.Lib.SliceRun
import Derived.Lib.SmallJoins
import Derived.WalkKit
import Derived.OwnWalk
import Derived.Test.YtdajceakaakdoaaGreatB1
import Derived.Test.YtdajceakaakdoaaGreatB11
set_option linter.unusedSimpArgs false
set_option linter.unusedVariables false
set_option linter.unnecessarySimpa false
set_option maxRecDepth 100000
set_option maxHeartbeats 2000000
namespace Go.Proofs.YtdajceakaakdoaaGreat
open Go Go.Hl Go.Shelf Go.Sort
open Tryz(prog)
def X7P:Ren:=⟨fun f=>if f=6 then 58 else if f=14 then 108 else if f=15 then 89 else if f=20 then 168 else if f=21 then 169 else if f=22 then 170 else if f=23 then 171 else if f=24 then 172 else if f=25 then 173 else if f=26 then 174 else if f=27 then 175 else if f=28 then 159 else if f=29 then 160 else if f=46 then 215 else if f=47 then 208 else if f=48 then 209 else if f=49 then 216 else if f=50 then 217 else if f=57 then 246 else f,fun t=>if t=0 then 0 else if t=3 then 3 else if t=4 then 4 else if t=5 then 5 else if t=9 then 9 else if t=22 then 37 else if t=25 then 126 else if t=39 then 162 else if t=45 then 216 else if t=46 then 217 else if t=50 then 142 else if t=53 then 223 else if t=55 then 225 else if t=66 then 273 else if t=70 then 277 else if t=76 then 304 else if t=77 then 227 else if t=24 then 51 else t,fun g=>g⟩
theorem XaA:SlLaysF0.n6 prog X7P where
 mixed:=by kernel_rfl
 f6:=⟨Tryz.f58.name,by kernel_rfl,by kernel_rfl⟩
 f14:=⟨Tryz.f108.name,by kernel_rfl,by kernel_rfl⟩
 f15:=by kernel_rfl
 f20:=⟨Tryz.f168.name,by kernel_rfl,by kernel_rfl⟩
 f21:=⟨Tryz.f169.name,by kernel_rfl,by kernel_rfl⟩
 f22:=⟨Tryz.f170.name,by kernel_rfl,by kernel_rfl⟩
 f23:=⟨Tryz.f171.name,by kernel_rfl,by kernel_rfl⟩
 f24:=⟨Tryz.f172.name,by kernel_rfl,by kernel_rfl⟩
 f25:=⟨Tryz.f173.name,by kernel_rfl,by kernel_rfl⟩
 f26:=⟨Tryz.f174.name,by kernel_rfl,by kernel_rfl⟩
 f27:=⟨Tryz.f175.name,by kernel_rfl,by kernel_rfl⟩
 f28:=by kernel_rfl
 f29:=by kernel_rfl
 f46:=⟨Tryz.f215.name,by kernel_rfl,by kernel_rfl⟩
 f47:=by kernel_rfl
 f48:=by kernel_rfl
 f49:=⟨Tryz.f216.name,by kernel_rfl,by kernel_rfl⟩
 f50:=⟨Tryz.f217.name,by kernel_rfl,by kernel_rfl⟩
 f57:=⟨Tryz.f246.name,by kernel_rfl,by kernel_rfl⟩
 t0:=by kernel_rfl
 a0:=fun w=>rfl
 z0:=fun w=>rfl
 v0:=fun w=>rfl
 t3:=by kernel_rfl
 a3:=fun w=>rfl
 z3:=fun w=>rfl
 v3:=fun w=>rfl
 t4:=by kernel_rfl
 a4:=fun w=>rfl
 z4:=fun w=>rfl
 v4:=fun w=>rfl
 t5:=by kernel_rfl
 a5:=fun w=>rfl
 z5:=fun w=>rfl
 v5:=fun w=>rfl
 t9:=by kernel_rfl
 a9:=fun w=>rfl
 z9:=fun w=>rfl
 v9:=fun w=>rfl
 t22:=by kernel_rfl
 a22:=fun w=>rfl
 z22:=fun w=>rfl
 v22:=fun w=>rfl
 t25:=by kernel_rfl
 a25:=fun w=>rfl
 z25:=fun w=>rfl
 v25:=fun w=>rfl
 t39:=by kernel_rfl
 a39:=fun w=>rfl
 z39:=fun w=>rfl
 v39:=fun w=>rfl
 t45:=by kernel_rfl
 a45:=fun w=>rfl
 z45:=fun w=>rfl
 v45:=fun w=>rfl
 t46:=by kernel_rfl
 a46:=fun w=>rfl
 z46:=fun w=>rfl
 v46:=fun w=>rfl
 t50:=by kernel_rfl
 a50:=fun w=>rfl
 z50:=fun w=>rfl
 v50:=fun w=>rfl
 t53:=by kernel_rfl
 a53:=fun w=>rfl
 z53:=fun w=>rfl
 v53:=fun w=>rfl
 t55:=by kernel_rfl
 a55:=fun w=>rfl
 z55:=fun w=>rfl
 v55:=fun w=>rfl
 t66:=by kernel_rfl
 a66:=fun w=>rfl
 z66:=fun w=>rfl
 v66:=fun w=>rfl
 t70:=by kernel_rfl
 a70:=fun w=>rfl
 z70:=fun w=>rfl
 v70:=fun w=>rfl
 t76:=by kernel_rfl
 a76:=fun w=>rfl
 z76:=fun w=>rfl
 v76:=fun w=>rfl
 t77:=by kernel_rfl
 a77:=fun w=>rfl
 z77:=fun w=>rfl
 v77:=fun w=>rfl
end Go.Proofs.YtdajceakaakdoaaGreat
namespace Go.Proofs.YtdajceakaakdoaaGreat
open Go Go.Hl Go.Sort Go.Lib Go.Joins Go.Shelf
open Tryz(prog)
def cmpIR:Ren:=⟨fun f=>if f=5 then 110 else if f=7 then 176 else f,fun t=>if t=3 then 3 else if t=4 then 4 else if t=22 then 3 else t,fun g=>g⟩
def cmpKR:Ren:=⟨fun f=>if f=5 then 111 else if f=7 then 177 else f,fun t=>if t=3 then 3 else if t=4 then 4 else if t=22 then 49 else t,fun g=>g⟩
theorem cmpIL:SlLaysC2.n5 prog cmpIR where
 mixed:=by kernel_rfl
 f5:=⟨Tryz.f110.name,by kernel_rfl,by kernel_rfl⟩
 f7:=⟨Tryz.f176.name,by kernel_rfl,by kernel_rfl⟩
 t3:=by kernel_rfl
 a3:=fun w=>rfl
 z3:=fun w=>rfl
 v3:=fun w=>rfl
 t4:=by kernel_rfl
 a4:=fun w=>rfl
 z4:=fun w=>rfl
 v4:=fun w=>rfl
 t22:=by kernel_rfl
 a22:=fun w=>rfl
 z22:=fun w=>rfl
 v22:=fun w=>rfl
theorem cmpKL:SlLaysC2.n5 prog cmpKR where
 mixed:=by kernel_rfl
 f5:=⟨Tryz.f111.name,by kernel_rfl,by kernel_rfl⟩
 f7:=⟨Tryz.f177.name,by kernel_rfl,by kernel_rfl⟩
 t3:=by kernel_rfl
 a3:=fun w=>rfl
 z3:=fun w=>rfl
 v3:=fun w=>rfl
 t4:=by kernel_rfl
 a4:=fun w=>rfl
 z4:=fun w=>rfl
 v4:=fun w=>rfl
 t22:=by kernel_rfl
 a22:=fun w=>rfl
 z22:=fun w=>rfl
 v22:=fun w=>rfl
def orF (a b c:Int):Int:=if a≠0 then a else if b≠0 then b else c
theorem or_calls (b o:Nat) (a1 a2 a3:Int) (w:World) (h1:w.cell? ⟨b,o,none⟩=some (.int .i64 a1)) (h2:w.cell? ⟨b,o+1,none⟩=some (.int .i64 a2)) (h3:w.cell? ⟨b,o+2,none⟩=some (.int .i64 a3)):
  Calls prog 109 #[.slice (some ⟨b,o,none⟩) 3 3] w fun e w'=>e=.returned (.int .i64 (orF a1 a2 a3))/\w'=w:=by
 go_enter Tryz.func109,Tryz.ntmps109
 go_wp2
 go_loopg [8] (3 - 0) (fun k s8 wx=>∃m:Nat,m<=3/\k=3 - m/\s8=.int .i64 m/\wx=w/\(1<=m->a1=0)/\(2<=m->a2=0)/\(3<=m->a3=0))
 case atStart=>exact⟨0,by omega,rfl,rfl,rfl,by omega,by omega,by omega⟩
 case round=>
  obtain⟨m,hm,hg,rfl,hw,z1,z2,z3⟩:=hrel;subst hw;have HG:Aside (gk=3 - m):=hg;clear hg;have fin:∀(m:Nat) (a:Int),m<3->wr.cell? ⟨b,o+m,none⟩=some (.int .i64 a)->True:=fun _ _ _ _=>trivial;clear fin
  match m,hm with
  | 0,_=>
    clear z1 z2 z3;by_cases ha:a1=0
    .go_wp2
     go_roundg (3 - 1)
     case measure=>have:=HG.out;omega
     case rel=>exact⟨1,by omega,rfl,rfl,rfl,fun _=>ha,by omega,by omega⟩
    go_wp2
    go_ret
    exact⟨by simp[orF,ha],rfl⟩
  | 1,_=>
    have ha1:=z1 (by omega);clear z1 z2 z3;by_cases ha:a2=0
    .go_wp2
     go_roundg (3 - 2)
     case measure=>have:=HG.out;omega
     case rel=>exact⟨2,by omega,rfl,rfl,rfl,fun _=>ha1,fun _=>ha,by omega⟩
    go_wp2
    go_ret
    exact⟨by simp[orF,ha,ha1],rfl⟩
  | 2,_=>
    have ha1:=z1 (by omega);have ha2:=z2 (by omega);clear z1 z2 z3;by_cases ha:a3=0
    .go_wp2
     go_roundg (3 - 3)
     case measure=>have:=HG.out;omega
     case rel=>exact⟨3,by omega,rfl,rfl,rfl,fun _=>ha1,fun _=>ha2,fun _=>ha⟩
    go_wp2
    go_ret
    exact⟨by simp[orF,ha,ha1,ha2],rfl⟩
  | 3,_=>
    have ha1:=z1 (by omega);have ha2:=z2 (by omega);have ha3:=z3 (by omega);clear z1 z2 z3
    go_wp2
    go_ret
    exact⟨by simp[orF,ha1,ha2,ha3],rfl⟩
def dpE (x:Dp):List Value:=[.int .i64 x.f,.int .i64 x.t,.int .i64 x.k]
def X4e (x y:Dp):Int:=orF (Lib.compareInt x.f y.f) (Lib.compareInt x.t y.t) (Lib.compareInt x.k y.k)
structure TRc (n:Nat) (base vals:List (Nat×Nat×Value)) (wd:List Nat->World) (R:List Nat) (a:Act) (w:World):Prop where
 sz:a.tmps.size=n
 df:a.defers=[]
 bs:∀m∈base,a.eval (.tmp m.2.1)=m.2.2
 vs:∀m∈vals,m.1∉R->a.eval (.tmp m.2.1)=m.2.2
 wd:w=wd R
theorem TRc.put {n:Nat} {base vals:List (Nat×Nat×Value)} {wd:List Nat->World} {R:List Nat} {a:Act} {w w':World} (h:TRc n base vals wd R a w) (i d:Nat) (v:Value) (hd:d<n) (hb:∀m∈base,m.2.1≠d) (hu:∀m∈vals,(m.1≠i->m.2.1≠d)/\(m.1=i->m.2.1=d/\m.2.2=v)) (hw:w'=wd (Qv R i)):TRc n base vals wd (Qv R i) (a.put (some d) v) w':=by
 have hs:d<a.tmps.size:=by rw[h.sz];exact hd
 refine⟨by simp[Act.put,h.sz],h.df,fun m hm=>?_,fun m hm hr=>?_,hw⟩
 .rw[X0c (by simp[neT,hb m hm])];exact h.bs m hm
 by_cases e:m.1=i
 .obtain⟨e1,e2⟩:=(hu m hm).2 e;rw[e1,e2,X0I hs]
 rw[X0c (by simp[neT,(hu m hm).1 e])];refine h.vs m hm fun hR=>hr ?_;rw[Qh];exact⟨hR,e⟩
theorem X2c {P:Program} {ops:Array Oper} {i:Nat} {o:Oper} {a:Act} {w:World} {Q:Exit->Act->World->Prop} {Kc:Act->World->Prop} {f:FuncId} {args:Array Value} {v:Value} (hi:ops[i]? =some o) (hg:o.guard=none) (hrun:(execOp a.eval o).run P w=.ok (.enter f args) w)
  (hc:Calls P f args w fun e w'=>e=.returned v/\w'=w) (hk:Kc (a.put o.dst v) w):wpOp P ops Q i Kc a w:=by
 unfold wpOp;rw[hi];simp only;have hwant:Region.wanted o (yielded ops a.tmps)=true:=by unfold Region.wanted;rw[hg]
 rw[hwant];simp only[Nf];refine .inl ?_;unfold Oper.wp;rw[hrun,Oper.upon_enter];refine hc.mono ?_;rintro e w' ⟨rfl,rfl⟩;exact hk
theorem X5G {P:Program} {t:TypeId} {d:TypeDesc} (hd:P.underlying t=some d) (hg:X6U d=false) {b o:Nat} {v:Value} {w:World} (h:w.cell? ⟨b,o,none⟩=some v):(Instr.loadAt t (.pointer (some ⟨b,o,none⟩))).run P w=.ok v w:=by
 simp[Instr.loadAt,Instr.sureAddr,loadVar,Wr hd,hg,h]
theorem depU:∃fs fd0 fd1 fd2 i0 i1 i2,prog.underlying 51=some (.struct fs)/\fs[0]? =some fd0/\fs[1]? =some fd1/\fs[2]? =some fd2/\prog.info? fd0.type=some i0/\prog.info? fd1.type=some i1/\prog.info? fd2.type=some i2/\i0.size=1/\i1.size=1/\i2.size=1/\fd0.offset=0/\fd1.offset=1/\fd2.offset=2:=
 ⟨_,_,_,_,_,_,_,rfl,rfl,rfl,rfl,rfl,rfl,rfl,rfl,rfl,rfl,rfl,rfl,rfl⟩
theorem fA0 (b:Nat) (w:World):(Instr.fieldAt 51 (.pointer (some ⟨b,0,none⟩)) 0).run prog w=.ok (.pointer (some ⟨b,0,none⟩)) w:=by
 obtain⟨fs,fd0,fd1,fd2,i0,i1,i2,hu,h0,h1,h2,j0,j1,j2,s0,s1,s2,o0,o1,o2⟩:=depU;have:=W7 (w:=w) hu h0 j0 (by omega) b 0
 rwa [o0]at this
theorem fA1 (b:Nat) (w:World):(Instr.fieldAt 51 (.pointer (some ⟨b,0,none⟩)) 1).run prog w=.ok (.pointer (some ⟨b,1,none⟩)) w:=by
 obtain⟨fs,fd0,fd1,fd2,i0,i1,i2,hu,h0,h1,h2,j0,j1,j2,s0,s1,s2,o0,o1,o2⟩:=depU;have:=W7 (w:=w) hu h1 j1 (by omega) b 0
 rwa [o1]at this
theorem fA2 (b:Nat) (w:World):(Instr.fieldAt 51 (.pointer (some ⟨b,0,none⟩)) 2).run prog w=.ok (.pointer (some ⟨b,2,none⟩)) w:=by
 obtain⟨fs,fd0,fd1,fd2,i0,i1,i2,hu,h0,h1,h2,j0,j1,j2,s0,s1,s2,o0,o1,o2⟩:=depU;have:=W7 (w:=w) hu h2 j2 (by omega) b 0
 rwa [o2]at this
theorem ldI {b o:Nat} {v:Value} {w:World} (h:w.cell? ⟨b,o,none⟩=some v):(Instr.loadAt 3 (.pointer (some ⟨b,o,none⟩))).run prog w=.ok v w:=
 X5G (P:=prog) (t:=3) rfl rfl h
theorem ldK {b o:Nat} {v:Value} {w:World} (h:w.cell? ⟨b,o,none⟩=some v):(Instr.loadAt 49 (.pointer (some ⟨b,o,none⟩))).run prog w=.ok v w:=
 X5G (P:=prog) (t:=49) rfl rfl h
theorem cellsI (a:Int):(Value.int IntKind.i64 a).cells= #[Value.int IntKind.i64 a]:=rfl
theorem bS3 (a b c:Int) (w:World):(Instr.buildSlice 29 3 #[(0,.int .i64 a),(1,.int .i64 b),(2,.int .i64 c)]).run prog w=.ok (.slice (some ⟨w.heap.size,0,none⟩) 3 3) (w.alloc (Obj.cells #[.int .i64 a,.int .i64 b,.int .i64 c] 3)):=by
 have hu:prog.underlying 29=some (.slice 3):=rfl;obtain⟨i,z,hi,hz,h1,hz3⟩:∃i z,prog.info? 3=some i/\i.zero=some z/\i.size=1/\z=.int .i64 0:=⟨_,_,rfl,rfl,rfl,rfl⟩;have hr1:(Array.range 3)= #[0,1,2]:=by decide
 subst hz3;simp[Instr.buildSlice,run_underlying hu,sizeOf,zeroValue,typeInfo,hi,hz,h1,newRow];simp[Instr.fill,hr1,cellsI]
 done
theorem X6v (x y:Dp) (w:World) (hcI:∀(a b:Int) (w:World),Calls prog 110 #[.int .i64 a,.int .i64 b] w fun e w'=>e=.returned (.int .i64 (Lib.compareInt a b))/\w'=w)
  (hcK:∀(a b:Int) (w:World),Calls prog 111 #[.int .i64 a,.int .i64 b] w fun e w'=>e=.returned (.int .i64 (Lib.compareInt a b))/\w'=w):
  Calls prog 61 #[.agg (dpE x).toArray,.agg (dpE y).toArray] w fun e w'=>e=.returned (.int .i64 (X4e x y))/\∃q os',w'=grow (w.drewN q) os':=by
 obtain⟨xf,xt,xk⟩:=x;obtain⟨yf,yt,yk⟩:=y;simp only[dpE]
 go_enter Tryz.func61,Tryz.ntmps61
 go_wp2_with fail
 rename_i Q9 K9 hK9;have eI:∀args w,(callFunc 110 args).run prog w=.ok (.enter 110 args) w:=enters_of Tryz.func110 (by kernel_rfl) rfl;have eK:∀args w,(callFunc 111 args).run prog w=.ok (.enter 111 args) w:=enters_of Tryz.func111 (by kernel_rfl) rfl;have eO:∀args w,(callFunc 109 args).run prog w=.ok (.enter 109 args) w:=enters_of Tryz.func109 (by kernel_rfl) rfl;obtain⟨W1,hW1⟩:∃W1,(((w.alloc (Obj.cells #[Value.int IntKind.i64 xf,Value.int IntKind.i64 xt,Value.int IntKind.i64 xk] 51)).alloc (Obj.cells #[Value.int IntKind.i64 yf,Value.int IntKind.i64 yt,Value.int IntKind.i64 yk] 51)).drewN 1)=W1:=⟨_,rfl⟩;obtain⟨cf,hcf⟩:∃c,Lib.compareInt xf yf=c:=⟨_,rfl⟩;obtain⟨ct,hct⟩:∃c,Lib.compareInt xt yt=c:=⟨_,rfl⟩;obtain⟨ck,hck⟩:∃c,Lib.compareInt xk yk=c:=⟨_,rfl⟩;have c1:=fun w=>hcI xf yf w;have c2:=fun w=>hcI xt yt w;have c3:=fun w=>hcK xk yk w;rw[hcf]at c1;rw[hct]at c2;rw[hck]at c3;have hres:X4e ⟨xf,xt,xk⟩ ⟨yf,yt,yk⟩=orF cf ct ck:=by simp only[X4e,hcf,hct,hck]
 refine wp_ind (TR:=TRc 22 [(0,2,.pointer (some ⟨w.heap.size,0,none⟩)),(0,3,.pointer (some ⟨w.heap.size+1,0,none⟩))]
  [(0,5,.pointer (some ⟨w.heap.size,0,none⟩)),(1,6,.int .i64 xf),(2,7,.pointer (some ⟨w.heap.size+1,0,none⟩)),(3,8,.int .i64 yf),(4,9,.int .i64 cf),(5,10,.pointer (some ⟨w.heap.size,1,none⟩)),(6,11,.int .i64 xt),(7,12,.pointer (some ⟨w.heap.size+1,1,none⟩)),(8,13,.int .i64 yt),(9,14,.int .i64 ct),
   (10,15,.pointer (some ⟨w.heap.size,2,none⟩)),(11,16,.int .i64 xk),(12,17,.pointer (some ⟨w.heap.size+1,2,none⟩)),(13,18,.int .i64 yk),(14,19,.int .i64 ck),(15,20,.slice (some ⟨W1.heap.size,0,none⟩) 3 3),(16,21,.int .i64 (orF cf ct ck)),(17,4,.int .i64 (orF cf ct ck))]
  (fun R=>if 15∈R then W1 else W1.alloc (Obj.cells #[.int .i64 cf,.int .i64 ct,.int .i64 ck] 3))) rfl (by kernel_rfl) ?_ ?_ ?_
 .refine⟨rfl,rfl,?_,?_,?_⟩
  .intro m hm;simp at hm;rcases hm with rfl|rfl<;>rfl
  .intro m hm hr;simp at hm;rcases hm with rfl|rfl|rfl|rfl|rfl|rfl|rfl|rfl|rfl|rfl|rfl|rfl|rfl|rfl|rfl|rfl|rfl|rfl<;>exact absurd (by simp) hr
  rw[Na (by simp),<-hW1];rfl
 .have hcell:∀(R:List Nat) (w1:World),w1=(if 15∈R then W1 else W1.alloc (Obj.cells #[.int .i64 cf,.int .i64 ct,.int .i64 ck] 3))->
   (∀(j:Nat) (v:Value), #[Value.int IntKind.i64 xf,Value.int IntKind.i64 xt,Value.int IntKind.i64 xk][j]? =some v->w1.cell? ⟨w.heap.size,j,none⟩=some v)/\
   (∀(j:Nat) (v:Value), #[Value.int IntKind.i64 yf,Value.int IntKind.i64 yt,Value.int IntKind.i64 yk][j]? =some v->w1.cell? ⟨w.heap.size+1,j,none⟩=some v):=by
   intro R w1 hw1
   have hx:∀(j:Nat) (v:Value), #[Value.int IntKind.i64 xf,Value.int IntKind.i64 xt,Value.int IntKind.i64 xk][j]? =some v->W1.cell? ⟨w.heap.size,j,none⟩=some v:=by
    intro j v hv;rw[<-hW1,World.cell?_drewN];exact cell?_alloc_some _ (by rw[cell_alloc_mark_at _ _ _ _ _ _ rfl];exact hv)
   have hy:∀(j:Nat) (v:Value), #[Value.int IntKind.i64 yf,Value.int IntKind.i64 yt,Value.int IntKind.i64 yk][j]? =some v->W1.cell? ⟨w.heap.size+1,j,none⟩=some v:=by
    intro j v hv;rw[<-hW1,World.cell?_drewN];rw[cell_alloc_mark_at _ _ _ _ _ _ (by simp)];exact hv
   rw[hw1];split
   .exact⟨hx,hy⟩
   exact⟨fun j v h=>cell?_alloc_some _ (hx j v h),fun j v h=>cell?_alloc_some _ (hy j v h)⟩
  intro R i o ho hiR hpre a w1 ht Kc hK;have hi18:i<18:=by have:=(NM.1 ho).1;simpa using this
  have e2:a.eval (.tmp 2)=.pointer (some ⟨w.heap.size,0,none⟩):=ht.bs (0,2,_) (by simp);have e3:a.eval (.tmp 3)=.pointer (some ⟨w.heap.size+1,0,none⟩):=ht.bs (0,3,_) (by simp);obtain⟨cx,cy⟩:=hcell R w1 ht.wd;have x0:=cx 0 _ rfl;have x1:=cx 1 _ rfl;have x2:=cx 2 _ rfl;have y0:=cy 0 _ rfl;have y1:=cy 1 _ rfl;have y2:=cy 2 _ rfl;have hput:=fun d v hd hb hu w' hw'=>ht.put i d v hd hb hu (w':=w') hw'
  match i,hi18 with
  | 0,_=>
    have ho0:=ho;cases ho;refine Qq (nx:=.value (.pointer (some ⟨w.heap.size,0,none⟩))) (v:=.pointer (some ⟨w.heap.size,0,none⟩)) (w':=w1) ho0 rfl ?_ (.inl rfl) (hK _ _ (hput 5 (.pointer (some ⟨w.heap.size,0,none⟩)) (by decide) (by simp) (by simp) _ ?_))
    .unfold execOp;simp[e2,e3,fA0];done
    rw[ht.wd];simp[Qh]
  | 1,_=>
    have ho0:=ho;cases ho;have v5:a.eval (.tmp 5)=.pointer (some ⟨w.heap.size,0,none⟩):=ht.vs (0,5,_) (by simp) (hpre ⟨0,.data⟩ (by simp) rfl);refine Qq (nx:=.value (.int .i64 xf)) (v:=.int .i64 xf) (w':=w1) ho0 rfl ?_ (.inl rfl) (hK _ _ (hput 6 (.int .i64 xf) (by decide) (by simp) (by simp) _ ?_))
    .unfold execOp;simp[v5,ldI x0];done
    rw[ht.wd];simp[Qh]
  | 2,_=>
    have ho0:=ho;cases ho;refine Qq (nx:=.value (.pointer (some ⟨w.heap.size+1,0,none⟩))) (v:=.pointer (some ⟨w.heap.size+1,0,none⟩)) (w':=w1) ho0 rfl ?_ (.inl rfl) (hK _ _ (hput 7 (.pointer (some ⟨w.heap.size+1,0,none⟩)) (by decide) (by simp) (by simp) _ ?_))
    .unfold execOp;simp[e2,e3,fA0];done
    rw[ht.wd];simp[Qh]
  | 3,_=>
    have ho0:=ho;cases ho;have v7:a.eval (.tmp 7)=.pointer (some ⟨w.heap.size+1,0,none⟩):=ht.vs (2,7,_) (by simp) (hpre ⟨2,.data⟩ (by simp) rfl);refine Qq (nx:=.value (.int .i64 yf)) (v:=.int .i64 yf) (w':=w1) ho0 rfl ?_ (.inl rfl) (hK _ _ (hput 8 (.int .i64 yf) (by decide) (by simp) (by simp) _ ?_))
    .unfold execOp;simp[v7,ldI y0];done
    rw[ht.wd];simp[Qh]
  | 4,_=>
    have ho0:=ho;cases ho;have v6:a.eval (.tmp 6)=.int .i64 xf:=ht.vs (1,6,_) (by simp) (hpre ⟨1,.data⟩ (by simp) rfl);have v8:a.eval (.tmp 8)=.int .i64 yf:=ht.vs (3,8,_) (by simp) (hpre ⟨3,.data⟩ (by simp) rfl);refine X2c (v:=.int .i64 cf) ho0 rfl (by unfold execOp;simp[resolve,invoke,Deferred.ofValue,eI,v6,v8];rfl) (c1 w1) (hK _ _ (hput 9 (.int .i64 cf) (by decide) (by simp) (by simp) _ ?_))
    all_goals first|(rw[ht.wd];simp[Qh];done)|skip
  | 5,_=>
    have ho0:=ho;cases ho;refine Qq (nx:=.value (.pointer (some ⟨w.heap.size,1,none⟩))) (v:=.pointer (some ⟨w.heap.size,1,none⟩)) (w':=w1) ho0 rfl ?_ (.inl rfl) (hK _ _ (hput 10 (.pointer (some ⟨w.heap.size,1,none⟩)) (by decide) (by simp) (by simp) _ ?_))
    .unfold execOp;simp[e2,e3,fA1];done
    rw[ht.wd];simp[Qh]
  | 6,_=>
    have ho0:=ho;cases ho;have v10:a.eval (.tmp 10)=.pointer (some ⟨w.heap.size,1,none⟩):=ht.vs (5,10,_) (by simp) (hpre ⟨5,.data⟩ (by simp) rfl);refine Qq (nx:=.value (.int .i64 xt)) (v:=.int .i64 xt) (w':=w1) ho0 rfl ?_ (.inl rfl) (hK _ _ (hput 11 (.int .i64 xt) (by decide) (by simp) (by simp) _ ?_))
    .unfold execOp;simp[v10,ldI x1];done
    rw[ht.wd];simp[Qh]
  | 7,_=>
    have ho0:=ho;cases ho;refine Qq (nx:=.value (.pointer (some ⟨w.heap.size+1,1,none⟩))) (v:=.pointer (some ⟨w.heap.size+1,1,none⟩)) (w':=w1) ho0 rfl ?_ (.inl rfl) (hK _ _ (hput 12 (.pointer (some ⟨w.heap.size+1,1,none⟩)) (by decide) (by simp) (by simp) _ ?_))
    .unfold execOp;simp[e2,e3,fA1];done
    rw[ht.wd];simp[Qh]
  | 8,_=>
    have ho0:=ho;cases ho;have v12:a.eval (.tmp 12)=.pointer (some ⟨w.heap.size+1,1,none⟩):=ht.vs (7,12,_) (by simp) (hpre ⟨7,.data⟩ (by simp) rfl);refine Qq (nx:=.value (.int .i64 yt)) (v:=.int .i64 yt) (w':=w1) ho0 rfl ?_ (.inl rfl) (hK _ _ (hput 13 (.int .i64 yt) (by decide) (by simp) (by simp) _ ?_))
    .unfold execOp;simp[v12,ldI y1];done
    rw[ht.wd];simp[Qh]
  | 9,_=>
    have ho0:=ho;cases ho;have v11:a.eval (.tmp 11)=.int .i64 xt:=ht.vs (6,11,_) (by simp) (hpre ⟨6,.data⟩ (by simp) rfl);have v13:a.eval (.tmp 13)=.int .i64 yt:=ht.vs (8,13,_) (by simp) (hpre ⟨8,.data⟩ (by simp) rfl);refine X2c (v:=.int .i64 ct) ho0 rfl (by unfold execOp;simp[resolve,invoke,Deferred.ofValue,eI,v11,v13];rfl) (c2 w1) (hK _ _ (hput 14 (.int .i64 ct) (by decide) (by simp) (by simp) _ ?_))
    all_goals first|(rw[ht.wd];simp[Qh];done)|skip
  | 10,_=>
    have ho0:=ho;cases ho;refine Qq (nx:=.value (.pointer (some ⟨w.heap.size,2,none⟩))) (v:=.pointer (some ⟨w.heap.size,2,none⟩)) (w':=w1) ho0 rfl ?_ (.inl rfl) (hK _ _ (hput 15 (.pointer (some ⟨w.heap.size,2,none⟩)) (by decide) (by simp) (by simp) _ ?_))
    .unfold execOp;simp[e2,e3,fA2];done
    rw[ht.wd];simp[Qh]
  | 11,_=>
    have ho0:=ho;cases ho;have v15:a.eval (.tmp 15)=.pointer (some ⟨w.heap.size,2,none⟩):=ht.vs (10,15,_) (by simp) (hpre ⟨10,.data⟩ (by simp) rfl);refine Qq (nx:=.value (.int .i64 xk)) (v:=.int .i64 xk) (w':=w1) ho0 rfl ?_ (.inl rfl) (hK _ _ (hput 16 (.int .i64 xk) (by decide) (by simp) (by simp) _ ?_))
    .unfold execOp;simp[v15,ldK x2];done
    rw[ht.wd];simp[Qh]
  | 12,_=>
    have ho0:=ho;cases ho;refine Qq (nx:=.value (.pointer (some ⟨w.heap.size+1,2,none⟩))) (v:=.pointer (some ⟨w.heap.size+1,2,none⟩)) (w':=w1) ho0 rfl ?_ (.inl rfl) (hK _ _ (hput 17 (.pointer (some ⟨w.heap.size+1,2,none⟩)) (by decide) (by simp) (by simp) _ ?_))
    .unfold execOp;simp[e2,e3,fA2];done
    rw[ht.wd];simp[Qh]
  | 13,_=>
    have ho0:=ho;cases ho;have v17:a.eval (.tmp 17)=.pointer (some ⟨w.heap.size+1,2,none⟩):=ht.vs (12,17,_) (by simp) (hpre ⟨12,.data⟩ (by simp) rfl);refine Qq (nx:=.value (.int .i64 yk)) (v:=.int .i64 yk) (w':=w1) ho0 rfl ?_ (.inl rfl) (hK _ _ (hput 18 (.int .i64 yk) (by decide) (by simp) (by simp) _ ?_))
    .unfold execOp;simp[v17,ldK y2];done
    rw[ht.wd];simp[Qh]
  | 14,_=>
    have ho0:=ho;cases ho;have v16:a.eval (.tmp 16)=.int .i64 xk:=ht.vs (11,16,_) (by simp) (hpre ⟨11,.data⟩ (by simp) rfl);have v18:a.eval (.tmp 18)=.int .i64 yk:=ht.vs (13,18,_) (by simp) (hpre ⟨13,.data⟩ (by simp) rfl);refine X2c (v:=.int .i64 ck) ho0 rfl (by unfold execOp;simp[resolve,invoke,Deferred.ofValue,eK,v16,v18];rfl) (c3 w1) (hK _ _ (hput 19 (.int .i64 ck) (by decide) (by simp) (by simp) _ ?_))
    all_goals first|(rw[ht.wd];simp[Qh];done)|skip
  | 15,_=>
    have ho0:=ho;cases ho;have v9:a.eval (.tmp 9)=.int .i64 cf:=ht.vs (4,9,_) (by simp) (hpre ⟨4,.data⟩ (by simp) rfl);have v14:a.eval (.tmp 14)=.int .i64 ct:=ht.vs (9,14,_) (by simp) (hpre ⟨9,.data⟩ (by simp) rfl);have v19:a.eval (.tmp 19)=.int .i64 ck:=ht.vs (14,19,_) (by simp) (hpre ⟨14,.data⟩ (by simp) rfl);refine Qq (nx:=.value (.slice (some ⟨W1.heap.size,0,none⟩) 3 3)) (v:=.slice (some ⟨W1.heap.size,0,none⟩) 3 3) (w':=w1.alloc (Obj.cells #[.int .i64 cf,.int .i64 ct,.int .i64 ck] 3)) ho0 rfl ?_ (.inl rfl) (hK _ _ (hput 20 (.slice (some ⟨W1.heap.size,0,none⟩) 3 3) (by decide) (by simp) (by simp) _ ?_))
    .have h15:w1=W1:=by rw[ht.wd,Na hiR]
     subst h15;unfold execOp;simp[v9,v14,v19,bS3]
     done
    have h15:w1=W1:=by rw[ht.wd,Na hiR]
    rw[h15];simp[Qh]
  | 16,_=>
    have ho0:=ho;cases ho;have v20:a.eval (.tmp 20)=.slice (some ⟨W1.heap.size,0,none⟩) 3 3:=ht.vs (15,20,_) (by simp) (hpre ⟨15,.data⟩ (by simp) rfl);refine X2c (v:=.int .i64 (orF cf ct ck)) ho0 rfl (by unfold execOp;simp[resolve,invoke,Deferred.ofValue,eO,v20];rfl) (or_calls W1.heap.size 0 cf ct ck w1 ?_ ?_ ?_) (hK _ _ (hput 21 (.int .i64 (orF cf ct ck)) (by decide) (by simp) (by simp) _ ?_))
    .rw[ht.wd,N7 (hpre ⟨15,.data⟩ (by simp) rfl),cell_alloc_mark_at _ _ _ _ _ _ rfl];rfl
    .rw[ht.wd,N7 (hpre ⟨15,.data⟩ (by simp) rfl),cell_alloc_mark_at _ _ _ _ _ _ rfl];rfl
    .rw[ht.wd,N7 (hpre ⟨15,.data⟩ (by simp) rfl),cell_alloc_mark_at _ _ _ _ _ _ rfl];rfl
    rw[ht.wd];simp[Qh]
  | 17,_=>
    have ho0:=ho;cases ho;have v21:a.eval (.tmp 21)=.int .i64 (orF cf ct ck):=ht.vs (16,21,_) (by simp) (hpre ⟨16,.data⟩ (by simp) rfl);refine Qq (nx:=.value (.int .i64 (orF cf ct ck))) (v:=.int .i64 (orF cf ct ck)) (w':=w1) ho0 rfl ?_ (.inl rfl) (hK _ _ (hput 4 (.int .i64 (orF cf ct ck)) (by decide) (by simp) (by simp) _ ?_))
    .unfold execOp;simp[v21];done
    rw[ht.wd];simp[Qh]
 intro a' w' ht;have e4:a'.eval (.tmp 4)=.int .i64 (orF cf ct ck):=ht.vs (17,4,_) (by simp) (by simp);have hw:=ht.wd;rw[N7 (by simp)]at hw;refine hK9 a' w' (wp_ret ?_);refine bodyPost_ret (v:=.int .i64 (orF cf ct ck)) ?_ ht.df ?_
 .rw[<-e4];exact results_tmp rfl _ _ _
 refine⟨by rw[hres],1, #[Obj.cells #[Value.int IntKind.i64 xf,Value.int IntKind.i64 xt,Value.int IntKind.i64 xk] 51,Obj.cells #[Value.int IntKind.i64 yf,Value.int IntKind.i64 yt,Value.int IntKind.i64 yk] 51,Obj.cells #[.int .i64 cf,.int .i64 ct,.int .i64 ck] 3],?_⟩;rw[hw,<-hW1];simp only[alloc_eq_grow];show grow (grow (grow (w.drewN 1) _) _) _=_;rw[grow_grow,grow_grow];rfl
instance instDp:Inhabited Dp:=⟨⟨0,0,0⟩⟩
theorem X9S (x y:Dp) (w:World):Calls prog 61 #[.agg (dpE x).toArray,.agg (dpE y).toArray] w fun e w'=>e=.returned (.int .i64 (X4e x y))/\∃q os',w'=grow (w.drewN q) os':=
 X6v x y w (fun a b w=>AnyG.cmp_Compare_int cmpIL a b w) (fun a b w=>AnyG.cmp_Compare_int cmpKL a b w)
theorem X2l (x y:Dp):ltOf X4e x y=dpB x y:=by
 rw[Dk,Zb];unfold ltOf X4e orF Lib.compareInt;simp only[N6]
 repeat' split
 all_goals omega
theorem XbE:SWO (ltOf X4e):=by
 refine⟨fun x=>?_,fun x y z h1 h2=>?_,fun x y z h1 h2=>?_⟩
 .rw[X2l,<-Bool.not_eq_true,Zb];omega
 .rw[X2l,Zb]at*;omega
 rw[X2l,<-Bool.not_eq_true,Zb]at*;omega
structure RowOutD (w w':World) (g o:Nat) (ys:List Dp):Prop where
 os:w'.os=w.os
 tape:w'.tape=w.tape
 output:w'.output=w.output
 size:w.heap.size<=w'.heap.size
 other:∀k,k<w.heap.size->k≠g->w'.heap[k]? =w.heap[k]?
 cells:∀cur t x,w.heap[g]? =some (.cells cur t x)->∃cur':Array Value,w'.heap[g]? =some (.cells cur' t x)/\cur'.size=cur.size/\∀k j y,ys[k]? =some y->j<3->o+(k*3+j)<cur.size->cur'[o+(k*3+j)]? =(dpE y)[j]?
theorem X1E (ys:List Dp) (k j:Nat) (y:Dp) (hk:ys[k]? =some y) (hj:j<3):(flatK dpE 3 ys.toArray)[k*3+j]! =(dpE y)[j]! :=by
 have hlt:=(N5.1 hk).1;rw[get_flatK _ _ _ _ (by simp;omega),show(k*3+j)/3=k by omega,show(k*3+j)%3=j by omega]
 have:ys.toArray[k]! =y:=by
  rw[getElem!_pos ys.toArray k (by simpa using hlt)];have:=(N5.1 hk).2;simpa using this
 rw[this]
theorem XbF (y:Dp) (j:Nat) (hj:j<3):(dpE y)[j]? =some (dpE y)[j]! :=by
 rw[getElem!_pos (dpE y) j (by simpa[dpE]using hj)];exact NA _
theorem X4P (w:World) (q g o:Nat) (os:Array Obj) (ys:List Dp) (hg:g<w.heap.size):RowOutD w (sortWorldK dpE 3 w g o q ys.toArray os) g o ys:=by
 have hsz:(putRow id (Sort.ahead w q) g o (flatK dpE 3 ys.toArray)).heap.size=w.heap.size:=by simp[putRow,mapBlock]
 refine⟨rfl,rfl,rfl,by simp only[sortWorldK,putRowK,grow,Array.size_append,hsz];omega,fun k hk hne=>?_,fun cur t x hc=>?_⟩
 .simp only[sortWorldK,putRowK];rw[heap_grow_old _ _ (by rw[hsz];exact hk)];simp only[putRow,mapBlock,heap_ahead,Dw];rw[N7 fun h=>hne h.symm]
 refine⟨putCells id o (flatK dpE 3 ys.toArray) cur,?_,by simp[putCells],fun k j y hk hj hkc=>?_⟩
 .simp only[sortWorldK,putRowK];rw[heap_grow_old _ _ (by rw[hsz];exact hg)];simp only[putRow,mapBlock,heap_ahead,Dw,Nf,hc];rfl
 have hlt:=(N5.1 hk).1;simp only[putCells,Array.getElem?_mapIdx,NC hkc,Option.map_some,Nat.add_sub_cancel_left];rw[Na ⟨by omega,by simp;omega⟩,X1E ys k j y hk hj,XbF y j hj];rfl
theorem getRC_D {zs:List Dp} {a b:Nat} {d:CD} (h:XN (XG zs) a b=some d):b<3/\∃y,zs[a]? =some y/\d=.lit (dpE y)[b]! :=by
 unfold XN XG at h;rw[Np]at h;cases hz:zs[a]? with
 |none=>rw[hz]at h;cases h
 | some n=>
   rw[hz]at h
   match b,h with
   |0,h=>cases h;exact⟨by omega,n,rfl,rfl⟩
   |1,h=>cases h;exact⟨by omega,n,rfl,rfl⟩
   |2,h=>cases h;exact⟨by omega,n,rfl,rfl⟩
   |b+3,h=>simp[Dp.enc]at h
theorem getRC_D' {zs:List Dp} {a b:Nat} {y:Dp} (h:zs[a]? =some y) (hb:b<3):XN (XG zs) a b=some (.lit (dpE y)[b]!):=by
 unfold XN XG;rw[Np,h]
 match b,hb with
 |0,_=>rfl
 |1,_=>rfl
 |2,_=>rfl
theorem X7j (y:Dp):∀v∈dpE y,v.oneCell'=true:=by
 intro v hv;simp only[dpE,Nh,De,or_false]at hv;rcases hv with rfl|rfl|rfl<;>rfl
theorem mem_dpE (y:Dp) (j:Nat) (hj:j<3):(dpE y)[j]! ∈dpE y:=by
 rw[getElem!_pos (dpE y) j (by simpa[dpE]using hj)];exact DA _
theorem X50 {zs:List Dp} (hn:zs.Nodup) {d':Array Dp} (hp:PermIn 0 zs.length zs.toArray d') (hs:SortedIn (ltOf X4e) 0 zs.length d'):d'.toList=QU zs:=by
 obtain⟨h1,_,h3⟩:=hp;have hsz:d'.size=zs.length:=by simpa using h1
 have e1:d'.extract 0 zs.length=d':=by rw[<-hsz];simp
 have e2:zs.toArray.extract 0 zs.length=zs.toArray:=by simp
 rw[e1,e2]at h3;have hnd:d'.toList.Nodup:=h3.nodup_iff.2 (by simpa using hn);refine X9u ?_ fun x=>by rw[h3.mem_iff]
 rw[List.pairwise_iff_getElem];intro i j hi hj hij;have:=hs i j (Nq _) hij (by simpa[hsz]using hj);rw[X2l,getElem!_pos d' j (by simpa using hj),getElem!_pos d' i (by simpa using hi),<-Bool.not_eq_true,Zb]at this;rw[Zb];have hne:d'.toList[i]≠d'.toList[j]:=List.pairwise_iff_getElem.1 hnd i j hi hj hij;simp only[Array.getElem_toList]at*;generalize d'[i]=a at*;generalize d'[j]=b at*;have:¬(a.f=b.f/\a.t=b.t/\a.k=b.k):=fun⟨e1,e2,e3⟩=>hne (by obtain⟨x,y,z⟩:=a;obtain⟨x',y',z'⟩:=b;simp only at e1 e2 e3;rw[e1,e2,e3]);omega
theorem X9g (zs:List Dp) (hn:zs.Nodup) (hl:zs.length<=17592186044416) (g o cap:Nat) (w:World) (hH:HoldsK dpE 3 w g o zs.toArray) (hg:g<w.heap.size):
  Calls prog 58 #[.slice (some ⟨g,o,none⟩) zs.length cap,.func (.func 61) #[] #[]] w fun e w'=>e=.returned (.tuple #[])/\RowOutD w w' g o (QU zs):=by
 have h:=AnyQ.slices_SortFunc (P:=prog) (ρ:=X7P) XaA 3 (fun w=>rfl) (fun w=>rfl) dpE (fun _=>rfl) X7j X4e XbE 61 #[] g o cap zs.toArray w
  (enters_of Tryz.func61 (by kernel_rfl) rfl) (fun m os dk hs x y=>X9S x y _) hH hg (by simp;omega)
 refine(show Calls prog 58 #[.slice (some ⟨g,o,none⟩) zs.length cap,.func (.func 61) #[] #[]] w _ from h).mono ?_;rintro e w' ⟨rfl,d',n,os,hp,hs,rfl⟩;refine⟨rfl,?_⟩;have e:=X50 hn (by simpa using hp) (by simpa using hs);have:=X4P w n g o os (QU zs) hg;rw[<-e]at this⊢;simpa using this
theorem X4s (zs:List Dp) (hn:zs.Nodup):(QU zs).length=zs.length:=by
 refine(List.Perm.length_eq ?_);refine(List.perm_ext_iff_of_nodup ?_ hn).2 fun x=>X0L zs x;exact(X0P zs).imp fun {a b} h e=>by rw[e,Zb]at h;omega
set_option maxHeartbeats 4000000
theorem XaT (p:Option Addr) (cap:Nat) (g:FuncId) (w:World):Calls prog 168 #[.slice p 0 cap,.int .i64 0,.int .i64 0,.func (.func g) #[] #[]] w fun e w'=>e=.returned (.tuple #[])/\w'=w:=by
 go_enter Tryz.func168,Tryz.ntmps168
 go_wp2
 refine wp_loop_rounds 1 ?_;rw[rounds_succ]
 go_wp2
 go_end0
 exact⟨rfl,rfl⟩
theorem X9Z (p:Option Addr) (cap:Nat) (g:FuncId) (w:World):Calls prog 108 #[.slice p 0 cap,.int .i64 0,.int .i64 0,.int .i64 0,.func (.func g) #[] #[]] w fun e w'=>e=.returned (.tuple #[])/\w'=w:=by
 have e1:∀args w,(callFunc 168 args).run prog w=.ok (.enter 168 args) w:=enters_of Tryz.func168 (by kernel_rfl) rfl
 go_enter Tryz.func108,Tryz.ntmps108
 go_wp2
 refine wp_loop_rounds 1 ?_;rw[rounds_succ]
 go_wp2_with (go_at_fn 168;refine(XaT p cap g _).mono ?_;rintro e w' ⟨rfl,rfl⟩)
 (try simp only[Exit.inBlock,Exit.then])
 refine bodyPost_ret (results_none rfl _ _ _) rfl ?_;exact⟨rfl,rfl⟩
theorem X7w (p:Option Addr) (cap:Nat) (g:FuncId) (w:World):Calls prog 58 #[.slice p 0 cap,.func (.func g) #[] #[]] w fun e w'=>e=.returned (.tuple #[])/\w'=w:=by
 have hLen:∀w,Calls prog 89 #[.int .u64 0] w fun e w'=>e=.returned (.int .i64 0)/\w'=w:=fun w=>Any.bits_Len (SlLaysF0.n15.bits (P:=prog) (ρ:=X7P) {XaA with}) 0 w (by omega) (by omega);have e1:∀args w,(callFunc 89 args).run prog w=.ok (.enter 89 args) w:=enters_of Tryz.func89 (by kernel_rfl) rfl;have e2:∀args w,(callFunc 108 args).run prog w=.ok (.enter 108 args) w:=enters_of Tryz.func108 (by kernel_rfl) rfl
 go_enter Tryz.func58,Tryz.ntmps58
 go_wp2_with (first
  |(go_at_fn 89;refine(hLen _).mono ?_;rintro e w' ⟨rfl,rfl⟩)
  |(go_at_fn 108;refine(X9Z p cap g _).mono ?_;rintro e w' ⟨rfl,rfl⟩))
 go_end0
 exact⟨rfl,rfl⟩
end Go.Proofs.YtdajceakaakdoaaGreat
namespace Go.Proofs.YtdajceakaakdoaaGreat
open Go Go.Hl Go.Sort Go.Lib Go.Joins Go.Shelf
open Tryz(prog)
theorem X6X {f c:FuncId} (hcall:Q5 prog f=true) (zs ys:List Dp) (hz:0<zs.length) (hle:ys.length=zs.length)
  (key:∀(g o cap:Nat) (w:World),HoldsK dpE 3 w g o zs.toArray->g<w.heap.size->zs.length<=cap->cap<=maxLen->Calls prog f #[.slice (some ⟨g,o,none⟩) zs.length cap,.func (.func c) #[] #[]] w fun e w'=>e=.returned (.tuple #[])/\RowOutD w w' g o ys):
  X9T prog f c 51 3 (XG zs) (XG ys):=by
 refine⟨hcall,fun F B w v hro hF hvF=>?_⟩;obtain⟨h0,hrs,xs,⟨hxl,hown⟩,hx1,hc⟩:=hro;rcases hown with⟨_,hn⟩|⟨g,o,cap,cur,rfl,hB,hg,hcap,hmax,hcs,htake⟩
 .rw[ZZ]at hn;omega
 rw[ZZ]at hxl hcap htake⊢
 have hcur:∀k j y,zs[k]? =some y->j<3->cur[o+(k*3+j)]? =some (dpE y)[j]! :=by
  intro k j y hk hj;obtain⟨u,hu,hr⟩:=hc k j _ (getRC_D' hk hj);cases hr;have hlt:=(N5.1 hk).1;have:xs[k*3+j]? =cur[o+(k*3+j)]? :=by rw[<-htake,NE,Na (by omega),Ny,D8]
  rw[<-this];exact hu
 have hH:HoldsK dpE 3 w g o zs.toArray:=by
  intro t ht;have ht':t<zs.length*3:=by simpa using ht
  have hk:t/3<zs.length:=by omega
  refine⟨?_,?_⟩
  .have h1:w.cell? ⟨g,o+t,none⟩=cur[o+t]? :=by simp[World.cell?,hg]
   have h2:=hcur (t/3) (t%3) _ (NA hk) (by omega);rw[show t/3*3+t%3=t by omega]at h2;have h3:=X1E zs (t/3) (t%3) _ (NA hk) (by omega);rw[show t/3*3+t%3=t by omega]at h3;rw[h1,h2,h3];rfl
  simp[World.frozen?,hg]
 have hgs:g<w.heap.size:=(NM.1 hg).1;refine(key g o cap w hH hgs hcap hmax).mono ?_;rintro e w' ⟨rfl,hout⟩;obtain⟨cur',hg',hcs',hcell⟩:=hout.cells cur _ _ hg
 have hcell2:∀k j y,ys[k]? =some y->j<3->((cur'.toList.drop o).take (ys.length*3))[k*3+j]? =some (dpE y)[j]! :=by
  intro k j y hk hj;have hlt:=(N5.1 hk).1;rw[NE,Na (by omega),Ny,D8,hcell k j y hk hj (by omega),XbF y j hj]
 refine⟨rfl,hout.os,hout.tape,hout.output,hout.size,fun k hk hne=>hout.other k hk fun e=>hne (by rw[e];rfl),by decide,?_,(cur'.toList.drop o).take (ys.length*3),⟨?_,.inr ⟨g,o,cap,cur',?_,hB,hg',by rw[ZZ];omega,hmax,by omega,by rw[ZZ]⟩⟩,?_,?_⟩
 .intro r hr;simp only[XG,NF]at hr;obtain⟨n,_,rfl⟩:=hr;rfl
 .simp only[NG,Da,Array.length_toList,ZZ];omega
 .rw[ZZ,hle]
 .intro u hu;obtain⟨t,ht⟩:=List.getElem?_of_mem hu
  have hlt:t<ys.length*3:=by
   have:=(N5.1 ht).1;simp only[NG]at this;omega
  have hk:t/3<ys.length:=by omega
  have h2:=hcell2 (t/3) (t%3) _ (NA hk) (by omega);rw[show t/3*3+t%3=t by omega,ht]at h2;cases h2;exact X7j _ _ (mem_dpE _ _ (by omega))
 intro a b d hd;obtain⟨hb,y,hy,rfl⟩:=getRC_D hd;exact⟨_,hcell2 a b y hy hb,CRel.lit _⟩
theorem Xcy (zs:List Dp) (hn:zs.Nodup) (hz:0<zs.length) (hl:zs.length<=17592186044416):
  X9T prog 58 61 51 3 (XG zs) (XG (QU zs)):=
 X6X (by kernel_rfl) zs _ hz (X4s zs hn) fun g o cap w hH hg hcap hmax=>X9g zs hn hl g o cap w hH hg
end Go.Proofs.YtdajceakaakdoaaGreat
namespace Go.Proofs.YtdajceakaakdoaaGreat
open Go Go.Hl
open Tryz(prog)
def X3G (f:Fl):Bool:=match f.body.getLast? with
 |some s=>decide (s.do_=6)&&decide ((bdL CP f.body ⟨0,0,0⟩).t<=(s.bounds[0]?).getD 0)
 |none=>false
set_option maxHeartbeats 8000000 in
theorem XbY (f:Fl) (hv:f.vars.length<=1000000) (hh:f.hats.length<=1000000) (hn:Xh f.body+Qu f.hats<=900000000) (hb:Z6 f.body=true) (hc:Qa f=0) (hl:f.body.length<=1000000) (hb6:∀s∈f.body,s.do_=6->s.bounds≠[]) (d:Nat):Con prog 128 true [aF f] (.v (lb (X3G f))) none d:=by
 have cb:=X9A f hv hh hn hb hc;clear hv hh hn hb hc;obtain⟨vars,hats,body⟩:=f;simp only at cb hb6 hl⊢;unfold X3G;simp only;obtain⟨⟨bs,bo,bt⟩,hB⟩:∃x,bdL CP body ⟨0,0,0⟩=x:=⟨_,rfl⟩;rw[hB]at cb⊢;clear hB;cases hlast:body.getLast? with
 | none=>
   have hnil:body=[]:=by simpa using hlast
   subst hnil;clear hlast hb6 hl;refine X6 Tryz.func128 ?_;simp only[Tryz.f128];simp only[aF,Fl.enc,Ni,Nr]at cb⊢;refine X1 ?_;refine X0<|X0<|X2 ?_;refine(Xc rfl (fun h2=>?_) fun h2=>?_)
   ·(try simp only[BN]at h2);refine X1 ?_;exact Xf
   exact absurd h2 (by simp)
 | some s=>
   have hpos:body.length≠0:=by intro h;rw[Nv h]at hlast;cases hlast
   have hs:body[body.length - 1]? =some s:=by rw[<-hlast,List.getLast?_eq_getElem?]
   have hw1:IntKind.i64.wrap ((body.length:Int) - 1)=((body.length - 1:Nat):Int):=by simp[IntKind.wrap,IntKind.bits,IntKind.signed];omega
   have hb7:=hb6 s (N3 hs);have hse:=Q2 hs;clear hb6 hlast;obtain⟨so,sc,sv,sn,⟨po,tn,tk⟩,sa,sb,sbs⟩:=s;simp only[St.do_,St.bounds]at hb7⊢;simp only[St.enc,Tm.enc,List.cons_append,List.nil_append]at hse;have hp1:¬((body.length:Int)=0):=by omega
   by_cases h6:so=6
   .match sbs,hb7 h6 with
    | b0::sb1,_=>
      clear hb7;subst h6;refine X6 Tryz.func128 ?_;simp only[Tryz.f128];simp only[aF,Fl.enc,Ni,Nr]at cb⊢;refine X1 ?_;refine X0<|X0<|X2 ?_;refine(Xc rfl (fun h2=>?_) fun h2=>?_)
      .exact absurd (by simpa using h2) hp1
      (try simp only[BN]at h2);refine X1 ?_;refine Xk [⟨true,.tup [li bs,li bo,li bt,li 0],none⟩] ?_ ?_
      .first|exact cb _|exact trivial|simpa[*]using cb _
      refine X1 ?_;exact Xf
   clear hb7;cases sbs with
   | nil=>
     refine X6 Tryz.func128 ?_;simp only[Tryz.f128];simp only[aF,Fl.enc,Ni,Nr]at cb⊢;refine X1 ?_;refine X0<|X0<|X2 ?_;refine(Xc rfl (fun h2=>?_) fun h2=>?_)
     .exact absurd (by simpa using h2) hp1
     (try simp only[BN]at h2);refine X1 ?_;refine Xk [⟨true,.tup [li bs,li bo,li bt,li 0],none⟩] ?_ ?_
     .first|exact cb _|exact trivial|simpa[*]using cb _
     refine X1 ?_;exact Xf
   | cons b0 sb1=>
     refine X6 Tryz.func128 ?_;simp only[Tryz.f128];simp only[aF,Fl.enc,Ni,Nr]at cb⊢;refine X1 ?_;refine X0<|X0<|X2 ?_;refine(Xc rfl (fun h2=>?_) fun h2=>?_)
     .exact absurd (by simpa using h2) hp1
     (try simp only[BN]at h2);refine X1 ?_;refine Xk [⟨true,.tup [li bs,li bo,li bt,li 0],none⟩] ?_ ?_
     .first|exact cb _|exact trivial|simpa[*]using cb _
     refine X1 ?_;exact Xf
theorem X5w (l:List St) (hn:Xh l<=1000000000) (d:Nat):Con prog 129 true [lS l] (.tup [li (spL l (0,0)).1,lb (decide ((spL l (0,0)).1=(spL l (0,0)).2))]) none d:=by
 have cs:=XcR l hn;obtain⟨p,hp⟩:∃x,spL l (0,0)=x:=⟨_,rfl⟩;rw[hp]at cs⊢;obtain⟨x,y⟩:=p;simp only at cs⊢;clear hp;refine X6 Tryz.func129 ?_;simp only[Tryz.f129];refine X1 ?_;refine Xk [⟨true,.tup [li x,li y],none⟩] ?_ ?_
 .first|exact cs _|exact trivial|simpa[*]using cs _
 refine X1 ?_;exact Xf
def cndQ (so x:Int) (ex:Bool) (y:Int) (ey:Bool) (po:Int):Bool:=(decide (so=3)&& !(ex&&(ey&&decide (x=y))))||(decide (so=4)&& !(ex&&decide (po=0)))
def Zs:St->Bool
 | .mk o _ _ _ (.mk po _ _) a b _=>cndQ o (spL a (0,0)).1 (decide ((spL a (0,0)).1=(spL a (0,0)).2)) (spL b (0,0)).1 (decide ((spL b (0,0)).1=(spL b (0,0)).2)) po
theorem tmP_drop (cnd:St->Bool) (e:Int) (st:List St) (k:Nat) (s:St) (h:st[k]? =some s):((st.zipIdx).drop k).flatMap (fun s=>if cnd s.1=true then [(⟨s.2,e,1⟩:Dp)] else [])=(if cnd s=true then [(⟨k,e,1⟩:Dp)] else [])++((st.zipIdx).drop (k+1)).flatMap (fun s=>if cnd s.1=true then [(⟨s.2,e,1⟩:Dp)] else []):=by
 have hz:st.zipIdx[k]? =some (s,k):=by simp[List.getElem?_zipIdx,h]
 obtain⟨p,h1,h2⟩:=Xu (show k<st.zipIdx.length by simpa using(N5.1 h).1);rw[hz]at h1;cases h1;rw[h2,List.flatMap_cons]
set_option maxHeartbeats 32000000 in
theorem Xc8 (vars:List Vr) (hats:List Ht) (body st:List St) (dp0:List Dp) (hv:vars.length<=100000) (hst:st.length<=100000) (hn:∀s∈st,Xh s.then_<=1000000000/\Xh s.else_<=1000000000)
  (cs:∀d,Con prog 128 true [aF ⟨vars,hats,body⟩] (.v (lb (X3G ⟨vars,hats,body⟩))) none d):
  Z7 prog 67 none (pdF vars hats body st dp0) [.one (.at_ 1000001 0)] (fun _:Unit=>True) (fun _=>.tup []) (fun _=>pdF vars hats body st (XS (if X3G ⟨vars,hats,body⟩=true then [] else tmP Zs ((st.length:Int)+vars.length) st) dp0)):=by
 obtain⟨sb,hsb⟩:∃x,X3G ⟨vars,hats,body⟩=x:=⟨_,rfl⟩;rw[hsb]at cs⊢;simp only[aF,Fl.enc,Ni,Nr]at cs;refine XV Tryz.func67 rfl (by kernel_rfl) (NH rfl) XaF (fun v h=>by cases h) ?_;simp only[Tryz.f67];cases sb with
 | true=>
   simp only[pdF];refine X0<|X0<|(Xo [⟨true,.v (lb true),none⟩] ?_ ?_)
   .first|exact cs _|exact trivial|simpa[*]using cs _
   refine(Xc rfl (fun h1=>?_) fun h1=>?_)
   ·(try simp only[BN]at h1);exact Qe ⟨.inr rfl,(),trivial,_,le_refl _,⟨[],rfl,rfl⟩,fun n o h=>h⟩
   cases h1
 | false =>
   obtain⟨RES,hRES⟩:∃x,XS (tmP Zs ((st.length:Int)+vars.length) st) dp0=x:=⟨_,rfl⟩;simp only[Nz,Nc,hRES];unfold tmP at hRES;have cst:=X2D vars hats body st dp0 vars.length (by omega) (by omega) (by omega);simp only[pdF];refine X0<|X0<|(Xo [⟨true,.v (lb false),none⟩] ?_ ?_)
   .first|exact cs _|exact trivial|simpa[*]using cs _
   refine(Xc rfl (fun h1=>?_) fun h1=>?_)
   .cases h1
   (try simp only[BN]at h1);refine Xk [⟨true,.v (li ((st.length:Int)+vars.length)),none⟩] ?_ ?_
   .first|exact cst _|exact trivial|simpa[*]using cst _
   refine X1 ?_;refine X3<|(Xd [0,2,25,26] (fun(y:Nat×List Dp)=>[(27,.v (li y.1))]) (fun y=>[(900002,.mp (dpM y.2)),(1000001,.box [.c (.sl 5 (Xm vars)),.c (.sl 6 (Xn hats)),.c (.sl 10 (X7 body)),.c (.sl 10 (X7 st)),.own 900002])]) (fun y=>y.1<=st.length/\XS (((st.zipIdx).drop y.1).flatMap fun s=>if Zs s.1=true then [(⟨s.2,(st.length:Int)+vars.length,1⟩:Dp)] else []) y.2=RES) (fun y=>st.length - y.1) (0,dp0) ⟨Nq _,by simpa using hRES⟩ ?_ ?_)
   .exact X4 (fun n=>n) []
   rintro⟨i,dp⟩ ⟨hi,hD⟩;simp only[upS,X5,Xy]
   try simp only[X5,KN,Nat.reduceBEq,Nf,Nc,ins,Nat.reduceLT]
   simp only at hi hD;clear hRES cs cst;refine X1 ?_;refine X0<|(X8 rfl (fun h7=>Xb ?_) (fun h7=>?_))
   ·(try simp only[BN]at h7);have hlt:i<st.length:=by first|omega|simpa using h7
    have hw1:=XE hlt (by omega);have hi1:i+1<=st.length:=hlt;obtain⟨s,hs,_⟩:=Xu hlt;have hse:=Q2 hs;rw[tmP_drop _ _ _ _ _ hs]at hD;obtain⟨n1,n2⟩:=hn s (N3 hs);obtain⟨so,sc,sv,sn,⟨po,tn,tk⟩,sa,sb,sbs⟩:=s;simp only[St.then_,St.else_]at n1 n2;have ca:=X5w sa n1;have cb:=X5w sb n2;simp only[St.enc,Tm.enc,List.cons_append,List.nil_append]at hse;have hcd:Zs (St.mk so sc sv sn (Tm.mk po tn tk) sa sb sbs)=cndQ so (spL sa (0,0)).1 (decide ((spL sa (0,0)).1=(spL sa (0,0)).2)) (spL sb (0,0)).1 (decide ((spL sb (0,0)).1=(spL sb (0,0)).2)) po:=by rw[Zs]
    obtain⟨cn,hcn⟩:∃c,Zs (St.mk so sc sv sn (Tm.mk po tn tk) sa sb sbs)=c:=⟨_,rfl⟩;rw[hcn]at hD;rw[hcd]at hcn;clear hcd;obtain⟨⟨x,x2⟩,hX⟩:∃z,spL sa (0,0)=z:=⟨_,rfl⟩;obtain⟨⟨y,y2⟩,hY⟩:∃z,spL sb (0,0)=z:=⟨_,rfl⟩;rw[hX]at ca hcn;rw[hY]at cb hcn;simp only at ca cb hcn;obtain⟨ex,hex⟩:∃e,decide (x=x2)=e:=⟨_,rfl⟩;obtain⟨ey,hey⟩:∃e,decide (y=y2)=e:=⟨_,rfl⟩;rw[hex]at ca hcn;rw[hey]at cb hcn;clear hX hY hex hey;unfold cndQ at hcn;clear hlt h7 hs;refine X0<|X3<|X0<|X2 ?_;refine Xk [⟨true,.tup [li x,lb ex],none⟩] ?_ ?_
    .first|exact ca _|exact trivial|simpa[*]using ca _
    refine Xk [⟨true,.tup [li y,lb ey],none⟩] ?_ ?_
    .first|exact cb _|exact trivial|simpa[*]using cb _
    refine XM [0,2,3,25,26,27] (fun(q:Bool)=>[(73,.v (lb q))]) (fun(q:Bool)=>[(900002,.mp (dpM dp)),(1000001,.box [.c (.sl 5 (Xm vars)),.c (.sl 6 (Xn hats)),.c (.sl 10 (X7 body)),.c (.sl 10 (X7 st)),.own 900002])]) (fun(q:Bool)=>q=cn) ?_ ?_
    .clear ca cb hD hse;by_cases h3:so=3
     .subst h3;cases ex with
      |false=>(refine Xp (by simp;rfl) ?_;exact⟨true,by rw[<-hcn];simp,Xl (fun n=>n) [] rfl (by simp[upS,X5]) (by simp[upS]) (by simp[upS])⟩)
      | true=>
        cases ey with
        |false=>(refine Xp (by simp;rfl) ?_;exact⟨true,by rw[<-hcn];simp,Xl (fun n=>n) [] rfl (by simp[upS,X5]) (by simp[upS]) (by simp[upS])⟩)
        | true=>
          by_cases hxy:x=y
          .subst hxy
           (refine Xp (by simp;rfl) ?_;exact⟨false,by rw[<-hcn];simp,Xl (fun n=>n) [] rfl (by simp[upS,X5]) (by simp[upS]) (by simp[upS])⟩)
          (refine Xp (by simp[hxy];rfl) ?_;exact⟨true,by rw[<-hcn];simp[hxy],Xl (fun n=>n) [] rfl (by simp[upS,X5]) (by simp[upS]) (by simp[upS])⟩)
     by_cases h4:so=4
     .subst h4;cases ex with
      |false=>(refine Xp (by simp;rfl) ?_;exact⟨true,by rw[<-hcn];simp,Xl (fun n=>n) [] rfl (by simp[upS,X5]) (by simp[upS]) (by simp[upS])⟩)
      | true=>
        by_cases ht:po=0
        .subst ht
         (refine Xp (by simp;rfl) ?_;exact⟨false,by rw[<-hcn];simp,Xl (fun n=>n) [] rfl (by simp[upS,X5]) (by simp[upS]) (by simp[upS])⟩)
        (refine Xp (by simp[ht];rfl) ?_;exact⟨true,by rw[<-hcn];simp[ht],Xl (fun n=>n) [] rfl (by simp[upS,X5]) (by simp[upS]) (by simp[upS])⟩)
     (refine Xp (by simp[h3,h4];rfl) ?_;exact⟨false,by rw[<-hcn];simp[h3,h4],Xl (fun n=>n) [] rfl (by simp[upS,X5]) (by simp[upS]) (by simp[upS])⟩)
    rintro q hq;simp only[upS,X5,Xy]
    try simp only[X5,KN,Nat.reduceBEq,Nf,Nc,ins,Nat.reduceLT]
    refine(Xc rfl (fun h12=>?_) fun h12=>?_)
    ·(try simp only[BN]at h12);have hq1:cn=true:=by rw[<-hq];simpa using h12
     rw[hq1,Na rfl]at hD;simp only[List.cons_append,List.nil_append,XS]at hD;have cad:=X5F vars hats body st dp i ((st.length:Int)+vars.length) 1;simp only[pdF]at cad;clear h12 hq hq1 hcn ca cb hse;refine(Xw ?_);refine RunsN.cutE 3 [] (by simp;rfl) trivial (le_refl _) ?_;refine RunsN.callA (fun n=>n) (fun n=>if n=900002 then 900012 else n) cad fun _ _=>?_;refine RunsN.doneE [] rfl trivial ?_;refine XB (s':=⟨⟨79,none⟩,[(0,.v (.one (.at_ 1000001 0))),(2,.v (li ((st.length:Int)+vars.length))),(25,.v (.one (.c (.sl 10 (X7 st))))),(26,.v (li st.length)),(27,.v (li i))],[(900002,.mp (dpM (Wm dp ⟨i,(st.length:Int)+vars.length,1⟩))),(1000001,.box [.c (.sl 5 (Xm vars)),.c (.sl 6 (Xn hats)),.c (.sl 10 (X7 body)),.c (.sl 10 (X7 st)),.own 900002])]⟩) (Xl (fun n=>if n=900002 then 900012 else n) [] rfl (by simp[XJ,XU,del,ins,CV.ren,Ob.ren]) (by simp[XJ,XU,del,ins,CV.ren,Ob.ren]) (by simp)) ?_;refine X2 ?_;exact⟨(i+1,Wm dp ⟨i,(st.length:Int)+vars.length,1⟩),⟨hi1,hD⟩,by simp only;omega,X4 (fun n=>n) []⟩
    (try simp only[BN]at h12);have hq1:cn=false:=by rw[<-hq];simpa using h12
    rw[hq1]at hD;simp only[Nz,Nc,List.nil_append]at hD;clear h12 hq hq1 hcn ca cb hse;refine X2 ?_;exact⟨(i+1,dp),⟨hi1,hD⟩,by simp only;omega,X4 (fun n=>n) []⟩
   try simp only[BN]at h7
   have hil:i=st.length:=by
    have:¬i<st.length:=by first|omega|simpa using h7
    omega
   subst hil;rw[List.drop_eq_nil_of_le (by simp)]at hD;simp only[List.flatMap_nil,XS]at hD;subst hD;refine(Xg ?_);exact⟨.inl rfl,(),trivial,_,le_refl _,⟨[],rfl,rfl⟩,fun n o h=>h⟩
section
variable {N:List Nd} {steps:List St} {vars:List Vr} {nh:Nat} {hv hw:List Int} {K:Nat->Bool} {ar:List Int} {kO:Nat->Bool} {nd:Nat->Bool}
structure Need (N:List Nd) (steps:List St) (nv:Nat) (K nd:Nat->Bool) (hv hw:List Int):Prop where
 ent:∀(o:Nat) q,K o=true->steps[o]? =some q->∀(k:Nat) (x:Nd),N[k]? =some x->x.k≠4->x.a=(o:Int)->∀d,Rc N steps nv k d->Qr steps d∈tmV q.term->steps.length<=d->nd (d - steps.length)=true
 hat:∀(o:Nat) q,K o=true->steps[o]? =some q->q.do_=5->(hv[q.n.toNat]?).getD 0=(hw[q.n.toNat]?).getD 0
def R2 (K nd:Nat->Bool) (n nv:Nat) (x y:Sta×(Nat->Nat)):Prop:=
 x.1.outs=y.1.outs/\x.1.vals.length=nv/\y.1.vals.length=nv/\∀v,v<nv->(K (x.2 v)=true\/n<=x.2 v)->(K (y.2 v)=true\/n<=y.2 v)->x.2 v=y.2 v/\((K (x.2 v)=true\/nd v=true)->x.1.vals[v]? =y.1.vals[v]?)
end
section
variable {vars:List Vr} {hv:List Int}
end
inductive Cz (P:List (Int×Int)) (R:Int->Prop):Int->Prop
 |base {n:Int}:R n->Cz P R n
 |step {a b:Int}:(a,b)∈P->Cz P R a->Cz P R b
def prs (back rel:Bool) (E:List Dp):List (Int×Int):=(E.filter fun x=>rel||decide (x.k≠2)).map fun x=>if back=true then(x.t,x.f)else(x.f,x.t)
theorem Xbo {back rel:Bool} {E:List Dp} {p:Int×Int}:p∈prs back rel E↔∃x∈E,(rel=true\/x.k≠2)/\p=if back=true then(x.t,x.f)else(x.f,x.t):=by
 unfold prs;simp only[NF,NR,Nl,N6];constructor
 .rintro⟨x,⟨h1,h2⟩,rfl⟩;exact⟨x,h1,h2,rfl⟩
 rintro⟨x,h1,h2,rfl⟩;exact⟨x,⟨h1,h2⟩,rfl⟩
theorem Cz.mono {P Q:List (Int×Int)} {R:Int->Prop} (h:∀p∈P,p∈Q) {n:Int} (hc:Cz P R n):Cz Q R n:=by
 induction hc with
 |base h1=>exact .base h1
 |step h1 _ ih=>exact .step (h _ h1) ih
theorem Cz.dep {E:List Dp} {R:Int->Prop} {x:Dp} (hx:x∈E) (h:Cz (prs true true E) R x.t):Cz (prs true true E) R x.f:=.step (Xbo.2 ⟨x,hx,.inl rfl,rfl⟩) h
structure Dps (f:Fl) (E:List Dp):Prop where
 ctl:∀(j:Nat) a,(arL f.body (-1) 0)[j]? =some a->0<=a->(⟨a,j,1⟩:Dp)∈E
 dat:∀(o:Nat) q,(flL f.body)[o]? =some q->q.do_≠5->∀(k:Nat) (x:Nd),(grN f.body)[k]? =some x->x.k≠4->x.a=(o:Int)->∀d,Rc (grN f.body) (flL f.body) f.vars.length k d->Qr (flL f.body) d∈tmV q.term->(⟨d,o,0⟩:Dp)∈E
 rel:∀(o:Nat) q,(flL f.body)[o]? =some q->q.do_=5->∀g,f.hats[q.n.toNat]? =some g->∀v∈tmV g.term,(⟨((flL f.body).length:Int)+v,o,2⟩:Dp)∈E
section
variable {f:Fl} {E:List Dp} {R:Int->Prop}
open Classical in
end
end Go.Proofs.YtdajceakaakdoaaGreat
namespace Go.Proofs.YtdajceakaakdoaaGreat
open Go Go.Hl
open Tryz(prog)
open Classical in
noncomputable def czL (P:List (Int×Int)) (R:List Int) (N:Nat):List Bool:=(List.range N).map fun n:Nat=>decide (Cz P (fun x=>x∈R) (n:Int))
theorem X7r (P:List (Int×Int)) (R:List Int) (N:Nat):(czL P R N).length=N:=by simp[czL]
theorem czL_get {P:List (Int×Int)} {R:List Int} {N n:Nat} (h:n<N):(czL P R N)[n]? =some true↔Cz P (fun x=>x∈R) (n:Int):=by
 unfold czL;rw[Np,List.getElem?_range h];simp
theorem Xap {P:List (Int×Int)} {R:List Int} {N:Nat} {S:List Bool} (hl:S.length=N) (h:∀n:Nat,n<N->(S[n]? =some true↔Cz P (fun x=>x∈R) (n:Int))):S=czL P R N:=by
 apply NN;intro n;by_cases hn:n<N
 .obtain⟨a,h1,_⟩:=Xu (show n<S.length by omega);obtain⟨b,h2,_⟩:=Xu (show n<(czL P R N).length by rw[X7r];exact hn);have h3:=(h n hn).trans (czL_get (P:=P) (R:=R) hn).symm;rw[h1,h2]at h3⊢;cases a<;>cases b<;>simp_all
 rw[Nx (by omega),Nx (by rw[X7r];omega)]
def cfS:List Bool->Nat
 |[]=>0
 |b::l=>(if b=true then 0 else 1)+cfS l
theorem X7X:∀{S:List Bool} {k:Nat},S[k]? =some false->cfS (S.set k true)+1=cfS S
 |[],_,h=>by simp at h
 |b::S,0,h=>by cases h;simp[cfS];omega
 |b::S,k+1,h=>by have:=X7X (S:=S) (k:=k) (by simpa using h);simp only[List.set_cons_succ,cfS];omega
theorem cf_rep (N:Nat):cfS (List.replicate N false)=N:=by
 induction N with
 |zero=>rfl
 |succ N ih=>rw[List.replicate_succ,cfS,ih];simp;omega
theorem ZL {S:List Bool} {k:Nat} (h:k<S.length) (n:Nat):(S.set k true)[n]? =some true↔n=k\/S[n]? =some true:=by
 rw[NY];by_cases e:k=n
 .subst e;simp[h]
 rw[N7 e];constructor
 .exact .inr
 rintro(h1|h1)
 .exact absurd h1.symm e
 exact h1
def nxF (P:List (Int×Int)) (n:Int):List Int:=(P.filter fun p=>decide (p.1=n)).map (·.2)
theorem X82 {P:List (Int×Int)} {n x:Int}:x∈nxF P n↔(n,x)∈P:=by
 unfold nxF;rw[NF];constructor
 .rintro⟨⟨a,b⟩,h,rfl⟩;obtain⟨h1,h2⟩:=NR.1 h;have h2:a=n:=by simpa using h2
  exact h2▸h1
 intro h;exact⟨(n,x),NR.2 ⟨h,by simp⟩,rfl⟩
theorem X3r (P:List (Int×Int)) (n:Int):(nxF P n).length<=P.length:=by rw[nxF,NO];exact DC ..
theorem X9y (P:List (Int×Int)) (a b n:Int):nxF (P++[(a,b)]) n=if a=n then nxF P n++[b] else nxF P n:=by
 unfold nxF;rw[Dl,Dr];by_cases h:a=n<;>simp[h]
def inP (N:Nat) (P:List (Int×Int)):Prop:=∀p∈P,(0<=p.1/\p.1<N)/\(0<=p.2/\p.2<N)
structure Wk (N:Nat) (P:List (Int×Int)) (R:List Int) (S:List Bool) (W:List Int):Prop where
 len:S.length=N
 snd:∀n:Nat,S[n]? =some true->Cz P (fun x=>x∈R) (n:Int)
 wk:∀x∈W,(0<=x/\x<N)/\Cz P (fun x=>x∈R) x
 base:∀x∈R,x∈W\/S[x.toNat]? =some true
 cls:∀a b:Int,(a,b)∈P->S[a.toNat]? =some true->b∈W\/S[b.toNat]? =some true
 bd:cfS S*(P.length+1)+W.length<=N*(P.length+1)+R.length
theorem Wk.init {N:Nat} {P:List (Int×Int)} {R:List Int} (hR:∀x∈R,0<=x/\x<N):Wk N P R (List.replicate N false) R where
 len:=by simp
 snd:=fun n h=>by have:=N3 h;simp at this
 wk:=fun x hx=>⟨hR x hx,.base hx⟩
 base:=fun x hx=>.inl hx
 cls:=fun a b _ h=>by have:=N3 h;simp at this
 bd:=by rw[cf_rep];exact NK _
theorem Wk.skip {N:Nat} {P:List (Int×Int)} {R:List Int} {S:List Bool} {W:List Int} {x:Int} (h:Wk N P R S (W++[x])) (hx:S[x.toNat]? =some true):Wk N P R S W where
 len:=h.len
 snd:=h.snd
 wk:=fun y hy=>h.wk y (by simp[hy])
 base:=fun y hy=>by
  rcases h.base y hy with h1|h1
  .rcases Ng.1 h1 with h1|h1
   .exact .inl h1
   rw[Nk.1 h1];exact .inr hx
  exact .inr h1
 cls:=fun a b hab ha=>by
  rcases h.cls a b hab ha with h1|h1
  .rcases Ng.1 h1 with h1|h1
   .exact .inl h1
   rw[Nk.1 h1];exact .inr hx
  exact .inr h1
 bd:=by have:=h.bd;rw[N9,List.length_singleton]at this;omega
theorem Wk.add {N:Nat} {P:List (Int×Int)} {R:List Int} {S:List Bool} {W:List Int} {x:Int} (hP:inP N P) (h:Wk N P R S (W++[x])) (hx:S[x.toNat]? =some false):Wk N P R (S.set x.toNat true) (W++nxF P x):=by
 obtain⟨⟨h0,h1⟩,hc⟩:=h.wk x (by simp);have hlt:x.toNat<S.length:=by rw[h.len];omega
 have hxx:((x.toNat:Nat):Int)=x:=by omega
 have hcf:=X7X hx;have hbd:=h.bd;have hnx:=X3r P x;refine⟨by rw[DF];exact h.len,fun n hn=>?_,fun y hy=>?_,fun y hy=>?_,fun a b hab ha=>?_,?_⟩
 .rcases(ZL hlt n).1 hn with rfl|hn
  .rw[hxx];exact hc
  exact h.snd n hn
 .rcases Ng.1 hy with hy|hy
  .exact h.wk y (by simp[hy])
  exact⟨(hP _ (X82.1 hy)).2,.step (X82.1 hy) hc⟩
 .rcases h.base y hy with h2|h2
  .rcases Ng.1 h2 with h2|h2
   .exact .inl (by simp[h2])
   rw[Nk.1 h2];exact .inr ((ZL hlt _).2 (.inl rfl))
  exact .inr ((ZL hlt _).2 (.inr h2))
 .rcases(ZL hlt _).1 ha with e|ha
  .have:=(hP _ hab).1;have e:a=x:=by simp only at this;omega
   subst e;exact .inl (List.mem_append_right _ (X82.2 hab))
  rcases h.cls a b hab ha with h2|h2
  .rcases Ng.1 h2 with h2|h2
   .exact .inl (by simp[h2])
   rw[Nk.1 h2];exact .inr ((ZL hlt _).2 (.inl rfl))
  exact .inr ((ZL hlt _).2 (.inr h2))
 rw[<-hcf,NP,N9,List.length_singleton]at hbd;rw[N9];omega
theorem Wk.lt {N:Nat} {P:List (Int×Int)} {R:List Int} {S:List Bool} {W:List Int} {x:Int} (hx:S[x.toNat]? =some false):cfS (S.set x.toNat true)*(P.length+1)+(W++nxF P x).length<cfS S*(P.length+1)+(W++[x]).length:=by
 have hcf:=X7X hx;have hnx:=X3r P x;rw[<-hcf,NP,N9,N9,List.length_singleton];omega
theorem Wk.done {N:Nat} {P:List (Int×Int)} {R:List Int} {S:List Bool} (hP:inP N P) (hR:∀x∈R,0<=x/\x<N) (h:Wk N P R S []):S=czL P R N:=by
 refine Xap h.len fun n hn=>⟨h.snd n,fun hc=>?_⟩
 have key:∀{x:Int},Cz P (fun x=>x∈R) x->S[x.toNat]? =some true:=by
  intro x hx
  induction hx with
  |base hb=>exact(h.base _ hb).resolve_left (by simp)
  |step hab _ ih=>exact(h.cls _ _ hab ih).resolve_left (by simp)
 simpa using key hc
structure Rn (N:Nat) (P:List (Int×Int)) (R:List Int) (S:List Bool):Prop where
 len:S.length=N
 snd:∀n:Nat,S[n]? =some true->Cz P (fun x=>x∈R) (n:Int)
 base:∀x∈R,S[x.toNat]? =some true
theorem Rn.add {N:Nat} {P:List (Int×Int)} {R:List Int} {S:List Bool} {a b:Int} (hP:inP N P) (h:Rn N P R S) (hab:(a,b)∈P) (ha:S[a.toNat]? =some true):Rn N P R (S.set b.toNat true):=by
 obtain⟨⟨h0,h1⟩,h2,h3⟩:=hP _ hab;simp only at h0 h1 h2 h3;have hlt:b.toNat<S.length:=by rw[h.len];omega
 have hbb:((b.toNat:Nat):Int)=b:=by omega
 have haa:((a.toNat:Nat):Int)=a:=by omega
 refine⟨by rw[DF];exact h.len,fun n hn=>?_,fun y hy=>(ZL hlt _).2 (.inr (h.base y hy))⟩;rcases(ZL hlt n).1 hn with rfl|hn
 .rw[hbb];exact .step hab (haa▸h.snd _ ha)
 exact h.snd n hn
structure Ri (N:Nat) (P:List (Int×Int)) (R:List Int) (S0 S:List Bool) (grown:Bool) (Q:List (Int×Int)):Prop where
 rn:Rn N P R S
 le:cfS S<=cfS S0
 up:grown=true->cfS S<cfS S0
 same:grown=false->S=S0/\∀a b,(a,b)∈Q->S[a.toNat]? =some true->S[b.toNat]? =some true
theorem Ri.mono {N:Nat} {P:List (Int×Int)} {R:List Int} {S0 S:List Bool} {g:Bool} {Q Q':List (Int×Int)} (h:Ri N P R S0 S g Q) (hq:∀a b,(a,b)∈Q'->(a,b)∈Q\/¬S[a.toNat]? =some true\/S[b.toNat]? =some true):Ri N P R S0 S g Q':=by
 refine⟨h.rn,h.le,h.up,fun hg=>⟨(h.same hg).1,fun a b hab ha=>?_⟩⟩;rcases hq a b hab with h1|h1|h1
 .exact(h.same hg).2 a b h1 ha
 .exact absurd ha h1
 exact h1
theorem Ri.add {N:Nat} {P:List (Int×Int)} {R:List Int} {S0 S:List Bool} {g:Bool} {Q Q':List (Int×Int)} {a b:Int} (hP:inP N P) (h:Ri N P R S0 S g Q) (hab:(a,b)∈P) (ha:S[a.toNat]? =some true) (hb:S[b.toNat]? =some false):Ri N P R S0 (S.set b.toNat true) true Q':=by
 have:=X7X hb;have:=h.le;exact⟨h.rn.add hP hab ha,by omega,fun _=>by omega,fun hg=>by cases hg⟩
theorem Ri.done {N:Nat} {P:List (Int×Int)} {R:List Int} {S0 S:List Bool} (h:Ri N P R S0 S false P):S=czL P R N:=by
 refine Xap h.rn.len fun n hn=>⟨h.rn.snd n,fun hc=>?_⟩
 have key:∀{x:Int},Cz P (fun x=>x∈R) x->S[x.toNat]? =some true:=by
  intro x hx
  induction hx with
  |base hb=>exact h.rn.base _ hb
  |step hab _ ih=>exact(h.same rfl).2 _ _ hab ih
 simpa using key hc
theorem prs_snoc (back rel:Bool) (E:List Dp) (x:Dp):prs back rel (E++[x])=prs back rel E++(if(rel||decide (x.k≠2))=true then [if back=true then(x.t,x.f)else(x.f,x.t)] else []):=by
 unfold prs;rw[Dl,Dr];by_cases h:(rel||decide (x.k≠2))=true
 .simp only[List.filter_cons,h,Nf,List.filter_nil,Ni,Nr]
 simp only[List.filter_cons,h,Nc,List.filter_nil,Nr];simp
theorem X7D (back rel:Bool) (E:List Dp):(prs back rel E).length<=E.length:=by rw[prs,NO];exact DC ..
theorem prs_in {back rel:Bool} {E:List Dp} {N:Nat} (h:∀e∈E,(0<=e.f/\e.f<N)/\(0<=e.t/\e.t<N)):inP N (prs back rel E):=by
 intro p hp;obtain⟨x,hx,_,rfl⟩:=Xbo.1 hp;have:=h x hx;cases back
 .exact⟨this.1,this.2⟩
 exact⟨this.2,this.1⟩
end Go.Proofs.YtdajceakaakdoaaGreat
