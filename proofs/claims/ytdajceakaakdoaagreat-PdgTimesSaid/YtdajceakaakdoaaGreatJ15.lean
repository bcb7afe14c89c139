/- Contracts of functions and plain facts about what they compute. Conditions: as each theorem states. -/
import Derived.Test.YtdajceakaakdoaaGreatJ11
import Derived.Test.YtdajceakaakdoaaGreatH7
import Derived.Shelf.SlSortCmp.WholeK
import Derived.Shelf.SlicesG.Cmp
import Derived.KernelRfl
import Derived.Deep.LoopGhost
import Derived.Deep.DeepCutAuto
import Derived.Deep.DeepFit
import Derived.Deep.RegionLaw
import Derived.Lib.Small
import Derived.Lib.Walk
import Derived.Sort.Grow
import Derived.Lib.SliceRun
import Derived.Lib.SmallJoins
import Derived.WalkKit
import Derived.OwnWalk
set_option linter.unusedSimpArgs false
set_option linter.unusedVariables false
set_option linter.unnecessarySimpa false
set_option maxRecDepth 100000
set_option maxHeartbeats 2000000
namespace Go.Proofs.YtdajceakaakdoaaGreat
open Go Go.Hl Go.Shelf Go.Sort
open Tryz(prog)
def XbX:Ren:=⟨fun f=>if f=6 then 58 else if f=14 then 108 else if f=15 then 89 else if f=20 then 168 else if f=21 then 169 else if f=22 then 170 else if f=23 then 171 else if f=24 then 172 else if f=25 then 173 else if f=26 then 174 else if f=27 then 175 else if f=28 then 159 else if f=29 then 160 else if f=46 then 215 else if f=47 then 208 else if f=48 then 209 else if f=49 then 216 else if f=50 then 217 else if f=57 then 246 else f,fun t=>if t=0 then 0 else if t=3 then 3 else if t=4 then 4 else if t=5 then 5 else if t=9 then 9 else if t=22 then 37 else if t=25 then 126 else if t=39 then 162 else if t=45 then 216 else if t=46 then 217 else if t=50 then 142 else if t=53 then 223 else if t=55 then 225 else if t=66 then 273 else if t=70 then 277 else if t=76 then 304 else if t=77 then 227 else if t=24 then 51 else t,fun g=>g⟩
theorem sortDL:SlLaysF0.n6 prog XbX where
 mixed:=by kernel_rfl
 f6:=⟨Tryz.f58.name,by kernel_rfl,by kernel_rfl⟩
 f14:=⟨Tryz.f108.name,by kernel_rfl,by kernel_rfl⟩
 f15:=by kernel_rfl
 f20:=⟨Tryz.f168.name,by kernel_rfl,by kernel_rfl⟩
 f21:=⟨Tryz.f169.name,by kernel_rfl,by kernel_rfl⟩
 f22:=⟨Tryz.f170.name,by kernel_rfl,by kernel_rfl⟩
 f23:=⟨Tryz.f171.name,by kernel_rfl,by kernel_rfl⟩
 f24:=⟨Tryz.f172.name,by kernel_rfl,by kernel_rfl⟩
 f25:=⟨Tryz.f173.name,by kernel_rfl,by kernel_rfl⟩
 f26:=⟨Tryz.f174.name,by kernel_rfl,by kernel_rfl⟩
 f27:=⟨Tryz.f175.name,by kernel_rfl,by kernel_rfl⟩
 f28:=by kernel_rfl
 f29:=by kernel_rfl
 f46:=⟨Tryz.f215.name,by kernel_rfl,by kernel_rfl⟩
 f47:=by kernel_rfl
 f48:=by kernel_rfl
 f49:=⟨Tryz.f216.name,by kernel_rfl,by kernel_rfl⟩
 f50:=⟨Tryz.f217.name,by kernel_rfl,by kernel_rfl⟩
 f57:=⟨Tryz.f246.name,by kernel_rfl,by kernel_rfl⟩
 t0:=by kernel_rfl
 a0:=fun w=>rfl
 z0:=fun w=>rfl
 v0:=fun w=>rfl
 t3:=by kernel_rfl
 a3:=fun w=>rfl
 z3:=fun w=>rfl
 v3:=fun w=>rfl
 t4:=by kernel_rfl
 a4:=fun w=>rfl
 z4:=fun w=>rfl
 v4:=fun w=>rfl
 t5:=by kernel_rfl
 a5:=fun w=>rfl
 z5:=fun w=>rfl
 v5:=fun w=>rfl
 t9:=by kernel_rfl
 a9:=fun w=>rfl
 z9:=fun w=>rfl
 v9:=fun w=>rfl
 t22:=by kernel_rfl
 a22:=fun w=>rfl
 z22:=fun w=>rfl
 v22:=fun w=>rfl
 t25:=by kernel_rfl
 a25:=fun w=>rfl
 z25:=fun w=>rfl
 v25:=fun w=>rfl
 t39:=by kernel_rfl
 a39:=fun w=>rfl
 z39:=fun w=>rfl
 v39:=fun w=>rfl
 t45:=by kernel_rfl
 a45:=fun w=>rfl
 z45:=fun w=>rfl
 v45:=fun w=>rfl
 t46:=by kernel_rfl
 a46:=fun w=>rfl
 z46:=fun w=>rfl
 v46:=fun w=>rfl
 t50:=by kernel_rfl
 a50:=fun w=>rfl
 z50:=fun w=>rfl
 v50:=fun w=>rfl
 t53:=by kernel_rfl
 a53:=fun w=>rfl
 z53:=fun w=>rfl
 v53:=fun w=>rfl
 t55:=by kernel_rfl
 a55:=fun w=>rfl
 z55:=fun w=>rfl
 v55:=fun w=>rfl
 t66:=by kernel_rfl
 a66:=fun w=>rfl
 z66:=fun w=>rfl
 v66:=fun w=>rfl
 t70:=by kernel_rfl
 a70:=fun w=>rfl
 z70:=fun w=>rfl
 v70:=fun w=>rfl
 t76:=by kernel_rfl
 a76:=fun w=>rfl
 z76:=fun w=>rfl
 v76:=fun w=>rfl
 t77:=by kernel_rfl
 a77:=fun w=>rfl
 z77:=fun w=>rfl
 v77:=fun w=>rfl
end Go.Proofs.YtdajceakaakdoaaGreat
namespace Go.Proofs.YtdajceakaakdoaaGreat
open Go Go.Hl Go.Sort Go.Lib Go.Joins Go.Shelf
open Tryz(prog)
def cmpIR:Ren:=⟨fun f=>if f=5 then 110 else if f=7 then 176 else f,fun t=>if t=3 then 3 else if t=4 then 4 else if t=22 then 3 else t,fun g=>g⟩
def cmpKR:Ren:=⟨fun f=>if f=5 then 111 else if f=7 then 177 else f,fun t=>if t=3 then 3 else if t=4 then 4 else if t=22 then 49 else t,fun g=>g⟩
theorem cmpIL:SlLaysC2.n5 prog cmpIR where
 mixed:=by kernel_rfl
 f5:=⟨Tryz.f110.name,by kernel_rfl,by kernel_rfl⟩
 f7:=⟨Tryz.f176.name,by kernel_rfl,by kernel_rfl⟩
 t3:=by kernel_rfl
 a3:=fun w=>rfl
 z3:=fun w=>rfl
 v3:=fun w=>rfl
 t4:=by kernel_rfl
 a4:=fun w=>rfl
 z4:=fun w=>rfl
 v4:=fun w=>rfl
 t22:=by kernel_rfl
 a22:=fun w=>rfl
 z22:=fun w=>rfl
 v22:=fun w=>rfl
theorem cmpKL:SlLaysC2.n5 prog cmpKR where
 mixed:=by kernel_rfl
 f5:=⟨Tryz.f111.name,by kernel_rfl,by kernel_rfl⟩
 f7:=⟨Tryz.f177.name,by kernel_rfl,by kernel_rfl⟩
 t3:=by kernel_rfl
 a3:=fun w=>rfl
 z3:=fun w=>rfl
 v3:=fun w=>rfl
 t4:=by kernel_rfl
 a4:=fun w=>rfl
 z4:=fun w=>rfl
 v4:=fun w=>rfl
 t22:=by kernel_rfl
 a22:=fun w=>rfl
 z22:=fun w=>rfl
 v22:=fun w=>rfl
def orF (a b c:Int):Int:=if a≠0 then a else if b≠0 then b else c
theorem or_calls (b o:Nat) (a1 a2 a3:Int) (w:World) (h1:w.cell? ⟨b,o,none⟩=some (.int .i64 a1)) (h2:w.cell? ⟨b,o+1,none⟩=some (.int .i64 a2)) (h3:w.cell? ⟨b,o+2,none⟩=some (.int .i64 a3)):
  Calls prog 109 #[.slice (some ⟨b,o,none⟩) 3 3] w fun e w'=>e=.returned (.int .i64 (orF a1 a2 a3))/\w'=w:=by
 go_enter Tryz.func109,Tryz.ntmps109
 go_wp2
 go_loopg [8] (3 - 0) (fun k s8 wx=>∃m:Nat,m<=3/\k=3 - m/\s8=.int .i64 m/\wx=w/\(1<=m->a1=0)/\(2<=m->a2=0)/\(3<=m->a3=0))
 case atStart=>exact⟨0,by omega,rfl,rfl,rfl,by omega,by omega,by omega⟩
 case round=>
  obtain⟨m,hm,hg,rfl,hw,z1,z2,z3⟩:=hrel;subst hw;have HG:Aside (gk=3 - m):=hg;clear hg;have fin:∀(m:Nat) (a:Int),m<3->wr.cell? ⟨b,o+m,none⟩=some (.int .i64 a)->True:=fun _ _ _ _=>trivial;clear fin
  match m,hm with
  | 0,_=>
    clear z1 z2 z3;by_cases ha:a1=0
    .go_wp2
     go_roundg (3 - 1)
     case measure=>have:=HG.out;omega
     case rel=>exact⟨1,by omega,rfl,rfl,rfl,fun _=>ha,by omega,by omega⟩
    go_wp2
    go_ret
    exact⟨by simp[orF,ha],rfl⟩
  | 1,_=>
    have ha1:=z1 (by omega);clear z1 z2 z3;by_cases ha:a2=0
    .go_wp2
     go_roundg (3 - 2)
     case measure=>have:=HG.out;omega
     case rel=>exact⟨2,by omega,rfl,rfl,rfl,fun _=>ha1,fun _=>ha,by omega⟩
    go_wp2
    go_ret
    exact⟨by simp[orF,ha,ha1],rfl⟩
  | 2,_=>
    have ha1:=z1 (by omega);have ha2:=z2 (by omega);clear z1 z2 z3;by_cases ha:a3=0
    .go_wp2
     go_roundg (3 - 3)
     case measure=>have:=HG.out;omega
     case rel=>exact⟨3,by omega,rfl,rfl,rfl,fun _=>ha1,fun _=>ha2,fun _=>ha⟩
    go_wp2
    go_ret
    exact⟨by simp[orF,ha1,ha2],rfl⟩
  | 3,_=>
    have ha1:=z1 (by omega);have ha2:=z2 (by omega);have ha3:=z3 (by omega);clear z1 z2 z3
    go_wp2
    go_ret
    exact⟨by simp[orF,ha1,ha2,ha3],rfl⟩
def dpE (x:Dp):List Value:=[.int .i64 x.f,.int .i64 x.t,.int .i64 x.k]
def X5x (x y:Dp):Int:=orF (Lib.compareInt x.f y.f) (Lib.compareInt x.t y.t) (Lib.compareInt x.k y.k)
structure TRc (n:Nat) (base vals:List (Nat×Nat×Value)) (wd:List Nat->World) (R:List Nat) (a:Act) (w:World):Prop where
 sz:a.tmps.size=n
 df:a.defers=[]
 bs:∀m∈base,a.eval (.tmp m.2.1)=m.2.2
 vs:∀m∈vals,m.1∉R->a.eval (.tmp m.2.1)=m.2.2
 wd:w=wd R
theorem TRc.put {n:Nat} {base vals:List (Nat×Nat×Value)} {wd:List Nat->World} {R:List Nat} {a:Act} {w w':World} (h:TRc n base vals wd R a w) (i d:Nat) (v:Value) (hd:d<n) (hb:∀m∈base,m.2.1≠d) (hu:∀m∈vals,(m.1≠i->m.2.1≠d)/\(m.1=i->m.2.1=d/\m.2.2=v)) (hw:w'=wd (Qw R i)):TRc n base vals wd (Qw R i) (a.put (some d) v) w':=by
 have hs:d<a.tmps.size:=by rw[h.sz];exact hd
 refine⟨by simp[Act.put,h.sz],h.df,fun m hm=>?_,fun m hm hr=>?_,hw⟩
 .rw[X0x (by simp[neT,hb m hm])];exact h.bs m hm
 by_cases e:m.1=i
 .obtain⟨e1,e2⟩:=(hu m hm).2 e;rw[e1,e2,X1m hs]
 rw[X0x (by simp[neT,(hu m hm).1 e])];refine h.vs m hm fun hR=>hr ?_;rw[Qf];exact⟨hR,e⟩
theorem X2D {P:Program} {ops:Array Oper} {i:Nat} {o:Oper} {a:Act} {w:World} {Q:Exit->Act->World->Prop} {Kc:Act->World->Prop} {f:FuncId} {args:Array Value} {v:Value} (hi:ops[i]? =some o) (hg:o.guard=none) (hrun:(execOp a.eval o).run P w=.ok (.enter f args) w)
  (hc:Calls P f args w fun e w'=>e=.returned v/\w'=w) (hk:Kc (a.put o.dst v) w):wpOp P ops Q i Kc a w:=by
 unfold wpOp;rw[hi];simp only;have hwant:Region.wanted o (yielded ops a.tmps)=true:=by unfold Region.wanted;rw[hg]
 rw[hwant];simp only[Nj];refine .inl ?_;unfold Oper.wp;rw[hrun,Oper.upon_enter];refine hc.mono ?_;rintro e w' ⟨rfl,rfl⟩;exact hk
theorem X6R {P:Program} {t:TypeId} {d:TypeDesc} (hd:P.underlying t=some d) (hg:X7I d=false) {b o:Nat} {v:Value} {w:World} (h:w.cell? ⟨b,o,none⟩=some v):(Instr.loadAt t (.pointer (some ⟨b,o,none⟩))).run P w=.ok v w:=by
 simp[Instr.loadAt,Instr.sureAddr,loadVar,Ws hd,hg,h]
theorem depU:∃fs fd0 fd1 fd2 i0 i1 i2,prog.underlying 51=some (.struct fs)/\fs[0]? =some fd0/\fs[1]? =some fd1/\fs[2]? =some fd2/\prog.info? fd0.type=some i0/\prog.info? fd1.type=some i1/\prog.info? fd2.type=some i2/\i0.size=1/\i1.size=1/\i2.size=1/\fd0.offset=0/\fd1.offset=1/\fd2.offset=2:=
 ⟨_,_,_,_,_,_,_,rfl,rfl,rfl,rfl,rfl,rfl,rfl,rfl,rfl,rfl,rfl,rfl,rfl⟩
theorem fA0 (b:Nat) (w:World):(Instr.fieldAt 51 (.pointer (some ⟨b,0,none⟩)) 0).run prog w=.ok (.pointer (some ⟨b,0,none⟩)) w:=by
 obtain⟨fs,fd0,fd1,fd2,i0,i1,i2,hu,h0,h1,h2,j0,j1,j2,s0,s1,s2,o0,o1,o2⟩:=depU;have:=QZ (w:=w) hu h0 j0 (by omega) b 0
 rwa [o0]at this
theorem fA1 (b:Nat) (w:World):(Instr.fieldAt 51 (.pointer (some ⟨b,0,none⟩)) 1).run prog w=.ok (.pointer (some ⟨b,1,none⟩)) w:=by
 obtain⟨fs,fd0,fd1,fd2,i0,i1,i2,hu,h0,h1,h2,j0,j1,j2,s0,s1,s2,o0,o1,o2⟩:=depU;have:=QZ (w:=w) hu h1 j1 (by omega) b 0
 rwa [o1]at this
theorem fA2 (b:Nat) (w:World):(Instr.fieldAt 51 (.pointer (some ⟨b,0,none⟩)) 2).run prog w=.ok (.pointer (some ⟨b,2,none⟩)) w:=by
 obtain⟨fs,fd0,fd1,fd2,i0,i1,i2,hu,h0,h1,h2,j0,j1,j2,s0,s1,s2,o0,o1,o2⟩:=depU;have:=QZ (w:=w) hu h2 j2 (by omega) b 0
 rwa [o2]at this
theorem ldI {b o:Nat} {v:Value} {w:World} (h:w.cell? ⟨b,o,none⟩=some v):(Instr.loadAt 3 (.pointer (some ⟨b,o,none⟩))).run prog w=.ok v w:=
 X6R (P:=prog) (t:=3) rfl rfl h
theorem ldK {b o:Nat} {v:Value} {w:World} (h:w.cell? ⟨b,o,none⟩=some v):(Instr.loadAt 49 (.pointer (some ⟨b,o,none⟩))).run prog w=.ok v w:=
 X6R (P:=prog) (t:=49) rfl rfl h
theorem cellsI (a:Int):(Value.int IntKind.i64 a).cells= #[Value.int IntKind.i64 a]:=rfl
theorem bS3 (a b c:Int) (w:World):(Instr.buildSlice 29 3 #[(0,.int .i64 a),(1,.int .i64 b),(2,.int .i64 c)]).run prog w=.ok (.slice (some ⟨w.heap.size,0,none⟩) 3 3) (w.alloc (Obj.cells #[.int .i64 a,.int .i64 b,.int .i64 c] 3)):=by
 have hu:prog.underlying 29=some (.slice 3):=rfl;obtain⟨i,z,hi,hz,h1,hz3⟩:∃i z,prog.info? 3=some i/\i.zero=some z/\i.size=1/\z=.int .i64 0:=⟨_,_,rfl,rfl,rfl,rfl⟩;have hr1:(Array.range 3)= #[0,1,2]:=by decide
 subst hz3;simp[Instr.buildSlice,run_underlying hu,sizeOf,zeroValue,typeInfo,hi,hz,h1,newRow];simp[Instr.fill,hr1,cellsI]
 done
theorem X79 (x y:Dp) (w:World) (hcI:∀(a b:Int) (w:World),Calls prog 110 #[.int .i64 a,.int .i64 b] w fun e w'=>e=.returned (.int .i64 (Lib.compareInt a b))/\w'=w)
  (hcK:∀(a b:Int) (w:World),Calls prog 111 #[.int .i64 a,.int .i64 b] w fun e w'=>e=.returned (.int .i64 (Lib.compareInt a b))/\w'=w):
  Calls prog 61 #[.agg (dpE x).toArray,.agg (dpE y).toArray] w fun e w'=>e=.returned (.int .i64 (X5x x y))/\∃q os',w'=grow (w.drewN q) os':=by
 obtain⟨xf,xt,xk⟩:=x;obtain⟨yf,yt,yk⟩:=y;simp only[dpE]
 go_enter Tryz.func61,Tryz.ntmps61
 go_wp2_with fail
 rename_i Q9 K9 hK9;have eI:∀args w,(callFunc 110 args).run prog w=.ok (.enter 110 args) w:=enters_of Tryz.func110 (by kernel_rfl) rfl;have eK:∀args w,(callFunc 111 args).run prog w=.ok (.enter 111 args) w:=enters_of Tryz.func111 (by kernel_rfl) rfl;have eO:∀args w,(callFunc 109 args).run prog w=.ok (.enter 109 args) w:=enters_of Tryz.func109 (by kernel_rfl) rfl;obtain⟨W1,hW1⟩:∃W1,(((w.alloc (Obj.cells #[Value.int IntKind.i64 xf,Value.int IntKind.i64 xt,Value.int IntKind.i64 xk] 51)).alloc (Obj.cells #[Value.int IntKind.i64 yf,Value.int IntKind.i64 yt,Value.int IntKind.i64 yk] 51)).drewN 1)=W1:=⟨_,rfl⟩;obtain⟨cf,hcf⟩:∃c,Lib.compareInt xf yf=c:=⟨_,rfl⟩;obtain⟨ct,hct⟩:∃c,Lib.compareInt xt yt=c:=⟨_,rfl⟩;obtain⟨ck,hck⟩:∃c,Lib.compareInt xk yk=c:=⟨_,rfl⟩;have c1:=fun w=>hcI xf yf w;have c2:=fun w=>hcI xt yt w;have c3:=fun w=>hcK xk yk w;rw[hcf]at c1;rw[hct]at c2;rw[hck]at c3;have hres:X5x ⟨xf,xt,xk⟩ ⟨yf,yt,yk⟩=orF cf ct ck:=by simp only[X5x,hcf,hct,hck]
 refine wp_ind (TR:=TRc 22 [(0,2,.pointer (some ⟨w.heap.size,0,none⟩)),(0,3,.pointer (some ⟨w.heap.size+1,0,none⟩))]
  [(0,5,.pointer (some ⟨w.heap.size,0,none⟩)),(1,6,.int .i64 xf),(2,7,.pointer (some ⟨w.heap.size+1,0,none⟩)),(3,8,.int .i64 yf),(4,9,.int .i64 cf),(5,10,.pointer (some ⟨w.heap.size,1,none⟩)),(6,11,.int .i64 xt),(7,12,.pointer (some ⟨w.heap.size+1,1,none⟩)),(8,13,.int .i64 yt),(9,14,.int .i64 ct),
   (10,15,.pointer (some ⟨w.heap.size,2,none⟩)),(11,16,.int .i64 xk),(12,17,.pointer (some ⟨w.heap.size+1,2,none⟩)),(13,18,.int .i64 yk),(14,19,.int .i64 ck),(15,20,.slice (some ⟨W1.heap.size,0,none⟩) 3 3),(16,21,.int .i64 (orF cf ct ck)),(17,4,.int .i64 (orF cf ct ck))]
  (fun R=>if 15∈R then W1 else W1.alloc (Obj.cells #[.int .i64 cf,.int .i64 ct,.int .i64 ck] 3))) rfl (by kernel_rfl) ?_ ?_ ?_
 .refine⟨rfl,rfl,?_,?_,?_⟩
  .intro m hm;simp at hm;rcases hm with rfl|rfl<;>rfl
  .intro m hm hr;simp at hm;rcases hm with rfl|rfl|rfl|rfl|rfl|rfl|rfl|rfl|rfl|rfl|rfl|rfl|rfl|rfl|rfl|rfl|rfl|rfl<;>exact absurd (by simp) hr
  rw[N8 (by simp),<-hW1];rfl
 .have hcell:∀(R:List Nat) (w1:World),w1=(if 15∈R then W1 else W1.alloc (Obj.cells #[.int .i64 cf,.int .i64 ct,.int .i64 ck] 3))->
   (∀(j:Nat) (v:Value), #[Value.int IntKind.i64 xf,Value.int IntKind.i64 xt,Value.int IntKind.i64 xk][j]? =some v->w1.cell? ⟨w.heap.size,j,none⟩=some v)/\
   (∀(j:Nat) (v:Value), #[Value.int IntKind.i64 yf,Value.int IntKind.i64 yt,Value.int IntKind.i64 yk][j]? =some v->w1.cell? ⟨w.heap.size+1,j,none⟩=some v):=by
   intro R w1 hw1
   have hx:∀(j:Nat) (v:Value), #[Value.int IntKind.i64 xf,Value.int IntKind.i64 xt,Value.int IntKind.i64 xk][j]? =some v->W1.cell? ⟨w.heap.size,j,none⟩=some v:=by
    intro j v hv;rw[<-hW1,World.cell?_drewN];exact cell?_alloc_some _ (by rw[cell_alloc_mark_at _ _ _ _ _ _ rfl];exact hv)
   have hy:∀(j:Nat) (v:Value), #[Value.int IntKind.i64 yf,Value.int IntKind.i64 yt,Value.int IntKind.i64 yk][j]? =some v->W1.cell? ⟨w.heap.size+1,j,none⟩=some v:=by
    intro j v hv;rw[<-hW1,World.cell?_drewN];rw[cell_alloc_mark_at _ _ _ _ _ _ (by simp)];exact hv
   rw[hw1];split
   .exact⟨hx,hy⟩
   exact⟨fun j v h=>cell?_alloc_some _ (hx j v h),fun j v h=>cell?_alloc_some _ (hy j v h)⟩
  intro R i o ho hiR hpre a w1 ht Kc hK;have hi18:i<18:=by have:=(NM.1 ho).1;simpa using this
  have e2:a.eval (.tmp 2)=.pointer (some ⟨w.heap.size,0,none⟩):=ht.bs (0,2,_) (by simp);have e3:a.eval (.tmp 3)=.pointer (some ⟨w.heap.size+1,0,none⟩):=ht.bs (0,3,_) (by simp);obtain⟨cx,cy⟩:=hcell R w1 ht.wd;have x0:=cx 0 _ rfl;have x1:=cx 1 _ rfl;have x2:=cx 2 _ rfl;have y0:=cy 0 _ rfl;have y1:=cy 1 _ rfl;have y2:=cy 2 _ rfl;have hput:=fun d v hd hb hu w' hw'=>ht.put i d v hd hb hu (w':=w') hw'
  match i,hi18 with
  | 0,_=>
    have ho0:=ho;cases ho;refine Qq (nx:=.value (.pointer (some ⟨w.heap.size,0,none⟩))) (v:=.pointer (some ⟨w.heap.size,0,none⟩)) (w':=w1) ho0 rfl ?_ (.inl rfl) (hK _ _ (hput 5 (.pointer (some ⟨w.heap.size,0,none⟩)) (by decide) (by simp) (by simp) _ ?_))
    .unfold execOp;simp[e2,fA0];done
    rw[ht.wd];simp[Qf]
  | 1,_=>
    have ho0:=ho;cases ho;have v5:a.eval (.tmp 5)=.pointer (some ⟨w.heap.size,0,none⟩):=ht.vs (0,5,_) (by simp) (hpre ⟨0,.data⟩ (by simp) rfl);refine Qq (nx:=.value (.int .i64 xf)) (v:=.int .i64 xf) (w':=w1) ho0 rfl ?_ (.inl rfl) (hK _ _ (hput 6 (.int .i64 xf) (by decide) (by simp) (by simp) _ ?_))
    .unfold execOp;simp[v5,ldI x0];done
    rw[ht.wd];simp[Qf]
  | 2,_=>
    have ho0:=ho;cases ho;refine Qq (nx:=.value (.pointer (some ⟨w.heap.size+1,0,none⟩))) (v:=.pointer (some ⟨w.heap.size+1,0,none⟩)) (w':=w1) ho0 rfl ?_ (.inl rfl) (hK _ _ (hput 7 (.pointer (some ⟨w.heap.size+1,0,none⟩)) (by decide) (by simp) (by simp) _ ?_))
    .unfold execOp;simp[e3,fA0];done
    rw[ht.wd];simp[Qf]
  | 3,_=>
    have ho0:=ho;cases ho;have v7:a.eval (.tmp 7)=.pointer (some ⟨w.heap.size+1,0,none⟩):=ht.vs (2,7,_) (by simp) (hpre ⟨2,.data⟩ (by simp) rfl);refine Qq (nx:=.value (.int .i64 yf)) (v:=.int .i64 yf) (w':=w1) ho0 rfl ?_ (.inl rfl) (hK _ _ (hput 8 (.int .i64 yf) (by decide) (by simp) (by simp) _ ?_))
    .unfold execOp;simp[v7,ldI y0];done
    rw[ht.wd];simp[Qf]
  | 4,_=>
    have ho0:=ho;cases ho;have v6:a.eval (.tmp 6)=.int .i64 xf:=ht.vs (1,6,_) (by simp) (hpre ⟨1,.data⟩ (by simp) rfl);have v8:a.eval (.tmp 8)=.int .i64 yf:=ht.vs (3,8,_) (by simp) (hpre ⟨3,.data⟩ (by simp) rfl);refine X2D (v:=.int .i64 cf) ho0 rfl (by unfold execOp;simp[resolve,invoke,Deferred.ofValue,v6,v8];rfl) (c1 w1) (hK _ _ (hput 9 (.int .i64 cf) (by decide) (by simp) (by simp) _ ?_))
    all_goals first|(rw[ht.wd];simp[Qf];done)|skip
  | 5,_=>
    have ho0:=ho;cases ho;refine Qq (nx:=.value (.pointer (some ⟨w.heap.size,1,none⟩))) (v:=.pointer (some ⟨w.heap.size,1,none⟩)) (w':=w1) ho0 rfl ?_ (.inl rfl) (hK _ _ (hput 10 (.pointer (some ⟨w.heap.size,1,none⟩)) (by decide) (by simp) (by simp) _ ?_))
    .unfold execOp;simp[e2,fA1];done
    rw[ht.wd];simp[Qf]
  | 6,_=>
    have ho0:=ho;cases ho;have v10:a.eval (.tmp 10)=.pointer (some ⟨w.heap.size,1,none⟩):=ht.vs (5,10,_) (by simp) (hpre ⟨5,.data⟩ (by simp) rfl);refine Qq (nx:=.value (.int .i64 xt)) (v:=.int .i64 xt) (w':=w1) ho0 rfl ?_ (.inl rfl) (hK _ _ (hput 11 (.int .i64 xt) (by decide) (by simp) (by simp) _ ?_))
    .unfold execOp;simp[v10,ldI x1];done
    rw[ht.wd];simp[Qf]
  | 7,_=>
    have ho0:=ho;cases ho;refine Qq (nx:=.value (.pointer (some ⟨w.heap.size+1,1,none⟩))) (v:=.pointer (some ⟨w.heap.size+1,1,none⟩)) (w':=w1) ho0 rfl ?_ (.inl rfl) (hK _ _ (hput 12 (.pointer (some ⟨w.heap.size+1,1,none⟩)) (by decide) (by simp) (by simp) _ ?_))
    .unfold execOp;simp[e3,fA1];done
    rw[ht.wd];simp[Qf]
  | 8,_=>
    have ho0:=ho;cases ho;have v12:a.eval (.tmp 12)=.pointer (some ⟨w.heap.size+1,1,none⟩):=ht.vs (7,12,_) (by simp) (hpre ⟨7,.data⟩ (by simp) rfl);refine Qq (nx:=.value (.int .i64 yt)) (v:=.int .i64 yt) (w':=w1) ho0 rfl ?_ (.inl rfl) (hK _ _ (hput 13 (.int .i64 yt) (by decide) (by simp) (by simp) _ ?_))
    .unfold execOp;simp[v12,ldI y1];done
    rw[ht.wd];simp[Qf]
  | 9,_=>
    have ho0:=ho;cases ho;have v11:a.eval (.tmp 11)=.int .i64 xt:=ht.vs (6,11,_) (by simp) (hpre ⟨6,.data⟩ (by simp) rfl);have v13:a.eval (.tmp 13)=.int .i64 yt:=ht.vs (8,13,_) (by simp) (hpre ⟨8,.data⟩ (by simp) rfl);refine X2D (v:=.int .i64 ct) ho0 rfl (by unfold execOp;simp[resolve,invoke,Deferred.ofValue,v11,v13];rfl) (c2 w1) (hK _ _ (hput 14 (.int .i64 ct) (by decide) (by simp) (by simp) _ ?_))
    all_goals first|(rw[ht.wd];simp[Qf];done)|skip
  | 10,_=>
    have ho0:=ho;cases ho;refine Qq (nx:=.value (.pointer (some ⟨w.heap.size,2,none⟩))) (v:=.pointer (some ⟨w.heap.size,2,none⟩)) (w':=w1) ho0 rfl ?_ (.inl rfl) (hK _ _ (hput 15 (.pointer (some ⟨w.heap.size,2,none⟩)) (by decide) (by simp) (by simp) _ ?_))
    .unfold execOp;simp[e2,fA2];done
    rw[ht.wd];simp[Qf]
  | 11,_=>
    have ho0:=ho;cases ho;have v15:a.eval (.tmp 15)=.pointer (some ⟨w.heap.size,2,none⟩):=ht.vs (10,15,_) (by simp) (hpre ⟨10,.data⟩ (by simp) rfl);refine Qq (nx:=.value (.int .i64 xk)) (v:=.int .i64 xk) (w':=w1) ho0 rfl ?_ (.inl rfl) (hK _ _ (hput 16 (.int .i64 xk) (by decide) (by simp) (by simp) _ ?_))
    .unfold execOp;simp[v15,ldK x2];done
    rw[ht.wd];simp[Qf]
  | 12,_=>
    have ho0:=ho;cases ho;refine Qq (nx:=.value (.pointer (some ⟨w.heap.size+1,2,none⟩))) (v:=.pointer (some ⟨w.heap.size+1,2,none⟩)) (w':=w1) ho0 rfl ?_ (.inl rfl) (hK _ _ (hput 17 (.pointer (some ⟨w.heap.size+1,2,none⟩)) (by decide) (by simp) (by simp) _ ?_))
    .unfold execOp;simp[e3,fA2];done
    rw[ht.wd];simp[Qf]
  | 13,_=>
    have ho0:=ho;cases ho;have v17:a.eval (.tmp 17)=.pointer (some ⟨w.heap.size+1,2,none⟩):=ht.vs (12,17,_) (by simp) (hpre ⟨12,.data⟩ (by simp) rfl);refine Qq (nx:=.value (.int .i64 yk)) (v:=.int .i64 yk) (w':=w1) ho0 rfl ?_ (.inl rfl) (hK _ _ (hput 18 (.int .i64 yk) (by decide) (by simp) (by simp) _ ?_))
    .unfold execOp;simp[v17,ldK y2];done
    rw[ht.wd];simp[Qf]
  | 14,_=>
    have ho0:=ho;cases ho;have v16:a.eval (.tmp 16)=.int .i64 xk:=ht.vs (11,16,_) (by simp) (hpre ⟨11,.data⟩ (by simp) rfl);have v18:a.eval (.tmp 18)=.int .i64 yk:=ht.vs (13,18,_) (by simp) (hpre ⟨13,.data⟩ (by simp) rfl);refine X2D (v:=.int .i64 ck) ho0 rfl (by unfold execOp;simp[resolve,invoke,Deferred.ofValue,v16,v18];rfl) (c3 w1) (hK _ _ (hput 19 (.int .i64 ck) (by decide) (by simp) (by simp) _ ?_))
    all_goals first|(rw[ht.wd];simp[Qf];done)|skip
  | 15,_=>
    have ho0:=ho;cases ho;have v9:a.eval (.tmp 9)=.int .i64 cf:=ht.vs (4,9,_) (by simp) (hpre ⟨4,.data⟩ (by simp) rfl);have v14:a.eval (.tmp 14)=.int .i64 ct:=ht.vs (9,14,_) (by simp) (hpre ⟨9,.data⟩ (by simp) rfl);have v19:a.eval (.tmp 19)=.int .i64 ck:=ht.vs (14,19,_) (by simp) (hpre ⟨14,.data⟩ (by simp) rfl);refine Qq (nx:=.value (.slice (some ⟨W1.heap.size,0,none⟩) 3 3)) (v:=.slice (some ⟨W1.heap.size,0,none⟩) 3 3) (w':=w1.alloc (Obj.cells #[.int .i64 cf,.int .i64 ct,.int .i64 ck] 3)) ho0 rfl ?_ (.inl rfl) (hK _ _ (hput 20 (.slice (some ⟨W1.heap.size,0,none⟩) 3 3) (by decide) (by simp) (by simp) _ ?_))
    .have h15:w1=W1:=by rw[ht.wd,N8 hiR]
     subst h15;unfold execOp;simp[v9,v14,v19,bS3]
     done
    have h15:w1=W1:=by rw[ht.wd,N8 hiR]
    rw[h15];simp[Qf]
  | 16,_=>
    have ho0:=ho;cases ho;have v20:a.eval (.tmp 20)=.slice (some ⟨W1.heap.size,0,none⟩) 3 3:=ht.vs (15,20,_) (by simp) (hpre ⟨15,.data⟩ (by simp) rfl);refine X2D (v:=.int .i64 (orF cf ct ck)) ho0 rfl (by unfold execOp;simp[resolve,invoke,Deferred.ofValue,v20];rfl) (or_calls W1.heap.size 0 cf ct ck w1 ?_ ?_ ?_) (hK _ _ (hput 21 (.int .i64 (orF cf ct ck)) (by decide) (by simp) (by simp) _ ?_))
    .rw[ht.wd,N7 (hpre ⟨15,.data⟩ (by simp) rfl),cell_alloc_mark_at _ _ _ _ _ _ rfl];rfl
    .rw[ht.wd,N7 (hpre ⟨15,.data⟩ (by simp) rfl),cell_alloc_mark_at _ _ _ _ _ _ rfl];rfl
    .rw[ht.wd,N7 (hpre ⟨15,.data⟩ (by simp) rfl),cell_alloc_mark_at _ _ _ _ _ _ rfl];rfl
    rw[ht.wd];simp[Qf]
  | 17,_=>
    have ho0:=ho;cases ho;have v21:a.eval (.tmp 21)=.int .i64 (orF cf ct ck):=ht.vs (16,21,_) (by simp) (hpre ⟨16,.data⟩ (by simp) rfl);refine Qq (nx:=.value (.int .i64 (orF cf ct ck))) (v:=.int .i64 (orF cf ct ck)) (w':=w1) ho0 rfl ?_ (.inl rfl) (hK _ _ (hput 4 (.int .i64 (orF cf ct ck)) (by decide) (by simp) (by simp) _ ?_))
    .unfold execOp;simp[v21];done
    rw[ht.wd];simp[Qf]
 intro a' w' ht;have e4:a'.eval (.tmp 4)=.int .i64 (orF cf ct ck):=ht.vs (17,4,_) (by simp) (by simp);have hw:=ht.wd;rw[N7 (by simp)]at hw;refine hK9 a' w' (wp_ret ?_);refine bodyPost_ret (v:=.int .i64 (orF cf ct ck)) ?_ ht.df ?_
 .rw[<-e4];exact results_tmp rfl _ _ _
 refine⟨by rw[hres],1, #[Obj.cells #[Value.int IntKind.i64 xf,Value.int IntKind.i64 xt,Value.int IntKind.i64 xk] 51,Obj.cells #[Value.int IntKind.i64 yf,Value.int IntKind.i64 yt,Value.int IntKind.i64 yk] 51,Obj.cells #[.int .i64 cf,.int .i64 ct,.int .i64 ck] 3],?_⟩;rw[hw,<-hW1];simp only[alloc_eq_grow];show grow (grow (grow (w.drewN 1) _) _) _=_;rw[grow_grow,grow_grow];rfl
instance instDp:Inhabited Dp:=⟨⟨0,0,0⟩⟩
theorem XaX (x y:Dp) (w:World):Calls prog 61 #[.agg (dpE x).toArray,.agg (dpE y).toArray] w fun e w'=>e=.returned (.int .i64 (X5x x y))/\∃q os',w'=grow (w.drewN q) os':=
 X79 x y w (fun a b w=>AnyG.cmp_Compare_int cmpIL a b w) (fun a b w=>AnyG.cmp_Compare_int cmpKL a b w)
theorem X4B (x y:Dp):ltOf X5x x y=dpB x y:=by
 rw[Dl,Ze];unfold ltOf X5x orF Lib.compareInt;simp only[N5]
 repeat' split
 all_goals omega
theorem swo_dpB:SWO (ltOf X5x):=by
 refine⟨fun x=>?_,fun x y z h1 h2=>?_,fun x y z h1 h2=>?_⟩
 .rw[X4B,<-Bool.not_eq_true,Ze];omega
 .rw[X4B,Ze]at*;omega
 rw[X4B,<-Bool.not_eq_true,Ze]at*;omega
structure RowOutD (w w':World) (g o:Nat) (ys:List Dp):Prop where
 os:w'.os=w.os
 tape:w'.tape=w.tape
 output:w'.output=w.output
 size:w.heap.size<=w'.heap.size
 other:∀k,k<w.heap.size->k≠g->w'.heap[k]? =w.heap[k]?
 cells:∀cur t x,w.heap[g]? =some (.cells cur t x)->∃cur':Array Value,w'.heap[g]? =some (.cells cur' t x)/\cur'.size=cur.size/\∀k j y,ys[k]? =some y->j<3->o+(k*3+j)<cur.size->cur'[o+(k*3+j)]? =(dpE y)[j]?
theorem X22 (ys:List Dp) (k j:Nat) (y:Dp) (hk:ys[k]? =some y) (hj:j<3):(flatK dpE 3 ys.toArray)[k*3+j]! =(dpE y)[j]! :=by
 have hlt:=(N6.1 hk).1;rw[get_flatK _ _ _ _ (by simp;omega),show(k*3+j)/3=k by omega,show(k*3+j)%3=j by omega]
 have:ys.toArray[k]! =y:=by
  rw[getElem!_pos ys.toArray k (by simpa using hlt)];have:=(N6.1 hk).2;simpa using this
 rw[this]
theorem Xce (y:Dp) (j:Nat) (hj:j<3):(dpE y)[j]? =some (dpE y)[j]! :=by
 rw[getElem!_pos (dpE y) j (by simpa[dpE]using hj)];exact Nz _
theorem X9O (w:World) (q g o:Nat) (os:Array Obj) (ys:List Dp) (hg:g<w.heap.size):RowOutD w (sortWorldK dpE 3 w g o q ys.toArray os) g o ys:=by
 have hsz:(putRow id (Sort.ahead w q) g o (flatK dpE 3 ys.toArray)).heap.size=w.heap.size:=by simp[putRow,mapBlock]
 refine⟨rfl,rfl,rfl,by simp only[sortWorldK,putRowK,grow,Array.size_append,hsz];omega,fun k hk hne=>?_,fun cur t x hc=>?_⟩
 .simp only[sortWorldK,putRowK];rw[heap_grow_old _ _ (by rw[hsz];exact hk)];simp only[putRow,mapBlock,heap_ahead,Du];rw[N7 fun h=>hne h.symm]
 refine⟨putCells id o (flatK dpE 3 ys.toArray) cur,?_,by simp[putCells],fun k j y hk hj hkc=>?_⟩
 .simp only[sortWorldK,putRowK];rw[heap_grow_old _ _ (by rw[hsz];exact hg)];simp only[putRow,mapBlock,heap_ahead,Du,Nj,hc];rfl
 have hlt:=(N6.1 hk).1;simp only[putCells,Array.getElem?_mapIdx,NC hkc,Option.map_some,Nat.add_sub_cancel_left];rw[N8 ⟨by omega,by simp;omega⟩,X22 ys k j y hk hj,Xce y j hj];rfl
theorem getRC_D {zs:List Dp} {a b:Nat} {d:CD} (h:XK (Qp zs) a b=some d):b<3/\∃y,zs[a]? =some y/\d=.lit (dpE y)[b]! :=by
 unfold XK Qp at h;rw[Nn]at h;cases hz:zs[a]? with
 |none=>rw[hz]at h;cases h
 | some n=>
   rw[hz]at h
   match b,h with
   |0,h=>cases h;exact⟨by omega,n,rfl,rfl⟩
   |1,h=>cases h;exact⟨by omega,n,rfl,rfl⟩
   |2,h=>cases h;exact⟨by omega,n,rfl,rfl⟩
   |b+3,h=>simp[Dp.enc]at h
theorem getRC_D' {zs:List Dp} {a b:Nat} {y:Dp} (h:zs[a]? =some y) (hb:b<3):XK (Qp zs) a b=some (.lit (dpE y)[b]!):=by
 unfold XK Qp;rw[Nn,h]
 match b,hb with
 |0,_=>rfl
 |1,_=>rfl
 |2,_=>rfl
theorem Xcn (y:Dp):∀v∈dpE y,v.oneCell'=true:=by
 intro v hv;simp only[dpE,Ng,Dk,or_false]at hv;rcases hv with rfl|rfl|rfl<;>rfl
theorem mem_dpE (y:Dp) (j:Nat) (hj:j<3):(dpE y)[j]! ∈dpE y:=by
 rw[getElem!_pos (dpE y) j (by simpa[dpE]using hj)];exact DC _
theorem X9q {zs:List Dp} (hn:zs.Nodup) {d':Array Dp} (hp:PermIn 0 zs.length zs.toArray d') (hs:SortedIn (ltOf X5x) 0 zs.length d'):d'.toList=WH zs:=by
 obtain⟨h1,_,h3⟩:=hp;have hsz:d'.size=zs.length:=by simpa using h1
 have e1:d'.extract 0 zs.length=d':=by rw[<-hsz];simp
 have e2:zs.toArray.extract 0 zs.length=zs.toArray:=by simp
 rw[e1,e2]at h3;have hnd:d'.toList.Nodup:=h3.nodup_iff.2 (by simpa using hn);refine XaE ?_ fun x=>by rw[h3.mem_iff]
 rw[List.pairwise_iff_getElem];intro i j hi hj hij;have:=hs i j (Nq _) hij (by simpa[hsz]using hj);rw[X4B,getElem!_pos d' j (by simpa using hj),getElem!_pos d' i (by simpa using hi),<-Bool.not_eq_true,Ze]at this;rw[Ze];have hne:d'.toList[i]≠d'.toList[j]:=List.pairwise_iff_getElem.1 hnd i j hi hj hij;simp only[Array.getElem_toList]at*;generalize d'[i]=a at*;generalize d'[j]=b at*;have:¬(a.f=b.f/\a.t=b.t/\a.k=b.k):=fun⟨e1,e2,e3⟩=>hne (by obtain⟨x,y,z⟩:=a;obtain⟨x',y',z'⟩:=b;simp only at e1 e2 e3;rw[e1,e2,e3]);omega
theorem Xat (zs:List Dp) (hn:zs.Nodup) (hl:zs.length<=17592186044416) (g o cap:Nat) (w:World) (hH:HoldsK dpE 3 w g o zs.toArray) (hg:g<w.heap.size):
  Calls prog 58 #[.slice (some ⟨g,o,none⟩) zs.length cap,.func (.func 61) #[] #[]] w fun e w'=>e=.returned (.tuple #[])/\RowOutD w w' g o (WH zs):=by
 have h:=AnyQ.slices_SortFunc (P:=prog) (ρ:=XbX) sortDL 3 (fun w=>rfl) (fun w=>rfl) dpE (fun _=>rfl) Xcn X5x swo_dpB 61 #[] g o cap zs.toArray w
  (enters_of Tryz.func61 (by kernel_rfl) rfl) (fun m os dk hs x y=>XaX x y _) hH hg (by simp;omega)
 refine(show Calls prog 58 #[.slice (some ⟨g,o,none⟩) zs.length cap,.func (.func 61) #[] #[]] w _ from h).mono ?_;rintro e w' ⟨rfl,d',n,os,hp,hs,rfl⟩;refine⟨rfl,?_⟩;have e:=X9q hn (by simpa using hp) (by simpa using hs);have:=X9O w n g o os (WH zs) hg;rw[<-e]at this⊢;simpa using this
theorem X7d (zs:List Dp) (hn:zs.Nodup):(WH zs).length=zs.length:=by
 refine(List.Perm.length_eq ?_);refine(List.perm_ext_iff_of_nodup ?_ hn).2 fun x=>X0e zs x;exact(X0Y zs).imp fun {a b} h e=>by rw[e,Ze]at h;omega
set_option maxHeartbeats 4000000
theorem Xb7 (p:Option Addr) (cap:Nat) (g:FuncId) (w:World):Calls prog 168 #[.slice p 0 cap,.int .i64 0,.int .i64 0,.func (.func g) #[] #[]] w fun e w'=>e=.returned (.tuple #[])/\w'=w:=by
 go_enter Tryz.func168,Tryz.ntmps168
 go_wp2
 refine wp_loop_rounds 1 ?_;rw[rounds_succ]
 go_wp2
 go_end0
 exact⟨rfl,rfl⟩
theorem XbG (p:Option Addr) (cap:Nat) (g:FuncId) (w:World):Calls prog 108 #[.slice p 0 cap,.int .i64 0,.int .i64 0,.int .i64 0,.func (.func g) #[] #[]] w fun e w'=>e=.returned (.tuple #[])/\w'=w:=by
 have e1:∀args w,(callFunc 168 args).run prog w=.ok (.enter 168 args) w:=enters_of Tryz.func168 (by kernel_rfl) rfl
 go_enter Tryz.func108,Tryz.ntmps108
 go_wp2
 refine wp_loop_rounds 1 ?_;rw[rounds_succ]
 go_wp2_with (go_at_fn 168;refine(Xb7 p cap g _).mono ?_;rintro e w' ⟨rfl,rfl⟩)
 refine bodyPost_ret (results_none rfl _ _ _) rfl ?_;exact⟨rfl,rfl⟩
theorem X90 (p:Option Addr) (cap:Nat) (g:FuncId) (w:World):Calls prog 58 #[.slice p 0 cap,.func (.func g) #[] #[]] w fun e w'=>e=.returned (.tuple #[])/\w'=w:=by
 have hLen:∀w,Calls prog 89 #[.int .u64 0] w fun e w'=>e=.returned (.int .i64 0)/\w'=w:=fun w=>Any.bits_Len (SlLaysF0.n15.bits (P:=prog) (ρ:=XbX) {sortDL with}) 0 w (by omega) (by omega);have e1:∀args w,(callFunc 89 args).run prog w=.ok (.enter 89 args) w:=enters_of Tryz.func89 (by kernel_rfl) rfl;have e2:∀args w,(callFunc 108 args).run prog w=.ok (.enter 108 args) w:=enters_of Tryz.func108 (by kernel_rfl) rfl
 go_enter Tryz.func58,Tryz.ntmps58
 go_wp2_with (first
  |(go_at_fn 89;refine(hLen _).mono ?_;rintro e w' ⟨rfl,rfl⟩)
  |(go_at_fn 108;refine(XbG p cap g _).mono ?_;rintro e w' ⟨rfl,rfl⟩))
 go_end0
 exact⟨rfl,rfl⟩
end Go.Proofs.YtdajceakaakdoaaGreat
namespace Go.Proofs.YtdajceakaakdoaaGreat
open Go Go.Hl
open Tryz(prog)
section
variable {N:List Nd} {steps:List St} {vars:List Vr} {nh:Nat} {hv hw:List Int} {K:Nat->Bool} {ar:List Int} {kO:Nat->Bool} {nd:Nat->Bool}
structure Need (N:List Nd) (steps:List St) (nv:Nat) (K nd:Nat->Bool) (hv hw:List Int):Prop where
 ent:∀(o:Nat) q,K o=true->steps[o]? =some q->∀(k:Nat) (x:Nd),N[k]? =some x->x.k≠4->x.a=(o:Int)->∀d,Rc N steps nv k d->Qk steps d∈tmV q.term->steps.length<=d->nd (d - steps.length)=true
 hat:∀(o:Nat) q,K o=true->steps[o]? =some q->q.do_=5->(hv[q.n.toNat]?).getD 0=(hw[q.n.toNat]?).getD 0
def R2 (K nd:Nat->Bool) (n nv:Nat) (x y:Sta×(Nat->Nat)):Prop:=
 x.1.outs=y.1.outs/\x.1.vals.length=nv/\y.1.vals.length=nv/\∀v,v<nv->(K (x.2 v)=true\/n<=x.2 v)->(K (y.2 v)=true\/n<=y.2 v)->x.2 v=y.2 v/\((K (x.2 v)=true\/nd v=true)->x.1.vals[v]? =y.1.vals[v]?)
theorem X8n {nv:Nat} (hs:Slc N steps nv ar K) (hne:Need N steps nv K nd hv hw) (hvn:vars.length=nv) {d c v n:Int} {t:Tm} {a b:List St} {bs:List Int} {o k:Nat} {x y:Sta×(Nat->Nat)} (hst:steps[o]? =some (.mk d c v n t a b bs)) (hwf:wfS vars nh (.mk d c v n t a b bs)=true) (hK:K o=true)
  {z:Nd} (hz:N[k]? =some z) (hz4:z.k≠4) (hza:z.a=(o:Int)) (hg:Gd N steps nv k x.2) (hg2:Gd N steps nv k y.2) (hr:R2 K nd steps.length nv x y):vT x.1.vals t=vT y.1.vals t:=by
 simp only[wfS,N3]at hwf;refine X6E t fun w hw2=>?_;obtain⟨w0,w1⟩:=X8O t hwf.1 w hw2;have hwv:((w.toNat:Nat):Int)=w:=by omega
 have key:∀D:Nat->Nat,Gd N steps nv k D->K (D w.toNat)=true\/(steps.length<=D w.toNat/\nd w.toNat=true):=by
  intro D hD;obtain⟨g1,g2⟩:=hD.all w.toNat (by omega);have hm:Qk steps (D w.toNat)∈tmV t:=by rw[g2,hwv];exact hw2
  by_cases hd:D w.toNat<steps.length
  .exact .inl (hs.src o _ hK hst k z hz hz4 hza _ g1 hm hd)
  have h1:=hne.ent o _ hK hst k z hz hz4 hza _ g1 hm (by omega)
  have h2:D w.toNat - steps.length=w.toNat:=by
   unfold Qk at g2;rw[Ny (by omega)]at g2;simp only at g2;omega
  rw[h2]at h1;exact .inr ⟨by omega,h1⟩
 have k1:=key x.2 hg;have k2:=key y.2 hg2;obtain⟨e1,e2⟩:=hr.2.2.2 w.toNat (by omega) (k1.imp id fun h=>h.1) (k2.imp id fun h=>h.1);exact e2 (k1.imp id fun h=>h.2)
end
end Go.Proofs.YtdajceakaakdoaaGreat
