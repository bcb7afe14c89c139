/- HmZM: part of an evaluator of Go code over abstract states, proved sound over the model; used by the proof of the claimed statement. Conditions: none. -/
import Derived.Test.YtdajceakaakdoaaGreatHmZL
import Derived.Test.YtdajceakaakdoaaGreatHmZG
set_option linter.unusedSimpArgs false
set_option linter.unusedVariables false
namespace Go.Hl
open Go Go.RowKit
def fnx (g:Operand→RV):Operand→RV
 | .func f=>.v (.one (.c (.fn f [])))
 |x=>g x
section
variable {P:Program}
theorem Qs.fns {ops:Array Oper} {k:Nat} {o:Oper} {s:HS} {d:Nat} {r:RV} {ob:Ob} (hi:ops[k]? =some o) (hg:o.guard=none) (hd:o.dst=some d) (hu:QY d s=true) (hok:XJ s (some d)=true) (h:evA P (fnx (opd s.regs)) d o.op=some (r,some ob)):
  Qs P ops k 1 s (fun u=>u=({s with objs:=ins d ob s.objs}:HS).put (some d) r):=by
 intro w0 B π F γ a w Q Xj hr hK
 have hx:∀x,X9 F γ w (fnx (opd s.regs) x) (a.eval x):=by
  intro x;cases x with
  |func f=>exact CRel.fn f [] [] rfl (by simp)
  |tmp t=>exact hr.opd (.tmp t)
  |const v=>exact hr.opd (.const v)
  |global g=>exact hr.opd (.global g)
 have hm:∀x,¬(fnx (opd s.regs) x).men d:=by
  intro x;cases x with
  |func f=>simp[fnx,RV.men,TV.men,CV.men]
  |tmp t=>exact X1e hu (.tmp t)
  |const v=>exact X1e hu (.const v)
  |global g=>exact X1e hu (.global g)
 obtain⟨ob',hob,v,w',hrun,hh,hrv,hsz,hk⟩:=X6h hr.heap hx hm (Ww hu) (ZW hu) h;cases hob;show wpOps P ops Q (k::Xj) a w;rw[wpOps_cons];unfold wpOp;rw[hi];simp only;have hwant:Region.wanted o (yielded ops a.tmps)=true:=by unfold Region.wanted;rw[hg]
 rw[hwant];simp only[if_true];refine .inl ?_;unfold Oper.wp;rw[hrun,Oper.upon_value,hd];refine hK _ F (upd γ d v) (a.put (some d) v) w' rfl (fun _ h=>h) (fun _ h=>.inl h) ?_;exact hr.step (dst:=some d) hok hh hrv fun k r v hl hr2=>(hr.heap.keepR hk hr2).upd (WT hu hl)
theorem RunsN.fns {ops:Array Oper} {l:List Oper} {s:HS} {K:HS→Prop} {o:Oper} {d:Nat} {r:RV} {ob:Ob} (hg:o.guard=none) (hd:o.dst=some d) (hu:QY d s=true) (hok:XJ s (some d)=true) (h:evA P (fnx (opd s.regs)) d o.op=some (r,some ob))
  (hr:RunsN P ops l (({s with objs:=ins d ob s.objs}:HS).put (some d) r) K):RunsN P ops (o::l) s K:=by
 refine .many (M:=fun u=>u=_) 1 (fun k hk=>?_) fun u hu=>by rw[hu];exact hr
 exact Qs.fns (hk 0 o rfl) hg hd hu hok h
theorem wpOp_gd {ops ops':Array Oper} {Q:Exit→Act→World→Prop} {i:Nat} {o:Oper} {a:Act} {w:World} {Kc:Act→World→Prop} (hi:ops[i]? =some o) (hw:Region.wanted o (yielded ops a.tmps)=true) (hi':ops'[i]? =some {o with guard:=none}) (h:wpOp P ops' Q i Kc a w):wpOp P ops Q i Kc a w:=by
 unfold wpOp at h⊢;rw[hi];rw[hi']at h;simp only at h⊢;have h2:Region.wanted {o with guard:=none} (yielded ops' a.tmps)=true:=by unfold Region.wanted;rfl
 rw[h2]at h;rw[hw];simp only[if_true]at h⊢;exact h
theorem Qs.callG {ops:Array Oper} {k:Nat} {o:Oper} {s:HS} {f:FuncId} {d:Nat} {objs objs':List (Nat×Ob)} {args:List TV} (ρ σ:Nat→Nat) {r:RV} (hi:ops[k]? =some o) (hg:Za ops o s=some true) (hc:gOfC s {o with guard:=none}=some (f,args.map (TV.ren ρ []),d))
  (hd:HandS ρ σ objs objs' s) (hcon:X4N P f objs args r objs') (ho:X3r (objs'.map (·.1)) r=true):Qs P ops k 1 s (fun u=>u=({s with objs:=Qf σ objs' (QP (objs.map fun p=>ρ p.1) s.objs)}:HS).put (some d) (r.ren σ [])):=by
 intro w0 B π F γ a w Q Xj hr hK;show wpOps P ops Q (k::Xj) a w;rw[wpOps_cons];refine wpOp_gd (ops':=Array.replicate (k+1) {o with guard:=none}) hi (X02 hr hg) (by simp) ?_;exact X78 (by simp) hr hc hd hcon ho fun F2 γ2 a2 w2 h3 h4 hr2=>hK _ F2 γ2 a2 w2 rfl h3 h4 hr2
theorem RunsN.callG {ops:Array Oper} {l:List Oper} {o:Oper} {s:HS} {K:HS→Prop} {f:FuncId} {d:Nat} {objs objs':List (Nat×Ob)} {args:List TV} (ρ σ:Nat→Nat) {r:RV} (hg:Za ops o s=some true) (hc:gOfC s {o with guard:=none}=some (f,args.map (TV.ren ρ []),d))
  (hd:HandS ρ σ objs objs' s) (hcon:X4N P f objs args r objs') (ho:X3r (objs'.map (·.1)) r=true) (hr:RunsN P ops l (({s with objs:=Qf σ objs' (QP (objs.map fun p=>ρ p.1) s.objs)}:HS).put (some d) (r.ren σ [])) K):RunsN P ops (o::l) s K:=by
 refine .many (M:=fun u=>u=_) 1 (fun k hk=>?_) fun u hu=>by rw[hu];exact hr
 exact Qs.callG ρ σ (hk 0 o rfl) hg hc hd hcon ho
end
end Go.Hl
