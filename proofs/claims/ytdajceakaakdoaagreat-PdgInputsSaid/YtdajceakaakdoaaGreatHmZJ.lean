/- HmZJ: part of an evaluator of Go code over abstract states, proved sound over the model; used by the proof of the claimed statement. Conditions: none. -/
import Derived.Test.YtdajceakaakdoaaGreatHmZI
set_option maxRecDepth 100000
set_option linter.unusedSimpArgs false
set_option linter.unusedVariables false
set_option linter.unusedSimpArgs false
set_option linter.unusedVariables false
namespace Go.Hl
open Go Go.RowKit
theorem Xb0 {x:HS} {regs:List (Nat×RV)} (h:Zb (fun k r=>∃r0 t,lkp x.regs k=some r0∧X1B x.objs r0=some t∧r=.v t) regs):le x ⟨x.nt,regs,[]⟩:=by
 intro w0 B π F γ a w hr;refine⟨fun b=>F b∨X1P γ x.objs b,γ,fun _ h=>.inl h,fun b hb=>?_,⟨hr.heap.below,hr.heap.hB,fun b hb=>?_,by simp[lkp],by simp[lkp],by simp[lkp],hr.heap.pin⟩,hr.defers,hr.nt,fun k r hk=>?_⟩
 · rcases hb with hb|⟨n,o,hl,hb⟩
   · exact .inl hb
   exact .inr ((hr.heap.ob n o hl).blk_lt hb).1
 · rcases hb with hb|⟨n,o,hl,hb⟩
   · exact hr.heap.fsz b hb
   exact((hr.heap.ob n o hl).blk_lt hb).2
 obtain⟨r0,t,h1,h2,rfl⟩:=WP h k r (Xy hk);have h3:=X2x hr.heap h2 (hr.regs k r0 h1);show XD _ γ w t _;unfold X1B at h2;split at h2
 · split at h2
   · rename_i y hy;cases h2;exact X4R hy h3
   cases h2
 · split at h2
   · rename_i ys hy;cases h2;obtain⟨vs,h4,hs,hc⟩:=h3;obtain⟨g1,g2⟩:=ZY hr.heap hy;refine⟨vs,h4,hs,fun j y u hyj hu=>?_⟩;obtain⟨x,hx,hb⟩:=g2 j y hyj;exact X4R hb (hc j y u hyj hu)
   cases h2
 cases h2
theorem XaR {s:HS} {v:Value} {cs:List CV} (k:Nat) (x y:CV) (hv:s.nt.pv=some v) (hbx:lkp s.objs 1000000=some (.box cs)) (hk:lkp s.regs k=some (.v (.one x))) (hp:pnC v x y):le s {s with regs:=ins k (.v (.one y)) s.regs}:=by
 intro w0 B π F γ a w h;have hγ:γ 1000000=v:=(h.heap.pin 1000000 v (h.nt.2 v hv)).2;obtain⟨b,e,vs,hb,_⟩:=h.heap.ob 1000000 _ hbx;rw[hγ]at hb;refine⟨F,γ,fun _ h=>h,fun _ h=>.inl h,h.heap,h.defers,h.nt,fun j r hj=>?_⟩;by_cases e1:j=k
 · subst e1;rw[XL]at hj;simp only[if_true,Option.some.injEq]at hj;subst hj;exact X7j hγ hb hp (h.regs j _ hk)
 rw[Xw e1]at hj;exact h.regs j r hj
theorem X40 {s:HS} {v:Value} {cs:List CV} (k:Nat) (hv:s.nt.pv=some v) (hbx:lkp s.objs 1000000=some (.box cs)) (hk:lkp s.regs k=some (.v (.one (.c (.lit v))))):le s {s with regs:=ins k (.v (.one (.at_ 1000000 0))) s.regs}:=
 XaR k _ _ hv hbx hk (.inr (.inr ⟨rfl,rfl⟩))
theorem X49 {s:HS} {v:Value} {cs:List CV} (k:Nat) (hv:s.nt.pv=some v) (hbx:lkp s.objs 1000000=some (.box cs)) (hk:lkp s.regs k=some (.v (.one (.at_ 1000000 0)))):le s {s with regs:=ins k (.v (.one (.c (.lit v)))) s.regs}:=
 XaR k _ _ hv hbx hk (.inr (.inl ⟨rfl,rfl⟩))
theorem XaJ {P:Program} {rs:List ResultVar} {s:HS} {r:RV} {d:Nat} {Q:Exit→HS→Prop} (hQ:(∃s2,le s s2∧RetOK P rs s2 false r none d)→Q .ret s) {regs:List (Nat×RV)} (hle:le s ⟨s.nt,regs,[]⟩) {ts:List TV} (hr:X3j P ⟨s.nt,regs,[]⟩ rs=some ts) (he:r=XK ts):HT P .ret s Q:=
 Qm (hQ ⟨_,hle,⟨ts,hr,he⟩,by simp,fun h=>by cases h⟩)
def Z9 (n m:Nat):List Nat:=(List.range n).filter fun i=>decide (m/2 ^ i%2=1)
@[simp] theorem bits_mem (n m i:Nat):(i∈Z9 n m)=(i<n∧m/2 ^ i%2=1):=by simp[Z9]
@[simp] theorem Q2 (R:List Nat) (i j:Nat):(j∈Qj R i)=(j∈R∧j≠i):=by simp[Qj]
def X2i {α:Type} (p:α→Prop):List α→Prop
 |[]=>True
 |[x]=>p x
 |x::l=>p x∧X2i p l
theorem X1x {α:Type} {p:α→Prop}:∀{l:List α},X2i p l→∀x∈l,p x
 |[],_,x,h=>by cases h
 |[y],h,x,hx=>by rw[List.mem_singleton.1 hx];exact h
 | y::z::l,h,x,hx=>by
   rcases List.mem_cons.1 hx with rfl|hx
   · exact h.1
   exact X1x h.2 x hx
def msB (ops:Array Oper) (n:Nat) (ms:List (Nat×List Nat)):Bool:=ms.all fun m=>(Zm ops (Z9 n m.1)).all fun i=>m.2.contains i
theorem Z8 {P:Program} {ops:Array Oper} {id:Nat} (nx:List Nat→HS) (n M:Nat) (ms:List (Nat×List Nat)) {s:HS} {Q:Exit→HS→Prop} (hm:P.follows .mixedOrders=true) (hfw:X4F ops=true) (hn:Z9 n M=List.range ops.size) (hcl:clB ops ([]::ms.map fun m=>Z9 n m.1)=true) (hst:msB ops n ms=true)
  (h0:s=nx (Z9 n M)) (hstep:X2i (fun m=>X2i (fun i=>XX P ops i (nx (Z9 n m.1)) (fun u=>u=nx (Qj (Z9 n m.1) i))) m.2) ms) (hq:Q .normal (nx [])):HT P (.region id ops true) s Q:=by
 refine X8A (fun R s=>s=nx R) ([]::ms.map fun m=>Z9 n m.1) hm hfw hcl (by rw[←hn];exact h0) (fun R hR i hi u hu=>?_) fun u hu=>by rw[hu];exact hq
 subst hu;rcases List.mem_cons.1 hR with rfl|hR
 · simp[Zm]at hi
 obtain⟨m,hm1,rfl⟩:=List.mem_map.1 hR;unfold msB at hst;simp only[List.all_eq_true]at hst;exact X1x (X1x hstep m hm1) i (by simpa using hst m hm1 i hi)
section
variable {P:Program} {ops:Array Oper}
theorem RunsN.callA {l:List Oper} {o:Oper} {s:HS} {K:HS→Prop} {X:Type} {f:FuncId} {d:Nat} {pv:Option Value} {objs:List (Nat×Ob)} {args:List TV} (ρ σ:Nat→Nat) {Φ:X→Prop} {r:X→RV} {objs':X→List (Nat×Ob)} (hcon:X1g P f pv objs args Φ r objs')
  (hn:∀y,Φ y→RunsN P ops l (({s with objs:=Qf σ (objs' y) (QP (objs.map fun p=>ρ p.1) s.objs)}:HS).put (some d) ((r y).ren σ [])) K)
  (hg:gOfN s o=some (f,args.map (TV.ren ρ []),d):=by(simp[gOfN,X2r,X1M,catT,TV.ren,CV.ren];rfl))
  (hp:pvOK pv s ρ:=by(first|exact .inl rfl|exact .inr ⟨rfl,rfl⟩))
  (hd0:HandS ρ σ objs [] s:=by(refine WB ?_ ?_ ?_ ?_ ?_<;>simp[rbB,WV,QN,CV.ren,Ob.ren,lkp,Qf]))
  (hd:∀y,Φ y→HandS ρ σ objs (objs' y) s:=by(intro _ _;refine WB ?_ ?_ ?_ ?_ ?_<;>simp[rbB,WV,QN,CV.ren,Ob.ren,lkp,Qf]))
  (hout:∀y,Φ y→X3r ((objs' y).map (·.1)) (r y)=true:=by(intro _ _;rfl)):RunsN P ops (o::l) s K:=.call ρ σ hg hp hd0 hd hcon hout hn
theorem XX.callA {i:Nat} {o:Oper} {s:HS} {M:HS→Prop} {X:Type} {f:FuncId} {d:Nat} {pv:Option Value} {objs:List (Nat×Ob)} {args:List TV} (ρ σ:Nat→Nat) {Φ:X→Prop} {r:X→RV} {objs':X→List (Nat×Ob)} (hcon:X1g P f pv objs args Φ r objs') (ho:ops[i]? =some o)
  (hm:∀y,Φ y→M (({s with objs:=Qf σ (objs' y) (QP (objs.map fun p=>ρ p.1) s.objs)}:HS).put (some d) ((r y).ren σ [])))
  (hg:gOfN s o=some (f,args.map (TV.ren ρ []),d):=by(simp[gOfN,X2r,X1M,catT,TV.ren,CV.ren,trS,ins];rfl))
  (hp:pvOK pv s ρ:=by(first|exact .inl rfl|exact .inr ⟨rfl,rfl⟩))
  (hd0:HandS ρ σ objs [] s:=by(refine WB ?_ ?_ ?_ ?_ ?_<;>simp[trS,ins,rbB,WV,QN,CV.ren,Ob.ren,lkp]))
  (hd:∀y,Φ y→HandS ρ σ objs (objs' y) s:=by(intro _ _;refine WB ?_ ?_ ?_ ?_ ?_<;>simp[trS,ins,rbB,WV,QN,CV.ren,Ob.ren,lkp]))
  (hout:∀y,Φ y→X3r ((objs' y).map (·.1)) (r y)=true:=by(intro _ _;rfl)):XX P ops i s M:=.call ρ σ ho hg hp hd0 hd hcon hout hm
end
end Go.Hl
