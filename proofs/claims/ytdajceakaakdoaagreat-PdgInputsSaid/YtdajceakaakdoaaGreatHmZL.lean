/- HmZL: part of an evaluator of Go code over abstract states, proved sound over the model; used by the proof of the claimed statement. Conditions: none. -/
import Derived.Test.YtdajceakaakdoaaGreatHmZK
import Derived.Test.YtdajceakaakdoaaGreatHmZH
set_option maxRecDepth 100000
set_option linter.unusedSimpArgs false
set_option linter.unusedVariables false
set_option linter.unusedSimpArgs false
set_option linter.unusedVariables false
namespace Go.Hl
open Go
def rowAP (s:HS) (o:Oper):Option (FuncId×Nat×TypeId×Nat×List (List CD)×Nat):=
 match o.guard,o.op,o.dst with
 | none,.call {callee:=.value x,args:=args, .. },some d=>match X2r (opd s.regs x),args.toList with
   | some (f,[]),[y]=>match opd s.regs y with
     | .v (.one (.own n))=>match lkp s.objs n with
       |some (.row e sz rs)=>if XJ s (some d)=true∧0<rs.length then some (f,n,e,sz,rs,d)else none
       |_=>none
     |_=>none
   |_,_=>none
 |_,_,_=>none
theorem Qs.rowA {P:Program} {ops:Array Oper} {k:Nat} {s:HS} {o:Oper} {f:FuncId} {n d sz:Nat} {e:TypeId} {rs rs':List (List CD)} (h1:ops[k]? =some o) (h:rowAP s o=some (f,n,e,sz,rs,d))
  (hcon:ConR P f e sz rs rs'):Qs P ops k 1 s (fun u=>u=({s with objs:=ins n (.row e sz rs') s.objs}:HS).put (some d) (.tup [])):=by
 intro w0 B π F γ a w Q Xj hr hK;unfold rowAP at h;split at h
 · rename_i x as0 ats d1 hg ho hd1;split at h
   · rename_i f1 y hx has;split at h
     · rename_i n1 hy;split at h
       · rename_i e1 sz1 rs1 hl;split at h
         · rename_i hc;obtain⟨hok,hlen0⟩:=hc;cases h;have eas:as0= #[y]:=by obtain⟨l⟩:=as0;simpa using has
           subst eas;obtain⟨hcall,hcon⟩:=hcon;obtain⟨cvs,hv,hcl,_⟩:=Zv hx (hr.opd x);have hcv:cvs=[]:=List.eq_nil_of_length_eq_zero (by simpa using hcl);subst hcv;have hv':a.eval x=.func (.func f) #[] #[]:=hv;have hyv:=hr.opd y;rw[hy]at hyv;have hro:Xr F w B e sz (γ n) rs:=hr.heap.ob n _ hl
           obtain⟨b,hb,hBn,hhd⟩:∃b,blk (γ n)=some b∧Blk (γ n) b∧hd (γ n)=γ n:=by
            obtain⟨_,_,xs,hown,_⟩:=hro;rcases hown.2 with⟨_,hn⟩|⟨b,oo,cap,cur,hv,_⟩
            · omega
            rw[hv];exact⟨b,rfl,rfl,rfl⟩
           have hγ:a.eval y=γ n:=by rw[←hhd];exact hyv.1
           have hrun:(execOp a.eval o).run P w=.ok (.enter f (#[y].map a.eval)) w:=by
            unfold XU at hcall;split at hcall
            · rename_i fn hfn;simp only[Bool.and_eq_true,Bool.not_eq_true']at hcall;have hnm:¬fn.name= "runtime.NumGoroutine" :=by simpa using hcall.1
              have hnb:¬fn.body=none:=by
               intro hb;rw[hb]at hcall;cases hcall.2
              simp[execOp,ho,resolve,hv',Deferred.ofValue,invoke,callFunc,hfn,hnm,hnb]
            cases hcall
           show wpOps P ops Q (k::Xj) a w;rw[wpOps_cons];unfold wpOp;rw[h1];simp only;have hwant:Region.wanted o (yielded ops a.tmps)=true:=by unfold Region.wanted;rw[hg]
           rw[hwant];simp only[if_true];refine .inl ?_;unfold Oper.wp;rw[hrun,Oper.upon_enter];have hargs:(#[y].map a.eval:Array Value)= #[γ n]:=by simp[hγ]
           rw[hargs];refine(hcon F B w (γ n) hro hr.heap.fsz (fun c hc=>hr.heap.apart n _ hl c (by rw[hb]at hc;cases hc;exact hBn))).mono ?_;rintro z w' ⟨rfl,q1,q2,q3,q4,q5,hro'⟩;have hkeep:∀c,c<w.heap.size→c≠b→w'.heap[c]? =w.heap[c]? :=fun c hc hne=>q5 c hc fun e=>hne (by rw[hb]at e;cases e;rfl);have hFk:∀c,F c→w'.heap[c]? =w.heap[c]? :=fun c hc=>hkeep c (hr.heap.fsz c hc) fun e'=>hr.heap.apart n _ hl b hBn (e'▸hc);have hkp:Kept B w0 w':=hr.heap.below.trans ⟨q1,q2,q3,q4,fun c hc=>hkeep c (hr.heap.hB c hc) fun e'=>((hr.heap.ob n _ hl).blk_lt hBn).1 (e'▸hc)⟩;have hob:XT F γ w' B (γ n) (.row e sz rs'):=hro';refine hK _ F γ _ _ rfl (fun _ h=>h) (fun _ h=>.inl h) ?_;rw[hd1];exact hr.step (dst:=some d) hok (F':=F) (γ':=γ) (hr.heap.wrote hl (b:=b) hBn hkp q4 (fun c hc hne=>hkeep c hc hne) hob) ⟨#[],rfl,rfl,fun j t u h1 h2=>by simp at h1⟩ fun _ _ _ _ hv=>hv.mono (fun _ h=>h) hFk
         cases h
       cases h
     cases h
   cases h
 cases h
theorem RunsN.rowA {P:Program} {ops:Array Oper} {l:List Oper} {s:HS} {K:HS→Prop} {o:Oper} {f:FuncId} {n d sz:Nat} {e:TypeId} {rs rs':List (List CD)} (h:rowAP s o=some (f,n,e,sz,rs,d)) (hcon:ConR P f e sz rs rs')
  (hr:RunsN P ops l (({s with objs:=ins n (.row e sz rs') s.objs}:HS).put (some d) (.tup [])) K):RunsN P ops (o::l) s K:=by
 refine .many (M:=fun u=>u=_) 1 (fun k hk=>?_) fun u hu=>by rw[hu];exact hr
 exact Qs.rowA (hk 0 o rfl) h hcon
theorem XX.conv {P:Program} {ops:Array Oper} {i:Nat} {o:Oper} {s t:HS} (sT dT:TypeId) (x:Operand) (k:IntKind) (n:Int) (hi:ops[i]? =some o) (hg:o.guard=none) (ho:o.op=.convert sT dT x) (hx:Hl.opd s.regs x=Hl.lit (.int k n)) (hok:XJ s o.dst=true) (hs:(P.underlying sT).isSome=true)
  (hd:P.underlying dT=some (.int (P.intKind dT))) (ht:s.put o.dst (Hl.lit (.int (P.intKind dT) ((P.intKind dT).wrap n)))=t):XX P ops i s (fun u=>u=t):=by
 intro w0 B π F γ a w Kc Q hr hK;refine convS hi hr hg ho hx hok hs hd fun a' hr'=>?_;rw[ht]at hr';exact hK t F γ a' w rfl (fun _ h=>h) (fun _ h=>.inl h) hr'
end Go.Hl
