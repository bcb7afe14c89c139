/- HmZS: part of an evaluator of Go code over abstract states, proved sound over the model; used by the proof of the claimed statement. Conditions: none. -/
import Derived.Test.YtdajceakaakdoaaGreatHmZR
import Derived.Test.YtdajceakaakdoaaGreatHmZL
set_option maxRecDepth 100000
set_option linter.unusedSimpArgs false
set_option linter.unusedVariables false
set_option linter.unusedSimpArgs false
set_option linter.unusedVariables false
namespace Go.Hl
open Go
def ConG2 (P:Program) (f g:FuncId) (e:TypeId) (sz:Nat) (rs rs':List (List CD)):Prop:=
 XU P f=true∧∀(F:Nat→Prop) (B:Nat→Prop) (w:World) (v:Value),Xr F w B e sz v rs→(∀b,F b→b<w.heap.size)→(∀b,blk v=some b→¬F b)→
  Calls P f #[v,.func (.func g) #[] #[]] w fun x w'=>x=.returned (.tuple #[])∧w'.os=w.os∧w'.tape=w.tape∧w'.output=w.output∧w.heap.size≤w'.heap.size∧(∀k,k<w.heap.size→blk v≠some k→w'.heap[k]? =w.heap[k]?)∧Xr F w' B e sz v rs'
def rowGP (s:HS) (o:Oper):Option (FuncId×FuncId×Nat×TypeId×Nat×List (List CD)×Nat):=
 match o.guard,o.op,o.dst with
 | none, .call {callee:=.value x,args:=args, .. },some d=>match X2r (opd s.regs x),args.toList with
   | some (f,[]),[y,z]=>match X2r (opd s.regs z)with
     | some (g,[])=>match opd s.regs y with
       | .v (.one (.own n))=>match lkp s.objs n with
         |some (.row e sz rs)=>if XJ s (some d)=true∧0<rs.length then some (f,g,n,e,sz,rs,d)else none
         |_=>none
       |_=>none
     |_=>none
   |_,_=>none
 |_,_,_=>none
theorem Qs.rowG {P:Program} {ops:Array Oper} {k:Nat} {s:HS} {o:Oper} {f g:FuncId} {n d sz:Nat} {e:TypeId} {rs rs':List (List CD)} (h1:ops[k]? =some o) (h:rowGP s o=some (f,g,n,e,sz,rs,d))
  (hcon:ConG2 P f g e sz rs rs'):Qs P ops k 1 s (fun u=>u=({s with objs:=ins n (.row e sz rs') s.objs}:HS).put (some d) (.tup [])):=by
 intro w0 B π F γ a w Q Xj hr hK;unfold rowGP at h;split at h
 · rename_i x as0 ats d1 hg ho hd1;split at h
   · rename_i f1 y z hx has;split at h
     · rename_i g1 hz;split at h
       · rename_i n1 hy;split at h
         · rename_i e1 sz1 rs1 hl;split at h
           · rename_i hc;obtain⟨hok,hlen0⟩:=hc;cases h;have eas:as0= #[y,z]:=by obtain⟨l⟩:=as0;simpa using has
             subst eas;obtain⟨hcall,hcon⟩:=hcon;obtain⟨cvs,hv,hcl,_⟩:=Zv hx (hr.opd x);have hcv:cvs=[]:=List.eq_nil_of_length_eq_zero (by simpa using hcl);subst hcv;have hv':a.eval x=.func (.func f) #[] #[]:=hv;obtain⟨cvz,hvz,hclz,_⟩:=Zv hz (hr.opd z);have hcz:cvz=[]:=List.eq_nil_of_length_eq_zero (by simpa using hclz);subst hcz;have hvz':a.eval z=.func (.func g) #[] #[]:=hvz;have hyv:=hr.opd y;rw[hy]at hyv;have hro:Xr F w B e sz (γ n) rs:=hr.heap.ob n _ hl
             obtain⟨b,hb,hBn,hhd⟩:∃b,blk (γ n)=some b∧Blk (γ n) b∧hd (γ n)=γ n:=by
              obtain⟨_,_,xs,hown,_⟩:=hro;rcases hown.2 with⟨_,hn⟩|⟨b,oo,cap,cur,hv,_⟩
              · omega
              rw[hv];exact⟨b,rfl,rfl,rfl⟩
             have hγ:a.eval y=γ n:=by rw[←hhd];exact hyv.1
             have hrun:(execOp a.eval o).run P w=.ok (.enter f (#[y,z].map a.eval)) w:=by
              unfold XU at hcall;split at hcall
              · rename_i fn hfn;simp only[Bool.and_eq_true,Bool.not_eq_true']at hcall;have hnm:¬fn.name= "runtime.NumGoroutine" :=by simpa using hcall.1
                have hnb:¬fn.body=none:=by
                 intro hb;rw[hb]at hcall;cases hcall.2
                simp[execOp,ho,resolve,hv',Deferred.ofValue,invoke,callFunc,hfn,hnm,hnb]
              cases hcall
             show wpOps P ops Q (k::Xj) a w;rw[wpOps_cons];unfold wpOp;rw[h1];simp only;have hwant:Region.wanted o (yielded ops a.tmps)=true:=by unfold Region.wanted;rw[hg]
             rw[hwant];simp only[if_true];refine .inl ?_;unfold Oper.wp;rw[hrun,Oper.upon_enter];have hargs:(#[y,z].map a.eval:Array Value)= #[γ n,.func (.func g) #[] #[]]:=by simp[hγ,hvz']
             rw[hargs];refine(hcon F B w (γ n) hro hr.heap.fsz (fun c hc=>hr.heap.apart n _ hl c (by rw[hb]at hc;cases hc;exact hBn))).mono ?_;rintro zz w' ⟨rfl,q1,q2,q3,q4,q5,hro'⟩;have hkeep:∀c,c<w.heap.size→c≠b→w'.heap[c]? =w.heap[c]? :=fun c hc hne=>q5 c hc fun e=>hne (by rw[hb]at e;cases e;rfl);have hFk:∀c,F c→w'.heap[c]? =w.heap[c]? :=fun c hc=>hkeep c (hr.heap.fsz c hc) fun e'=>hr.heap.apart n _ hl b hBn (e'▸hc);have hkp:Kept B w0 w':=hr.heap.below.trans ⟨q1,q2,q3,q4,fun c hc=>hkeep c (hr.heap.hB c hc) fun e'=>((hr.heap.ob n _ hl).blk_lt hBn).1 (e'▸hc)⟩;have hob:XT F γ w' B (γ n) (.row e sz rs'):=hro';refine hK _ F γ _ _ rfl (fun _ h=>h) (fun _ h=>.inl h) ?_;rw[hd1];exact hr.step (dst:=some d) hok (F':=F) (γ':=γ) (hr.heap.wrote hl (b:=b) hBn hkp q4 (fun c hc hne=>hkeep c hc hne) hob) ⟨#[],rfl,rfl,fun j t u h1 h2=>by simp at h1⟩ fun _ _ _ _ hv=>hv.mono (fun _ h=>h) hFk
           cases h
         cases h
       cases h
     cases h
   cases h
 cases h
theorem RunsN.rowG {P:Program} {ops:Array Oper} {l:List Oper} {s:HS} {K:HS→Prop} {o:Oper} {f g:FuncId} {n d sz:Nat} {e:TypeId} {rs rs':List (List CD)} (h:rowGP s o=some (f,g,n,e,sz,rs,d)) (hcon:ConG2 P f g e sz rs rs')
  (hr:RunsN P ops l (({s with objs:=ins n (.row e sz rs') s.objs}:HS).put (some d) (.tup [])) K):RunsN P ops (o::l) s K:=by
 refine .many (M:=fun u=>u=_) 1 (fun k hk=>?_) fun u hu=>by rw[hu];exact hr
 exact Qs.rowG (hk 0 o rfl) h hcon
end Go.Hl
