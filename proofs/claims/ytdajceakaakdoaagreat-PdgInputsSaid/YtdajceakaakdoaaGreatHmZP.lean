/- HmZP: part of an evaluator of Go code over abstract states, proved sound over the model; used by the proof of the claimed statement. Conditions: none. -/
import Derived.Test.YtdajceakaakdoaaGreatHmZO
set_option linter.unusedSimpArgs false
set_option linter.unusedVariables false
namespace Go.Hl
open Go Go.RowKit
section
variable {P:Program}
theorem le_matE {x:HS} (n d:Nat) {e e':TypeId} {s:Nat} {rows:List (Option (List (List CD)))} (h:lkp x.objs n=some (.mat e e' s rows)) (hu:QY d x=true):
  le x ⟨x.nt,Ws (RV.mv n d) x.regs,Ws (Ob.mv n d) (ins d (.mat e e' s (rows.map fun r=>some (r.getD []))) (del n x.objs))⟩:=by
 intro w0 B π F γ a w hr;obtain⟨o,is,hγ,h0,hlen,⟨xs,hown,hxs⟩,hin,hd1,hd2⟩:=hr.heap.ob n _ h
 let fx:Nat→Value→Value:=fun i v=>ZV v (rows[i]?.getD none)
 have hnd:n≠d:=(Ww hu n _ h).1
 have hgi:∀(i:Nat) v,(is.mapIdx fx)[i]? =some v→∃v0 r,is[i]? =some v0∧rows[i]? =some r∧v=ZV v0 r:=by
  intro i v hv;rw[List.getElem?_mapIdx]at hv;simp only[Option.map_eq_some_iff]at hv;obtain⟨v0,h1,rfl⟩:=hv;have hlt:i<rows.length:=by rw[←hlen];exact(List.getElem?_eq_some_iff.1 h1).1
  exact⟨v0,rows[i],h1,List.getElem?_eq_getElem hlt,by simp[fx,List.getElem?_eq_getElem hlt]⟩
 have hbk:∀(v:Value) r b,blk (ZV v r)=some b→blk v=some b:=by
  intro v r b hb;cases r with
  |none=>cases hb
  |some r=>exact hb
 have hob:XT F (upd γ d (.agg (o::is.mapIdx fx).toArray)) w B (.agg (o::is.mapIdx fx).toArray) (.mat e e' s (rows.map fun r=>some (r.getD []))):=by
  refine⟨o,is.mapIdx fx,rfl,h0,by simp[hlen],⟨xs,by simpa using hown,fun i v r hv hr'=>?_⟩,fun i v r hv hr'=>?_,fun i v b hv hb=>?_,fun i j u v b hi hj hne hb=>?_⟩
  · obtain⟨v0,r0,h1,h2,rfl⟩:=hgi i v hv;rw[List.getElem?_map,h2]at hr';cases hr';exact hxs i v0 r0 h1 h2
  · obtain⟨v0,r0,h1,h2,rfl⟩:=hgi i v hv;rw[List.getElem?_map,h2]at hr';cases hr';cases r0 with
    |none=>exact⟨h0,by simp,[],Qy.nil w B e' s,by simp,fun i j d hd=>by simp[XG]at hd⟩
    |some r0=>exact hin i v0 (some r0) h1 h2
  · obtain⟨v0,r0,h1,h2,rfl⟩:=hgi i v hv;exact hd1 i v0 b h1 (hbk _ _ _ hb)
  obtain⟨v0,r0,h1,h2,rfl⟩:=hgi i u hi;obtain⟨v1,r1,h3,h4,rfl⟩:=hgi j v hj;exact fun h5=>hd2 i j v0 v1 b h1 h3 hne (hbk _ _ _ hb) (hbk _ _ _ h5)
 have hHR:HeapRel w0 B π F (upd γ d (.agg (o::is.mapIdx fx).toArray)) (ins d (.mat e e' s (rows.map fun r=>some (r.getD []))) (del n x.objs)) w:=by
  refine hr.heap.moved (ns:=[n]) (by simp[h]) (fun m o hm=>by obtain⟨h1,h2⟩:=Q8 hm;exact⟨by simpa using h1,h2⟩) (Ww hu) hr.heap.below (Nat.le_refl _) (fun _ _ _=>rfl) (fun b hb=>.inr ⟨n,by simp,?_⟩) (ZW hu) hob;rw[hγ];obtain⟨u,hu1,hu2⟩:=hb;simp only[List.mem_toArray,List.mem_cons]at hu1;rcases hu1 with rfl|hu1
  · exact⟨u,by simp,hu2⟩
  obtain⟨i,hi⟩:=List.mem_iff_getElem?.1 hu1;obtain⟨v0,r0,h1,h2,rfl⟩:=hgi i u hi;exact⟨v0,by simp[List.mem_of_getElem? h1],hbk _ _ _ hu2⟩
 have hhd:hd (Value.agg (o::is.mapIdx fx).toArray)=hd (γ n):=by rw[hγ];rfl
 have hh2:hd (upd γ d (.agg (o::is.mapIdx fx).toArray) d)=hd (upd γ d (.agg (o::is.mapIdx fx).toArray) n):=by rw[Xo,Xd _ hnd];exact hhd
 refine⟨F,upd γ d (.agg (o::is.mapIdx fx).toArray),fun _ h=>h,fun _ h=>.inl h,⟨hHR.mapd hnd hhd,hr.defers,hr.nt,fun k r hk=>?_⟩⟩;rw[Zs]at hk;simp only[Option.map_eq_some_iff]at hk;obtain⟨r0,h1,rfl⟩:=hk;exact((hr.regs k r0 h1).upd (WT hu h1)).mv hh2
def ConE (P:Program) (f:FuncId):Prop:=
 XU P f=true∧∀(w:World) (p:Option Addr) (cap:Nat),Calls P f #[.slice p 0 cap] w fun x w'=>x=.returned (.tuple #[])∧w'=w
def subEP (s:HS) (o:Oper):Option (FuncId×Nat):=
 match o.guard,o.op,o.dst with
 | none, .call {callee:=.value x,args:=args, .. },some d=>match X2r (opd s.regs x),args.toList with
   | some (f,[]),[y]=>match opd s.regs y with
     | .v (.one (.sub n i))=>match lkp s.objs n with
       | some (.mat _ _ _ rows)=>match rows[i]? with
         |some (some [])=>if XJ s (some d)=true then some (f,d)else none
         |_=>none
       |_=>none
     |_=>none
   |_,_=>none
 |_,_,_=>none
theorem Qs.subE {ops:Array Oper} {k:Nat} {s:HS} {o:Oper} {f:FuncId} {d:Nat} (h1:ops[k]? =some o) (h:subEP s o=some (f,d)) (hcon:ConE P f):Qs P ops k 1 s (fun u=>u=s.put (some d) (.tup [])):=by
 intro w0 B π F γ a w Q Xj hr hK;unfold subEP at h;split at h
 · rename_i x as0 ats d1 hg ho hd1;split at h
   · rename_i f1 y hx has;split at h
     · rename_i n1 i1 hy;split at h
       · rename_i e1 e1' sz1 rows1 hl;split at h
         · rename_i hri;split at h
           · rename_i hok;cases h;have eas:as0= #[y]:=by obtain⟨l⟩:=as0;simpa using has
             subst eas;obtain⟨hcall,hcon⟩:=hcon;obtain⟨cvs,hv,hcl,_⟩:=Zv hx (hr.opd x);have hcv:cvs=[]:=List.eq_nil_of_length_eq_zero (by simpa using hcl);subst hcv;have hv':a.eval x=.func (.func f) #[] #[]:=hv;have hyv:=hr.opd y;rw[hy]at hyv;obtain⟨vs,hvs,hsub,hv1,hvu⟩:=hyv;obtain⟨o',is,hγ,h0,hlen,⟨xs,hown,hxs⟩,hin,hd1',hd2⟩:=hr.heap.ob _ _ hl;rw[hγ]at hvs;cases hvs;have hvi:is[i1]? =some (a.eval y):=by simpa using hsub
             have hro:Xr F w B e1' sz1 (a.eval y) []:=hin i1 _ (some []) hvi hri
             obtain⟨p,cap,hpv⟩:∃p cap,a.eval y=.slice p 0 cap:=by
              obtain⟨_,_,xs,hown,_⟩:=hro;rcases hown.2 with⟨hv,_⟩|⟨b,oo,cap,cur,hv,_⟩
              · exact⟨_,_,hv⟩
              exact⟨_,_,hv⟩
             have hrun:(execOp a.eval o).run P w=.ok (.enter f (#[y].map a.eval)) w:=by
              unfold XU at hcall;split at hcall
              · rename_i fn hfn;simp only[Bool.and_eq_true,Bool.not_eq_true']at hcall;have hnm:¬fn.name= "runtime.NumGoroutine" :=by simpa using hcall.1
                have hnb:¬fn.body=none:=by
                 intro hb;rw[hb]at hcall;cases hcall.2
                simp[execOp,ho,resolve,hv',Deferred.ofValue,invoke,callFunc,hfn,hnm,hnb]
              cases hcall
             show wpOps P ops Q (k::Xj) a w;rw[wpOps_cons];unfold wpOp;rw[h1];simp only;have hwant:Region.wanted o (yielded ops a.tmps)=true:=by unfold Region.wanted;rw[hg]
             rw[hwant];simp only[if_true];refine .inl ?_;unfold Oper.wp;rw[hrun,Oper.upon_enter];have hargs:(#[y].map a.eval:Array Value)= #[.slice p 0 cap]:=by simp[hpv]
             rw[hargs];refine(hcon w p cap).mono ?_;rintro z w' ⟨rfl,rfl⟩;refine hK _ F γ _ _ rfl (fun _ h=>h) (fun _ h=>.inl h) ?_;rw[hd1];exact hr.step (dst:=some d) hok (F':=F) (γ':=γ) hr.heap ⟨#[],rfl,rfl,fun j t u h1 h2=>by simp at h1⟩ fun _ _ _ _ hv=>hv
           cases h
         cases h
       cases h
     cases h
   cases h
 cases h
theorem RunsN.subE {ops:Array Oper} {l:List Oper} {s:HS} {K:HS→Prop} {o:Oper} {f:FuncId} {d:Nat} (h:subEP s o=some (f,d)) (hcon:ConE P f) (hr:RunsN P ops l (s.put (some d) (.tup [])) K):RunsN P ops (o::l) s K:=by
 refine .many (M:=fun u=>u=_) 1 (fun k hk=>?_) fun u hu=>by rw[hu];exact hr
 exact Qs.subE (hk 0 o rfl) h hcon
end
end Go.Hl
