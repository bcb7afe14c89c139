/- HmZN: part of an evaluator of Go code over abstract states, proved sound over the model; used by the proof of the claimed statement. Conditions: none. -/
import Derived.Test.YtdajceakaakdoaaGreatHmZM
set_option linter.unusedSimpArgs false
set_option linter.unusedVariables false
namespace Go.Hl
open Go Go.RowKit
section
variable {P:Program} {F:Nat→Prop} {γ:Nat→Value} {w w0:World} {B:Nat→Prop} {π:Nat→Option Value}
theorem Xr.cut {e:TypeId} {s:Nat} {rows:List (List CD)} {v:Value} (h:Xr F w B e s v rows) {l hi:Nat} (hl:l≤hi) (hh:hi≤rows.length):
  ∃(a:Option Addr) (cap:Nat),v=.slice a rows.length cap∧rows.length≤cap∧Xr F w B e s (.slice (if cap=l then a else a.map fun a=>a.add (l*s)) (hi - l) (cap - l)) ((rows.take hi).drop l):=by
 obtain⟨h0,hs,xs,⟨hxl,hown⟩,h1,hc⟩:=h;have hlen:((rows.take hi).drop l).length=hi - l:=by simp[Nat.min_eq_left hh]
 have hs':∀r∈(rows.take hi).drop l,r.length=s:=fun r hr=>hs r (List.mem_of_mem_take (List.mem_of_mem_drop hr))
 have hm1:(hi - l)*s+l*s≤rows.length*s:=by
  rw[←Nat.add_mul];exact Nat.mul_le_mul_right _ (by omega)
 have hxs':((xs.drop (l*s)).take ((hi - l)*s)).length=(hi - l)*s:=by
  rw[List.length_take,List.length_drop,hxl];omega
 have hc':∀i j d,XG ((rows.take hi).drop l) i j=some d→∃u,((xs.drop (l*s)).take ((hi - l)*s))[i*s+j]? =some u∧CRel F w d u:=by
  intro i j d hd;have hlt:=WO hs' hd;rw[hlen]at hlt
  have hlt2:i*s+j<(hi - l)*s:=by
   have:(i+1)*s≤(hi - l)*s:=Nat.mul_le_mul_right _ hlt.1;rw[Nat.add_mul]at this;omega
  have hd':XG rows (l+i) j=some d:=by
   unfold XG at hd⊢;rw[List.getElem?_drop,List.getElem?_take]at hd;split at hd
   · exact hd
   cases hd
  obtain⟨u,hu,hr⟩:=hc _ _ _ hd';refine⟨u,?_,hr⟩;rw[List.getElem?_take,if_pos hlt2,List.getElem?_drop,←hu];congr 1;rw[Nat.add_mul];omega
 have hone:∀u∈(xs.drop (l*s)).take ((hi - l)*s),u.oneCell'=true:=fun u hu=>h1 u (List.mem_of_mem_drop (List.mem_of_mem_take hu));rcases hown with⟨rfl,hn⟩|⟨g,o,cap,cur,rfl,hB,hg,hcap,hmax,hsz,htake⟩
 · refine⟨none,0,by rw[hn],by omega,h0,hs',_,⟨by rw[hlen];exact hxs',.inl ⟨?_,by rw[hlen];omega⟩⟩,hone,hc'⟩;rw[show hi - l=0 by omega,Nat.zero_sub];split<;>rfl
 refine⟨some ⟨g,o,none⟩,cap,rfl,hcap,h0,hs',_,⟨by rw[hlen];exact hxs',.inr ⟨g,if cap=l then o else o+l*s,cap - l,cur,?_,hB,hg,by rw[hlen];omega,by omega,?_,?_⟩⟩,hone,hc'⟩
 · rw[hlen];split
   · rfl
   simp only[Option.map_some,QW]
 · have:(cap - l)*s+l*s=cap*s:=by rw[←Nat.add_mul];congr 1;omega
   split<;>omega
 rw[hlen];by_cases e':cap=l
 · have:hi - l=0:=by omega
   simp[this]
 rw[if_neg e',←htake];apply List.ext_getElem?;intro k;rw[List.getElem?_take,List.getElem?_take,List.getElem?_drop,List.getElem?_drop,List.getElem?_take,List.getElem?_drop];by_cases hk:k<(hi - l)*s
 · rw[if_pos hk,if_pos hk,if_pos (by omega),Nat.add_assoc]
 rw[if_neg hk,if_neg hk]
theorem Qs.cutR {ops:Array Oper} {k:Nat} {o:Oper} {s:HS} {d n l hi sz:Nat} {t e:TypeId} {ti:TI} {x:Operand} {low high:Option Operand} {rows:List (List CD)} (hop:ops[k]? =some o) (hg:o.guard=none) (hd:o.dst=some d) (ho:o.op=.slice t x low high none) (hu:QY d s=true) (hok:XJ s (some d)=true)
  (hx:opd s.regs x=.v (.one (.own n))) (hl:lkp s.objs n=some (.row e sz rows)) (he:Z2 P t=some e) (hti:XF P e=some ti) (hsz:ti.size=sz) (h1:X0H (opd s.regs) 0 low=some l) (h2:X0H (opd s.regs) rows.length high=some hi) (hlh:l≤hi) (hh:hi≤rows.length):
  Qs P ops k 1 s (fun u=>u=({s with objs:=ins d (.row e sz ((rows.take hi).drop l)) (del n s.objs)}:HS).put (some d) (.v (.one (.own d)))):=by
 intro w0 B π F γ a w Q Xj hr hK;subst hsz;have hro:Xr F w B e ti.size (γ n) rows:=hr.heap.ob n _ hl;have hsl:=hro.sl;have hxv:=hr.opd x;rw[hx]at hxv;have hv:a.eval x=γ n:=by rw[hxv.1,Zc hsl]
 obtain⟨ad,cap,hva,hcap,hrow⟩:=hro.cut hlh hh;obtain⟨i,td,z,hi',htd,hz,e1,e2,e3,e4,e5⟩:=XC hti;have hb:=Z1 (P:=P) (w:=w) (b:=true) hr.opd h1 h2 hlh hh hcap;show wpOps P ops Q (k::Xj) a w;rw[wpOps_cons];unfold wpOp;rw[hop];simp only;have hwant:Region.wanted o (yielded ops a.tmps)=true:=by unfold Region.wanted;rw[hg]
 rw[hwant];simp only[if_true];refine .inl ?_;unfold Oper.wp
 have hrun:(execOp a.eval o).run P w=.ok (.value (.slice (if cap=l then ad else ad.map fun a=>a.add (l*ti.size)) (hi - l) (cap - l))) w:=by
  unfold execOp;rw[ho];simp[hv,hva,Instr.sliceAt,Instr.slice,run_underlying (Q4 he),hb,XA hi',e1]
 rw[hrun,Oper.upon_value,hd]
 have hHR:HeapRel w0 B π F (upd γ d (.slice (if cap=l then ad else ad.map fun a=>a.add (l*ti.size)) (hi - l) (cap - l))) (ins d (.row e ti.size ((rows.take hi).drop l)) (del n s.objs)) w:=by
  refine hr.heap.moved (ns:=[n]) (by simp[hl]) (fun m o hm=>by obtain⟨h1,h2⟩:=Q8 hm;exact⟨by simpa using h1,h2⟩) (Ww hu) hr.heap.below (Nat.le_refl _) (fun _ _ _=>rfl) (fun b hb=>.inr ⟨n,by simp,(W5 hsl).2 ?_⟩) (ZW hu) hrow;rw[hva];cases ad with
  |none=>simp[Blk,blk]at hb
  | some ad=>
    simp only[Blk]at hb;split at hb
    · exact hb
    simp only[Option.map_some,blk]at hb⊢;rw[←hb];simp only[Addr.add];split<;>rfl
 refine hK _ F (upd γ d (.slice (if cap=l then ad else ad.map fun a=>a.add (l*ti.size)) (hi - l) (cap - l))) (a.put (some d) _) w rfl (fun _ h=>h) (fun _ h=>.inl h) ?_;exact hr.step (dst:=some d) hok hHR ⟨by rw[Xo];rfl,rfl⟩ fun k r v hl2 hr2=>(hr.heap.keepR (fun _ _=>rfl) hr2).upd (WT hu hl2)
theorem RunsN.cutR {ops:Array Oper} {l0:List Oper} {o:Oper} {s:HS} {K:HS→Prop} {d n l hi sz:Nat} {t e:TypeId} {ti:TI} {x:Operand} {low high:Option Operand} {rows:List (List CD)} (hg:o.guard=none) (hd:o.dst=some d) (ho:o.op=.slice t x low high none) (hu:QY d s=true) (hok:XJ s (some d)=true)
  (hx:opd s.regs x=.v (.one (.own n))) (hl:lkp s.objs n=some (.row e sz rows)) (he:Z2 P t=some e) (hti:XF P e=some ti) (hsz:ti.size=sz) (h1:X0H (opd s.regs) 0 low=some l) (h2:X0H (opd s.regs) rows.length high=some hi) (hlh:l≤hi) (hh:hi≤rows.length)
  (hr:RunsN P ops l0 (({s with objs:=ins d (.row e sz ((rows.take hi).drop l)) (del n s.objs)}:HS).put (some d) (.v (.one (.own d)))) K):RunsN P ops (o::l0) s K:=by
 refine .many (M:=fun u=>u=_) 1 (fun k hk=>?_) fun u hu=>by rw[hu];exact hr
 exact Qs.cutR (hk 0 o rfl) hg hd ho hu hok hx hl he hti hsz h1 h2 hlh hh
end
end Go.Hl
