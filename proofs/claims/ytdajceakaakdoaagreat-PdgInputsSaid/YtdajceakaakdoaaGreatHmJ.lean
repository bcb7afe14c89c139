/- HmJ: part of an evaluator of Go code over abstract states, proved sound over the model; used by the proof of the claimed statement. Conditions: none. -/
import Derived.Test.YtdajceakaakdoaaGreatHmI
import Derived.ArgAppend
set_option linter.unusedSimpArgs false
set_option linter.unusedVariables false
namespace Go.Hl
open Go Go.RowKit
section
variable {P:Program} {F:Nat→Prop} {γ:Nat→Value} {w w' w0:World} {B:Nat→Prop} {π:Nat→Option Value}
theorem X2v {objs:List (Nat×Ob)} {g:Operand→RV} {ρ:Operand→Value} {y:Operand} {size:Nat} {rows:List (List CD)} (hpos:0<size) (hh:HeapRel w0 B π F γ objs w)
  (hg:X9 F γ w (g y) (ρ y)) (h:Wh objs size (g y)=some rows):
  (∀r∈rows,r.length=size)∧((ρ y=.slice none 0 0∧rows=[])∨∃a c,∃news:List Value,ρ y=.slice (some a) rows.length c∧news.length=rows.length*size∧
   (∀j u,news[j]? =some u→w.cell? (a.add j)=some u)∧(∀u∈news,u.oneCell'=true)∧
   ∀i j d,XG rows i j=some d→∃u,news[i*size+j]? =some u∧CRel F w d u):=by
 unfold Wh at h;split at h
 · rename_i s rows' hgy;split at h
   · rename_i hs;subst hs;cases h;rw[hgy]at hg;rcases CRel.sl_inv (show CRel F w (.sl s rows) (ρ y) from hg)with⟨rfl,hv|⟨a,c,hv⟩⟩|⟨b,o',cap,cells,hv,hF,hcap,hmax,hs,hc,h1,hr⟩
     · exact⟨by simp,.inl ⟨hv,rfl⟩⟩
     · exact⟨by simp,.inr ⟨a,c,[],by simpa using hv,by simp,by simp,by simp,by simp[XG]⟩⟩
     have hex:∀k,k<rows.length*s→∃d,XG rows (k/s) (k%s)=some d:=by
      intro k hk;have hlt:k/s<rows.length:=Nat.div_lt_of_lt_mul (by rw[Nat.mul_comm];exact hk);have hm:k%s<s:=Nat.mod_lt _ hpos;have hl:rows[k/s].length=s:=hs _ (List.getElem_mem hlt);exact⟨rows[k/s][k%s]'(by rw[hl];exact hm),by simp[XG,List.getElem?_eq_getElem hlt]⟩
     have hdm:∀k,k/s*s+k%s=k:=fun k=>by rw[Nat.mul_comm];exact Nat.div_add_mod k s
     refine⟨hs,.inr ⟨⟨b,o',none⟩,cap,(List.range (rows.length*s)).map fun k=>cells (k/s) (k%s),hv,by simp,?_,?_,?_⟩⟩
     · intro j u hu;rw[List.getElem?_map]at hu;simp only[Option.map_eq_some_iff]at hu;obtain⟨k,hk,rfl⟩:=hu
       have hk':j<rows.length*s∧j=k:=by
        have:=List.getElem?_eq_some_iff.1 hk;simpa using this
       obtain⟨hlt,rfl⟩:=hk';obtain⟨d,hd⟩:=hex j hlt;have:=hc _ _ d hd;rw[hdm]at this;rw[QW];exact this
     · intro u hu;obtain⟨k,hk,rfl⟩:=List.mem_map.1 hu;obtain⟨d,hd⟩:=hex k (by simpa using hk);exact h1 _ _ d hd
     intro i j d hd;obtain⟨hi,hj⟩:=WO hs hd
     have hlt:i*s+j<rows.length*s:=by
      have:(i+1)*s≤rows.length*s:=Nat.mul_le_mul_right _ hi;rw[Nat.add_mul]at this;omega
     have e1:(i*s+j)/s=i:=by rw[Nat.mul_comm,Nat.mul_add_div hpos,Nat.div_eq_of_lt hj,Nat.add_zero]
     have e2:(i*s+j)%s=j:=by rw[Nat.mul_comm,Nat.mul_add_mod,Nat.mod_eq_of_lt hj]
     exact⟨cells i j,by simp[hlt,e1,e2],hr i j d hd⟩
   cases h
 · rename_i m hgy;split at h
   · rename_i e s rows' hl;split at h
     · rename_i hs;subst hs;cases h;rw[hgy]at hg;obtain⟨hv,_⟩:=hg;have hro:Xr F w B e s (γ m) rows:=hh.ob m _ hl;rw[Zc hro.sl]at hv;obtain⟨h0,hss,xs,hown,h1,hc⟩:=hro;refine⟨hss,?_⟩;rcases hown.2 with⟨hγ,hn⟩|⟨b,oo,cap,cur,hγ,Xj⟩
       · exact .inl ⟨hv.trans hγ,List.eq_nil_of_length_eq_zero hn⟩
       refine .inr ⟨⟨b,oo,none⟩,cap,xs,hv.trans hγ,hown.1,?_,h1,hc⟩;rw[hγ]at hown;exact hown.cells
     cases h
   cases h
 cases h
theorem X74 {α:Type} (a b:List (List α)) (i j:Nat):XG (a++b) i j=if i<a.length then XG a i j else XG b (i - a.length) j:=by
 unfold XG;by_cases h:i<a.length
 · rw[if_pos h,List.getElem?_append_left h]
 rw[if_neg h,List.getElem?_append_right (Nat.le_of_not_lt h)]
theorem X4m (w:World) (t ty e:TypeId) (i:TypeInfo) (ht:P.underlying t=some (.slice e)) (hi:P.info? e=some i)
  (g o sLen sCap:Nat) (cur:Array Value) (hg:w.heap[g]? =some (.cells cur e (0,0)))
  (a:Addr) (m c:Nat) (news:List Value) (hl:news.length=m*i.size) (hnews:∀j u,news[j]? =some u→w.cell? (a.add j)=some u) (h1:∀u∈news,u.oneCell'=true)
  (hroom:sLen+m≤sCap) (hfit:o+sLen*i.size+news.length≤cur.size):
  (Builtin.append_ #[t,t] ty #[.slice (some ⟨g,o,none⟩) sLen sCap,.slice (some a) m c]).run P w=
   .ok (.slice (some ⟨g,o,none⟩) (sLen+m) sCap) (w.setRow g (cur.toList.take (o+sLen*i.size)++news++cur.toList.drop (o+sLen*i.size+news.length)).toArray):=by
 have hf:=run_firstCells_some (P:=P) w i.size m a m c news hl hnews;have hst:=run_storeCells_at P g (o+sLen*i.size) e news 0 cur w hg (by simpa using hfit) h1;simp only[Nat.add_zero]at hst;simp[Builtin.append_,run_underlying ht,sizeOf,typeInfo,hi,Builtin.lenOf,hroom,hf,Addr.add_lit,hst]
theorem X3K {t e ty:TypeId} {ti:TI} (hu:P.underlying t=some (.slice e)) (hti:XF P e=some ti) (hpos:0<ti.size) (hzl:ti.zero.length=ti.size)
  {v:Value} {n m c:Nat} {a:Addr} {xs news:List Value} (hown:Qy w B e ti.size v n xs) (hB:∀b,B b→b<w.heap.size) (hl:news.length=m*ti.size)
  (hnews:∀j u,news[j]? =some u→w.cell? (a.add j)=some u) (hn1:∀u∈news,u.oneCell'=true) (hmax:n+m≤maxLen) (hby:(n+m)*ti.bytes≤140737488355328):
  ∃v' w',(Builtin.append_ #[t,t] ty #[v,.slice (some a) m c]).run P w=.ok v' w'∧w.grownBy w' v.ownBlock∧(∀b,blk v'=some b→w.heap.size≤b∨v.ownBlock=some b)∧
   (∃a l c,v'=.slice a l c)∧Qy w' B e ti.size v' (n+m) (xs++news):=by
 obtain⟨i,td,z,hi,htd,hz,h1,h2,h3,h4,h5⟩:=XC hti;have hzs:z.cells.size=ti.size:=by rw[←hzl,h4];simp
 have hmax':=hmax;unfold maxLen at hmax';have hlen:(xs++news).length=(n+m)*ti.size:=by rw[List.length_append,hown.1,hl,Nat.add_mul]
 have fresh:∀(w1:World) (v1:Value),w1.ownsRow w.heap.size e ti.size v1 (n+m) (xs++news)→(∀b,blk v1=some b→w.heap.size≤b)∧(∃a l c,v1=.slice a l c)∧Qy w1 B e ti.size v1 (n+m) (xs++news):=by
  intro w1 v1 h
  have hb:∀b,blk v1=some b→w.heap.size≤b:=by
   intro b hb;rcases h.2 with⟨rfl,_⟩|⟨g,cap,cur,rfl,hx,_⟩
   · cases hb
   cases hb;exact hx
  have hk:Qy w1 B e ti.size v1 (n+m) (xs++news):=by
   refine Qy.of_row ⟨h.1,h.2.imp id ?_⟩ fun b hbb hx=>?_
   · rintro⟨g,cap,cur,h1,_,h3⟩;exact⟨g,cap,cur,h1,Nat.zero_le _,h3⟩
   have hb2:blk v1=some b:=by
    rcases h.2 with⟨rfl,_⟩|⟨g,cap,cur,rfl,_⟩
    · cases hbb
    exact hbb
   exact Nat.lt_irrefl _ (Nat.lt_of_lt_of_le (hB b hx) (hb b hb2))
  exact⟨hb,hk.sl,hk⟩
 rcases hown.2 with⟨rfl,hr0⟩|⟨g,o,cap,cur,rfl,hBg,hg,hnc',hcm,hcs,htake⟩
 · have h0:w.ownsRow w.heap.size e ti.size (.slice none 0 0) n xs:=⟨hown.1,.inl ⟨rfl,hr0⟩⟩;obtain⟨v',w',hrun,hown',hgr,_⟩:=run_append_own (P:=P) w w.heap.size t ty e i z ti.size ti.bytes hu hi hz h1 h2 hzs hpos _ n xs h0 a m c news hl hnews hn1 hmax hby (Nat.le_refl _);obtain⟨f1,f2,f3⟩:=fresh w' v' hown';exact⟨v',w',hrun,hgr,fun b hb=>.inl (f1 b hb),f2,f3⟩
 by_cases hroom:n+m≤cap
 · have hsp:(n+m)*ti.size≤cap*ti.size:=Nat.mul_le_mul_right _ hroom;rw[Nat.add_mul]at hsp;have hfit:o+n*i.size+news.length≤cur.size:=by rw[hl,h1];omega
   have hr:=X4m (P:=P) w t ty e i hu hi g o n cap cur hg a m c news (by rw[hl,h1]) hnews hn1 hroom hfit;refine⟨_,_,hr,⟨rfl,rfl,rfl,by simp,fun k hk hne=>setRow_other _ _ _ _ fun e'=>hne (by rw[e'];rfl)⟩,fun b hb=>.inr hb,⟨_,_,_,rfl⟩,hlen,.inr ⟨g,o,cap,_,rfl,hBg,setRow_heap w g cur _ e _ hg,hroom,hcm,?_,?_⟩⟩
   · rw[List.size_toArray,List.length_append,List.length_append,List.length_take,List.length_drop,Array.length_toList];omega
   rw[←htake];rw[h1]at hfit⊢;have hcl:cur.toList.length=cur.size:=Array.length_toList;apply List.ext_getElem?;intro k;rw[List.getElem?_take,List.getElem?_drop,Wt _ _ _ _ (by rw[hcl];omega)];by_cases hk:k<n*ti.size
   · rw[if_pos (by rw[Nat.add_mul];omega),if_neg (by omega),List.getElem?_append_left (by rw[List.length_take,List.length_drop,hcl];omega),List.getElem?_take,if_pos hk,List.getElem?_drop]
   have hx:(List.take (n*ti.size) (List.drop o cur.toList)).length=n*ti.size:=by rw[List.length_take,List.length_drop,hcl];omega
   rw[List.getElem?_append_right (by rw[hx];omega),hx];by_cases hk2:k<(n+m)*ti.size
   · rw[if_pos hk2,if_pos (by rw[hl];rw[Nat.add_mul]at hk2;omega),show o+k - (o+n*ti.size)=k - n*ti.size by omega]
   rw[if_neg hk2,List.getElem?_eq_none (by rw[hl];rw[Nat.add_mul]at hk2;omega)]
 have hcell:=hown.cells;obtain⟨v',w',hrun,hown',hgr⟩:=run_append_arg_grows (P:=P) w t ty e i z ti.size ti.bytes hu hi hz h1 h2 hzs hpos ⟨g,o,none⟩ n cap xs hown.1 hcell a m c news hl hnews (by omega) hmax hby;obtain⟨f1,f2,f3⟩:=fresh w' v' hown';exact⟨v',w',hrun,⟨hgr.os,hgr.tape,hgr.output,hgr.size,fun k hk _=>hgr.block k hk (by simp)⟩,fun b hb=>.inl (f1 b hb),f2,f3⟩
theorem X14 {t e ty:TypeId} {ti:TI} (hu:P.underlying t=some (.slice e)) (hti:XF P e=some ti) (hpos:0<ti.size) (hzl:ti.zero.length=ti.size)
  {v src:Value} {rows more:List (List CD)} {xs:List Value} (hown:Qy w B e ti.size v rows.length xs) (hB:∀b,B b→b<w.heap.size)
  (hs:∀r∈rows,r.length=ti.size) (hx1:∀u∈xs,u.oneCell'=true) (hxc:∀i j d,XG rows i j=some d→∃u,xs[i*ti.size+j]? =some u∧CRel F w d u)
  (hms:∀r∈more,r.length=ti.size)
  (hsrc:(src=.slice none 0 0∧more=[])∨∃a c,∃news:List Value,src=.slice (some a) more.length c∧news.length=more.length*ti.size∧
   (∀j u,news[j]? =some u→w.cell? (a.add j)=some u)∧(∀u∈news,u.oneCell'=true)∧
   ∀i j d,XG more i j=some d→∃u,news[i*ti.size+j]? =some u∧CRel F w d u)
  (hmax:rows.length+more.length≤maxLen) (hby:(rows.length+more.length)*ti.bytes≤140737488355328)
  (hF:∀b,F b→b<w.heap.size) (hFv:∀b,v.ownBlock=some b→¬F b):
  ∃v' w',(Builtin.append_ #[t,t] ty #[v,src]).run P w=.ok v' w'∧w.grownBy w' v.ownBlock∧(∀b,blk v'=some b→w.heap.size≤b∨v.ownBlock=some b)∧
   (∃a l c,v'=.slice a l c)∧(∀b,F b→w'.heap[b]? =w.heap[b]?)∧∀γ',XT F γ' w' B v' (.row e ti.size (rows++more)):=by
 obtain⟨i,td,z,hi,htd,hz,h1,h2,h3,h4,h5⟩:=XC hti;have hzs:z.cells.size=ti.size:=by rw[←hzl,h4];simp
 have hvform:∃a l c,v=.slice a l c:=by
  rcases hown.2 with⟨rfl,_⟩|⟨b,oo,cap,cur,rfl,_⟩
  · exact⟨_,_,_,rfl⟩
  exact⟨_,_,_,rfl⟩
 rcases hsrc with⟨rfl,rfl⟩|⟨a,c,news,rfl,hl,hnews,hn1,hnc⟩
 · refine⟨v,w,?_,⟨rfl,rfl,rfl,Nat.le_refl _,fun _ _ _=>rfl⟩,?_,hvform,fun _ _=>rfl,fun γ'=>?_⟩
   · rcases hown.2 with⟨rfl,hr⟩|⟨b,oo,cap,cur,rfl,hb,hh,hnc',_⟩
     · simp[Builtin.append_,run_underlying hu,sizeOf,typeInfo,hi,Builtin.lenOf,Builtin.firstCells]
     simp[Builtin.append_,run_underlying hu,sizeOf,typeInfo,hi,Builtin.lenOf,Builtin.firstCells,hnc',storeCells]
   · intro b hb;obtain⟨a',l',c',rfl⟩:=hvform;exact .inr (by cases a'<;>simp_all[blk,Value.ownBlock])
   rw[List.append_nil];exact⟨hpos,hs,xs,hown,hx1,hxc⟩
 obtain⟨v',w',hrun,hgr,hblk',hform,hownK⟩:=X3K (P:=P) (w:=w) (B:=B) (ty:=ty) (c:=c) hu hti hpos hzl hown hB hl hnews hn1 hmax hby;have hF':∀b,F b→w'.heap[b]? =w.heap[b]? :=fun b hb=>hgr.block b (hF b hb) fun e'=>hFv b e'.symm hb;refine⟨v',w',hrun,hgr,hblk',hform,hF',fun γ'=>⟨hpos,?_,xs++news,by rw[List.length_append];exact hownK,?_,?_⟩⟩
 · intro r hr;rcases List.mem_append.1 hr with hr|hr
   · exact hs r hr
   exact hms r hr
 · intro u hu';rcases List.mem_append.1 hu' with hu'|hu'
   · exact hx1 u hu'
   exact hn1 u hu'
 intro i' j d hd;rw[X74]at hd;by_cases hlt:i'<rows.length
 · rw[if_pos hlt]at hd;obtain⟨u,hu',hr⟩:=hxc i' j d hd;refine⟨u,?_,hr.mono (fun _ h=>h) hF'⟩;rw[List.getElem?_append_left (List.getElem?_eq_some_iff.1 hu').1];exact hu'
 rw[if_neg hlt]at hd;obtain⟨u,hu',hr⟩:=hnc (i' - rows.length) j d hd;refine⟨u,?_,hr.mono (fun _ h=>h) hF'⟩;have hge:rows.length*ti.size≤i'*ti.size:=Nat.mul_le_mul_right _ (Nat.le_of_not_lt hlt);rw[List.getElem?_append_right (by rw[hown.1];omega),hown.1];rw[←hu'];congr 1;rw[Nat.sub_mul];omega
theorem X0i {v:Value} (h:∃a l c,v=.slice a l c):blk v=v.ownBlock:=by
 obtain⟨a,l,c,rfl⟩:=h;cases a<;>rfl
theorem X7v {objs objs':List (Nat×Ob)} {g:Operand→RV} {ρ:Operand→Value} {o:Oper} {d:Nat} {t e:TypeId} {ti:TI} {x y:Operand} (hh:HeapRel w0 B π F γ objs w)
  (hg:∀x,X9 F γ w (g x) (ρ x)) (hd6:d<1000000) (hd':∀n o,lkp objs n=some o→n≠d∧¬o.men d) (ho:o.op=.call {callee:=.builtin .append,args:= #[x,y],argTypes:= #[t,t]})
  (hu:P.underlying t=some (.slice e)) (hti:XF P e=some ti) (h:Zg objs e ti d (g x) (g y)=some objs'):
  ∃nx v w' γ',(execOp ρ o).run P w=.ok nx w'∧(nx=.value v∨nx=.skip∧v=undef)∧HeapRel w0 B π F γ' objs' w'∧X9 F γ' w' (.v (.one (.own d))) v∧
   Ext γ γ' (some d)∧w.heap.size≤w'.heap.size∧∀b,F b→w'.heap[b]? =w.heap[b]? :=by
 unfold Zg at h;split at h
 · rename_i n hgx;split at h
   · rename_i e1 e' s rows hl;split at h
     · rename_i m hgy;split at h
       · rename_i e3 r hm;split at h
         · rename_i e2 s2 rs hr;split at h
           · rename_i hc;obtain⟨rfl,rfl,rfl,hsz1,hzl,hroom,hnr,hnm,hrm⟩:=hc;cases h;have hx:=hg x;rw[hgx]at hx;obtain⟨hvx,_⟩:=hx;have hy:=hg y;rw[hgy]at hy;obtain⟨hvy,_⟩:=hy;have hro:Xr F w B e2 s2 (γ r) rs:=hh.ob r _ hr;obtain⟨b3,hγm,hB3,hh3⟩:=hh.ob m _ hm;obtain⟨o',is,hγ,h0,hlen,⟨xs,hown,hxs⟩,hin,hd1,hd2⟩:=hh.ob n _ hl;have hvo:ρ x=o':=by rw[hvx,hγ];rfl
             have hvm:ρ y=.slice (some ⟨b3,0,none⟩) 1 1:=by rw[hvy,hγm];rfl
             have hsr:=hro.sl
             have hcell:w.cell? ⟨b3,0,none⟩=some (γ r):=by
              rw[cell_of_row w b3 0 _ _ (0,0) hh3];simp[Zc hsr]
             obtain⟨v',w',hrun,hgr,hblk,hform,hownK⟩:=X3K (P:=P) (w:=w) (B:=B) (ty:=o.type) (m:=1) (c:=1) (a:=⟨b3,0,none⟩) (news:=[γ r]) hu hti (by omega) (by rw[hzl,hsz1]) (by rw[hsz1];exact hown) hh.hB (by simp[hsz1]) (fun j u hu=>by
               cases j with
               |zero=>cases hu;exact hcell
               |succ j=>simp at hu) (fun u hu=>by
               simp only[List.mem_singleton]at hu;subst hu;obtain⟨_,_,_,e⟩:=hsr
               rw[e];rfl) hroom.1 hroom.2
             have hobo:=X0i hown.sl;have hBo:∀c,o'.ownBlock=some c→Blk (γ n) c:=fun c hc=>by rw[hγ];exact⟨o',by simp,by rw[hobo];exact hc⟩
             have hF':∀b,F b→w'.heap[b]? =w.heap[b]? :=fun b hb=>hgr.block b (hh.fsz b hb) fun e'=>hh.apart n _ hl b (hBo b e'.symm) hb;have hil:∀(k:Nat) v c,is[k]? =some v→blk v=some c→Blk (γ n) c:=fun k v c hk hc=>by rw[hγ];exact⟨v,by simp[List.mem_of_getElem? hk],hc⟩
             have hrb:∀c,blk (γ r)=some c→¬Blk (γ n) c∧c<w.heap.size:=fun c hc=>⟨fun hx=>hh.sep n r _ _ hl hr hnr c hx ((W5 hsr).2 hc),((hh.ob r _ hr).blk_lt ((W5 hsr).2 hc)).2⟩;have hvb:∀c,blk v'=some c→w.heap.size≤c∨(blk o'=some c∧Blk (γ n) c):=fun c hc=>(hblk c hc).imp id fun h=>⟨by rw[hobo];exact h,hBo c h⟩
             have hink:∀(k:Nat) v c,is[k]? =some v→blk v=some c→w'.heap[c]? =w.heap[c]? :=fun k v c hk hc=>
              hgr.block c ((hh.ob n _ hl).blk_lt (hil k v c hk hc)).2 fun e'=>hd1 k v c hk hc (by rw[hobo];exact e'.symm)
             refine⟨.value v',v',w',upd γ d (.agg (v'::(is++[γ r])).toArray),?_,.inl rfl,?_,⟨by rw[Xo];rfl,by obtain⟨_,_,_,rfl⟩:=hform;rfl⟩,Zh fun n hn=>Xd _ (fun e=>hn (by rw[e])),hgr.size,hF'⟩
             · unfold execOp;rw[ho];simp[resolve,invoke,builtin,hvo,hvm,hrun]
             refine hh.moved (ns:=[n,r]) (by simp[hl,hr]) (fun m o hm=>?_) hd' (hh.below.grown hgr hh.hB fun k hk=>((hh.ob n _ hl).blk_lt (hBo k hk)).1) hgr.size
              (fun b hb hne=>hgr.block b hb (fun e=>hne n (by simp) (hBo b e.symm))) ?_ hd6 ?_
             · obtain⟨h1,h2⟩:=Q8 hm;obtain⟨h3,h4⟩:=Q8 h2;exact⟨by simp[h1,h3],h4⟩
             · rintro c ⟨v,hv,hvc⟩;simp only[List.mem_cons,List.mem_append,List.mem_singleton,List.not_mem_nil,or_false]at hv;rcases hv with rfl|hv|rfl
               · exact(hvb c hvc).imp id fun h=>⟨n,by simp,h.2⟩
               · obtain⟨k,hk⟩:=List.mem_iff_getElem?.1 hv;exact .inr ⟨n,by simp,hil k v c hk hvc⟩
               exact .inr ⟨r,by simp,(W5 hsr).2 hvc⟩
             have hsp:∀(k:Nat) v,(is++[γ r])[k]? =some v→(k<is.length∧is[k]? =some v)∨(k=is.length∧v=γ r):=by
              intro k v hv;by_cases hk:k<is.length
              · rw[List.getElem?_append_left hk]at hv;exact .inl ⟨hk,hv⟩
              rw[List.getElem?_append_right (Nat.le_of_not_lt hk)]at hv
              have:k - is.length=0:=by
               have:=(List.getElem?_eq_some_iff.1 hv).1;simp at this;omega
              rw[this]at hv;cases hv;exact .inr ⟨by omega,rfl⟩
             have hrp:∀(k:Nat) q,k<is.length→(rows++[some rs])[k]? =some q→rows[k]? =some q:=by
              intro k q hk hq;rw[List.getElem?_append_left (by omega)]at hq;exact hq
             have hrl:∀q,(rows++[some rs])[is.length]? =some q→q=some rs:=by
              intro q hq;rw[List.getElem?_append_right (by omega),hlen,Nat.sub_self]at hq;cases hq;rfl
             refine⟨v',is++[γ r],rfl,h0,by simp[hlen],⟨xs++[γ r],by rw[hsz1]at hownK;simpa using hownK,fun k v q hv hq=>?_⟩,fun k v q hv hq=>?_,fun k v c hv hvc=>?_,fun j k u v c hu hv hjk huc=>?_⟩
             · rcases hsp k v hv with⟨hk,hv'⟩|⟨rfl,rfl⟩
               · rw[List.getElem?_append_left (by rw[hown.1];omega)];exact hxs k v q hv' (hrp k q hk hq)
               rw[hrl q hq,List.getElem?_append_right (by rw[hown.1];omega),hown.1,hlen];simp[ZV]
             · rcases hsp k v hv with⟨hk,hv'⟩|⟨rfl,rfl⟩
               · have:=hin k v q hv' (hrp k q hk hq);cases q with
                 |none=>exact this
                 |some rr=>exact Xr.mono (fun _ h=>h) hF' (fun c hc=>hink k v c hv' hc) this
               rw[hrl q hq];exact Xr.mono (fun _ h=>h) hF' (fun c hc=>hgr.block c (hrb c hc).2 fun e'=>(hrb c hc).1 (hBo c e'.symm)) hro
             · intro hc;rcases hsp k v hv with⟨hk,hv'⟩|⟨rfl,rfl⟩
               · rcases hvb c hc with h|h
                 · have:=((hh.ob n _ hl).blk_lt (hil k v c hv' hvc)).2;omega
                 exact hd1 k v c hv' hvc h.1
               rcases hvb c hc with h|h
               · have:=(hrb c hvc).2;omega
               exact(hrb c hvc).1 h.2
             rcases hsp j u hu with⟨hj,hu'⟩|⟨rfl,rfl⟩
             · rcases hsp k v hv with⟨hk,hv'⟩|⟨rfl,rfl⟩
               · exact hd2 j k u v c hu' hv' hjk huc
               intro hvc;exact(hrb c hvc).1 (hil j u c hu' huc)
             rcases hsp k v hv with⟨hk,hv'⟩|⟨rfl,rfl⟩
             · intro hvc;exact(hrb c huc).1 (hil k v c hv' hvc)
             exact absurd rfl hjk
           cases h
         cases h
       cases h
     cases h
   cases h
 cases h
theorem X7k {objs objs':List (Nat×Ob)} {g:Operand→RV} {ρ:Operand→Value} {o:Oper} {dst:Option Nat} {r:RV} {args:Array Operand} {ts:Array TypeId} (hh:HeapRel w0 B π F γ objs w)
  (hg:∀x,X9 F γ w (g x) (ρ x)) (hd:∀d,dst=some d→d<1000000∧∀n o,lkp objs n=some o→n≠d∧¬o.men d)
  (ho:o.op=.call {callee:=.builtin .append,args:=args,argTypes:=ts}) (hsz:args.size=2∧ts.size=2)
  (h:evW P objs g dst (.call {callee:=.builtin .append,args:=args,argTypes:=ts})=some (r,objs')):Did P ρ o w0 B π F γ w dst r objs':=by
 obtain⟨x,y,rfl⟩:∃x y,args= #[x,y]:=by
  obtain⟨l⟩:=args
  match l,hsz.1 with
  |[x,y],_=>exact⟨x,y,rfl⟩
 obtain⟨t,t',rfl⟩:∃t t',ts= #[t,t']:=by
  obtain⟨l⟩:=ts
  match l,hsz.2 with
  |[x,y],_=>exact⟨x,y,rfl⟩
 unfold Did;cases dst with
 |none=>simp[evW]at h
 | some d =>
   obtain⟨hd6,hd'⟩:=hd d rfl;simp only[evW,List.getElem?_toArray,List.getElem?_cons_zero,List.getElem?_cons_succ]at h;split at h
   · rename_i htt;subst htt;split at h
     · rename_i e he;have hu:=Q4 he;split at h
       · rename_i ti hti;split at h
         · rename_i objs2 hmat;cases h;exact X7v hh hg hd6 hd' ho hu hti hmat
         split at h
         · rename_i n rows more hbase hmore;split at h
           · rename_i hcond;obtain⟨hpos,hzl,hmax,hby⟩:=hcond;obtain⟨hms,hsrc⟩:=X2v hpos hh (hg y) hmore;simp only[WJ]at hbase;split at hbase
             · rename_i hgx;cases hbase;cases h;have hx:=hg x;rw[hgx]at hx;have hv:ρ x=.slice none 0 0:=X9.lit_eq rfl hx
               obtain⟨v',w',hrun,hgr,hblk,hform,hFk,hob⟩:=X14 (P:=P) (F:=F) (w:=w) (B:=B) (ty:=o.type) hu hti hpos hzl (v:=.slice none 0 0) (src:=ρ y) (rows:=[]) (more:=more) (xs:=[])
                (Qy.nil w B e ti.size) hh.hB (by simp) (by simp) (by simp[XG]) hms hsrc hmax hby hh.fsz (by simp[Value.ownBlock])
               refine⟨.value v',v',w',upd γ d v',?_,.inl rfl,?_,⟨by rw[Xo];exact(Zc hform).symm,by obtain⟨_,_,_,rfl⟩:=hform;rfl⟩,Zh fun n hn=>Xd _ (fun e=>hn (by rw[e])),hgr.size,hFk⟩
               · unfold execOp;rw[ho];simp[resolve,invoke,builtin,hv,hrun]
               exact hh.made hd' (hh.below.grown hgr hh.hB (by simp[Value.ownBlock])) hgr.size (fun b hb=>hgr.block b hb (by simp[Value.ownBlock])) (fun b hb=>(hblk b ((W5 hform).1 hb)).resolve_right (by simp[Value.ownBlock])) hd6 (by simpa using hob (upd γ d v'))
             · rename_i n' hgx;split at hbase
               · rename_i e' s rows' hl;split at hbase
                 · rename_i hes;obtain⟨rfl,rfl⟩:=hes;cases hbase;cases h;have hx:=hg x;rw[hgx]at hx;obtain⟨hv,hvf⟩:=hx;have hro:Xr F w B e' ti.size (γ n') rows:=hh.ob n' _ hl;have hbo:=X0i hro.sl;have hsl:=hro.sl;rw[Zc hsl]at hv;obtain⟨h0,hss,xs,hown,hx1,hxc⟩:=hro
                   obtain⟨v',w',hrun,hgr,hblk,hform,hFk,hob⟩:=X14 (P:=P) (F:=F) (w:=w) (B:=B) (ty:=o.type) hu hti hpos hzl (v:=γ n') (src:=ρ y) (rows:=rows) (more:=more) (xs:=xs)
                    hown hh.hB hss hx1 hxc hms hsrc hmax hby hh.fsz (fun b hb=>hh.apart n' _ hl b ((W5 hsl).2 (by rw[hbo];exact hb)))
                   refine⟨.value v',v',w',upd γ d v',?_,.inl rfl,?_,⟨by rw[Xo];exact(Zc hform).symm,by obtain⟨_,_,_,rfl⟩:=hform;rfl⟩,Zh fun n hn=>Xd _ (fun e=>hn (by rw[e])),hgr.size,hFk⟩
                   · unfold execOp;rw[ho];simp[resolve,invoke,builtin,hv,hrun]
                   refine hh.moved (ns:=[n']) (by simp[hl]) (fun m o hm=>by obtain⟨h1,h2⟩:=Q8 hm;exact⟨by simpa using h1,h2⟩) hd' (hh.below.grown hgr hh.hB fun k hk=>?_) hgr.size
                    (fun b hb hne=>hgr.block b hb (fun e=>hne n' (by simp) ((W5 hsl).2 (by rw[hbo];exact e.symm)))) (fun b hb=>?_) hd6 (hob (upd γ d v'))
                   · exact((hh.ob n' _ hl).blk_lt ((W5 hsl).2 (by rw[hbo];exact hk))).1
                   rcases hblk b ((W5 hform).1 hb)with h|h
                   · exact .inl h
                   exact .inr ⟨n',by simp,(W5 hsl).2 (by rw[hbo];exact h)⟩
                 cases hbase
               cases hbase
             cases hbase
           cases h
         cases h
       cases h
     cases h
   cases h
theorem X75 {objs objs':List (Nat×Ob)} {g:Operand→RV} {ρ:Operand→Value} {o:Oper} {d:Option Nat} {r:RV} {t:TypeId} {m k v:Operand} (hh:HeapRel w0 B π F γ objs w)
  (hg:∀x,X9 F γ w (g x) (ρ x)) (ho:o.op=.mapUpdate t m k v) (h:evW P objs g d (.mapUpdate t m k v)=some (r,objs')):Did P ρ o w0 B π F γ w none r objs':=by
 unfold Did execOp;rw[ho];simp only[evW]at h;split at h
 · rename_i kd z kv cd n hm hk hgv hgm;obtain⟨kt,e,hu,huk,hz,hp,_⟩:=X4f hm;have ek:=X9.lit_eq hk (hg k);have hv:=hg v;rw[hgv]at hv;have hm':=hg m;rw[hgm]at hm';obtain⟨hvm,_⟩:=hm';split at h
   · rename_i l hl;split at h
     · rename_i hcell;split at h
       · rename_i hf;cases h;obtain⟨b,es,clock,hγ,hB,hb,hkeys,hborn,hrel⟩:=hh.ob n _ hl;have hvm':ρ m=.map (some b):=by rw[hvm,hγ];rfl
         have hfn:=ZG (F:=F) (w:=w) (es:=es.toList) 0 hkeys (fun j k d e h1 h2=>hrel j k d e h1 (by simpa using h2)) hf;have hlt:=WX hb;refine⟨.skip,undef,{w with heap:=w.heap.setIfInBounds b (.map (es.push {key:=kv,val:=ρ v,born:=clock}) (clock+1))},γ,?_,.inr ⟨rfl,rfl⟩,?_,trivial,Zh fun _ _=>rfl,by simp,fun c hc=>?_⟩
         · simp only[hvm',ek];simp[Instr.mapUpdate,run_underlying hu,MapKept.run_getObj_map hb,WE huk hp,Instr.findKey,run_underlying huk,hfn,MapKept.run_setObj_map _ hb]
         · have hBn:Blk (γ n) b:=by rw[hγ];rfl
           have hkeep:∀c,c≠b→(w.heap.setIfInBounds b (.map (es.push {key:=kv,val:=ρ v,born:=clock}) (clock+1)))[c]? =w.heap[c]? :=fun c hc=>by rw[Array.getElem?_setIfInBounds_ne (Ne.symm hc)]
           have hFk:∀c,F c→(w.heap.setIfInBounds b (.map (es.push {key:=kv,val:=ρ v,born:=clock}) (clock+1)))[c]? =w.heap[c]? :=fun c hc=>hkeep c fun e'=>hh.apart n _ hl b hBn (e'▸hc);refine hh.wrote hl (b:=b) hBn ⟨hh.below.os,hh.below.tape,hh.below.output,by simpa using hh.below.size,fun c hc=>(hkeep c fun e'=>hB (e'▸hc)).trans (hh.below.block c hc)⟩ (by simp) (fun c _ hne=>hkeep c hne) ?_;rw[hγ];refine⟨b,es.push {key:=kv,val:=ρ v,born:=clock},clock+1,rfl,hB,by simp[hlt],by simp[hkeys],hborn.push _ _,fun j k d e h1 h2=>?_⟩;have hlen:es.size=l.length:=by have:=congrArg List.length hkeys;simpa using this
           by_cases hj:j<l.length
           · rw[List.getElem?_append_left hj]at h1;rw[Array.getElem?_push,if_neg (by omega)]at h2;exact(hrel j k d e h1 h2).mono (fun _ h=>h) hFk
           rw[List.getElem?_append_right (Nat.le_of_not_lt hj)]at h1
           have hj0:j - l.length=0:=by
            have:=(List.getElem?_eq_some_iff.1 h1).1;simp at this;omega
           rw[hj0]at h1;cases h1;rw[Array.getElem?_push,if_pos (by omega)]at h2;cases h2;exact CRel.mono (fun _ h=>h) hFk hv
         have hBn:Blk (γ n) b:=by rw[hγ];rfl
         show(w.heap.setIfInBounds b _)[c]? =_;rw[Array.getElem?_setIfInBounds_ne (by rintro rfl;exact hh.apart n _ hl b hBn hc)]
       · rename_i x hf;split at h
         · rename_i l' hset;cases h;obtain⟨b,es,clock,hγ,hB,hb,hkeys,hborn,hrel⟩:=hh.ob n _ hl;have hvm':ρ m=.map (some b):=by rw[hvm,hγ];rfl
           obtain⟨j0,v0,k0,hfn,hj0,⟨e0,he0,hk0⟩,hsb,rfl⟩:=X5n (d:=cd) (es:=es.toList) 0 hkeys hset;have hlt:=WX hb;rw[Nat.zero_add]at hfn;have he0':es[j0]? =some e0:=by simpa using he0
           have hstay:(Instr.keyThatStays (((es[j0]?).map (·.key)).getD kv) kv).run P w=.ok kv w:=by
            rw[he0',Option.map_some,Option.getD_some,hk0];simp[Instr.keyThatStays,hsb]
           refine⟨.skip,undef,{w with heap:=w.heap.setIfInBounds b (.map (es.modify j0 fun e=>{e with key:=kv,val:=ρ v}) clock)},γ,?_,.inr ⟨rfl,rfl⟩,?_,trivial,Zh fun _ _=>rfl,by simp,fun c hc=>?_⟩
           · simp only[hvm',ek];simp[Instr.mapUpdate,run_underlying hu,MapKept.run_getObj_map hb,WE huk hp,Instr.findKey,run_underlying huk,hfn,hstay,MapKept.run_setObj_map _ hb]
           · have hBn:Blk (γ n) b:=by rw[hγ];rfl
             have hkeep:∀c,c≠b→(w.heap.setIfInBounds b (.map (es.modify j0 fun e=>{e with key:=kv,val:=ρ v}) clock))[c]? =w.heap[c]? :=fun c hc=>by rw[Array.getElem?_setIfInBounds_ne (Ne.symm hc)]
             have hFk:∀c,F c→(w.heap.setIfInBounds b (.map (es.modify j0 fun e=>{e with key:=kv,val:=ρ v}) clock))[c]? =w.heap[c]? :=fun c hc=>hkeep c fun e'=>hh.apart n _ hl b hBn (e'▸hc);refine hh.wrote hl (b:=b) hBn ⟨hh.below.os,hh.below.tape,hh.below.output,by simpa using hh.below.size,fun c hc=>(hkeep c fun e'=>hB (e'▸hc)).trans (hh.below.block c hc)⟩ (by simp) (fun c _ hne=>hkeep c hne) ?_;rw[hγ];refine⟨b,es.modify j0 fun e=>{e with key:=kv,val:=ρ v},clock,rfl,hB,by simp[hlt],?_,hborn.modify _ _ fun _=>rfl,fun j k d e h1 h2=>?_⟩
             · apply List.ext_getElem?;intro j;have hkj:=congrArg (·[j]?) hkeys;simp only[List.getElem?_map,Array.getElem?_toList]at hkj;simp only[List.getElem?_map,Array.getElem?_toList,Array.getElem?_modify,List.getElem?_set];by_cases hj:j0=j
               · subst hj;rw[if_pos rfl,if_pos rfl,if_pos hj0,he0'];rfl
               rw[if_neg hj,if_neg hj];exact hkj
             rw[List.getElem?_set]at h1;rw[Array.getElem?_modify]at h2;by_cases hj:j0=j
             · subst hj;rw[if_pos rfl,if_pos hj0]at h1;rw[if_pos rfl,he0']at h2;cases h1;cases h2;exact CRel.mono (fun _ h=>h) hFk hv
             rw[if_neg hj]at h1 h2;exact(hrel j k d e h1 h2).mono (fun _ h=>h) hFk
           have hBn:Blk (γ n) b:=by rw[hγ];rfl
           show(w.heap.setIfInBounds b _)[c]? =_;rw[Array.getElem?_setIfInBounds_ne (by rintro rfl;exact hh.apart n _ hl b hBn hc)]
         cases h
       cases h
     cases h
   cases h
 · rename_i kd z kv cd n i0 hm hk hgv hgm;obtain⟨kt,e,hu,huk,hz,hp,_⟩:=X4f hm;have ek:=X9.lit_eq hk (hg k);have hv:=hg v;rw[hgv]at hv;have hm':=hg m;rw[hgm]at hm';obtain⟨vs,hvs,hsub,_⟩:=hm';split at h
   · rename_i e1 ms hl;split at h
     · rename_i l hms;split at h
       · rename_i hcell;split at h
         · rename_i hf;cases h;obtain⟨o',is,hγ,hlen,⟨xs,hown,hxs⟩,hin,hd1,hd2⟩:=hh.ob n _ hl
           have hiv:is[i0]? =some (ρ m):=by
            rw[hγ]at hvs;cases hvs;simpa using hsub
           obtain⟨b,es,clock,hvm',hB,hb,hkeys,hborn,hrel⟩:=hin i0 _ _ hiv hms;have hfn:=ZG (F:=F) (w:=w) (es:=es.toList) 0 hkeys (fun j k d e h1 h2=>hrel j k d e h1 (by simpa using h2)) hf;have hlt:=WX hb;refine⟨.skip,undef,{w with heap:=w.heap.setIfInBounds b (.map (es.push {key:=kv,val:=ρ v,born:=clock}) (clock+1))},γ,?_,.inr ⟨rfl,rfl⟩,?_,trivial,Zh fun _ _=>rfl,by simp,fun c hc=>?_⟩
           · simp only[hvm',ek];simp[Instr.mapUpdate,run_underlying hu,MapKept.run_getObj_map hb,WE huk hp,Instr.findKey,run_underlying huk,hfn,MapKept.run_setObj_map _ hb]
           · have hBn:Blk (γ n) b:=by rw[hγ];exact⟨ρ m,by simp[List.mem_of_getElem? hiv],by rw[hvm'];rfl⟩
             have hkeep:∀c,c≠b→(w.heap.setIfInBounds b (.map (es.push {key:=kv,val:=ρ v,born:=clock}) (clock+1)))[c]? =w.heap[c]? :=fun c hc=>by rw[Array.getElem?_setIfInBounds_ne (Ne.symm hc)]
             have hFk:∀c,F c→(w.heap.setIfInBounds b (.map (es.push {key:=kv,val:=ρ v,born:=clock}) (clock+1)))[c]? =w.heap[c]? :=fun c hc=>hkeep c fun e'=>hh.apart n _ hl b hBn (e'▸hc);refine hh.wrote hl (b:=b) hBn ⟨hh.below.os,hh.below.tape,hh.below.output,by simpa using hh.below.size,fun c hc=>(hkeep c fun e'=>hB (e'▸hc)).trans (hh.below.block c hc)⟩ (by simp) (fun c _ hne=>hkeep c hne) ?_;rw[hγ];have hbm:blk (ρ m)=some b:=by rw[hvm'];rfl
             have hob:=hd1 i0 _ b hiv hbm;have hil:i0<ms.length:=(List.getElem?_eq_some_iff.1 hms).1;refine⟨o',is,rfl,by simp[hlen],⟨xs,by rw[List.length_set];exact hown.mono fun c hc=>hkeep c fun e'=>hob (by rw[hc,e']),fun k v' r hv' hr=>?_⟩,fun k v' r hv' hr=>?_,hd1,hd2⟩
             · rw[List.getElem?_set]at hr;by_cases hk0:i0=k
               · subst hk0;rw[if_pos rfl,if_pos hil]at hr;cases hr;exact(hxs i0 v' (some l) hv' hms:xs[i0]? =some v')
               rw[if_neg hk0]at hr;exact hxs k v' r hv' hr
             rw[List.getElem?_set]at hr;by_cases hk0:i0=k
             · subst hk0;rw[if_pos rfl,if_pos hil]at hr;cases hr;rw[hiv]at hv';cases hv';refine⟨b,es.push {key:=kv,val:=ρ v,born:=clock},clock+1,hvm',hB,by simp[hlt],by simp[hkeys],hborn.push _ _,fun j k d e h1 h2=>?_⟩;have hlen2:es.size=l.length:=by have:=congrArg List.length hkeys;simpa using this
               by_cases hj:j<l.length
               · rw[List.getElem?_append_left hj]at h1;rw[Array.getElem?_push,if_neg (by omega)]at h2;exact(hrel j k d e h1 h2).mono (fun _ h=>h) hFk
               rw[List.getElem?_append_right (Nat.le_of_not_lt hj)]at h1
               have hj0:j - l.length=0:=by
                have:=(List.getElem?_eq_some_iff.1 h1).1;simp at this;omega
               rw[hj0]at h1;cases h1;rw[Array.getElem?_push,if_pos (by omega)]at h2;cases h2;exact CRel.mono (fun _ h=>h) hFk hv
             rw[if_neg hk0]at hr;have:=hin k v' r hv' hr;cases r with
             |none=>exact this
             |some rr=>exact X1h.mono (fun _ h=>h) hFk (fun c hc=>hkeep c fun e'=>hd2 i0 k _ _ b hiv hv' hk0 hbm (by rw[hc,e'])) this
           have hBn:Blk (γ n) b:=by rw[hγ];exact⟨ρ m,by simp[List.mem_of_getElem? hiv],by rw[hvm'];rfl⟩
           show(w.heap.setIfInBounds b _)[c]? =_;rw[Array.getElem?_setIfInBounds_ne (by rintro rfl;exact hh.apart n _ hl b hBn hc)]
         cases h
       cases h
     cases h
   cases h
 cases h
end
end Go.Hl
