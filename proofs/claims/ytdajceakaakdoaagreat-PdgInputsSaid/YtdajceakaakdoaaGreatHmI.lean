/- HmI: part of an evaluator of Go code over abstract states, proved sound over the model; used by the proof of the claimed statement. Conditions: none. -/
import Derived.Test.YtdajceakaakdoaaGreatHmH
set_option linter.unusedSimpArgs false
set_option linter.unusedVariables false
namespace Go.Hl
open Go Go.RowKit
section
variable {P:Program} {F:Nat→Prop} {γ:Nat→Value} {w w' w0:World} {B:Nat→Prop} {π:Nat→Option Value}
theorem Wt {α:Type} (xs vs:List α) (off k:Nat) (hle:off+vs.length≤xs.length):
  (xs.take off++vs++xs.drop (off+vs.length))[k]? =if off≤k∧k<off+vs.length then vs[k - off]? else xs[k]? :=by
 have e1:(List.take off xs).length=off:=by rw[List.length_take];omega
 rw[List.append_assoc];by_cases h1:k<off
 · rw[List.getElem?_append_left (by rw[e1];exact h1),List.getElem?_take,if_pos h1,if_neg (by omega)]
 rw[List.getElem?_append_right (by rw[e1];omega),e1];by_cases h2:k - off<vs.length
 · rw[List.getElem?_append_left h2,if_pos (by omega)]
 rw[List.getElem?_append_right (by omega),List.getElem?_drop,if_neg (by omega)];congr 1;omega
theorem Wu {rows:List (List CD)} {i off:Nat} {ds:List CD}:(setRow rows i off ds).length=rows.length:=by
 unfold setRow;split<;>simp
theorem X9a {s:Nat} {rows:List (List CD)} (h:∀r∈rows,r.length=s) {i off:Nat} {ds:List CD} (hle:off+ds.length≤s):∀r∈setRow rows i off ds,r.length=s:=by
 unfold setRow;split
 · rename_i r hr;have hrs:=h r (List.mem_of_getElem? hr);intro r' hr';rcases List.mem_or_eq_of_mem_set hr' with h1|h1
   · exact h r' h1
   subst h1;simp[hrs];omega
 exact h
theorem X9L {s:Nat} {rows:List (List CD)} (h:∀r∈rows,r.length=s) {i off:Nat} {ds:List CD} (hle:off+ds.length≤s) (hi:i<rows.length) (i' j:Nat):
  XG (setRow rows i off ds) i' j=if i'=i∧off≤j∧j<off+ds.length then ds[j - off]? else XG rows i' j:=by
 unfold setRow;have hr:rows[i]? =some rows[i]:=List.getElem?_eq_getElem hi;rw[hr];have hrs:=h rows[i] (List.getElem_mem hi);unfold XG;rw[List.getElem?_set];by_cases e:i=i'
 · subst e;rw[if_pos rfl,if_pos hi];simp only[Option.bind_some,true_and];rw[Wt _ _ _ _ (by omega),hr];rfl
 rw[if_neg e,if_neg (by intro h;exact e h.1.symm)]
theorem X1O {t:TypeId} {i:TypeInfo} (hi:P.info? t=some i) {v:Value} (hv:v.cells.size=i.size) (h1:∀u∈v.cells.toList,u.oneCell'=true)
  {b off:Nat} {e:TypeId} {cur:Array Value} (hb:w.heap[b]? =some (.cells cur e (0,0))) (hle:off+v.cells.size≤cur.size) (hbw:Kept B w0 w) (hB:¬B b):
  ∃W,(storeVar t ⟨b,off,none⟩ v).run P w=.ok () W∧W.heap[b]? =some (.cells (cur.toList.take off++v.cells.toList++cur.toList.drop (off+v.cells.toList.length)).toArray e (0,0))∧
   (∀k,k≠b→W.heap[k]? =w.heap[k]?)∧W.heap.size=w.heap.size∧Kept B w0 W:=
 ⟨_,X4L hi hv h1 hb hle,setRow_heap w b cur _ e _ hb,fun k hk=>setRow_other _ _ _ _ hk,by simp,X6V hbw hB _⟩
theorem X25 {t:TypeId} {i:TypeInfo} (hi:P.info? t=some i) {v:Value} (hv:v.cells.size=i.size) (h1:∀u∈v.cells.toList,u.oneCell'=true) {e:TypeId} {s b oo len cap n k:Nat} {xs:List Value}
  (hown:Qy w B e s (.slice (some ⟨b,oo,none⟩) len cap) n xs) (hk:k+v.cells.size≤n*s) (hbw:Kept B w0 w):
  ∃W,(storeVar t ⟨b,oo+k,none⟩ v).run P w=.ok () W∧(∀j,j≠b→W.heap[j]? =w.heap[j]?)∧W.heap.size=w.heap.size∧Kept B w0 W∧
   Qy W B e s (.slice (some ⟨b,oo,none⟩) len cap) n (xs.take k++v.cells.toList++xs.drop (k+v.cells.toList.length)):=by
 rcases hown.2 with⟨hn,_⟩|⟨b',o',cap',cur,hγ,hB,hh',hnc,hcm,hcsz,htake⟩
 · cases hn
 cases hγ;have hrc:len*s≤cap*s:=Nat.mul_le_mul_right _ hnc;have hul:v.cells.toList.length=v.cells.size:=Array.length_toList;obtain⟨W,hrun,hWb,hWo,hWs,hWB⟩:=X1O (P:=P) (w:=w) (w0:=w0) (B:=B) hi (v:=v) hv h1 hh' (off:=oo+k) (by omega) hbw hB;refine⟨W,hrun,hWo,hWs,hWB,?_,.inr ⟨b,oo,cap,_,rfl,hB,hWb,hnc,hcm,?_,?_⟩⟩
 · rw[List.length_append,List.length_append,List.length_take,List.length_drop,hul,hown.1];omega
 · rw[List.size_toArray,List.length_append,List.length_append,List.length_take,List.length_drop,hul,Array.length_toList];omega
 rw[←htake];apply List.ext_getElem?;intro k';have hcl:cur.toList.length=cur.size:=Array.length_toList;rw[List.getElem?_take,List.getElem?_drop,Wt _ _ _ _ (by rw[hul,hcl];omega),Wt _ _ _ _ (by rw[hul,List.length_take,List.length_drop,hcl];omega),List.getElem?_take,List.getElem?_drop];by_cases hk':k'<len*s
 · simp only[hk',if_true];rw[show oo+k' - (oo+k)=k' - k by omega];by_cases hc:k≤k'∧k'<k+v.cells.toList.length
   · rw[if_pos hc,if_pos (by omega)]
   rw[if_neg hc,if_neg (by omega)]
 rw[if_neg hk',if_neg (by rw[hul];omega),if_neg hk']
theorem X6w {t:TypeId} {i:TypeInfo} (hi:P.info? t=some i) {v:Value} {ds:List CD} (hy:Xk F γ w (ds.map .c) v.cells) (hsz:ds.length=i.size) (h1:∀u∈v.cells.toList,u.oneCell'=true) {e:TypeId} {s b oo len cap k off:Nat} {rows:List (List CD)}
  (hro:Xr F w B e s (.slice (some ⟨b,oo,none⟩) len cap) rows) (hlt:k<rows.length) (hle:off+ds.length≤s) (hbw:Kept B w0 w) (hFb:¬F b):
  ∃W,(storeVar t ⟨b,oo+(k*s+off),none⟩ v).run P w=.ok () W∧(∀j,j≠b→W.heap[j]? =w.heap[j]?)∧W.heap.size=w.heap.size∧Kept B w0 W∧
   Xr F W B e s (.slice (some ⟨b,oo,none⟩) len cap) (setRow rows k off ds):=by
 obtain⟨h0,hss,xs,hown,hxs1,hc⟩:=hro;have hyl:v.cells.size=ds.length:=by rw[hy.1,List.length_map]
 have hul:v.cells.toList.length=ds.length:=by rw[Array.length_toList,hyl]
 have hrs:(k+1)*s≤rows.length*s:=Nat.mul_le_mul_right _ hlt;rw[Nat.add_mul]at hrs;obtain⟨W,hrun,hWo,hWs,hWB,hownW⟩:=X25 hi (by rw[hyl,hsz]) h1 hown (k:=k*s+off) (by rw[hyl];omega) hbw;have hF:∀k,F k→W.heap[k]? =w.heap[k]? :=fun k hk=>hWo k fun e'=>hFb (e'▸hk);refine⟨W,hrun,hWo,hWs,hWB,h0,X9a hss hle,_,by rw[Wu];exact hownW,?_,?_⟩
 · intro u hu;rcases List.mem_append.1 hu with hu|hu
   · rcases List.mem_append.1 hu with hu|hu
     · exact hxs1 u (List.mem_of_mem_take hu)
     exact h1 u hu
   exact hxs1 u (List.mem_of_mem_drop hu)
 intro i2 j dd hdd;have hlt2:=WO (X9a hss hle) hdd;rw[Wu]at hlt2;rw[X9L hss hle hlt]at hdd;rw[Wt _ _ _ _ (by rw[hul,hown.1];omega),hul];split at hdd
 · rename_i hcase;obtain⟨rfl,ha,hb2⟩:=hcase;rw[if_pos (by omega),show i2*s+j - (i2*s+off)=j - off by omega];have hjd:j - off<ds.length:=(List.getElem?_eq_some_iff.1 hdd).1;have hjv:j - off<v.cells.size:=by rw[hyl];exact hjd
   refine⟨v.cells[j - off]'hjv,by simp[hjv],?_⟩;exact CRel.mono (fun _ h=>h) hF (hy.2 (j - off) (.c dd) _ (by simp[hdd]) (by simp[hjv]))
 rename_i hcase;rw[if_neg ?_]
 · obtain⟨u,hu,hr⟩:=hc i2 j dd hdd;exact⟨u,hu,hr.mono (fun _ h=>h) hF⟩
 intro hk;apply hcase;rcases Nat.lt_trichotomy i2 k with e'|e'|e'
 · have:(i2+1)*s≤k*s:=Nat.mul_le_mul_right _ e';rw[Nat.add_mul]at this;omega
 · subst e';omega
 have:(k+1)*s≤i2*s:=Nat.mul_le_mul_right _ e';rw[Nat.add_mul]at this;omega
def Did (P:Program) (ρ:Operand→Value) (o:Oper) (w0:World) (B:Nat→Prop) (π:Nat→Option Value) (F:Nat→Prop) (γ:Nat→Value) (w:World) (d:Option Nat) (r:RV) (objs':List (Nat×Ob)):Prop:=
 ∃nx v w' γ',(execOp ρ o).run P w=.ok nx w'∧(nx=.value v∨nx=.skip∧v=undef)∧HeapRel w0 B π F γ' objs' w'∧X9 F γ' w' r v∧
  Ext γ γ' d∧w.heap.size≤w'.heap.size∧∀b,F b→w'.heap[b]? =w.heap[b]?
theorem X7g {cs:List CV} {v:Value} (hall:cs.all CV.cell=true) (hy:Xk F γ w cs v.cells):∀u∈v.cells.toList,u.oneCell'=true:=by
 intro u hu;obtain⟨j,hj⟩:=List.mem_iff_getElem?.1 hu;have hj':v.cells[j]? =some u:=by simpa using hj
 have hjl:j<cs.length:=by rw[←hy.1];exact(Array.getElem?_eq_some_iff.1 hj').1
 exact Xn.one (List.all_eq_true.1 hall _ (List.getElem_mem hjl)) (hy.2 j cs[j] u (by simp) hj')
theorem X4x {α:Type} {rows:List (Option α)} {i:Nat} (h:X1w rows i=true):rows[i]? =some none:=by
 unfold X1w at h;split at h
 · assumption
 cases h
theorem X8d {objs objs':List (Nat×Ob)} {g:Operand→RV} {ρ:Operand→Value} {o:Oper} {d:Option Nat} {r:RV} {t:TypeId} {x y:Operand} (hh:HeapRel w0 B π F γ objs w)
  (hg:∀x,X9 F γ w (g x) (ρ x)) (ho:o.op=.store t x y) (h:evW P objs g d (.store t x y)=some (r,objs')):Did P ρ o w0 B π F γ w none r objs':=by
 unfold Did execOp;rw[ho];simp only[evW]at h;have hx:=hg x;split at h
 · rename_i ti cs n off hti hcs hgx;obtain⟨i,td,z,hi,htd,hz,h1,h2,h3,h4,h5⟩:=XC hti;split at h
   · rename_i hcond;obtain⟨hsz,hall⟩:=hcond;split at h
     · rename_i xs hl;split at h
       · rename_i hle;cases h;rw[hgx]at hx;obtain⟨b,hb,hv⟩:=hx;obtain⟨b',e,vs,hb',hB,hh',hc⟩:=hh.ob n _ hl;rw[hb]at hb';cases hb';have hy:=(hg y).cells hcs;have hone:=X7g hall hy;obtain⟨W,hrun,hWb,hWo,hWs,hWB⟩:=X1O (P:=P) (w:=w) (w0:=w0) (B:=B) hi (v:=ρ y) (by rw[hy.1,hsz,h1]) hone hh' (off:=off) (by rw[hy.1,hc.1];exact hle) hh.below hB;have hF:∀k,F k→W.heap[k]? =w.heap[k]? :=fun k hk=>hWo k fun e'=>hh.apart n _ hl b (by rw[hb];rfl) (e'▸hk);refine⟨.skip,undef,W,γ,?_,.inr ⟨rfl,rfl⟩,?_,trivial,Zh fun _ _=>rfl,by rw[hWs];exact Nat.le_refl _,hF⟩
         · simp[hv,Instr.storeAt,Instr.sureAddr,hrun]
         refine hh.wrote hl (b:=b) (by rw[hb];rfl) hWB (by rw[hWs];exact Nat.le_refl _) (fun k _ hne=>hWo k hne) ⟨b,e,_,hb,hB,hWb,?_⟩;exact(hc.splice hy hle).mono (fun _ h=>h) hF
       cases h
     cases h
   cases h
 · rename_i ti cs n s i' off hti hcs hgx;obtain⟨i,td,z,hi,htd,hz,h1,h2,h3,h4,h5⟩:=XC hti;rw[hgx]at hx;obtain⟨b,oo,len,cap,hb,hv⟩:=hx;have hy:=(hg y).cells hcs;split at h
   · rename_i hcond;obtain⟨hsz,hall⟩:=hcond;have hone:=X7g hall hy;split at h
     · rename_i e s' rows ds hl hds;split at h
       · rename_i hle;obtain⟨rfl,hlt,hle⟩:=hle;cases h;have hro:Xr F w B e s (γ n) rows:=hh.ob n _ hl;rw[Zc hro.sl]at hb;rw[hb]at hro;have hcs':=ZB _ _ hds;subst hcs';simp only[List.length_map]at hsz;have hFb:¬F b:=hh.apart n _ hl b (by rw[hb];rfl);obtain⟨W,hrun,hWo,hWs,hWB,hroW⟩:=X6w hi hy (by rw[hsz,h1]) hone hro (X3Y hlt) hle hh.below hFb;have hF:∀k,F k→W.heap[k]? =w.heap[k]? :=fun k hk=>hWo k fun e'=>hFb (e'▸hk);refine⟨.skip,undef,W,γ,?_,.inr ⟨rfl,rfl⟩,?_,trivial,Zh fun _ _=>rfl,by rw[hWs];exact Nat.le_refl _,hF⟩
         · simp[hv,Instr.storeAt,Instr.sureAddr,hrun]
         refine hh.wrote hl (b:=b) (by rw[hb];rfl) hWB (by rw[hWs];exact Nat.le_refl _) (fun k _ hne=>hWo k hne) ?_;rw[hb];exact hroW
       cases h
     · -- a row of one's own into a matrix
       rename_i e e' s2 rows hl _;split at h
       · rename_i m hgy;split at h
         · rename_i e2 s3 rs hlm;split at h
           · rename_i hc;obtain⟨rfl,rfl,rfl,rfl,hsz1,hfree,hnm,hn6⟩:=hc;cases h;have hfr:=X4x hfree;have hrom:Xr F w B e2 s3 (γ m) rs:=hh.ob m _ hlm;have hym:=hg y;rw[hgy]at hym;obtain⟨hvy,hone1⟩:=hym;rw[Zc hrom.sl]at hvy;obtain⟨o',is,hγ,h0,hlen,⟨xs,hown,hxs⟩,hin,hd1,hd2⟩:=hh.ob n _ hl;rw[hγ]at hb;have hbo:o'=.slice (some ⟨b,oo,none⟩) len cap:=hb;subst hbo;have hlt:i'<rows.length:=(List.getElem?_eq_some_iff.1 hfr).1;have hcy:(ρ y).cells= #[ρ y]:=X0N hone1;obtain⟨W,hrun,hWo,hWs,hWB,hownW⟩:=X25 hi (v:=ρ y) (by rw[hcy,h1,hsz1];rfl) hone hown (k:=i'*1+0) (by rw[hcy];simp;omega) hh.below;have hBn:Blk (γ n) b:=by rw[hγ];exact⟨.slice (some ⟨b,oo,none⟩) len cap,by simp,rfl⟩
             have hFb:¬F b:=hh.apart n _ hl b hBn;have hF:∀k,F k→W.heap[k]? =w.heap[k]? :=fun k hk=>hWo k fun e'=>hFb (e'▸hk);have hil:i'<is.length:=by rw[hlen];exact hlt
             have hiu:is[i']? =some undef:=by
              have:=hin i' is[i'] none (by simp[hil]) hfr;rw[List.getElem?_eq_getElem hil];rw[show is[i']=undef from this]
             have hgr:Grow (γ n) (.agg (.slice (some ⟨b,oo,none⟩) len cap::is.set i' (γ m)).toArray):=by
              refine⟨_,is,_,hγ,rfl,fun k v hk hv=>?_⟩;rw[List.getElem?_set];split
              · rename_i e';subst e';rw[hk]at hiu;cases hiu;exact absurd rfl hv
              exact hk
             have hmb:∀c,blk (γ m)=some c→c≠b∧∀(k:Nat) v,is[k]? =some v→blk v≠some c:=by
              intro c hc;have hc':Blk (γ m) c:=(W5 hrom.sl).2 hc;have hs:=fun hx=>hh.sep m n _ _ hlm hl (Ne.symm hnm) c hc' hx;refine⟨fun e'=>hs (e'▸hBn),fun k v hk hv=>hs ?_⟩;rw[hγ];exact⟨v,by simp[List.mem_of_getElem? hk],hv⟩
             refine⟨.skip,undef,W,upd γ n _,?_,.inr ⟨rfl,rfl⟩,?_,trivial,X7L hgr,by rw[hWs];exact Nat.le_refl _,hF⟩
             · simp[hv,Instr.storeAt,Instr.sureAddr,-Nat.mul_one,-Nat.add_zero,hrun]
             refine hh.joined hl hlm hnm hgr hWB (by rw[hWs];exact Nat.le_refl _) (fun k _ hne=>hWo k fun e'=>hne (e'▸hBn)) ?_ hn6 ?_
             · rintro c ⟨v,hv,hvc⟩;simp only[List.mem_cons]at hv;rcases hv with rfl|hv
               · exact .inl (by rw[hγ];exact⟨_,by simp,hvc⟩)
               rcases List.mem_or_eq_of_mem_set hv with hv|rfl
               · exact .inl (by rw[hγ];exact⟨v,by simp[hv],hvc⟩)
               exact .inr ((W5 hrom.sl).2 hvc)
             have hset:∀(k:Nat) v r,(is.set i' (γ m))[k]? =some v→(rows.set i' (some rs))[k]? =some r→(k=i'∧v=γ m∧r=some rs)∨(k≠i'∧is[k]? =some v∧rows[k]? =some r):=by
              intro k v r hv hr;by_cases e':k=i'
              · subst e';rw[List.getElem?_set_self hil]at hv;rw[List.getElem?_set_self hlt]at hr;cases hv;cases hr;exact .inl ⟨rfl,rfl,rfl⟩
              rw[List.getElem?_set_ne (Ne.symm e')]at hv hr;exact .inr ⟨e',hv,hr⟩
             have hset1:∀(k:Nat) v,(is.set i' (γ m))[k]? =some v→(k=i'∧v=γ m)∨(k≠i'∧is[k]? =some v):=by
              intro k v hv;by_cases e':k=i'
              · subst e';rw[List.getElem?_set_self hil]at hv;cases hv;exact .inl ⟨rfl,rfl⟩
              rw[List.getElem?_set_ne (Ne.symm e')]at hv;exact .inr ⟨e',hv⟩
             refine⟨_,_,rfl,h0,by simp[hlen],⟨_,by rw[List.length_set];exact hownW,fun k v r hv hr=>?_⟩,fun k v r hv hr=>?_,fun k v c hv hvc=>?_,fun j k u v c hu hv hjk huc=>?_⟩
             · rw[hcy];simp only[Nat.mul_one,Nat.add_zero];rw[Wt _ _ _ _ (by simp[hown.1];omega)];rcases hset k v r hv hr with⟨rfl,rfl,rfl⟩|⟨hne,hv',hr'⟩
               · simp[ZV,hvy]
               rw[if_neg (by simp;omega)];exact hxs k v r hv' hr'
             · rcases hset k v r hv hr with⟨rfl,rfl,rfl⟩|⟨hne,hv',hr'⟩
               · refine Xr.mono (fun _ h=>h) hF (fun c hc=>hWo c (hmb c hc).1) hrom
               have:=hin k v r hv' hr';cases r with
               |none=>exact this
               |some rr=>exact Xr.mono (fun _ h=>h) hF (fun c hc=>hWo c fun e'=>hd1 k v c hv' hc (by rw[e'];rfl)) this
             · rcases hset1 k v hv with⟨rfl,rfl⟩|⟨hne,hv'⟩
               · intro e';cases e';exact(hmb _ hvc).1 rfl
               exact hd1 k v c hv' hvc
             rcases hset1 j u hu with⟨rfl,rfl⟩|⟨hne,hu'⟩
             · rcases hset1 k v hv with⟨rfl,rfl⟩|⟨hne2,hv'⟩
               · exact absurd rfl hjk
               exact(hmb c huc).2 k v hv'
             rcases hset1 k v hv with⟨rfl,rfl⟩|⟨hne2,hv'⟩
             · intro hvc;exact(hmb c hvc).2 j u hu' huc
             exact hd2 j k u v c hu' hv' hjk huc
           cases h
         cases h
       cases h
     · -- a map of one's own into a row of maps
       rename_i e rows hl _;split at h
       · rename_i m hgy;split at h
         · rename_i rs hlm;split at h
           · rename_i hc;obtain⟨rfl,rfl,hsz1,hfree,hnm,hn6⟩:=hc;cases h;have hfr:=X4x hfree;have hrom:X1h F w B (γ m) rs:=hh.ob m _ hlm;have hromb:∃b,γ m=.map (some b):=by obtain⟨b,_,_,h1,_⟩:=hrom;exact⟨b,h1⟩
             have hBm:∀c,Blk (γ m) c↔blk (γ m)=some c:=by obtain⟨b,h1⟩:=hromb;rw[h1];exact fun c=>Iff.rfl
             have hhdm:Hl.hd (γ m)=γ m:=by obtain⟨b,h1⟩:=hromb;rw[h1];rfl
             have hym:=hg y;rw[hgy]at hym;obtain⟨hvy,hone1⟩:=hym;rw[hhdm]at hvy;obtain⟨o',is,hγ,hlen,⟨xs,hown,hxs⟩,hin,hd1,hd2⟩:=hh.ob n _ hl;rw[hγ]at hb;have hbo:o'=.slice (some ⟨b,oo,none⟩) len cap:=hb;subst hbo;have hlt:i'<rows.length:=(List.getElem?_eq_some_iff.1 hfr).1;have hcy:(ρ y).cells= #[ρ y]:=X0N hone1;obtain⟨W,hrun,hWo,hWs,hWB,hownW⟩:=X25 hi (v:=ρ y) (by rw[hcy,h1,hsz1];rfl) hone hown (k:=i'*1+0) (by rw[hcy];simp;omega) hh.below;have hBn:Blk (γ n) b:=by rw[hγ];exact⟨.slice (some ⟨b,oo,none⟩) len cap,by simp,rfl⟩
             have hFb:¬F b:=hh.apart n _ hl b hBn;have hF:∀k,F k→W.heap[k]? =w.heap[k]? :=fun k hk=>hWo k fun e'=>hFb (e'▸hk);have hil:i'<is.length:=by rw[hlen];exact hlt
             have hiu:is[i']? =some undef:=by
              have:=hin i' is[i'] none (by simp[hil]) hfr;rw[List.getElem?_eq_getElem hil];rw[show is[i']=undef from this]
             have hgr:Grow (γ n) (.agg (.slice (some ⟨b,oo,none⟩) len cap::is.set i' (γ m)).toArray):=by
              refine⟨_,is,_,hγ,rfl,fun k v hk hv=>?_⟩;rw[List.getElem?_set];split
              · rename_i e';subst e';rw[hk]at hiu;cases hiu;exact absurd rfl hv
              exact hk
             have hmb:∀c,blk (γ m)=some c→c≠b∧∀(k:Nat) v,is[k]? =some v→blk v≠some c:=by
              intro c hc;have hc':Blk (γ m) c:=(hBm _).2 hc;have hs:=fun hx=>hh.sep m n _ _ hlm hl (Ne.symm hnm) c hc' hx;refine⟨fun e'=>hs (e'▸hBn),fun k v hk hv=>hs ?_⟩;rw[hγ];exact⟨v,by simp[List.mem_of_getElem? hk],hv⟩
             refine⟨.skip,undef,W,upd γ n _,?_,.inr ⟨rfl,rfl⟩,?_,trivial,X7L hgr,by rw[hWs];exact Nat.le_refl _,hF⟩
             · simp[hv,Instr.storeAt,Instr.sureAddr,-Nat.mul_one,-Nat.add_zero,hrun]
             refine hh.joined hl hlm hnm hgr hWB (by rw[hWs];exact Nat.le_refl _) (fun k _ hne=>hWo k fun e'=>hne (e'▸hBn)) ?_ hn6 ?_
             · rintro c ⟨v,hv,hvc⟩;simp only[List.mem_cons]at hv;rcases hv with rfl|hv
               · exact .inl (by rw[hγ];exact⟨_,by simp,hvc⟩)
               rcases List.mem_or_eq_of_mem_set hv with hv|rfl
               · exact .inl (by rw[hγ];exact⟨v,by simp[hv],hvc⟩)
               exact .inr ((hBm _).2 hvc)
             have hset:∀(k:Nat) v r,(is.set i' (γ m))[k]? =some v→(rows.set i' (some rs))[k]? =some r→(k=i'∧v=γ m∧r=some rs)∨(k≠i'∧is[k]? =some v∧rows[k]? =some r):=by
              intro k v r hv hr;by_cases e':k=i'
              · subst e';rw[List.getElem?_set_self hil]at hv;rw[List.getElem?_set_self hlt]at hr;cases hv;cases hr;exact .inl ⟨rfl,rfl,rfl⟩
              rw[List.getElem?_set_ne (Ne.symm e')]at hv hr;exact .inr ⟨e',hv,hr⟩
             have hset1:∀(k:Nat) v,(is.set i' (γ m))[k]? =some v→(k=i'∧v=γ m)∨(k≠i'∧is[k]? =some v):=by
              intro k v hv;by_cases e':k=i'
              · subst e';rw[List.getElem?_set_self hil]at hv;cases hv;exact .inl ⟨rfl,rfl⟩
              rw[List.getElem?_set_ne (Ne.symm e')]at hv;exact .inr ⟨e',hv⟩
             refine⟨_,_,rfl,by simp[hlen],⟨_,by rw[List.length_set];exact hownW,fun k v r hv hr=>?_⟩,fun k v r hv hr=>?_,fun k v c hv hvc=>?_,fun j k u v c hu hv hjk huc=>?_⟩
             · rw[hcy];simp only[Nat.mul_one,Nat.add_zero];rw[Wt _ _ _ _ (by simp[hown.1];omega)];rcases hset k v r hv hr with⟨rfl,rfl,rfl⟩|⟨hne,hv',hr'⟩
               · simp[X0s,hvy]
               rw[if_neg (by simp;omega)];exact hxs k v r hv' hr'
             · rcases hset k v r hv hr with⟨rfl,rfl,rfl⟩|⟨hne,hv',hr'⟩
               · refine X1h.mono (fun _ h=>h) hF (fun c hc=>hWo c (hmb c hc).1) hrom
               have:=hin k v r hv' hr';cases r with
               |none=>exact this
               |some rr=>exact X1h.mono (fun _ h=>h) hF (fun c hc=>hWo c fun e'=>hd1 k v c hv' hc (by rw[e'];rfl)) this
             · rcases hset1 k v hv with⟨rfl,rfl⟩|⟨hne,hv'⟩
               · intro e';cases e';exact(hmb _ hvc).1 rfl
               exact hd1 k v c hv' hvc
             rcases hset1 j u hu with⟨rfl,rfl⟩|⟨hne,hu'⟩
             · rcases hset1 k v hv with⟨rfl,rfl⟩|⟨hne2,hv'⟩
               · exact absurd rfl hjk
               exact(hmb c huc).2 k v hv'
             rcases hset1 k v hv with⟨rfl,rfl⟩|⟨hne2,hv'⟩
             · intro hvc;exact(hmb c hvc).2 j u hu' huc
             exact hd2 j k u v c hu' hv' hjk huc
           cases h
         cases h
       cases h
     cases h
   cases h
 · rename_i ti cs n s i' j' off hti hcs hgx;obtain⟨i,td,z,hi,htd,hz,h1,h2,h3,h4,h5⟩:=XC hti;rw[hgx]at hx;obtain⟨vs,b,oo,len,cap,hvs,hb,hv⟩:=hx;have hy:=(hg y).cells hcs;split at h
   · rename_i hcond;obtain⟨hsz,hall⟩:=hcond;have hone:=X7g hall hy;split at h
     · rename_i e e' s' rows ds hl hds;split at h
       · rename_i rs hrs;split at h
         · rename_i hle;obtain⟨rfl,hlt,hle⟩:=hle;cases h;have hcs':=ZB _ _ hds;subst hcs';simp only[List.length_map]at hsz;obtain⟨o',is,hγ,h0,hlen,⟨xs,hown,hxs⟩,hin,hd1,hd2⟩:=hh.ob n _ hl;have e9:=hvs.symm.trans hγ;cases e9;have his:is[i']? =some (.slice (some ⟨b,oo,none⟩) len cap):=by simpa using hb
           have hro:Xr F w B e' s (.slice (some ⟨b,oo,none⟩) len cap) rs:=hin i' _ _ his hrs;have hBn:Blk (γ n) b:=by rw[hγ];exact⟨.slice (some ⟨b,oo,none⟩) len cap,by simp[List.mem_of_getElem? his],rfl⟩
           have hFb:¬F b:=hh.apart n _ hl b hBn;obtain⟨W,hrun,hWo,hWs,hWB,hroW⟩:=X6w hi hy (by rw[hsz,h1]) hone hro (X3Y hlt) hle hh.below hFb;have hF:∀k,F k→W.heap[k]? =w.heap[k]? :=fun k hk=>hWo k fun e'=>hFb (e'▸hk);refine⟨.skip,undef,W,γ,?_,.inr ⟨rfl,rfl⟩,?_,trivial,Zh fun _ _=>rfl,by rw[hWs];exact Nat.le_refl _,hF⟩
           · simp[hv,Instr.storeAt,Instr.sureAddr,hrun]
           refine hh.wrote hl (b:=b) hBn hWB (by rw[hWs];exact Nat.le_refl _) (fun k _ hne=>hWo k hne) ?_;have hil:i'<rows.length:=(List.getElem?_eq_some_iff.1 hrs).1;rw[hγ];refine⟨o',is,rfl,h0,by simp[hlen],⟨xs,?_,fun k v r hv hr=>?_⟩,fun k v r hv hr=>?_,hd1,hd2⟩
           · rw[List.length_set];refine hown.mono fun c hc=>hWo c fun e'=>hd1 i' _ b his rfl (e'▸hc)
           · by_cases e':k=i'
             · subst e';rw[List.getElem?_set_self hil]at hr;cases hr;have:=hxs k v _ hv hrs;exact this
             rw[List.getElem?_set_ne (Ne.symm e')]at hr;exact hxs k v r hv hr
           by_cases e':k=i'
           · subst e';rw[List.getElem?_set_self hil]at hr;cases hr;rw[his]at hv;cases hv;exact hroW
           rw[List.getElem?_set_ne (Ne.symm e')]at hr;have:=hin k v r hv hr;cases r with
           |none=>exact this
           |some rr=>exact Xr.mono (fun _ h=>h) hF (fun c hc=>hWo c fun e2=>hd2 k i' v _ c hv his e' hc (by rw[e2];rfl)) this
         cases h
       cases h
     cases h
   cases h
 cases h
end
end Go.Hl
