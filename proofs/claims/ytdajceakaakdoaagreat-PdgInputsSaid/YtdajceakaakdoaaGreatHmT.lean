/- HmT: part of an evaluator of Go code over abstract states, proved sound over the model; used by the proof of the claimed statement. Conditions: none. -/
import Derived.Test.YtdajceakaakdoaaGreatHmS
import GoSem.ClaimChange
import Derived.SizedLaws
set_option linter.unusedSimpArgs false
set_option linter.unusedVariables false
namespace Go.Hl
open Go Go.RowKit
def X6z:Nat→List (Nat×Nat×TypeId)→Option Nat
 |off,[]=>some off
 |off,(o,n,_)::l=>if o=off then X6z (off+n) l else none
def X8Y (P:Program) (fs:Array Field):List (Nat×Nat×TypeId):=fs.toList.map fun f=>(f.offset,P.cellsOf f.type,f.type)
def segsA (P:Program) (n:Nat) (e:TypeId):List (Nat×Nat×TypeId):=(List.range n).map fun i=>(i*P.cellsOf e,P.cellsOf e,e)
def X4d (P:Program) (t:TypeId):Bool:=
 match P.underlying t with
 |some (.struct fs)=>X6z 0 (X8Y P fs)==some (P.cellsOf t)&&(X8Y P fs).all fun x=>decide (x.2.2<P.types.size)
 |some (.array n e)=>X6z 0 (segsA P n e)==some (P.cellsOf t)&&decide (e<P.types.size)
 |some (.slice e)=>decide (0<P.cellsOf e)&&decide (e<P.types.size)
 |_=>true
def X8R (P:Program):Prop:=∀t,t<P.types.size→X4d P t=true
def QA (P:Program):Nat→TypeId→List CD→Prop
 |0,_,_=>False
 | k+1,t,ds=>match P.underlying t with
   |some .bool=>∃b,ds=[.lit (.bool b)]
   |some (.int k)=>∃n,ds=[.lit (.int k n)]∧(Lit.int k n).wf=true
   |some .string=>∃s,ds=[.lit (.string s)]∧s.size≤maxLen
   |some (.slice e)=>∃rows,ds=[.sl (P.cellsOf e) rows]∧(rows.length≤maxLen∧rows.length*P.bytesOf e≤reachBytes)∧∀r∈rows,r.length=P.cellsOf e∧QA P k e r
   |some (.struct fs)=>ds.length=P.cellsOf t∧∀x∈X8Y P fs,QA P k x.2.2 ((ds.drop x.1).take x.2.1)
   |some (.array n e)=>ds.length=P.cellsOf t∧∀x∈segsA P n e,QA P k x.2.2 ((ds.drop x.1).take x.2.1)
   |_=>True
section
variable {P:Program} {H:Type} {enc:TypeId×Value→H} {w:World} {base:Nat} {spare:Nat→Bool} {held:Bool}
def inMem (w:World):Nat→Prop:=fun b=>b<w.heap.size
structure Reads (P:Program) (w:World) (k:Nat) (t:TypeId) (cs:List Value) (ds:List CD):Prop where
 len:ds.length=cs.length
 rel:∀(j:Nat) d u,ds[j]? =some d→cs[j]? =some u→CRel (inMem w) w d u
 one:∀u∈cs,u.oneCell'=true
 shape:QA P k t ds
theorem X21 {k:Nat} {t:TypeId} {v:Value} (h1:v.oneCell'=true) (hs:QA P k t [.lit v]):Reads P w k t [v] [.lit v]:=
 ⟨rfl,fun j d u hd hu=>by
  cases j with
  |zero=>cases hd;cases hu;exact .lit _
  |succ j=>simp at hd,by simpa using h1,hs⟩
theorem X0S {α β:Type} {f:α→Option β}:∀{l:List α} {ys:List β},l.mapM f=some ys→ys.length=l.length∧∀(i:Nat) x,l[i]? =some x→∃y,ys[i]? =some y∧f x=some y
 |[],ys,h=>by cases h;simp
 | x::l,ys,h=>by
   rw[List.mapM_cons]at h;simp only[Option.bind_eq_bind,Option.bind_eq_some_iff,Option.pure_def,Option.some.injEq]at h;obtain⟨y,hy,ys',hys,rfl⟩:=h;obtain⟨h1,h2⟩:=X0S hys;refine⟨by simp[h1],fun i z hz=>?_⟩;cases i with
   |zero=>cases hz;exact⟨y,rfl,hy⟩
   |succ i=>exact h2 i z hz
theorem X9r {a:Addr} {n:Nat} {cs:List Value} (h:w.cells? base a n=some cs):cs.length=n∧∀i,i<n→∃u,cs[i]? =some u∧w.cell? (a.add i)=some u:=by
 unfold World.cells? at h;split at h
 · obtain⟨h1,h2⟩:=X0S h;refine⟨by simpa using h1,fun i hi=>?_⟩;exact h2 i i (by simp[hi])
 cases h
theorem Xam {a:Addr} {u:Value} (h:w.cell? a=some u):a.block<w.heap.size∧a.spot=none:=by
 unfold World.cell? at h;split at h
 · rename_i c e fr hb;refine⟨?_,?_⟩
   · rcases Nat.lt_or_ge a.block w.heap.size with h|h
     · exact h
     simp[Array.getElem?_eq_none h]at hb
   cases hs:a.spot with
   |none=>rfl
   |some x=>simp[hs]at h
 cases h
theorem X6C {k:Nat} {cs:List Value}:∀(l:List (Nat×Nat×TypeId)) (off Z6:Nat),X6z off l=some Z6→cs.length=Z6→
  (∀x∈l,∃ds,Reads P w k x.2.2 ((cs.drop x.1).take x.2.1) ds)→
  off≤Z6∧∃ds:List CD,ds.length=Z6 - off∧(∀(j:Nat) d u,ds[j]? =some d→cs[off+j]? =some u→CRel (inMem w) w d u)∧(∀(j:Nat) u,off≤j→cs[j]? =some u→u.oneCell'=true)∧
   ∀x∈l,off≤x.1∧QA P k x.2.2 ((ds.drop (x.1 - off)).take x.2.1)
 | [],off,Z6,h,hl,_=>by
   cases h;refine⟨Nat.le_refl _,[],by simp,by simp,fun j u hj hu=>?_,by simp⟩;rw[List.getElem?_eq_none (by omega)]at hu;cases hu
 | (o, n,t)::l,off,Z6,h,hl,hx=>by
   unfold X6z at h;split at h
   · rename_i ho;subst ho;obtain⟨hle,ds2,h1,h2,h3,h4⟩:=X6C l _ _ h hl fun x hxl=>hx x (by simp[hxl]);obtain⟨ds1,r1,r2,r3,r4⟩:=hx (o,n,t) (by simp);simp only at r1 r2 r3 r4;have hn:ds1.length=n:=by rw[r1,List.length_take,List.length_drop];omega
     refine⟨by omega,ds1++ds2,by rw[List.length_append,h1,hn];omega,fun j d u hd hu=>?_,fun j u hj hu=>?_,fun x hxl=>?_⟩
     · by_cases hj:j<n
       · rw[List.getElem?_append_left (by omega)]at hd;refine r2 j d u hd ?_;rw[List.getElem?_take,if_pos hj,List.getElem?_drop];exact hu
       rw[List.getElem?_append_right (by omega),hn]at hd;refine h2 _ d u hd ?_;rw[←hu];congr 1;omega
     · by_cases hj':j<o+n
       · refine r3 u ?_;refine List.mem_of_getElem? (i:=j - o) ?_;rw[List.getElem?_take,if_pos (by omega),List.getElem?_drop,←hu];congr 1;omega
       exact h3 j u (by omega) hu
     rcases List.mem_cons.1 hxl with rfl|hxl
     · refine⟨Nat.le_refl _,?_⟩;simp only[Nat.sub_self,List.drop_zero];rw[List.take_append_of_le_length (by omega),List.take_of_length_le (by omega)];exact r4
     obtain⟨h5,h6⟩:=h4 x hxl;refine⟨by omega,?_⟩;rw[List.drop_append,List.drop_of_length_le (by omega),List.nil_append,hn];rw[show x.1 - o - n=x.1 - (o+n) by omega];exact h6
   cases h
theorem X5s {k:Nat} {t:TypeId} {cs:List Value} {l:List (Nat×Nat×TypeId)} (ht:X6z 0 l=some (P.cellsOf t)) (hl:cs.length=P.cellsOf t)
  (hx:∀x∈l,∃ds,Reads P w k x.2.2 ((cs.drop x.1).take x.2.1) ds) (hs:∀ds:List CD,ds.length=P.cellsOf t→(∀x∈l,QA P k x.2.2 ((ds.drop x.1).take x.2.1))→QA P (k+1) t ds):∃ds,Reads P w (k+1) t cs ds:=by
 obtain⟨_,ds,h1,h2,h3,h4⟩:=X6C l 0 _ ht hl hx;simp only[Nat.zero_add,Nat.sub_zero]at h1 h2 h4;refine⟨ds,h1.trans hl.symm,h2,fun u hu=>?_,hs ds h1 fun x hx=>(h4 x hx).2⟩;obtain⟨j,hj⟩:=List.mem_iff_getElem?.1 hu;exact h3 j u (Nat.zero_le _) hj
theorem X1A {e:TypeId} {n:Nat}:∀{l:List (DataW H)} {d:DataW H},d∈l→n∈d.weights P e→n∈DataW.weightsAll P e l
 | x::l,d,hd,hn=>by
   simp only[DataW.weightsAll,List.mem_append];rcases List.mem_cons.1 hd with rfl|hd
   · exact .inl hn
   exact .inr (X1A hd hn)
theorem X4z {n:Nat}:∀{ts us:List TypeId} {ds gs:List (DataW H)},n∈DataW.weightsEach P ts ds→n∈DataW.weightsEach P (ts++us) (ds++gs)
 |[],_,_,_,h=>by simp[DataW.weightsEach]at h
 |t::ts,us,[],_,h=>by simp[DataW.weightsEach]at h
 | t::ts,us,d::ds,gs,h=>by
   simp only[DataW.weightsEach,List.cons_append,List.mem_append]at h⊢;exact h.imp id X4z
theorem Zz (hT:X8R P):∀(k:Nat) (t:TypeId) (cs:List Value) (x:DataW H×List MemPlace),t<P.types.size→DataW.trod enc P w base spare held k t cs=some x→(∀n∈x.1.weights P t,n≤reachBytes)→∃ds,Reads P w k t cs ds
 |0,_,_,_,_,h,_=>by cases h
 | k + 1, t,cs,x,htt,h,hz=>by
   unfold DataW.trod at h
   have other:∀v:Value,v.oneCell'=true→cs=[v]→(match P.underlying t with
     |some .bool=>false
     |some (.int _)=>false
     |some .string=>false
     |some (.slice _)=>false
     |some (.struct _)=>false
     |some (.array _ _)=>false
     |_=>true)=true→∃ds,Reads P w (k+1) t cs ds:=by
    intro v h1 hcs hk;subst hcs;refine⟨_,X21 h1 ?_⟩;unfold QA;split<;>rename_i hu<;>first|(rw[hu]at hk;cases hk)|trivial
   split at h
   · rename_i b hu;exact⟨_,X21 rfl (by unfold QA;rw[hu];exact⟨b,rfl⟩)⟩
   · rename_i k' k2 n hu;split at h
     · rename_i hw;obtain⟨rfl,hw⟩:=hw;exact⟨_,X21 rfl (by unfold QA;rw[hu];exact⟨n,rfl,hw⟩)⟩
     cases h
   · rename_i k' k2 b hu;exact other _ rfl rfl (by rw[hu])
   · rename_i s hu;split at h
     · rename_i hw;exact⟨_,X21 rfl (by unfold QA;rw[hu];exact⟨s,rfl,hw⟩)⟩
     cases h
   · rename_i hu;exact other _ rfl rfl (by rw[hu])
   · rename_i hu;exact other _ rfl rfl (by rw[hu])
   · rename_i e hu;refine⟨[.sl (P.cellsOf e) []],rfl,fun j d u hd hu'=>?_,by simp[Value.oneCell'],?_⟩
     · cases j with
       |zero=>cases hd;cases hu';exact .nil _
       |succ j=>simp at hd
     unfold QA;rw[hu];exact⟨[],rfl,by simp,by simp⟩
   · -- a slice
     rename_i e a len cap hu;simp only at h;split at h
     · rename_i hb;obtain⟨hb1,hb2,hb3⟩:=hb;simp only[Option.bind_eq_some_iff,Option.map_eq_some_iff]at h;obtain⟨elems,hel,Xj,_,rfl⟩:=h;obtain⟨hl,hget⟩:=X0S hel
       have hz1:len*P.bytesOf e≤reachBytes:=by
        have:=hz ((elems.length+Xj.length)*P.bytesOf e) (by simp[DataW.weights,hu]);have hle:elems.length=len:=by simpa using hl
        exact Nat.le_trans (Nat.mul_le_mul_right _ (by omega)) this
       have hz2:∀y∈elems,∀n∈y.1.weights P e,n≤reachBytes:=by
        intro y hy n hn;refine hz n ?_;simp only[DataW.weights,hu,List.mem_cons,List.mem_append];exact .inr (.inl (X1A (List.mem_map.2 ⟨y,hy,rfl⟩) hn))
       have hin:e<P.types.size:=by
        have ht:=hT t htt;unfold X4d at ht;rw[hu]at ht;simp only[Bool.and_eq_true,decide_eq_true_eq]at ht;exact ht.2
       have hrow:∀i,i<len→∃row,Reads P w k e (((List.range (P.cellsOf e)).map fun j=>(w.cell? (a.add (i*P.cellsOf e+j))).getD undef)) row∧
         ∀j,j<P.cellsOf e→(w.cell? (a.add (i*P.cellsOf e+j))).isSome=true∧a.block<w.heap.size∧(i*P.cellsOf e+j=0→a.spot=none):=by
        intro i hi;obtain⟨y,hye,hy⟩:=hget i i (by simp[hi]);simp only[Option.bind_eq_some_iff]at hy;obtain⟨cs',hcs',htr⟩:=hy;obtain⟨h1,h2⟩:=X9r hcs'
        have hcell:∀j,j<P.cellsOf e→∃u,cs'[j]? =some u∧w.cell? (a.add (i*P.cellsOf e+j))=some u:=by
         intro j hj;obtain⟨u,hu1,hu2⟩:=h2 j hj;refine⟨u,hu1,?_⟩;rw[←hu2];congr 1;unfold Addr.add;by_cases e1:i*P.cellsOf e=0<;>by_cases e2:j=0<;>simp[e1,e2,Nat.add_assoc]
        have hcs'':cs'=(List.range (P.cellsOf e)).map fun j=>(w.cell? (a.add (i*P.cellsOf e+j))).getD undef:=by
         apply List.ext_getElem?;intro j;by_cases hj:j<P.cellsOf e
         · obtain⟨u,hu1,hu2⟩:=hcell j hj;simp[hj,hu1,hu2]
         rw[List.getElem?_eq_none (by omega),List.getElem?_eq_none (by simp;omega)]
        obtain⟨row,hrd⟩:=Zz hT k e cs' y hin htr (hz2 y (List.mem_of_getElem? hye));rw[hcs'']at hrd;refine⟨row,hrd,fun j hj=>?_⟩;obtain⟨u,_,hu2⟩:=hcell j hj;have hbk:=Xam hu2;refine⟨by rw[hu2];rfl,?_,fun h0=>?_⟩
        · have:(a.add (i*P.cellsOf e+j)).block=a.block:=by unfold Addr.add;split<;>rfl
          rw[←this];exact hbk.1
        have:a.add (i*P.cellsOf e+j)=a:=by rw[h0];rfl
        rw[this]at hbk;exact hbk.2
       have hex:∃rows:List (List CD),rows.length=len∧∀i row,rows[i]? =some row→Reads P w k e (((List.range (P.cellsOf e)).map fun j=>(w.cell? (a.add (i*P.cellsOf e+j))).getD undef)) row:=by
        have:∀n,n≤len→∃rows:List (List CD),rows.length=n∧∀i row,rows[i]? =some row→Reads P w k e (((List.range (P.cellsOf e)).map fun j=>(w.cell? (a.add (i*P.cellsOf e+j))).getD undef)) row:=by
         intro n
         induction n with
         |zero=>exact fun _=>⟨[],rfl,by simp⟩
         | succ n ih=>
           intro hn;obtain⟨rows,h1,h2⟩:=ih (by omega);obtain⟨row,h3,_⟩:=hrow n (by omega);refine⟨rows++[row],by simp[h1],fun i r hr=>?_⟩;by_cases hi:i<n
           · rw[List.getElem?_append_left (by omega)]at hr;exact h2 i r hr
           by_cases hi2:i=n
           · subst hi2;rw[List.getElem?_append_right (by omega),h1,Nat.sub_self]at hr;cases hr;exact h3
           rw[List.getElem?_eq_none (by simp;omega)]at hr;cases hr
        exact this len (Nat.le_refl _)
       obtain⟨rows,hrl,hrows⟩:=hex;refine⟨[.sl (P.cellsOf e) rows],rfl,fun j d u hd hu'=>?_,by simp[Value.oneCell'],?_⟩
       · cases j with
         |succ j=>simp at hd
         | zero=>
           cases hd;cases hu'
           have hrs:∀r∈rows,r.length=P.cellsOf e:=by
            intro r hr;obtain⟨i,hi⟩:=List.mem_iff_getElem?.1 hr;rw[(hrows i r hi).len];simp
           have hpos:0<P.cellsOf e:=by
            have ht:=hT t htt;unfold X4d at ht;rw[hu]at ht;simp only[Bool.and_eq_true,decide_eq_true_eq]at ht;exact ht.1
           by_cases h0:rows=[]
           · subst h0;have:len=0:=hrl.symm;subst this;exact .emp _ a cap
           have hlen:0<len:=by
            rw[←hrl];exact List.length_pos_iff.2 h0
           obtain⟨_,_,h00⟩:=hrow 0 hlen;have hsp:a.spot=none:=(h00 0 hpos).2.2 (by omega);have hbk:a.block<w.heap.size:=(h00 0 hpos).2.1;have ha:a=⟨a.block,a.off,none⟩:=by rw[←hsp]
           rw[ha,←hrl]
           have hadd:∀n,a.add n=⟨a.block,a.off+n,none⟩:=fun n=>by
            have:=QW a.block a.off n;rw[←ha]at this;exact this
           refine .sl _ rows a.block a.off cap (fun i j=>(w.cell? (a.add (i*P.cellsOf e+j))).getD undef) hbk (by rw[hrl];exact hb2) hb3 hrs ?_ ?_ ?_
           · intro i j d hd;obtain⟨hi,hj⟩:=WO hrs hd;obtain⟨_,_,hc⟩:=hrow i (by rw[←hrl];exact hi);have:=(hc j hj).1;rw[hadd]at this⊢;obtain⟨u,hu'⟩:=Option.isSome_iff_exists.1 this;rw[hu'];rfl
           · intro i j d hd;obtain⟨hi,hj⟩:=WO hrs hd;have hr:rows[i]? =some rows[i]:=List.getElem?_eq_getElem hi;exact(hrows i _ hr).one _ (List.mem_map.2 ⟨j,by simpa using hj,rfl⟩)
           intro i j d hd;obtain⟨hi,hj⟩:=WO hrs hd;have hr:rows[i]? =some rows[i]:=List.getElem?_eq_getElem hi
           have hd':rows[i][j]? =some d:=by
            unfold XG at hd;rw[hr]at hd;exact hd
           exact(hrows i _ hr).rel j d _ hd' (by simp[hj])
       unfold QA;rw[hu];refine⟨rows,rfl,⟨by rw[hrl];omega,by rw[hrl];exact hz1⟩,fun r hr=>?_⟩;obtain⟨i,hi⟩:=List.mem_iff_getElem?.1 hr;exact⟨by rw[(hrows i r hi).len];simp,(hrows i r hi).shape⟩
     cases h
   · -- a struct
     rename_i fs hu;split at h
     · rename_i hl;simp only[Option.map_eq_some_iff]at h;obtain⟨xs,hxs,rfl⟩:=h;obtain⟨_,hget⟩:=X0S hxs;have ht:=hT t htt;unfold X4d at ht;rw[hu]at ht;simp only[Bool.and_eq_true,beq_iff_eq,List.all_eq_true,decide_eq_true_eq]at ht;refine X5s ht.1 hl (fun x hx=>?_) fun ds hd hs=>?_
       · have hxs:=ht.2 x hx;obtain⟨f,hf,rfl⟩:=List.mem_map.1 hx;obtain⟨i,hi⟩:=List.mem_iff_getElem?.1 hf;obtain⟨y,hye,hy⟩:=hget i f hi;refine Zz hT k _ _ y hxs hy fun n hn=>hz n ?_;simp only[DataW.weights,hu];exact DataW.weights_mem_each (j:=i) (t:=f.type) (d:=y.1) (by rw[List.getElem?_map,hi];rfl) (by rw[List.getElem?_map,hye];rfl) n hn
       unfold QA;rw[hu];exact⟨hd,hs⟩
     cases h
   · -- an array
     rename_i n e hu;split at h
     · rename_i hl;simp only[Option.map_eq_some_iff]at h;obtain⟨xs,hxs,rfl⟩:=h;obtain⟨_,hget⟩:=X0S hxs;have ht:=hT t htt;unfold X4d at ht;rw[hu]at ht;simp only[Bool.and_eq_true,beq_iff_eq,decide_eq_true_eq]at ht;refine X5s ht.1 hl (fun x hx=>?_) fun ds hd hs=>?_
       · obtain⟨i,hi,rfl⟩:=List.mem_map.1 hx;have hi':i<n:=by simpa using hi
         obtain⟨y,hye,hy⟩:=hget i i (by simp[hi']);refine Zz hT k _ _ y ht.2 hy fun n hn=>hz n ?_;simp only[DataW.weights,hu];exact X1A (List.mem_map.2 ⟨y,List.mem_of_getElem? hye,rfl⟩) hn
       unfold QA;rw[hu];exact⟨hd,hs⟩
     cases h
   · rename_i hu;exact other _ rfl rfl (by rw[hu])
   · rename_i hu;exact other _ rfl rfl (by rw[hu])
   · rename_i hu;exact other _ rfl rfl (by rw[hu])
   · rename_i hu;exact other _ rfl rfl (by rw[hu])
   · rename_i hu;exact other _ rfl rfl (by rw[hu])
   · rename_i hu;exact other _ rfl rfl (by rw[hu])
   · rename_i hu;exact other _ rfl rfl (by rw[hu])
   · rename_i hu;exact other _ rfl rfl (by rw[hu])
   · rename_i hu;exact other _ rfl rfl (by rw[hu])
   · rename_i hu;exact other _ rfl rfl (by rw[hu])
   cases h
end
end Go.Hl
