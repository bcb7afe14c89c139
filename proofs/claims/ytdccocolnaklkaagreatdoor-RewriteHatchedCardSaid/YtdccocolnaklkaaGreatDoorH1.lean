/- Part of an evaluator that is sound over the model. Conditions: none. -/
import Derived.Below
import Derived.Laws.OwnMore
import Derived.Laws.Rows
import Derived.Still
import Derived.Deep.Draws
import Derived.Laws.Strings
import Derived.Laws.StructEq
set_option linter.unusedSimpArgs false
set_option linter.unusedVariables false
namespace Go.Hl
open Go Go.RowKit
theorem N3:type_of% @List.mem_of_getElem?:=@List.mem_of_getElem?
theorem N4:type_of% @Bool.and_eq_true:=@Bool.and_eq_true
theorem N5:type_of% @List.getElem?_eq_some_iff:=@List.getElem?_eq_some_iff
theorem N6:type_of% @if_neg:=@if_neg
theorem N7:type_of% @decide_eq_true_eq:=@decide_eq_true_eq
theorem N8:type_of% @Option.map_eq_some_iff:=@Option.map_eq_some_iff
theorem N9:type_of% @if_pos:=@if_pos
theorem Na:type_of% @List.map_cons:=@List.map_cons
theorem Nb:type_of% @List.map_nil:=@List.map_nil
theorem Nc:type_of% @Nat.zero_le:=@Nat.zero_le
theorem Nd:type_of% @decide_eq_false_iff_not:=@decide_eq_false_iff_not
theorem Nf:type_of% @List.getElem?_map:=@List.getElem?_map
theorem Ng:type_of% @Bool.or_eq_true:=@Bool.or_eq_true
theorem Nh:type_of% @List.all_eq_true:=@List.all_eq_true
theorem Ni:type_of% @List.mem_cons:=@List.mem_cons
theorem Nj:type_of% @List.drop_length:=@List.drop_length
theorem Nk:type_of% @Bool.not_eq_true':=@Bool.not_eq_true'
theorem Nl:type_of% @List.getElem?_append_right:=@List.getElem?_append_right
theorem Nm:type_of% @List.getElem?_append_left:=@List.getElem?_append_left
theorem Nn:type_of% @Bool.and_eq_false_iff:=@Bool.and_eq_false_iff
theorem No:type_of% @List.getElem?_drop:=@List.getElem?_drop
theorem Np:type_of% @List.eq_nil_of_length_eq_zero:=@List.eq_nil_of_length_eq_zero
theorem Nq:type_of% @Array.getD_eq_getD_getElem?:=@Array.getD_eq_getD_getElem?
theorem Nr:type_of% @List.getElem?_eq_getElem:=@List.getElem?_eq_getElem
theorem Ns:type_of% @List.length_take:=@List.length_take
theorem Nt:type_of% @List.length_append:=@List.length_append
theorem Nu:type_of% @List.mem_iff_getElem?:=@List.mem_iff_getElem?
theorem Nv:type_of% @List.getElem?_take:=@List.getElem?_take
theorem Nw:type_of% @decide_eq_true:=@decide_eq_true
theorem Nx:type_of% @List.mem_cons_of_mem:=@List.mem_cons_of_mem
theorem Ny:type_of% @Array.getElem?_setIfInBounds_ne:=@Array.getElem?_setIfInBounds_ne
theorem Nz:type_of% @Bool.false_eq_true:=@Bool.false_eq_true
theorem NA:type_of% @Nat.lt_of_lt_of_le:=@Nat.lt_of_lt_of_le
theorem NB:type_of% @List.getElem?_eq_none:=@List.getElem?_eq_none
theorem NC:type_of% @List.mem_append:=@List.mem_append
theorem ND:type_of% @Nat.le_refl:=@Nat.le_refl
theorem NE:type_of% @List.getElem?_set_self:=@List.getElem?_set_self
theorem NF:type_of% @Bool.true_and:=@Bool.true_and
theorem NG:type_of% @if_true:=@if_true
theorem NH:type_of% @Bool.or_eq_false_iff:=@Bool.or_eq_false_iff
theorem NI:type_of% @Nat.mul_le_mul_right:=@Nat.mul_le_mul_right
theorem NJ:type_of% @Nat.add_mul:=@Nat.add_mul
theorem NL:type_of% @List.filter_cons_of_neg:=@List.filter_cons_of_neg
theorem NN:type_of% @List.mem_map:=@List.mem_map
theorem NO:type_of% @Array.getElem?_eq_some_iff:=@Array.getElem?_eq_some_iff
theorem NP:type_of% @List.ext_getElem?:=@List.ext_getElem?
theorem NQ:type_of% @Array.getElem?_append_left:=@Array.getElem?_append_left
theorem NR:type_of% @Bool.and_assoc:=@Bool.and_assoc
theorem NS:type_of% @List.mem_singleton:=@List.mem_singleton
theorem NV:type_of% @List.pairwise_cons:=@List.pairwise_cons
theorem NW:type_of% @if_false:=@if_false
theorem NX:type_of% @Int.le_refl:=@Int.le_refl
theorem NY:type_of% @Bool.false_and:=@Bool.false_and
theorem NZ:type_of% @List.getElem?_set_ne:=@List.getElem?_set_ne
theorem D0:type_of% @List.getElem?_range':=@List.getElem?_range'
theorem D1:type_of% @List.getElem?_set:=@List.getElem?_set
theorem D2:type_of% @List.length_drop:=@List.length_drop
theorem D4:type_of% @Nat.le_of_not_lt:=@Nat.le_of_not_lt
theorem D5:type_of% @Array.getElem?_eq_getElem:=@Array.getElem?_eq_getElem
theorem D6:type_of% @List.length_map:=@List.length_map
theorem D7:type_of% @List.append_assoc:=@List.append_assoc
theorem D8:type_of% @List.mem_of_mem_drop:=@List.mem_of_mem_drop
theorem D9:type_of% @Bool.eq_iff_iff:=@Bool.eq_iff_iff
theorem Da:type_of% @Nat.le_of_ble_eq_true:=@Nat.le_of_ble_eq_true
theorem Db:type_of% @List.append_nil:=@List.append_nil
theorem Dc:type_of% @List.filter_cons_of_pos:=@List.filter_cons_of_pos
theorem Dd:type_of% @List.mem_of_mem_take:=@List.mem_of_mem_take
theorem De:type_of% @Nat.lt_irrefl:=@Nat.lt_irrefl
theorem Df:type_of% @Nat.add_assoc:=@Nat.add_assoc
theorem Dg:type_of% @List.mem_or_eq_of_mem_set:=@List.mem_or_eq_of_mem_set
theorem Dh:type_of% @Array.getElem?_toList:=@Array.getElem?_toList
theorem Di:type_of% @List.getElem_mem:=@List.getElem_mem
theorem Dj:type_of% @Nat.le_trans:=@Nat.le_trans
theorem Dk:type_of% @Nat.not_lt_zero:=@Nat.not_lt_zero
theorem Dl:type_of% @List.filter_eq_self:=@List.filter_eq_self
theorem Dm:type_of% @List.isEmpty_iff:=@List.isEmpty_iff
theorem Dn:type_of% @List.not_mem_nil:=@List.not_mem_nil
theorem Dp:type_of% @List.filter_append:=@List.filter_append
theorem Dq:type_of% @Array.getElem?_modify:=@Array.getElem?_modify
theorem Dr:type_of% @Int.mul_nonneg:=@Int.mul_nonneg
theorem Ds:type_of% @List.map_append:=@List.map_append
theorem Dt:type_of% @List.length_set:=@List.length_set
theorem Du:type_of% @List.any_eq_false:=@List.any_eq_false
theorem Dv:type_of% @List.mem_filter:=@List.mem_filter
inductive CD where
 |lit (v:Value)
 |sl (s:Nat) (rows:List (List CD))
 |ptr (cs:List CD)
 |mp (l:List (Value×CD))
 |fn (f:FuncId) (caps:List CD)
 |ag (cs:List CD)
def XV {T:Type} (rows:List (List T)) (i j:Nat):Option T:=rows[i]?.bind (·[j]?)
def WV (es:Array MapEntry) (clock:Nat):Prop:=es.toList.Pairwise (fun a b=>a.born<b.born)/\∀e∈es.toList,e.born<clock
theorem WV.nil (c:Nat):WV #[] c:=⟨by simp,by simp⟩
theorem WV.push {es:Array MapEntry} {clock:Nat} (h:WV es clock) (k v:Value):WV (es.push {key:=k,val:=v,born:=clock}) (clock+1):=by
 obtain⟨h1,h2⟩:=h;refine⟨?_,fun e he=>?_⟩
 .rw[Array.toList_push];refine List.pairwise_append.2 ⟨h1,List.pairwise_singleton ..,fun a ha b hb=>?_⟩;rw[NS.1 hb];exact h2 a ha
 rw[Array.toList_push,NC]at he;rcases he with he|he
 .exact Nat.lt_succ_of_lt (h2 e he)
 rw[NS.1 he];exact Nat.lt_succ_self _
theorem WV.modify {es:Array MapEntry} {clock:Nat} (h:WV es clock) (i:Nat) (f:MapEntry->MapEntry) (hf:∀e,(f e).born=e.born):WV (es.modify i f) clock:=by
 have e:(es.modify i f).toList.map (·.born)=es.toList.map (·.born):=by
  apply NP;intro j;simp only[Nf,Dh,Dq];split
  .cases es[j]? <;>simp[hf]
  rfl
 obtain⟨h1,h2⟩:=h;have h1':(es.toList.map (·.born)).Pairwise (· < ·):=List.pairwise_map.2 h1;rw[<-e]at h1';refine⟨List.pairwise_map.1 h1',fun x hx=>?_⟩;have:x.born∈es.toList.map (·.born):=by rw[<-e];exact NN.2 ⟨x,hx,rfl⟩
 obtain⟨y,hy,hyx⟩:=NN.1 this;rw[<-hyx];exact h2 y hy
inductive CRel (F:Nat->Prop) (w:World):CD->Value->Prop where
 |lit (v:Value):CRel F w (.lit v) v
 |nil (s:Nat):CRel F w (.sl s []) (.slice none 0 0)
 |emp (s:Nat) (a:Addr) (cap:Nat):CRel F w (.sl s []) (.slice (some a) 0 cap)
 | sl (s:Nat) (rows:List (List CD)) (b o cap:Nat) (cells:Nat->Nat->Value) (hF:F b) (hcap:rows.length<=cap) (hmax:cap<=maxLen)
   (hs:∀r∈rows,r.length=s)
   (hc:∀i j d,XV rows i j=some d->w.cell? ⟨b,o+(i*s+j),none⟩=some (cells i j))
   (h1:∀i j d,XV rows i j=some d->(cells i j).oneCell'=true)
   (hr:∀i j d,XV rows i j=some d->CRel F w d (cells i j)):CRel F w (.sl s rows) (.slice (some ⟨b,o,none⟩) rows.length cap)
 | ptr (cs:List CD) (b o:Nat) (cells:Nat->Value) (hF:F b)
   (hc:∀j d,cs[j]? =some d->w.cell? ⟨b,o+j,none⟩=some (cells j))
   (h1:∀j d,cs[j]? =some d->(cells j).oneCell'=true)
   (hr:∀j d,cs[j]? =some d->CRel F w d (cells j)):CRel F w (.ptr cs) (.pointer (some ⟨b,o,none⟩))
 |mnil:CRel F w (.mp []) (.map none)
 | mp (l:List (Value×CD)) (b:Nat) (es:Array MapEntry) (clock:Nat) (hF:F b) (hb:w.heap[b]? =some (.map es clock))
   (hk:es.toList.map (·.key)=l.map (·.1)) (hn:WV es clock) (hr:∀(j:Nat) k d e,l[j]? =some (k,d)->es[j]? =some e->CRel F w d e.val):CRel F w (.mp l) (.map (some b))
 | fn (f:FuncId) (caps:List CD) (vs:List Value) (hl:vs.length=caps.length) (hr:∀(j:Nat) d u,caps[j]? =some d->vs[j]? =some u->CRel F w d u):
   CRel F w (.fn f caps) (.func (.func f) #[] vs.toArray)
 |ag (cs:List CD) (vs:List Value) (hl:vs.length=cs.length) (hr:∀(j:Nat) d u,cs[j]? =some d->vs[j]? =some u->CRel F w d u):CRel F w (.ag cs) (.agg vs.toArray)
inductive CV where
 |any
 |c (d:CD)
 |own (n:Nat)
 |at_ (n off:Nat)
 |el (n s i off:Nat)
 |sub (n i:Nat)
 |el2 (n s i j off:Nat)
 |fn (f:FuncId) (caps:List (Nat×Nat))
 |gd (b:Bool) (x:CV)
inductive TV where
 |one (x:CV)
 |agg (xs:List CV)
inductive RV where
 |v (t:TV)
 |tup (ts:List TV)
inductive Ob where
 |box (cs:List CV)
 |row (e:TypeId) (s:Nat) (rows:List (List CD))
 |mp (l:List (Value×CD))
 |mat (e e':TypeId) (s:Nat) (rows:List (Option (List (List CD))))
 |refs (e:TypeId) (xs:List Nat)
 |mps (e:TypeId) (ms:List (Option (List (Value×CD))))
 |it (l:List (Value×CD)) (seen:List Nat)
structure Kept (B:Nat->Prop) (w w':World):Prop where
 os:w'.os=w.os
 tape:w'.tape=w.tape
 output:w'.output=w.output
 size:w.heap.size<=w'.heap.size
 block:∀k,B k->w'.heap[k]? =w.heap[k]?
theorem Kept.refl (B:Nat->Prop) (w:World):Kept B w w:=⟨rfl,rfl,rfl,ND _,fun _ _=>rfl⟩
theorem Kept.trans {B:Nat->Prop} {a b c:World} (h:Kept B a b) (k:Kept B b c):Kept B a c:=
 ⟨k.os.trans h.os,k.tape.trans h.tape,k.output.trans h.output,Dj h.size k.size,fun i hi=>(k.block i hi).trans (h.block i hi)⟩
theorem Kept.drew {B:Nat->Prop} {a w:World} (h:Kept B a w):Kept B a w.drew:=⟨h.os,h.tape,h.output,h.size,h.block⟩
theorem Kept.of_below {B:Nat->Prop} {n:Nat} {w w':World} (h:Below n w w') (hB:∀b,B b->b<n):Kept B w w':=⟨h.os,h.tape,h.output,h.size,fun k hk=>h.block k (hB k hk)⟩
theorem Kept.below {n:Nat} {w w':World} (h:Kept (fun b=>b<n) w w'):Below n w w':=⟨h.os,h.tape,h.output,h.size,h.block⟩
theorem Kept.alloc {B:Nat->Prop} {a w:World} (h:Kept B a w) (hB:∀b,B b->b<w.heap.size) (o:Obj):Kept B a (w.alloc o):=
 h.trans ⟨rfl,rfl,rfl,by simp,fun k hk=>Below.heap_alloc _ _ _ (hB k hk)⟩
theorem Kept.grown {B:Nat->Prop} {a w w':World} {row:Option Nat} (h:Kept B a w) (hg:w.grownBy w' row) (hB:∀b,B b->b<w.heap.size) (hr:∀k,row=some k->¬B k):Kept B a w':=
 h.trans ⟨hg.os,hg.tape,hg.output,hg.size,fun k hk=>hg.block k (hB k hk) fun e=>hr k e.symm hk⟩
def Qu (w:World) (B:Nat->Prop) (e:TypeId) (size:Nat) (v:Value) (n:Nat) (xs:List Value):Prop:=
 xs.length=n*size/\
 ((v=.slice none 0 0/\n=0)\/
  ∃g o cap cur,v=.slice (some ⟨g,o,none⟩) n cap/\¬B g/\w.heap[g]? =some (.cells cur e (0,0))/\n<=cap/\cap<=maxLen/\o+cap*size<=cur.size/\(cur.toList.drop o).take (n*size)=xs)
theorem Qu.of_row {w:World} {B:Nat->Prop} {e:TypeId} {size:Nat} {v:Value} {n:Nat} {xs:List Value} (h:w.ownsRow 0 e size v n xs) (hB:∀b,v.ownBlock=some b->¬B b):Qu w B e size v n xs:=by
 refine⟨h.1,h.2.imp id ?_⟩;rintro⟨g,cap,cur,rfl,_,h1,h2,h3,h4,h5⟩;exact⟨g,0,cap,cur,rfl,hB g rfl,h1,h2,h3,by rw[h4];omega,h5⟩
theorem Qu.nil (w:World) (B:Nat->Prop) (e:TypeId) (size:Nat):Qu w B e size (.slice none 0 0) 0 []:=⟨by simp,.inl ⟨rfl,rfl⟩⟩
theorem Qu.cells {w:World} {B:Nat->Prop} {e:TypeId} {size:Nat} {n' n cap g o:Nat} {xs:List Value} (h:Qu w B e size (.slice (some ⟨g,o,none⟩) n' cap) n xs):∀j u,xs[j]? =some u->w.cell? ((⟨g,o,none⟩:Addr).add j)=some u:=by
 intro j u hu;rcases h.2 with⟨h,_⟩|⟨g',o',cap',cur,hv,_,hg,hn,_,hs,ht⟩
 .cases h
 cases hv;have hj:j<n'*size:=by rw[<-h.1];exact(N5.1 hu).1
 rw[<-ht,Nv,N9 hj,No,Dh]at hu;rw[Addr.add_lit];simpa[World.cell?,hg]using hu
def blk:Value->Option Nat
 | .pointer (some a)=>some a.block
 | .slice (some a) _ _=>some a.block
 | .map (some b)=>some b
 |_=>none
def Blk:Value->Nat->Prop
 | .agg vs,b=>∃v∈vs.toList,blk v=some b
 |v,b=>blk v=some b
def hd:Value->Value
 | .agg vs=>vs.getD 0 undef
 |v=>v
def XR:Value:=.slice none 0 0
def Xo (F:Nat->Prop) (T:Nat->Value) (w:World):CV->Value->Prop
 | .any,_=>True
 | .c d,v=>CRel F w d v
 | .own n,v=>v=hd (T n)/\v.oneCell'=true
 | .at_ n off,v=>∃b,T n=.pointer (some ⟨b,0,none⟩)/\v=.pointer (some ⟨b,off,none⟩)
 | .el n s i off,v=>∃b o len cap,hd (T n)=.slice (some ⟨b,o,none⟩) len cap/\v=.pointer (some ⟨b,o+(i*s+off),none⟩)
 | .sub n i,v=>∃vs,T n=.agg vs/\vs[i+1]? =some v/\v.oneCell'=true/\v≠undef
 | .el2 n s i j off,v=>∃vs b o len cap,T n=.agg vs/\vs[i+1]? =some (.slice (some ⟨b,o,none⟩) len cap)/\v=.pointer (some ⟨b,o+(j*s+off),none⟩)
 | .fn f caps,v=>∃vs:List Value,v=.func (.func f) #[] vs.toArray/\vs.length=caps.length/\
   ∀(j:Nat) (p:Nat×Nat) u,caps[j]? =some p->vs[j]? =some u->∃b,T p.1=.pointer (some ⟨b,0,none⟩)/\u=.pointer (some ⟨b,p.2,none⟩)
 | .gd b x,v=>(b=true->Xo F T w x v)/\(b=false->v=undef)
def Xi (F:Nat->Prop) (T:Nat->Value) (w:World) (xs:List CV) (vs:Array Value):Prop:=
 vs.size=xs.length/\∀(j:Nat) x u,xs[j]? =some x->vs[j]? =some u->Xo F T w x u
def XJ (F:Nat->Prop) (T:Nat->Value) (w:World):TV->Value->Prop
 | .one x,v=>Xo F T w x v
 | .agg xs,v=>∃vs,v=.agg vs/\Xi F T w xs vs
def X9 (F:Nat->Prop) (T:Nat->Value) (w:World):RV->Value->Prop
 | .v t,v=>XJ F T w t v
 | .tup ts,v=>∃vs:Array Value,v=.tuple vs/\vs.size=ts.length/\∀(j:Nat) t u,ts[j]? =some t->vs[j]? =some u->XJ F T w t u
def Xm (F:Nat->Prop) (w:World) (B:Nat->Prop) (e:TypeId) (s:Nat) (x:Value) (rows:List (List CD)):Prop:=
 0 <s/\(∀r∈rows,r.length=s)/\∃xs,Qu w B e s x rows.length xs/\(∀u∈xs,u.oneCell'=true)/\
   ∀i j d,XV rows i j=some d->∃u,xs[i*s+j]? =some u/\CRel F w d u
def InRel (F:Nat->Prop) (w:World) (B:Nat->Prop) (e:TypeId) (s:Nat) (x:Value):Option (List (List CD))->Prop
 |none=>x=undef
 |some rows=>Xm F w B e s x rows
def X17 (v:Value):Option (List (List CD))->Value
 |none=>XR
 |some _=>v
def X0M (F:Nat->Prop) (w:World) (B:Nat->Prop) (x:Value) (l:List (Value×CD)):Prop:=
 ∃b es clock,x=.map (some b)/\¬B b/\w.heap[b]? =some (.map es clock)/\es.toList.map (·.key)=l.map (·.1)/\WV es clock/\
  ∀(j:Nat) k d e,l[j]? =some (k,d)->es[j]? =some e->CRel F w d e.val
def InMp (F:Nat->Prop) (w:World) (B:Nat->Prop) (x:Value):Option (List (Value×CD))->Prop
 |none=>x=undef
 |some l=>X0M F w B x l
def X0E (v:Value):Option (List (Value×CD))->Value
 |none=>.map none
 |some _=>v
def ItRel (F:Nat->Prop) (w:World) (b:Nat) (l:List (Value×CD)) (seen:List Nat):Prop:=
 (l=[]/\w.heap[b]? =some (.mapIter none 0 #[] 0))\/
 ∃m es clock sn,w.heap[b]? =some (.mapIter (some m) clock sn clock)/\F m/\w.heap[m]? =some (.map es clock)/\es.toList.map (·.key)=l.map (·.1)/\WV es clock/\
  (∀(j:Nat) k d e,l[j]? =some (k,d)->es[j]? =some e->CRel F w d e.val)/\sn.toList=seen.filterMap fun j=>(es[j]?).map (·.born)
def Q4 (F:Nat->Prop) (T:Nat->Value) (w:World) (B:Nat->Prop) (x:Value):Ob->Prop
 | .box cs=>∃b e vs,x=.pointer (some ⟨b,0,none⟩)/\¬B b/\w.heap[b]? =some (.cells vs e (0,0))/\Xi F T w cs vs
 | .row e s rows=>Xm F w B e s x rows
 | .mp l=>∃b es clock,x=.map (some b)/\¬B b/\w.heap[b]? =some (.map es clock)/\es.toList.map (·.key)=l.map (·.1)/\WV es clock/\
   ∀(j:Nat) k d e,l[j]? =some (k,d)->es[j]? =some e->CRel F w d e.val
 | .mat e e' s rows=>∃(o:Value) (is:List Value),x=.agg (o::is).toArray/\0<s/\is.length=rows.length/\
   (∃xs,Qu w B e 1 o rows.length xs/\∀(i:Nat) v r,is[i]? =some v->rows[i]? =some r->xs[i]? =some (X17 v r))/\
   (∀(i:Nat) v r,is[i]? =some v->rows[i]? =some r->InRel F w B e' s v r)/\
   (∀(i:Nat) v b,is[i]? =some v->blk v=some b->blk o≠some b)/\
   ∀(i j:Nat) u v b,is[i]? =some u->is[j]? =some v->i≠j->blk u=some b->blk v≠some b
 | .mps e ms=>∃(o:Value) (is:List Value),x=.agg (o::is).toArray/\is.length=ms.length/\
   (∃xs,Qu w B e 1 o ms.length xs/\∀(i:Nat) v r,is[i]? =some v->ms[i]? =some r->xs[i]? =some (X0E v r))/\
   (∀(i:Nat) v r,is[i]? =some v->ms[i]? =some r->InMp F w B v r)/\
   (∀(i:Nat) v b,is[i]? =some v->blk v=some b->blk o≠some b)/\
   ∀(i j:Nat) u v b,is[i]? =some u->is[j]? =some v->i≠j->blk u=some b->blk v≠some b
 | .it l seen=>∃b,x=.pointer (some ⟨b,0,none⟩)/\¬B b/\ItRel F w b l seen
 | .refs e ns=>∃b,x=.slice (some ⟨b,0,none⟩) ns.length ns.length/\¬B b/\w.heap[b]? =some (.cells (ns.map fun n=>hd (T n)).toArray e (0,0))
def lkp {T:Type}:List (Nat×T)->Nat->Option T
 |[],_=>none
 |(k,x)::l,n=>if k=n then some x else lkp l n
def ins {T:Type} (n:Nat) (x:T):List (Nat×T)->List (Nat×T)
 |[]=>[(n,x)]
 |(k,y)::l=>if n<k then(n,x)::(k,y)::l else if n=k then(n,x)::l else(k,y)::ins n x l
def del {T:Type} (n:Nat):List (Nat×T)->List (Nat×T)
 |[]=>[]
 |(k,y)::l=>if k=n then del n l else(k,y)::del n l
structure NT where
 n:Nat
 pv:Option Value
instance (k:Nat):OfNat NT k:=⟨⟨k,none⟩⟩
instance:Coe Nat NT:=⟨fun k=>⟨k,none⟩⟩
structure HS where
 nt:NT
 regs:List (Nat×RV)
 objs:List (Nat×Ob)
structure HeapRel (w0:World) (B:Nat->Prop) (U:Nat->Option Value) (F:Nat->Prop) (T:Nat->Value) (objs:List (Nat×Ob)) (w:World):Prop where
 below:Kept B w0 w
 hB:∀b,B b->b<w.heap.size
 fsz:∀b,F b->b<w.heap.size
 ob:∀n o,lkp objs n=some o->Q4 F T w B (T n) o
 apart:∀n o,lkp objs n=some o->∀b,Blk (T n) b->¬F b
 sep:∀n m on om,lkp objs n=some on->lkp objs m=some om->n≠m->∀b,Blk (T n) b->¬Blk (T m) b
 pin:∀n v,U n=some v->1000000<=n/\T n=v
structure Rel (w0:World) (B:Nat->Prop) (U:Nat->Option Value) (F:Nat->Prop) (T:Nat->Value) (s:HS) (a:Act) (w:World):Prop where
 heap:HeapRel w0 B U F T s.objs w
 defers:a.defers=[]
 nt:a.tmps.size=s.nt.n/\∀v,s.nt.pv=some v->U 1000000=some v
 regs:∀k r,lkp s.regs k=some r->X9 F T w r (a.tmps.getD k undef)
section
variable {T:Type}
theorem X1C (n:Nat) (x:T):∀l,lkp (ins n x l) n=some x
 |[]=>by simp[ins,lkp]
 | (k,y)::l=>by
   unfold ins;split
   .simp[lkp]
   split
   .simp[lkp]
   rename_i h1 h2;simp only[lkp,N6 (Ne.symm h2)];exact X1C n x l
theorem Xp {n m:Nat} (h:m≠n) (x:T):∀l,lkp (ins n x l) m=lkp l m
 |[]=>by simp[ins,lkp,Ne.symm h]
 | (k,y)::l=>by
   unfold ins;split
   .simp[lkp,Ne.symm h]
   split
   .rename_i h1 h2;simp[lkp,<-h2,Ne.symm h]
   simp only[lkp];split
   .rfl
   exact Xp h x l
theorem Qb (n m:Nat) (x:T) (l:List (Nat×T)):lkp (ins n x l) m=if m=n then some x else lkp l m:=by
 by_cases h:m=n
 .subst h;simp[X1C]
 simp[h,Xp h]
theorem ZA (n m:Nat):∀l:List (Nat×T),lkp (del n l) m=if m=n then none else lkp l m
 |[]=>by simp[del,lkp]
 | (k,y)::l=>by
   unfold del;split
   .rename_i h;subst h;rw[ZA];by_cases hm:m=k
    .simp[hm]
    simp[hm,lkp,Ne.symm hm]
   rename_i h;simp only[lkp];split
   .rename_i h2;subst h2;simp[h]
   exact ZA n m l
theorem Wm {n k:Nat} (h:n<k) (x y:T) (l:List (Nat×T)):ins n x ((k,y)::l)=(n,x)::(k,y)::l:=by simp[ins,h]
theorem ZZ (n:Nat) (x y:T) (l:List (Nat×T)):ins n x ((n,y)::l)=(n,x)::l:=by simp[ins]
theorem QQ {n k:Nat} (h:k<n) (x y:T) (l:List (Nat×T)):ins n x ((k,y)::l)=(k,y)::ins n x l:=by
 simp[ins,Nat.lt_asymm h,Nat.ne_of_gt h]
theorem QG {n m:Nat} (h:n≠m) (x y:T):∀l,ins n x (ins m y l)=ins m y (ins n x l)
 | []=>by
   rcases Nat.lt_or_gt_of_ne h with h1|h1
   .simp[ins,h1,Nat.lt_asymm h1,Ne.symm h]
   simp[ins,h1,Nat.lt_asymm h1,h]
 | (k,z)::l=>by
   have ih:=QG h x y l;rcases Nat.lt_trichotomy n k with a|a|a<;>rcases Nat.lt_trichotomy m k with b|b|b
   .rw[Wm b,Wm a];rcases Nat.lt_or_gt_of_ne h with c|c
    .rw[Wm c,QQ c,Wm b]
    rw[QQ c,Wm a,Wm c]
   .subst b;rw[ZZ,Wm a,Wm a,QQ a,ZZ]
   .rw[QQ b,Wm a,Wm a,QQ (Nat.lt_trans a b),QQ b]
   .subst a;rw[Wm b,ZZ,QQ b,ZZ,Wm b]
   .exact absurd (a.trans b.symm) h
   .subst a;rw[QQ b,ZZ,ZZ,QQ b]
   .rw[Wm b,QQ a,QQ (Nat.lt_trans b a),QQ a,Wm b]
   .subst b;rw[ZZ,QQ a,QQ a,ZZ]
   rw[QQ b,QQ a,QQ a,QQ b,ih]
end
theorem CRel.mono {F F':Nat->Prop} {w w':World} (hF:∀b,F b->F' b) (hw:∀b,F b->w'.heap[b]? =w.heap[b]?) {d:CD} {v:Value} (h:CRel F w d v):CRel F' w' d v:=by
 induction h with
 |lit v=>exact .lit v
 |nil s=>exact .nil s
 |emp s a cap=>exact .emp s a cap
 | sl s rows b o cap cells hb hcap hmax hs hc h1 _ ih=>
   exact .sl s rows b o cap cells (hF b hb) hcap hmax hs (fun i j d h=>(World.cell?_of_block (hw b hb)).trans (hc i j d h)) h1 ih
 | ptr cs b o cells hb hc h1 _ ih=>
   exact .ptr cs b o cells (hF b hb) (fun j d h=>(World.cell?_of_block (hw b hb)).trans (hc j d h)) h1 ih
 |mnil=>exact .mnil
 |mp l b es clock hb hh hk hn _ ih=>exact .mp l b es clock (hF b hb) ((hw b hb).trans hh) hk hn ih
 |fn f caps vs hl _ ih=>exact .fn f caps vs hl ih
 |ag cs vs hl _ ih=>exact .ag cs vs hl ih
theorem Xo.mono {F F':Nat->Prop} {T:Nat->Value} {w w':World} (hF:∀b,F b->F' b) (hw:∀b,F b->w'.heap[b]? =w.heap[b]?) {x:CV} {v:Value} (h:Xo F T w x v):Xo F' T w' x v:=by
 induction x with
 |c d=>exact CRel.mono hF hw h
 |gd b x ih=>exact⟨fun hb=>ih (h.1 hb),h.2⟩
 |_=>exact h
theorem Xi.mono {F F':Nat->Prop} {T:Nat->Value} {w w':World} (hF:∀b,F b->F' b) (hw:∀b,F b->w'.heap[b]? =w.heap[b]?) {xs:List CV} {vs:Array Value} (h:Xi F T w xs vs):Xi F' T w' xs vs:=
 ⟨h.1,fun j x u hx hu=>(h.2 j x u hx hu).mono hF hw⟩
theorem XJ.mono {F F':Nat->Prop} {T:Nat->Value} {w w':World} (hF:∀b,F b->F' b) (hw:∀b,F b->w'.heap[b]? =w.heap[b]?) {x:TV} {v:Value} (h:XJ F T w x v):XJ F' T w' x v:=by
 cases x with
 |one x=>exact Xo.mono hF hw h
 |agg xs=>obtain⟨vs,rfl,hc⟩:=h;exact⟨vs,rfl,hc.mono hF hw⟩
theorem X9.mono {F F':Nat->Prop} {T:Nat->Value} {w w':World} (hF:∀b,F b->F' b) (hw:∀b,F b->w'.heap[b]? =w.heap[b]?) {x:RV} {v:Value} (h:X9 F T w x v):X9 F' T w' x v:=by
 cases x with
 |v t=>exact XJ.mono hF hw h
 |tup ts=>obtain⟨vs,rfl,hs,hc⟩:=h;exact⟨vs,rfl,hs,fun j t u ht hu=>(hc j t u ht hu).mono hF hw⟩
theorem Xm.mono {F F':Nat->Prop} {w w':World} {B:Nat->Prop} {e:TypeId} {s:Nat} {x:Value} {rows:List (List CD)} (hF:∀b,F b->F' b) (hw:∀b,F b->w'.heap[b]? =w.heap[b]?)
  (hx:∀b,blk x=some b->w'.heap[b]? =w.heap[b]?) (h:Xm F w B e s x rows):Xm F' w' B e s x rows:=by
 obtain⟨h0,hs,xs,hown,h1,hc⟩:=h;refine⟨h0,hs,xs,⟨hown.1,?_⟩,h1,fun i j d hd=>?_⟩
 .rcases hown.2 with h|⟨g,o,cap,cur,rfl,hg,hh,Xy⟩
  .exact .inl h
  exact .inr ⟨g,o,cap,cur,rfl,hg,(hx g rfl).trans hh,Xy⟩
 obtain⟨u,hu,hr⟩:=hc i j d hd;exact⟨u,hu,hr.mono hF hw⟩
theorem Qu.mono {w w':World} {B:Nat->Prop} {e:TypeId} {size:Nat} {v:Value} {n:Nat} {xs:List Value} (h:Qu w B e size v n xs) (hx:∀b,blk v=some b->w'.heap[b]? =w.heap[b]?):Qu w' B e size v n xs:=by
 refine⟨h.1,?_⟩;rcases h.2 with h|⟨g,o,cap,cur,rfl,hg,hh,Xy⟩
 .exact .inl h
 exact .inr ⟨g,o,cap,cur,rfl,hg,(hx g rfl).trans hh,Xy⟩
theorem X0M.mono {F F':Nat->Prop} {w w':World} {B:Nat->Prop} {x:Value} {l:List (Value×CD)} (hF:∀b,F b->F' b) (hw:∀b,F b->w'.heap[b]? =w.heap[b]?)
  (hx:∀b,blk x=some b->w'.heap[b]? =w.heap[b]?) (h:X0M F w B x l):X0M F' w' B x l:=by
 obtain⟨b,es,clock,rfl,hb,hh,hk,hn,hr⟩:=h;exact⟨b,es,clock,rfl,hb,(hx b rfl).trans hh,hk,hn,fun j k d e h1 h2=>(hr j k d e h1 h2).mono hF hw⟩
theorem ItRel.mono {F F':Nat->Prop} {w w':World} {b:Nat} {l:List (Value×CD)} {seen:List Nat} (hF:∀b,F b->F' b) (hw:∀b,F b->w'.heap[b]? =w.heap[b]?)
  (hx:w'.heap[b]? =w.heap[b]?) (h:ItRel F w b l seen):ItRel F' w' b l seen:=by
 rcases h with⟨h1,h2⟩|⟨m,es,clock,sn,h1,h2,h3,h4,h5,h6,h7⟩
 .exact .inl ⟨h1,hx.trans h2⟩
 exact .inr ⟨m,es,clock,sn,hx.trans h1,hF m h2,(hw m h2).trans h3,h4,h5,fun j k d e a1 a2=>(h6 j k d e a1 a2).mono hF hw,h7⟩
theorem Q4.mono {F F':Nat->Prop} {T:Nat->Value} {w w':World} {B:Nat->Prop} {x:Value} (hF:∀b,F b->F' b) (hw:∀b,F b->w'.heap[b]? =w.heap[b]?)
  (hx:∀b,Blk x b->w'.heap[b]? =w.heap[b]?) {o:Ob} (h:Q4 F T w B x o):Q4 F' T w' B x o:=by
 cases o with
 | box cs=>
   obtain⟨b,e,vs,rfl,hb,hh,hc⟩:=h;exact⟨b,e,vs,rfl,hb,(hx b rfl).trans hh,hc.mono hF hw⟩
 | row e s rows=>
   refine Xm.mono hF hw (fun b hb=>hx b ?_) h;obtain⟨_,_,xs,hown,_⟩:=h;rcases hown.2 with⟨rfl,_⟩|⟨g,o,cap,cur,rfl,_⟩<;>exact hb
 | mp l=>
   obtain⟨b,es,clock,rfl,hb,hh,hk,hn,hr⟩:=h;exact⟨b,es,clock,rfl,hb,(hx b rfl).trans hh,hk,hn,fun j k d e h1 h2=>(hr j k d e h1 h2).mono hF hw⟩
 | mat e e' s rows=>
   obtain⟨o,is,rfl,h0,hl,⟨xs,hown,hxs⟩,hin,h1,h2⟩:=h;refine⟨o,is,rfl,h0,hl,⟨xs,hown.mono fun b hb=>hx b ⟨o,by simp,hb⟩,hxs⟩,fun i v r hv hr=>?_,h1,h2⟩;have:=hin i v r hv hr;cases r with
   |none=>exact this
   |some rr=>exact Xm.mono hF hw (fun b hb=>hx b ⟨v,by simp[N3 hv],hb⟩) this
 | refs e ns=>
   obtain⟨b,rfl,hb,hh⟩:=h;exact⟨b,rfl,hb,(hx b rfl).trans hh⟩
 | mps e ms=>
   obtain⟨o,is,rfl,hl,⟨xs,hown,hxs⟩,hin,h1,h2⟩:=h;refine⟨o,is,rfl,hl,⟨xs,hown.mono fun b hb=>hx b ⟨o,by simp,hb⟩,hxs⟩,fun i v r hv hr=>?_,h1,h2⟩;have:=hin i v r hv hr;cases r with
   |none=>exact this
   |some rr=>exact X0M.mono hF hw (fun b hb=>hx b ⟨v,by simp[N3 hv],hb⟩) this
 | it l seen=>
   obtain⟨b,rfl,hb,hh⟩:=h;exact⟨b,rfl,hb,hh.mono hF hw (hx b rfl)⟩
theorem CRel.ptr_inv {F:Nat->Prop} {w:World} {cs:List CD} {v:Value} (h:CRel F w (.ptr cs) v):
  ∃b o,∃cells:Nat->Value,v=.pointer (some ⟨b,o,none⟩)/\F b/\(∀j d,cs[j]? =some d->w.cell? ⟨b,o+j,none⟩=some (cells j))/\
   (∀j d,cs[j]? =some d->(cells j).oneCell'=true)/\∀j d,cs[j]? =some d->CRel F w d (cells j):=by
 cases h with
 |ptr cs b o cells hF hc h1 hr=>exact⟨b,o,cells,rfl,hF,hc,h1,hr⟩
theorem CRel.sl_inv {F:Nat->Prop} {w:World} {s:Nat} {rows:List (List CD)} {v:Value} (h:CRel F w (.sl s rows) v):
  (rows=[]/\((v=.slice none 0 0)\/∃a cap,v=.slice (some a) 0 cap))\/∃b o cap,∃cells:Nat->Nat->Value,v=.slice (some ⟨b,o,none⟩) rows.length cap/\F b/\rows.length<=cap/\cap<=maxLen/\
   (∀r∈rows,r.length=s)/\(∀i j d,XV rows i j=some d->w.cell? ⟨b,o+(i*s+j),none⟩=some (cells i j))/\
   (∀i j d,XV rows i j=some d->(cells i j).oneCell'=true)/\∀i j d,XV rows i j=some d->CRel F w d (cells i j):=by
 cases h with
 |nil s=>exact .inl ⟨rfl,.inl rfl⟩
 |emp s a cap=>exact .inl ⟨rfl,.inr ⟨a,cap,rfl⟩⟩
 |sl s rows b o cap cells hF hcap hmax hs hc h1 hr=>exact .inr ⟨b,o,cap,cells,rfl,hF,hcap,hmax,hs,hc,h1,hr⟩
inductive TK where
 |slice (e:TypeId)
 |struct (fs:List (Nat×TypeId))
 |array (n:Nat) (e:TypeId)
 |other
structure TI where
 size:Nat
 bytes:Nat
 agg:Bool
 zero:List Value
 kind:TK
def X0B:TypeDesc->TK
 | .slice e=>.slice e
 | .struct fs=>.struct (fs.toList.map fun f=>(f.offset,f.type))
 | .array n e=>.array n e
 |_=>.other
def X7l:TypeDesc->Bool
 | .struct _=>true
 | .array _ _=>true
 |_=>false
def Q8 (P:Program) (t:TypeId):Option TI:=
 match P.info? t,P.underlying t with
 | some i,some d=>match i.zero with
   |some z=>some {size:=i.size,bytes:=i.bytes,agg:=X7l d,zero:=z.cells.toList,kind:=X0B d}
   |none=>none
 |_,_=>none
def Z4 (P:Program) (t:TypeId):Option TypeId:=
 match Q8 P t with
 | some ti=>match ti.kind with
   | .slice e=>some e
   |_=>none
 |none=>none
def X2T (P:Program) (t:TypeId) (f:Nat):Option (Nat×TypeId):=
 match Q8 P t with
 | some ti=>match ti.kind with
   | .struct fs=>fs[f]?
   |_=>none
 |none=>none
def X86 (P:Program) (t:TypeId):Option (Nat×TypeId):=
 match Q8 P t with
 | some ti=>match ti.kind with
   | .array n e=>some (n,e)
   |_=>none
 |none=>none
def X6j (P:Program) (t:TypeId) (k:Nat) (x:RV):Option RV:=
 match X86 P t with
 | some (n,e)=>match Q8 P e with
   | some ti=>if k<n then match x with
     | .v (.one (.at_ m off))=>some (.v (.one (.at_ m (off+k*ti.size))))
     | .v (.one (.el m s i off))=>some (.v (.one (.el m s i (off+k*ti.size))))
     | .v (.one (.c (.ptr cs)))=>some (.v (.one (.c (.ptr (cs.drop (k*ti.size))))))
     |_=>none
     else none
   |none=>none
 |none=>none
def inR {T:Type} (l:List T) (i:Nat):Bool:=(l[i]?).isSome
theorem X33 {T:Type} {l:List T} {i:Nat} (h:inR l i=true):i<l.length:=by
 rcases Nat.lt_or_ge i l.length with h1|h1
 .exact h1
 simp[inR,NB h1]at h
def X2a:Value->RV
 | .agg cs=>.v (.agg (cs.toList.map fun v=>.c (.lit v)))
 |v=>.v (.one (.c (.lit v)))
def opd (regs:List (Nat×RV)):Operand->RV
 | .tmp t=>(lkp regs t).getD (.v (.one .any))
 | .const v=>X2a v
 | .func f=>.v (.one (.fn f []))
 | .global _=>.v (.one .any)
def CD.cell:CD->Bool
 | .lit v=>v.oneCell'
 | .ag _=>false
 |_=>true
def CD.ofMap:CD->Bool
 | .ag _=>true
 |d=>d.cell
def CV.cell:CV->Bool
 | .any=>false
 | .gd _ _=>false
 | .c d=>d.cell
 |_=>true
def cellsOf:RV->Option (List CV)
 | .v (.one x)=>if x.cell then some [x] else none
 | .v (.agg xs)=>some xs
 | .tup _=>none
def W9:RV->Option Value
 | .v (.one (.c (.lit v)))=>some v
 |_=>none
def lit (v:Value):RV:=.v (.one (.c (.lit v)))
def X0T (b b':Bool):Bool:= !b||b'
theorem Xav (b:Bool):X0T b b=true:=by cases b<;>rfl
theorem Xb4 (b:Bool):X0T b true=true:=by cases b<;>rfl
theorem X8z (b:Bool):X0T false b=true:=rfl
theorem impB_and (a b:Bool):X0T a (a&&b)=X0T a b:=by cases a<;>rfl
theorem Xb2 (a b c:Bool):X0T (a&&b) (a&&b&&c)=X0T (a&&b) c:=by cases a<;>cases b<;>rfl
theorem impB_imp (a b:Bool):X0T b (X0T a b)=true:=by cases a<;>cases b<;>rfl
theorem impB_one (b:Bool):X0T true b=b:=rfl
def X5z (t x y:Bool):Bool:=(t&&x)||(!t&&y)
theorem pickB_or (t y:Bool):X5z t true y=(t||y):=by cases t<;>cases y<;>rfl
theorem XaN (t x:Bool):X5z t x false=(t&&x):=by cases t<;>cases x<;>rfl
theorem X4s (x y:Bool):X5z true x y=x:=by cases x<;>cases y<;>rfl
theorem X3G (x y:Bool):X5z false x y=y:=by cases x<;>cases y<;>rfl
def X3m:RV->Option (Bool×Value)
 | .v (.one (.c (.lit v)))=>some (true,v)
 | .v (.one (.gd b (.c (.lit v))))=>some (b,v)
 |_=>none
def Ws (ti:TI) (cs:List CV) (off:Nat):Option RV:=
 if ti.agg then(if off+ti.size<=cs.length then some (.v (.agg ((cs.drop off).take ti.size)))else none)
 else match cs[off]? with
  |some x=>some (.v (.one x))
  |none=>none
def X4d (P:Program) (t:TypeId):Bool:=
 match P.underlying t with
 |some .bool=>true
 |_=>false
def X5V (bt:Bool) (op:BinOp):Value->Value->Option Value
 | .int k a,.int k' b=>
   if k=k' then match op with
    | .add=>some (.int k (k.wrap (a+b)))
    | .sub=>some (.int k (k.wrap (a - b)))
    | .mul=>some (.int k (k.wrap (a*b)))
    | .quo=>if b=0 then none else some (.int k (k.wrap (a.tdiv b)))
    | .rem=>if b=0 then none else some (.int k (a.tmod b))
    | .eql=>some (.bool (decide (a=b)))
    | .neq=>some (.bool (decide (a≠b)))
    | .lss=>some (.bool (decide (a<b)))
    | .leq=>some (.bool (decide (a<=b)))
    | .gtr=>some (.bool (decide (b<a)))
    | .geq=>some (.bool (decide (b<=a)))
    |_=>none
   else none
 | .bool a,.bool b=>if bt=true then match op with
   | .eql=>some (.bool (a==b))
   | .neq=>some (.bool (a !=b))
   |_=>none
   else none
 |_,_=>none
def strT (P:Program) (t:TypeId):Bool:=
 match P.underlying t with
 |some .string=>true
 |_=>false
def QD (P:Program) (t:TypeId):Bool:=
 match P.underlying t with
 |some (.pointer _)=>true
 |_=>false
def catB (a b:ByteArray):Bool:=decide (a.size+b.size<=9223372036854775807)
def X7T (op:BinOp) (a b:ByteArray):Option Value:=
 match op with
 | .add=>if catB a b=true then some (.string (a++b))else none
 | .eql=>some (.bool (decide (a=b)))
 | .neq=>some (.bool (decide (a≠b)))
 |_=>none
def X0U:RV->Bool
 | .v (.one (.at_ _ _))=>true
 | .v (.one (.el _ _ _ _))=>true
 | .v (.one (.el2 _ _ _ _ _))=>true
 | .v (.one (.c (.ptr _)))=>true
 |_=>false
def ZK:RV->Bool
 | .v (.one (.c (.lit (.pointer none))))=>true
 |_=>false
def evNil (op:BinOp) (x y:RV):Option Bool:=
 match op with
 | .eql=>if(ZK x&&ZK y)=true then some true else if((ZK x&&X0U y)||(X0U x&&ZK y))=true then some false else none
 | .neq=>if(ZK x&&ZK y)=true then some false else if((ZK x&&X0U y)||(X0U x&&ZK y))=true then some true else none
 |_=>none
def arrI (P:Program) (t:TypeId):Option (Nat×IntKind):=
 match P.underlying t with
 | some (.array n e)=>match P.underlying e,P.info? e with
   |some (.int k),some i=>if i.size=1/\P.eqGuardType P.depth t=false then some (n,k)else none
   |_,_=>none
 |_=>none
def X5L (k:IntKind):List CV->Option (List Int)
 |[]=>some []
 | .c (.lit (.int k' n))::l=>if k'=k then(X5L k l).map (n:: ·)else none
 |_::_=>none
def fkind (P:Program) (f:Field) (i:Nat):Option Bool:=
 if f.name≠ "_" ∧f.offset=i then(match P.underlying f.type with
  |some (.int _)=>some true
  |some .string=>some false
  |_=>none)else none
def WW (P:Program):List Field->Nat->Option (List Bool)
 |[],_=>some []
 | f::l,i=>match fkind P f i,WW P l (i+1)with
   |some a,some b=>some (a::b)
   |_,_=>none
def X6W (P:Program) (t:TypeId):Option (List Bool):=
 match P.underlying t with
 |some (.struct fs)=>if P.stoodInHeld t=false/\P.eqGuardType P.depth t=false then WW P fs.toList 0 else none
 |_=>none
def eqFs:List Bool->List CV->List CV->Option Bool
 |[],[],[]=>some true
 |true::ks,.c (.lit (.int k a))::l,.c (.lit (.int k' b))::m=>if k=k' then(eqFs ks l m).map fun q=>decide (a=b)&&q else none
 |false::ks,.c (.lit (.string a))::l,.c (.lit (.string b))::m=>(eqFs ks l m).map fun q=>decide (a=b)&&q
 |_,_,_=>none
def evAgg (P:Program) (op:BinOp) (t:TypeId) (x y:RV):Option Bool:=
 match x,y with
 | .v (.agg xs),.v (.agg ys)=>match arrI P t with
   | some (n,k)=>match X5L k xs,X5L k ys with
     | some as0,some bs=>if as0.length=n/\bs.length=n then match op with
       | .eql=>some (decide (as0=bs))
       | .neq=>some (decide (as0≠bs))
       |_=>none
       else none
     |_,_=>none
   | none=>match X6W P t with
     | some ks=>match eqFs ks xs ys with
       | some q=>match op with
         | .eql=>some q
         | .neq=>some (!q)
         |_=>none
       |none=>none
     |none=>none
 |_,_=>none
def ZW (g:Operand->RV):List Operand->Option (List (Nat×Nat))
 |[]=>some []
 | x::l=>match g x,ZW g l with
   | .v (.one (.at_ n off)),some r=>some ((n,off)::r)
   |_,_=>none
def ZR (g:Operand->RV):List Operand->Option (List CD)
 |[]=>some []
 | x::l=>match g x,ZR g l with
   | .v (.one (.c d)),some r=>some (d::r)
   |_,_=>none
def X43:TypeDesc->Bool
 | .int _=>true
 | .string=>true
 | .bool=>true
 |_=>false
def mapT (P:Program) (t:TypeId):Option (TypeDesc×Value):=
 match P.underlying t with
 | some (.map k e)=>match P.underlying k,(P.info? e).bind (·.zero)with
   |some kd,some z=>if X43 kd=true then some (kd,z)else none
   |_,_=>none
 |_=>none
def isMapT (P:Program) (t:TypeId):Bool:=match P.underlying t with
 |some (.map _ _)=>true
 |_=>false
def X0t (kd:TypeDesc) (kv:Value):List (Value×CD)->Option (Option CD)
 |[]=>some none
 | (k,d)::l=>match Instr.sameNow kd kv k with
   |some true=>some (some d)
   |some false=>X0t kd kv l
   |none=>none
def setM (kd:TypeDesc) (kv:Value) (d:CD):List (Value×CD)->Option (List (Value×CD))
 |[]=>none
 | (k,x)::l=>match Instr.sameNow kd kv k with
   |some true=>if Instr.sameBits 10000 k kv=true then some ((kv,d)::l)else none
   |some false=>(setM kd kv d l).map ((k,x):: ·)
   |none=>none
def X5y (objs:List (Nat×Ob)):RV->Option (List (Value×CD))
 | .v (.one (.c (.mp l)))=>some l
 | .v (.one (.c (.lit (.map none))))=>some []
 | .v (.one (.own n))=>match lkp objs n with
   |some (.mp l)=>some l
   |_=>none
 | .v (.one (.sub n i))=>match lkp objs n with
   | some (.mps _ ms)=>match ms[i]? with
     |some (some l)=>some l
     |_=>none
   |_=>none
 |_=>none
def X1E (ok:Bool) (d:CD) (b:Bool):RV:=if ok=true then .tup [.one (.c d),.one (.c (.lit (.bool b)))] else .v (.one (.c d))
def evUn:UnOp->Value->Option Value
 | .not,.bool b=>some (.bool (!b))
 | .neg,.int k n=>some (.int k (k.wrap (-n)))
 |_,_=>none
def WG:List CV->Option (List CD)
 |[]=>some []
 | .c d::l=>(WG l).map (d:: ·)
 |_::_=>none
def XW (P:Program) (ti:TI) (i:Nat):Option (Nat×Nat):=
 match ti.kind with
 | .struct fs=>match fs[i]? with
   | some (o,t)=>match Q8 P t with
     |some u=>some (o,u.size)
     |none=>none
   |none=>none
 | .array _ e=>match Q8 P e with
   |some u=>some (i*u.size,u.size)
   |none=>none
 |_=>none
def XG (P:Program) (ti:TI):Bool:=
 match ti.kind with
 | .struct fs=>fs.all fun f=>(Q8 P f.2).isSome
 | .array _ e=>(Q8 P e).isSome
 |_=>true
def Qp (P:Program) (ti:TI) (g:Operand->RV):List CV->List (Nat×Operand)->Option (List CV)
 |cs,[]=>some cs
 | cs,(i,x)::l=>match XW P ti i,cellsOf (g x)with
   |some (off,size),some ys=>if ys.length=size/\off+ys.length<=cs.length then Qp P ti g (cs.take off++ys++cs.drop (off+ys.length)) l else none
   |_,_=>none
def WE (size:Nat) (g:Operand->RV):Nat->List (Nat×Operand)->Option (List (List CD))
 |_,[]=>some []
 | k,(i,x)::l=>if i=k then
   match(cellsOf (g x)).bind WG,WE size g (k+1) l with
   |some r,some rs=>if r.length=size/\r.all CD.cell then some (r::rs)else none
   |_,_=>none
   else none
def X0C (g:Operand->RV) (dflt:Nat):Option Operand->Option Nat
 |none=>some dflt
 | some x=>match W9 (g x)with
   |some (.int .i64 n)=>if 0<=n then some n.toNat else none
   |_=>none
def XQ (P:Program) (t:TypeId):Bool:=
 match P.underlying t with
 |some (.slice _)=>true
 |_=>false
def nilSl:RV->Bool
 | .v (.one (.c (.lit (.slice none 0 0))))=>true
 |_=>false
def X4y:RV->Option Bool
 | .v (.one (.c (.lit (.slice none _ _))))=>some true
 | .v (.one (.c (.lit (.slice (some _) _ _))))=>some false
 | .v (.one (.c (.sl _ (_::_))))=>some false
 |_=>none
def X68 (op:BinOp) (x y:RV):Option Bool:=
 if nilSl y=true then match op with
  | .eql=>X4y x
  | .neq=>(X4y x).map (!·)
  |_=>none
 else none
def evN (P:Program) (g:Operand->RV):Op->Option (RV×Option Ob)
 | .move x=>some (g x,none)
 | .assign x=>some (g x,none)
 | .pick c a b=>match W9 (g c)with
   | some (.bool t)=>match X3m (g a),X3m (g b)with
     |some (fa,.bool x),some (fb,.bool y)=>if(X0T t fa&&X0T (!t) fb)=true then some (lit (.bool (X5z t x y)),none)else none
     |_,_=>some (if t=true then g a else g b,none)
   |_=>none
 | .fieldAddr s x f=>match X2T P s f with
   | some (o,t)=>match Q8 P t with
     | some ti=>if 0<ti.size then match g x with
       | .v (.one (.at_ n off))=>some (.v (.one (.at_ n (off+o))),none)
       | .v (.one (.el n s i off))=>some (.v (.one (.el n s i (off+o))),none)
       | .v (.one (.el2 n s i j off))=>some (.v (.one (.el2 n s i j (off+o))),none)
       | .v (.one (.c (.ptr cs)))=>some (.v (.one (.c (.ptr (cs.drop o)))),none)
       |_=>none
       else none
     |none=>none
   |none=>none
 | .nilCheck x=>if X0U (g x)=true then some (g x,none)else none
 | .makeFunc fn first caps=>match fn,first.toList with
   | .func f,[]=>match ZW g caps.toList with
     |some cs=>some (.v (.one (.fn f cs)),none)
     |none=>(ZR g caps.toList).map fun cs=>(.v (.one (.c (.fn f cs))),none)
   |_,_=>none
 | .index t x i=>match g x with
   | .v (.agg xs)=>match W9 (g i),X86 P t with
     | some (.int _ n),some (len,e)=>match Q8 P e with
       |some ti=>if 0<=n/\n<len then(Ws ti xs (n.toNat*ti.size)).map fun r=>(r,none)else none
       |none=>none
     |_,_=>none
   | _ =>match W9 (g x),W9 (g i)with
     | some (.string s),some (.int _ n)=>if strT P t=true/\0<=n then match s[n.toNat]? with
       |some b=>some (lit (.int .u8 b.toNat),none)
       |none=>none
       else none
     |_,_=>none
 | .slice t x low high none=>match g x with
   | .v (.one (.c (.sl s rows)))=>match Z4 P t with
     | some e=>match Q8 P e with
       | some ti=>if ti.size=s then match X0C g 0 low,X0C g rows.length high with
         |some l,some h=>if l<=h/\h<=rows.length then some (.v (.one (.c (.sl s ((rows.take h).drop l)))),none)else none
         |_,_=>none
         else none
       |none=>none
     |none=>none
   | .v (.one (.c (.lit (.string b))))=>if strT P t=true then match X0C g 0 low,X0C g b.size high with
     |some l,some h=>if l<=h/\h<=b.size then some (lit (.string (b.extract l h)),none)else none
     |_,_=>none
     else none
   |_=>none
 | .field t x f=>match X2T P t f with
   | some (o,t)=>match Q8 P t,g x with
     |some ti,.v (.agg xs)=>(Ws ti xs o).map fun r=>(r,none)
     |_,_=>none
   |none=>none
 | .extract x i=>match g x with
   | .tup ts=>(ts[i]?).map fun t=>(.v t,none)
   |_=>none
 | .binOp op t x y _=>match W9 (g x),W9 (g y)with
   |some (.string a),some (.string b)=>if strT P t=true then(X7T op a b).map fun v=>(lit v,none)else none
   |some (.int k a),some b=>(X5V (X4d P t) op (.int k a) b).map fun v=>(lit v,none)
   |some (.bool a),some b=>(X5V (X4d P t) op (.bool a) b).map fun v=>(lit v,none)
   |_,_=>if QD P t=true then(evNil op (g x) (g y)).map fun b=>(lit (.bool b),none)else if XQ P t=true then(X68 op (g x) (g y)).map fun b=>(lit (.bool b),none)else(evAgg P op t (g x) (g y)).map fun b=>(lit (.bool b),none)
 | .unOp op _ x=>match W9 (g x)with
   |some a=>(evUn op a).map fun v=>(lit v,none)
   |_=>none
 | .build t parts=>match Q8 P t with
   | some ti=>if ti.agg=true/\XG P ti=true then match Qp P ti g (ti.zero.map fun v=>.c (.lit v)) parts.toList with
     |some cs=>some (.v (.agg cs),none)
     |none=>none
     else none
   |none=>none
 | .call {callee:=.builtin .min,args:=args, .. }=>match args.toList with
   | [x,y]=>match W9 (g x),W9 (g y)with
     |some (.int k a),some (.int k' b)=>if k=k' then some (lit (.int k (if b<a then b else a)),none)else none
     |_,_=>none
   |_=>none
 | .call {callee:=.builtin .max,args:=args, .. }=>match args.toList with
   | [x,y]=>match W9 (g x),W9 (g y)with
     |some (.int k a),some (.int k' b)=>if k=k' then some (lit (.int k (if a<b then b else a)),none)else none
     |_,_=>none
   |_=>none
 |_=>none
def X0O (g:Operand->RV):List (Nat×Operand)->Option Nat
 | [(0,x)]=>match g x with
   | .v (.one (.own n))=>some n
   |_=>none
 |_=>none
def evA (P:Program) (g:Operand->RV) (d:Nat):Op->Option (RV×Option Ob)
 | .alloc e=>match Q8 P e with
   |some ti=>some (.v (.one (.at_ d 0)),some (.box (ti.zero.map fun v=>.c (.lit v))))
   |none=>none
 | .box _ x=>match cellsOf (g x)with
   |some cs=>some (.v (.one (.at_ d 0)),some (.box cs))
   |none=>none
 | .buildSlice t len parts=>match Z4 P t with
   | some e=>match Q8 P e with
     | some ti=>if 0<ti.size/\len=parts.size/\len*ti.size<=16777216/\ti.zero.length=ti.size then
       match WE ti.size g 0 parts.toList with
       |some rows=>some (.v (.one (.own d)),some (.row e ti.size rows))
       | none=>match len,ti.size,X0O g parts.toList with
         |1,1,some n=>some (.v (.one (.own d)),some (.refs e [n]))
         |_,_,_=>none
       else none
     |none=>none
   |none=>none
 | .makeSlice t l c=>match Z4 P t,W9 (g l),W9 (g c)with
   | some e,some (.int .i64 n),some (.int .i64 m)=>match Q8 P e with
     | some ti=>if 0<ti.size/\0<=n/\n=m/\n<=maxLen/\ti.bytes*n<=281474976710656/\ti.zero.length=ti.size/\ti.zero.all Value.oneCell' then
       some (.v (.one (.own d)),some (.row e ti.size (List.replicate n.toNat (ti.zero.map .lit))))
       else none
     |none=>none
   |_,_,_=>none
 | .makeMap _ none=>some (.v (.one (.own d)),some (.mp []))
 | .range t x=>if isMapT P t=true then(match g x with
   | .v (.one (.c (.mp l)))=>some (.v (.one (.at_ d 0)),some (.it l []))
   | .v (.one (.c (.lit (.map none))))=>some (.v (.one (.at_ d 0)),some (.it [] []))
   |_=>none)else none
 |_=>none
def isAlloc:Op->Bool
 | .alloc _| .box _ _| .buildSlice _ _ _| .makeSlice _ _ _| .makeMap _ _| .range _ _=>true
 | .call {callee:=.builtin .append, .. }=>true
 |_=>false
def X28 (objs:List (Nat×Ob)):RV->Option RV
 | .v (.one (.at_ n 0))=>match lkp objs n with
   | some (.it l seen)=>match seen.getLast? with
     | some j=>match l[j]? with
       |some (k,d)=>some (.tup [.one (.c (.lit k)),.one (.c d)])
       |none=>none
     |none=>none
   |_=>none
 |_=>none
def evR (P :Program) (objs:List (Nat×Ob)) (g:Operand->RV):Op->Option RV
 | .load t x=>match Q8 P t,g x with
   | some ti,.v (.one (.at_ n off))=>match lkp objs n with
     |some (.box cs)=>Ws ti cs off
     |_=>none
   | some ti,.v (.one (.el n s i off))=>match lkp objs n with
     | some (.row _ s' rows)=>if s=s' then match rows[i]? with
       |some r=>Ws ti (r.map .c) off
       |none=>none
       else none
     | some (.mat _ _ _ rows)=>if s=1/\off=0/\ti.agg=false then match rows[i]? with
       |some (some _)=>some (.v (.one (.sub n i)))
       |some none=>some (lit XR)
       |none=>none
       else none
     | some (.mps _ ms)=>if s=1/\off=0/\ti.agg=false then match ms[i]? with
       |some (some _)=>some (.v (.one (.sub n i)))
       |some none=>some (lit (.map none))
       |none=>none
       else none
     |_=>none
   | some ti,.v (.one (.el2 n s i j off))=>match lkp objs n with
     | some (.mat _ _ s' rows)=>if s=s' then match rows[i]? with
       | some (some rs)=>match rs[j]? with
         |some r=>Ws ti (r.map .c) off
         |none=>none
       |_=>none
       else none
     |_=>none
   |some ti,.v (.one (.c (.ptr cs)))=>Ws ti (cs.map .c) 0
   |_,_=>none
 | .indexAddr t x i=>match W9 (g i)with
   | some (.int .i64 k)=>if 0<=k then match Z4 P t with
     | some e=>match Q8 P e,g x with
       | some ti,.v (.one (.c (.sl s rows)))=>if s=ti.size then match rows[k.toNat]? with
         |some r=>some (.v (.one (.c (.ptr r))))
         |none=>none
         else none
       | some ti,.v (.one (.own n))=>match lkp objs n with
         |some (.row _ s rows)=>if s=ti.size/\inR rows k.toNat=true then some (.v (.one (.el n s k.toNat 0)))else none
         |some (.mat _ _ _ rows)=>if ti.size=1/\inR rows k.toNat=true then some (.v (.one (.el n 1 k.toNat 0)))else none
         |some (.mps _ ms)=>if ti.size=1/\inR ms k.toNat=true then some (.v (.one (.el n 1 k.toNat 0)))else none
         |_=>none
       | some ti,.v (.one (.sub n i))=>match lkp objs n with
         | some (.mat _ _ s rows)=>match rows[i]? with
           |some (some rs)=>if s=ti.size/\inR rs k.toNat=true then some (.v (.one (.el2 n s i k.toNat 0)))else none
           |_=>none
         |_=>none
       |_,_=>none
     |none=>X6j P t k.toNat (g x)
     else none
   |_=>none
 | .call {callee:=.builtin .len,args:=args,argTypes:=ts}=>match ts[0]?,args[0]? with
   | some t,some x=>match Z4 P t,g x with
     |some _,.v (.one (.c (.sl _ rows)))=>some (lit (.int .i64 rows.length))
     |some _,.v (.one (.c (.lit (.slice _ n _))))=>some (lit (.int .i64 n))
     | some _,.v (.one (.own n))=>match lkp objs n with
       |some (.row _ _ rows)=>some (lit (.int .i64 rows.length))
       |some (.mat _ _ _ rows)=>some (lit (.int .i64 rows.length))
       |some (.mps _ ms)=>some (lit (.int .i64 ms.length))
       |_=>none
     | some _,.v (.one (.sub n i))=>match lkp objs n with
       | some (.mat _ _ _ rows)=>match rows[i]? with
         |some (some rs)=>some (lit (.int .i64 rs.length))
         |_=>none
       |_=>none
     |none,.v (.one (.c (.lit (.string s))))=>if strT P t=true then some (lit (.int .i64 s.size))else none
     |_,_=>none
   |_,_=>none
 | .lookup t x i ok=>match mapT P t,W9 (g i),X5y objs (g x)with
   | some (kd,z),some kv,some l=>match X0t kd kv l with
     |some (some d)=>some (X1E ok d true)
     |some none=>some (X1E ok (.lit z) false)
     |none=>none
   |_,_,_=>none
 | .entry x=>X28 objs (g x)
 |_=>none
def setRow (rows:List (List CD)) (i off:Nat) (ds:List CD):List (List CD):=
 match rows[i]? with
 |some r=>rows.set i (r.take off++ds++r.drop (off+ds.length))
 |none=>rows
def WT (objs:List (Nat×Ob)) (e:TypeId) (size:Nat):RV->Option (Option Nat×List (List CD))
 | .v (.one (.c (.lit (.slice none 0 0))))=>some (none,[])
 | .v (.one (.own n))=>match lkp objs n with
   |some (.row e' s rows)=>if e'=e/\s=size then some (some n,rows)else none
   |_=>none
 |_=>none
def Zm (objs:List (Nat×Ob)) (size:Nat):RV->Option (List (List CD))
 | .v (.one (.c (.sl s rows)))=>if s=size then some rows else none
 | .v (.one (.own m))=>match lkp objs m with
   |some (.row _ s rows)=>if s=size then some rows else none
   |_=>none
 |_=>none
def QF (n bytes:Nat):Prop:=n<=maxLen/\n*bytes<=140737488355328
instance (n bytes:Nat):Decidable (QF n bytes):=by unfold QF;exact inferInstance
theorem XO {n bytes:Nat} (h:n<=2097152) (hb:bytes<=1048576):QF n bytes:=
 ⟨by unfold maxLen;omega,Dj (Nat.mul_le_mul h hb) (by omega)⟩
def X6A {T:Type} (rows:List (Option T)) (i:Nat):Bool:=
 match rows[i]? with
 |some none=>true
 |_=>false
def Wt (objs:List (Nat×Ob)) (e:TypeId) (ti:TI) (d:Nat) (x y:RV):Option (List (Nat×Ob)):=
 match x with
 | .v (.one (.own n))=>match lkp objs n with
   | some (.mat e1 e' s rows)=>match y with
     | .v (.one (.own m))=>match lkp objs m with
       | some (.refs _ [r])=>match lkp objs r with
         | some (.row e2 s2 rs)=>if e1=e/\e2=e'/\s2=s/\ti.size=1/\ti.zero.length=1/\QF (rows.length+1) ti.bytes/\n≠r/\n≠m/\r≠m then
           some (ins d (.mat e e' s (rows++[some rs])) (del r (del n objs)))
           else none
         |_=>none
       |_=>none
     |_=>none
   |_=>none
 |_=>none
def evW (P :Program) (objs:List (Nat×Ob)) (g:Operand->RV) (d:Option Nat):Op->Option (RV×List (Nat×Ob))
 | .store t x y=>match Q8 P t,cellsOf (g y),g x with
   | some ti,some cs,.v (.one (.at_ n off))=>if cs.length=ti.size/\cs.all CV.cell then match lkp objs n with
     |some (.box xs)=>if off+cs.length<=xs.length then some (.v (.one .any),ins n (.box (xs.take off++cs++xs.drop (off+cs.length))) objs)else none
     |_=>none
     else none
   | some ti,some cs,.v (.one (.el n s i off))=>if cs.length=ti.size/\cs.all CV.cell then match lkp objs n,WG cs with
     |some (.row e s' rows),some ds=>if s=s'/\inR rows i=true/\off+ds.length<=s then some (.v (.one .any),ins n (.row e s (setRow rows i off ds)) objs)else none
     | some (.mat e e' s2 rows),none=>match g y with
       | .v (.one (.own m))=>match lkp objs m with
         | some (.row e2 s3 rs)=>if e2=e'/\s3=s2/\s=1/\off=0/\ti.size=1/\X6A rows i=true/\n≠m/\n<1000000 then
           some (.v (.one .any),ins n (.mat e e' s2 (rows.set i (some rs))) (del m objs))
           else none
         |_=>none
       |_=>none
     | some (.mps e ms),none=>match g y with
       | .v (.one (.own m))=>match lkp objs m with
         | some (.mp l)=>if s=1/\off=0/\ti.size=1/\X6A ms i=true/\n≠m/\n<1000000 then
           some (.v (.one .any),ins n (.mps e (ms.set i (some l))) (del m objs))
           else none
         |_=>none
       |_=>none
     |_,_=>none
     else none
   | some ti,some cs,.v (.one (.el2 n s i j off))=>if cs.length=ti.size/\cs.all CV.cell then match lkp objs n,WG cs with
     | some (.mat e e' s' rows),some ds=>match rows[i]? with
       |some (some rs)=>if s=s'/\inR rs j=true/\off+ds.length<=s then some (.v (.one .any),ins n (.mat e e' s (rows.set i (some (setRow rs j off ds)))) objs)else none
       |_=>none
     |_,_=>none
     else none
   |_,_,_=>none
 | .mapUpdate t m k v=>match mapT P t,W9 (g k),g v,g m with
   | some (kd,_),some kv,.v (.one (.c d)),.v (.one (.own n))=>match lkp objs n with
     | some (.mp l)=>if d.ofMap=true then match X0t kd kv l with
       |some none=>some (.v (.one .any),ins n (.mp (l++[(kv,d)])) objs)
       | some (some _)=>match setM kd kv d l with
         |some l'=>some (.v (.one .any),ins n (.mp l') objs)
         |none=>none
       |none=>none
       else none
     |_=>none
   | some (kd,_),some kv,.v (.one (.c d)),.v (.one (.sub n i))=>match lkp objs n with
     | some (.mps e ms)=>match ms[i]? with
       | some (some l)=>if d.ofMap=true then match X0t kd kv l with
         |some none=>some (.v (.one .any),ins n (.mps e (ms.set i (some (l++[(kv,d)])))) objs)
         |_=>none
         else none
       |_=>none
     |_=>none
   |_,_,_,_=>none
 | .call { callee:=.builtin .append,args:=args,argTypes:=ts}=>match d,ts[0]?,ts[1]?,args[0]?,args[1]? with
   | some d,some t,some t',some x,some y=>if t=t' then match Z4 P t with
     | some e=>match Q8 P e with
       | some ti=>match Wt objs e ti d (g x) (g y)with
         |some objs'=>some (.v (.one (.own d)),objs')
         |none=>match WT objs e ti.size (g x),Zm objs ti.size (g y)with
         | some (n,rows),some more=>
           if 0<ti.size/\ti.zero.length=ti.size/\QF (rows.length+more.length) ti.bytes then
            some (.v (.one (.own d)),ins d (.row e ti.size (rows++more)) (match n with|some n=>del n objs|none=>objs))
           else none
         |_,_=>none
       |none=>none
     |none=>none
     else none
   |_,_,_,_,_=>none
 |_=>none
section
variable {P:Program} {F:Nat->Prop} {T:Nat->Value} {w:World}
theorem XD {t:TypeId} {ti:TI} (h:Q8 P t=some ti):∃i d z,P.info? t=some i/\P.underlying t=some d/\i.zero=some z/\
  i.size=ti.size/\i.bytes=ti.bytes/\ti.agg=X7l d/\ti.zero=z.cells.toList/\ti.kind=X0B d:=by
 unfold Q8 at h;split at h
 .split at h
  .rename_i i d hi hd _ z hz;cases h;exact⟨i,d,z,hi,hd,hz,rfl,rfl,rfl,rfl,rfl⟩
  cases h
 cases h
theorem Qq {t e:TypeId} (h:Z4 P t=some e):P.underlying t=some (.slice e):=by
 unfold Z4 at h;split at h
 .rename_i ti hti;obtain⟨i,d,z,hi,hd,hz,h1,h2,h3,h4,h5⟩:=XD hti;rw[h5]at h;cases d<;>simp[X0B]at h
  subst h;exact hd
 cases h
theorem X4h {t e:TypeId} {n:Nat} (h:X86 P t=some (n,e)):P.underlying t=some (.array n e):=by
 unfold X86 at h;split at h
 .rename_i ti hti;obtain⟨i,d,z,hi,hd,hz,h1,h2,h3,h4,h5⟩:=XD hti;rw[h5]at h;cases d<;>simp[X0B]at h
  obtain⟨rfl,rfl⟩:=h;exact hd
 cases h
theorem X24 {t:TypeId} {f o:Nat} {u:TypeId} (h:X2T P t f=some (o,u)):
  ∃fs x,P.underlying t=some (.struct fs)/\fs[f]? =some x/\x.offset=o/\x.type=u:=by
 unfold X2T at h;split at h
 .rename_i ti hti;obtain⟨i,d,z,hi,hd,hz,h1,h2,h3,h4,h5⟩:=XD hti;rw[h5]at h;cases d<;>simp[X0B]at h
  rename_i fs;obtain⟨x,hx,rfl,rfl⟩:=h;exact⟨fs,x,hd,by simpa using hx,rfl,rfl⟩
 cases h
theorem Wi {t:TypeId} {d:TypeDesc} (h:P.underlying t=some d) (w:World):(isAgg t).run P w=.ok (X7l d) w:=by
 unfold isAgg;cases d<;>simp[run_underlying h,X7l]
theorem XC {t:TypeId} {i:TypeInfo} (h:P.info? t=some i) (w:World):(sizeOf t).run P w=.ok i.size w:=by
 simp[sizeOf,typeInfo,h]
theorem Xi.part {xs:List CV} {vs:Array Value} (h:Xi F T w xs vs) (off n:Nat):
  Xi F T w ((xs.drop off).take n) (vs.extract off (off+n)):=by
 obtain⟨hs,hc⟩:=h;refine⟨by simp only[Array.size_extract,Ns,D2,hs];omega,fun j x u hx hu=>?_⟩;rw[Nv]at hx;split at hx
 .rw[No]at hx;rw[Array.getElem?_extract]at hu;split at hu
  .exact hc _ x u hx hu
  cases hu
 cases hx
theorem X2o {t:TypeId} {ti:TI} (hti:Q8 P t=some ti) {xs:List CV} {vs:Array Value} (h:Xi F T w xs vs) {off:Nat} {r:RV}
  (hr:Ws ti xs off=some r):∃v,(part t vs off).run P w=.ok v w/\X9 F T w r v:=by
 obtain⟨i,d,z,hi,hd,hz,h1,h2,h3,h4,h5⟩:=XD hti;unfold Ws at hr;unfold part;by_cases ha:ti.agg=true
 .rw[N9 ha]at hr;by_cases hle:off+ti.size<=xs.length
  .rw[N9 hle]at hr;cases hr;refine⟨.agg (vs.extract off (off+ti.size)),?_,⟨_,rfl,h.part off ti.size⟩⟩;simp[Wi hd,<-h3,ha,XC hi,h1]
  rw[N6 hle]at hr;cases hr
 rw[N6 ha]at hr;cases hx:xs[off]? with
 |none=>simp[hx]at hr
 | some x=>
   simp only[hx]at hr;cases hr
   have hlt:off<vs.size:=by
    rw[h.1];exact(N5.1 hx).1
   refine⟨vs[off],?_,h.2 off x _ hx (by simp[hlt])⟩;simp[Wi hd,<-h3,ha,hlt]
theorem X9c {r:RV} {v:Value} (h:W9 r=some v):r=.v (.one (.c (.lit v))):=by
 unfold W9 at h;split at h<;>simp_all
theorem X9.lit_eq {r:RV} {v u:Value} (h:W9 r=some v) (hr:X9 F T w r u):u=v:=by
 rw[X9c h]at hr;cases hr;rfl
theorem X9.litG_eq {r:RV} {b:Bool} {v u:Value} (h:X3m r=some (b,v)) (hb:b=true) (hr:X9 F T w r u):u=v:=by
 unfold X3m at h;split at h
 .cases h;cases hr;rfl
 .cases h;have h2:CRel F w (.lit v) u:=hr.1 hb;cases h2;rfl
 cases h
theorem X9.mkLit (v:Value):X9 F T w (lit v) v:=CRel.lit v
theorem X99 {t:TypeId} (h:X4d P t=true):P.underlying t=some .bool:=by
 unfold X4d at h;split at h
 .assumption
 cases h
theorem X8v {t:TypeId} {a b:Bool} (hu:P.underlying t=some .bool):(Op.equal t (.bool a) (.bool b)).run P w=.ok (a==b) w:=by
 show(Op.equalIn (9999+1) t (.bool a) (.bool b)).run P w=_;generalize 9999=n;unfold Op.equalIn;simp[run_underlying hu]
theorem X7W {op:BinOp} {a b v:Value} (t:TypeId) (h:X5V (X4d P t) op a b=some v) (x y:Operand):
  (do eqGuard op t x y a b;binOp op t a b:Sem Value).run P w=.ok v w:=by
 unfold X5V at h;split at h
 .rename_i k a k' b;split at h
  .rename_i hk;subst hk
   cases op<;>simp at h<;>
    first
     | (obtain⟨h0,rfl⟩:=h
        simp[eqGuard,binOp,Op.intDiv,h0])
     | (subst h
        simp[eqGuard,binOp,Op.intArith,Op.intCmp]
        try(first|rfl|(by_cases hab:a=b<;>simp[hab])))
  cases h
 .rename_i a b;split at h
  .rename_i hb;have hu:=X99 hb;cases op<;>simp at h<;>subst h<;>cases a<;>cases b<;>simp[eqGuard,binOp,X8v hu]
  cases h
 cases h
end
theorem X7S {T:Type} {s:Nat}:∀(L:List (List T)),(∀r∈L,r.length=s)->∀i j,j<s->L.flatten[i*s+j]? =XV L i j
 |[],_,i,j,_=>by simp[XV]
 | r::L,h,0,j,hj=>by
   have hr:r.length=s:=h r (by simp);simp[XV,Nm (show j<r.length by omega)]
 | r::L,h,i+1,j,hj=>by
   have hr:r.length=s:=h r (by simp);have ih:=X7S L (fun r hr=>h r (by simp[hr])) i j hj;rw[List.flatten_cons,Nl (by rw[hr,NJ];omega),hr];rw[show(i+1)*s+j - s=i*s+j by rw[NJ];omega,ih];simp[XV]
theorem X3H {T:Type} {s:Nat}:∀(L:List (List T)),(∀r∈L,r.length=s)->L.flatten.length=L.length*s
 |[],_=>by simp
 | r::L,h=>by
   rw[List.flatten_cons,Nt,X3H L (fun r hr=>h r (by simp[hr])),h r (by simp),List.length_cons,NJ];omega
theorem Wq {T:Type} {s:Nat} {L:List (List T)} (h:∀r∈L,r.length=s) {i j:Nat} {d:T} (hd:XV L i j=some d):i<L.length/\j<s:=by
 unfold XV at hd;cases hr:L[i]? with
 |none=>simp[hr]at hd
 | some r=>
   simp only[hr,Option.bind_some]at hd;have h1:=(N5.1 hr).1;have h2:=(N5.1 hd).1;rw[h r (N3 hr)]at h2;exact⟨h1,h2⟩
theorem X6k {T:Type} (off:Nat):∀(l:List T) (k:Nat) (cells:Array T),off+k+l.length<=cells.size->
  ((l.zipIdx k).foldl (fun cs (x:T×Nat)=>cs.setIfInBounds (off+x.2) x.1) cells).toList=cells.toList.take (off+k)++l++cells.toList.drop (off+k+l.length)
 |[],k,cells,h=>by simp
 | x::l,k,cells,h=>by
   simp only[List.length_cons]at h;rw[List.zipIdx_cons,List.foldl_cons,X6k off l (k+1) _ (by simp;omega)];simp only[Array.toList_setIfInBounds,List.length_cons];rw[List.take_set,List.drop_set_of_lt (by omega)]
   have h1:(cells.toList.take (off+(k+1))).set (off+k) x=cells.toList.take (off+k)++[x]:=by
    rw[show off+(k+1)=off+k+1 by omega,List.take_add_one];have hlt:off+k<cells.toList.length:=by simp;omega
    rw[Nr hlt];simp only[Option.toList_some];rw[List.set_append_right _ _ (by simp;omega)];have:off+k - (List.take (off+k) cells.toList).length=0:=by simp;omega
    rw[this];simp
   rw[h1,show off+(k+1)+l.length=off+k+(l.length+1) by omega];simp
theorem X8h (size:Nat):∀(l:List Value) (k:Nat) (cells:Array Value),(∀v∈l,v.cells.size=size)->(k+l.length)*size<=cells.size->
  ∃out,Instr.fill (fun i=>some (i*size,size)) cells ((l.zipIdx k).map fun x=>(x.2,x.1))=some out/\
   out.toList=cells.toList.take (k*size)++(l.map fun v=>v.cells.toList).flatten++cells.toList.drop ((k+l.length)*size)
 |[],k,cells,_,h=>⟨cells,by simp[Instr.fill],by simp⟩
 | v::l,k,cells,hs,h=>by
   have hv:v.cells.size=size:=hs v (by simp)
   have hk:(k+1)*size+l.length*size<=cells.size:=by
    rw[<-Nat.add_mul];simp only[List.length_cons]at h;rw[show k+1+l.length=k+(l.length+1) by omega];exact h
   have hk':k*size+size<=cells.size:=by rw[NJ]at hk;omega
   obtain⟨out,ho,hl⟩:=X8h size l (k+1) (v.cells.zipIdx.foldl (fun cs (x:Value×Nat)=>cs.setIfInBounds (k*size+x.2) x.1) cells) (fun u hu=>hs u (by simp[hu])) (by
    have e:=congrArg List.length (X6k (k*size) v.cells.toList 0 cells (by simp only[Array.length_toList];omega));rw[<-Array.foldl_toList,Array.toList_zipIdx];rw[<-Array.length_toList,e];simp only[Nt,Ns,D2,Array.length_toList]
    rw[NJ (k+1)];omega)
   refine⟨out,?_,?_⟩
   .simp only[List.zipIdx_cons,Na,Instr.fill];rw[N6 (by simp only[hv];simp;omega)];exact ho
   rw[hl,<-Array.foldl_toList,Array.toList_zipIdx,X6k (k*size) v.cells.toList 0 cells (by simp only[Array.length_toList];omega)];have e1:(cells.toList.take (k*size+0)).length=k*size:=by simp;omega
   have e2:(cells.toList.take (k*size+0)++v.cells.toList).length=(k+1)*size:=by
    rw[Nt,e1,Array.length_toList,hv,NJ];omega
   rw[List.take_append_of_le_length (by rw[e2];exact ND _),List.take_of_length_le (by rw[e2];exact ND _)];rw[List.drop_append,e2,List.drop_of_length_le (by rw[e2,NJ (k+1)];omega),List.nil_append];rw[List.drop_drop];simp only[Na,List.flatten_cons,List.length_cons,Nat.add_zero,Array.length_toList,hv,D7];congr 4;rw[NJ (k+1),NJ k 1,NJ k (l.length+1),NJ l.length 1];omega
section
variable {P:Program} {F:Nat->Prop} {T:Nat->Value} {w w' w0:World} {B:Nat->Prop}
theorem Xi.ofLits (vs:Array Value):Xi F T w (vs.toList.map fun v=>.c (.lit v)) vs:=
 ⟨by simp,fun j x u hx hu=>by
  rw[Nf]at hx;have:vs.toList[j]? =some u:=by simpa using hu
  rw[this]at hx;cases hx
  exact CRel.lit u⟩
theorem X0b {v:Value} (h:v.oneCell'=true):v.cells= #[v]:=by
 cases v<;>first|rfl|(simp[Value.oneCell']at h)
theorem Xo.one {x:CV} {v:Value} (hx:x.cell=true) (h:Xo F T w x v):v.oneCell'=true:=by
 cases x with
 |any=>cases hx
 |gd b x=>cases hx
 | c d=>
   cases d with
   |lit u=>cases h;exact hx
   |sl s rows=>rcases CRel.sl_inv h with⟨_,rfl|⟨a,c,rfl⟩⟩|⟨b,o,cap,cells,rfl,_⟩<;>rfl
   |ptr cs=>obtain⟨b,o,cells,rfl,_⟩:=CRel.ptr_inv h;rfl
   |mp l=>cases h<;>rfl
   |fn f caps=>cases h;rfl
   |ag cs=>cases hx
 |own n=>exact h.2
 |at_ n off=>obtain⟨b,_,rfl⟩:=h;rfl
 |el n s i off=>obtain⟨b,_,_,_,_,rfl⟩:=h;rfl
 |sub n i=>exact h.choose_spec.2.2.1
 |el2 n s i j off=>obtain⟨_,b,_,_,_,_,_,rfl⟩:=h;rfl
 |fn f caps=>obtain⟨vs,rfl,_⟩:=h;rfl
theorem X9.cells {r:RV} {cs:List CV} {v:Value} (hr:cellsOf r=some cs) (h:X9 F T w r v):Xi F T w cs v.cells:=by
 unfold cellsOf at hr;split at hr
 .rename_i x;split at hr
  .rename_i hx;cases hr;rw[X0b (Xo.one hx h)];refine⟨rfl,fun j y u hy hu=>?_⟩;cases j with
   |zero=>simp at hy hu;subst hy;subst hu;exact h
   |succ j=>simp at hy
  cases hr
 .rename_i xs;cases hr;obtain⟨vs,rfl,hc⟩:=h;exact hc
 cases hr
theorem Xi.splice {xs cs:List CV} {vs us:Array Value} (hx:Xi F T w xs vs) (hc:Xi F T w cs us) {off:Nat} (hle:off+cs.length<=xs.length):
  Xi F T w (xs.take off++cs++xs.drop (off+cs.length)) (vs.toList.take off++us.toList++vs.toList.drop (off+us.toList.length)).toArray:=by
 have hul:us.toList.length=cs.length:=by rw[Array.length_toList,hc.1]
 have hvl:vs.toList.length=xs.length:=by rw[Array.length_toList,hx.1]
 have e1:(List.take off xs).length=off:=by rw[Ns];omega
 have e2:(List.take off vs.toList).length=off:=by rw[Ns,hvl];omega
 refine⟨?_,fun j x u hxj hu=>?_⟩
 .rw[List.size_toArray,Nt,Nt,Nt,Nt,e1,e2,D2,D2,hul,hvl]
 simp only[List.getElem?_toArray]at hu;rw[hul]at hu;rw[D7]at hxj hu;by_cases h1:j<off
 .rw[Nm (by rw[e1];exact h1),Nv,N9 h1]at hxj;rw[Nm (by rw[e2];exact h1),Nv,N9 h1]at hu;exact hx.2 j x u hxj (by simpa using hu)
 rw[Nl (by rw[e1];omega)]at hxj;rw[Nl (by rw[e2];omega)]at hu;rw[e1]at hxj;rw[e2]at hu;by_cases h2:j - off<cs.length
 .rw[Nm h2]at hxj;rw[Nm (by rw[hul];exact h2)]at hu;exact hc.2 _ x u hxj (by simpa using hu)
 rw[Nl (D4 h2),No]at hxj;rw[Nl (by rw[hul];exact D4 h2),No,hul]at hu;exact hx.2 _ x u hxj (by simpa using hu)
theorem X1A {ti:TI} {i off size:Nat} {d:TypeDesc} (hk:ti.kind=X0B d) (h:XW P ti i=some (off,size)):
  (∃fs,d=.struct fs/\∃f,fs[i]? =some f/\f.offset=off/\(P.info? f.type).map (·.size)=some size)\/(∃n e,d=.array n e/\(P.info? e).map (·.size)=some size/\off=i*size):=by
 unfold XW at h;rw[hk]at h;cases d<;>simp only[X0B]at h<;>try cases h
 .rename_i n e;split at h
  .rename_i u hu;cases h;obtain⟨i',d',z,hi,hd',hz,h1,h2,h3,h4,h5⟩:=XD hu;exact .inr ⟨n,e,rfl,by simp[hi,h1],rfl⟩
  cases h
 rename_i fs;split at h
 .rename_i o t' hf;split at h
  .rename_i u hu;cases h;obtain⟨i',d',z,hi,hd',hz,h1,h2,h3,h4,h5⟩:=XD hu;rw[Nf]at hf;simp only[N8]at hf;obtain⟨f,hf,he⟩:=hf;cases he;exact .inl ⟨fs,rfl,f,by simpa using hf,rfl,by simp[hi,h1]⟩
  cases h
 cases h
theorem X11 {ti:TI} {g:Operand->RV} {Y:Operand->Value} (hg:∀x,X9 F T w (g x) (Y x)) {place:Nat->Option (Nat×Nat)} (hp:∀i p,XW P ti i=some p->place i=some p):
  ∀(l:List (Nat×Operand)) (cs cs':List CV) (vs:Array Value),Xi F T w cs vs->Qp P ti g cs l=some cs'->
   ∃vs',Instr.fill place vs (l.map fun x=>(x.1,Y x.2))=some vs'/\Xi F T w cs' vs'
 |[],cs,cs',vs,hc,h=>by cases h;exact⟨vs,rfl,hc⟩
 | (i, x)::l,cs,cs',vs,hc,h=>by
   simp only[Qp]at h;split at h
   .rename_i off size ys hpl hys;split at h
    .rename_i hcond;obtain⟨hsz,hle⟩:=hcond;have hy:=(hg x).cells hys;have hys':(Y x).cells.size=size:=by rw[hy.1,hsz]
     have hsp:=hc.splice hy hle
     have hfold:((Y x).cells.zipIdx.foldl (fun cs (x:Value×Nat)=>cs.setIfInBounds (off+x.2) x.1) vs)=(vs.toList.take off++(Y x).cells.toList++vs.toList.drop (off+(Y x).cells.toList.length)).toArray:=by
      apply Array.ext';rw[<-Array.foldl_toList,Array.toList_zipIdx,X6k off (Y x).cells.toList 0 vs (by rw[Array.length_toList,hys',hc.1];omega)];simp
     obtain⟨vs',h1,h2⟩:=X11 hg hp l _ cs' _ hsp h;refine⟨vs',?_,h2⟩;simp only[Na,Instr.fill,hp i _ hpl];rw[N6 (by simp only[hys',hc.1];simp;omega)];exact(congrArg (fun z=>Instr.fill place z (l.map fun x=>(x.1,Y x.2))) hfold).trans h1
    cases h
   cases h
theorem X4l (w:World):∀(fs:List Field),(∀f∈fs,∃i,P.info? f.type=some i)->
  (fs.mapM (fun f=>do pure (f.offset,<-sizeOf f.type)):Sem (List (Nat×Nat))).run P w=.ok (fs.map fun f=>(f.offset,((P.info? f.type).map (·.size)).getD 0)) w
 |[],_=>rfl
 | f::fs,h=>by
   obtain⟨i,hi⟩:=h f (by simp);have ih:=X4l w fs fun g hg=>h g (by simp[hg])
   have h1:(do pure (f.offset,<-sizeOf f.type):Sem (Nat×Nat)).run P w=.ok (f.offset,i.size) w:=by
    rw[Sem.run_bind,XC hi];rfl
   rw[List.mapM_cons,Sem.run_bind,h1,Result.andThen_ok,Sem.run_bind,ih,Result.andThen_ok];simp[hi]
theorem X7g {t:TypeId} {ti:TI} {g:Operand->RV} {Y:Operand->Value} {parts:Array (Nat×Operand)} {cs:List CV} (hti:Q8 P t=some ti) (hg:∀x,X9 F T w (g x) (Y x)) (ha:ti.agg=true) (hall:XG P ti=true)
  (hf:Qp P ti g (ti.zero.map fun v=>.c (.lit v)) parts.toList=some cs):
  ∃v,(Instr.build t (parts.map fun(x:Nat×Operand)=>(x.1,Y x.2))).run P w=.ok v w/\X9 F T w (.v (.agg cs)) v:=by
 obtain⟨i,d,z,hi,hd,hz,e1,e2,e3,e4,e5⟩:=XD hti;have hz0:(zeroValue t).run P w=.ok z w:=by simp[zeroValue,typeInfo,hi,hz]
 have hzc:Xi F T w (ti.zero.map fun v=>.c (.lit v)) z.cells:=by rw[e4];exact Xi.ofLits _
 rw[e3]at ha;cases d with
 | struct fs=>
   have hft:∀f∈fs.toList,∃i,P.info? f.type=some i:=by
    intro f hf';unfold XG at hall;rw[e5]at hall;simp only[X0B,List.all_map,Nh]at hall;have:=hall f hf';simp only[Function.comp,Option.isSome_iff_exists]at this;obtain⟨u,hu⟩:=this;obtain⟨i',_,_,hi',_⟩:=XD hu;exact⟨i',hi'⟩
   have hpl:=X4l (P:=P) w fs.toList hft
   obtain⟨vs',h1,h2⟩:=X11 (place:=fun k=>(fs.toList.map fun f=>(f.offset,((P.info? f.type).map (·.size)).getD 0)).toArray[k]?) hg (fun k p hp=>by
    rcases X1A (d:=.struct fs) e5 hp with⟨fs',he,f,hfk,hfo,hfs⟩|⟨n,e,he,_⟩
    .cases he;rw[List.getElem?_toArray,Nf];have:fs.toList[k]? =some f:=by simpa using hfk
     rw[this];simp[hfs,hfo]
    cases he) parts.toList _ cs z.cells hzc hf
   refine⟨.agg vs',?_,⟨vs',rfl,h2⟩⟩
   have hm:(fs.mapM (fun f=>do pure (f.offset,<-sizeOf f.type)):Sem (Array (Nat×Nat))).run P w=.ok (fs.toList.map fun f=>(f.offset,((P.info? f.type).map (·.size)).getD 0)).toArray w:=by
    rw[Array.mapM_eq_mapM_toList,Sem.run_map,hpl];rfl
   unfold Instr.build;rw[Sem.run_bind,hz0,Result.andThen_ok,Sem.run_bind,run_underlying hd,Result.andThen_ok];simp only;rw[Sem.run_bind,hm,Result.andThen_ok];simp only[Array.toList_map];rw[h1];rfl
 | array n e=>
   unfold XG at hall;rw[e5]at hall;simp only[X0B,Option.isSome_iff_exists]at hall;obtain⟨u,hu⟩:=hall;obtain⟨i',_,_,hi',_⟩:=XD hu
   obtain⟨vs',h1,h2⟩:=X11 (place:=fun k=>some (k*i'.size,i'.size)) hg (fun k p hp=>by
    rcases X1A (d:=.array n e) e5 hp with⟨fs',he,_⟩|⟨n',e',he,hs,ho⟩
    .cases he
    cases he;rw[hi']at hs;simp only[Option.map_some,Option.some.injEq]at hs;obtain⟨p1,p2⟩:=p;simp only at hs ho
    rw[ho,hs]) parts.toList _ cs z.cells hzc hf
   refine⟨.agg vs',?_,⟨vs',rfl,h2⟩⟩;unfold Instr.build;rw[Sem.run_bind,hz0,Result.andThen_ok,Sem.run_bind,run_underlying hd,Result.andThen_ok];simp only;rw[Sem.run_bind,XC hi',Result.andThen_ok];simp only[Array.toList_map];rw[h1];rfl
 |_=>simp[X7l]at ha
end
def CV.men (d:Nat):CV->Prop
 | .own n=>n=d
 | .at_ n _=>n=d
 | .el n _ _ _=>n=d
 | .sub n _=>n=d
 | .el2 n _ _ _ _=>n=d
 | .fn _ caps=>∃p∈caps,p.1=d
 | .gd _ x=>x.men d
 |_=>False
def TV.men (d:Nat):TV->Prop
 | .one x=>x.men d
 | .agg xs=>∃x∈xs,x.men d
def RV.men (d:Nat):RV->Prop
 | .v t=>t.men d
 | .tup ts=>∃t∈ts,t.men d
def Ob.men (d:Nat):Ob->Prop
 | .box cs=>∃x∈cs,x.men d
 | .refs _ ns=>d∈ns
 |_=>False
def upd (T:Nat->Value) (d:Nat) (x:Value):Nat->Value:=fun n=>if n=d then x else T n
theorem XH (T:Nat->Value) (d:Nat) (x:Value):upd T d x d=x:=by simp[upd]
theorem Xq {T:Nat->Value} {d n:Nat} (x:Value) (h:n≠d):upd T d x n=T n:=by simp[upd,h]
section
variable {P:Program} {F:Nat->Prop} {T:Nat->Value} {w w' w0:World} {B:Nat->Prop} {U:Nat->Option Value}
theorem Xo.upd {d:Nat} {y:Value} {x:CV} {v:Value} (hm:¬x.men d) (h:Xo F T w x v):Xo F (upd T d y) w x v:=by
 induction x with
 |gd b x ih=>exact⟨fun hb=>ih hm (h.1 hb),h.2⟩
 |any=>exact h
 |c d=>exact h
 |own n=>simp only[Xo]at*;rw[Xq _ hm];exact h
 |at_ n off=>simp only[Xo]at*;rw[Xq _ hm];exact h
 |el n s i off=>simp only[Xo]at*;rw[Xq _ hm];exact h
 |sub n i=>simp only[Xo]at*;rw[Xq _ hm];exact h
 |el2 n s i j off=>simp only[Xo]at*;rw[Xq _ hm];exact h
 | fn f caps=>
   obtain⟨vs,hv,hl,hc⟩:=h;refine⟨vs,hv,hl,fun j p u hp hu=>?_⟩;rw[Xq _ (fun e=>hm ⟨p,N3 hp,e⟩)];exact hc j p u hp hu
theorem Xi.upd {d:Nat} {y:Value} {xs:List CV} {vs:Array Value} (hm:¬ ∃x∈xs,x.men d) (h:Xi F T w xs vs):Xi F (upd T d y) w xs vs:=
 ⟨h.1,fun j x u hx hu=>(h.2 j x u hx hu).upd fun hd=>hm ⟨x,N3 hx,hd⟩⟩
theorem XJ.upd {d:Nat} {y:Value} {x:TV} {v:Value} (hm:¬x.men d) (h:XJ F T w x v):XJ F (upd T d y) w x v:=by
 cases x with
 |one x=>exact Xo.upd hm h
 |agg xs=>obtain⟨vs,rfl,hc⟩:=h;exact⟨vs,rfl,hc.upd hm⟩
theorem X9.upd {d:Nat} {y:Value} {x:RV} {v:Value} (hm:¬x.men d) (h:X9 F T w x v):X9 F (upd T d y) w x v:=by
 cases x with
 |v t=>exact XJ.upd hm h
 | tup ts=>
   obtain⟨vs,rfl,hs,hc⟩:=h;exact⟨vs,rfl,hs,fun j t u ht hu=>(hc j t u ht hu).upd fun hd=>hm ⟨t,N3 ht,hd⟩⟩
theorem Q4.upd {d:Nat} {y x:Value} {o:Ob} (hm:¬o.men d) (h:Q4 F T w B x o):Q4 F (upd T d y) w B x o:=by
 cases o with
 |box cs=>obtain⟨b,e,vs,rfl,hb,hh,hc⟩:=h;exact⟨b,e,vs,rfl,hb,hh,hc.upd hm⟩
 |row e s rows=>exact h
 |mp l=>exact h
 |mat e e' s rows=>exact h
 | refs e ns=>
   obtain⟨b,rfl,hb,hh⟩:=h;refine⟨b,rfl,hb,?_⟩;rw[hh];congr 3;refine List.map_congr_left fun n hn=>?_;rw[Xq _ fun e=>hm (by simpa[Ob.men,<-e]using hn)]
 |mps e ms=>exact h
 |it l seen=>exact h
theorem Wr {b:Nat} {o:Obj} (hh:w.heap[b]? =some o):b<w.heap.size:=by
 rcases Nat.lt_or_ge b w.heap.size with h|h
 .exact h
 simp[Array.getElem?_eq_none h]at hh
theorem Qu.blk_lt {x:Value} {e:TypeId} {s n:Nat} {xs:List Value} (h:Qu w B e s x n xs) {b:Nat} (hb:blk x=some b):¬B b/\b<w.heap.size:=by
 rcases h.2 with⟨rfl,_⟩|⟨g,oo,cap,cur,rfl,hg,hh,Xy⟩
 .simp[blk]at hb
 simp only[blk,Option.some.injEq]at hb;subst hb;exact⟨hg,Wr hh⟩
theorem Xm.own {x:Value} {e:TypeId} {s:Nat} {rows:List (List CD)} (h:Xm F w B e s x rows):∃xs,Qu w B e s x rows.length xs:=by
 obtain⟨_,_,xs,hown,_⟩:=h;exact⟨xs,hown⟩
theorem Xm.sl {x:Value} {e:TypeId} {s:Nat} {rows:List (List CD)} (h:Xm F w B e s x rows):∃a l c,x=.slice a l c:=by
 obtain⟨xs,hown⟩:=h.own;rcases hown.2 with⟨rfl,_⟩|⟨g,oo,cap,cur,rfl,_⟩<;>exact⟨_,_,_,rfl⟩
theorem Qu.sl {x:Value} {e:TypeId} {s n:Nat} {xs:List Value} (hown:Qu w B e s x n xs):∃a l c,x=.slice a l c:=by
 rcases hown.2 with⟨rfl,_⟩|⟨g,oo,cap,cur,rfl,_⟩<;>exact⟨_,_,_,rfl⟩
theorem W6 {x:Value} (h:∃a l c,x=.slice a l c) {b:Nat}:Blk x b↔blk x=some b:=by
 obtain⟨a,l,c,rfl⟩:=h;exact Iff.rfl
theorem X09 {x:Value} (h:∃a l c,x=.slice a l c):hd x=x:=by
 obtain⟨a,l,c,rfl⟩:=h;rfl
theorem Q4.blk_lt {x:Value} {o:Ob} (h:Q4 F T w B x o) {b:Nat} (hb:Blk x b):¬B b/\b<w.heap.size:=by
 cases o with
 | box cs=>
   obtain⟨g,e,vs,rfl,hg,hh,hc⟩:=h;cases hb;exact⟨hg,Wr hh⟩
 | row e s rows=>
   obtain⟨xs,hown⟩:=Xm.own h;exact hown.blk_lt ((W6 (Xm.sl h)).1 hb)
 | mp l=>
   obtain⟨g,es,clock,rfl,hg,hh,_⟩:=h;cases hb;exact⟨hg,Wr hh⟩
 | mat e e' s rows=>
   obtain⟨o,is,rfl,h0,hl,⟨xs,hown,hxs⟩,hin,h1,h2⟩:=h;obtain⟨v,hv,hvb⟩:=hb;simp only[Ni]at hv;rcases hv with rfl|hv
   .exact hown.blk_lt hvb
   obtain⟨i,hi⟩:=Nu.1 hv;have hil:i<rows.length:=by rw[<-hl];exact(N5.1 hi).1
   have:=hin i v rows[i] hi (by simp[hil]);cases hr:rows[i] with
   |none=>rw[hr]at this;rw[show v=undef from this]at hvb;cases hvb
   | some rr=>
     rw[hr]at this;obtain⟨xs,hown⟩:=Xm.own (show Xm F w B e' s v rr from this);exact hown.blk_lt hvb
 | refs e ns=>
   obtain⟨g,rfl,hg,hh⟩:=h;cases hb;exact⟨hg,Wr hh⟩
 | mps e ms=>
   obtain⟨o,is,rfl,hl,⟨xs,hown,hxs⟩,hin,h1,h2⟩:=h;obtain⟨v,hv,hvb⟩:=hb;simp only[Ni]at hv;rcases hv with rfl|hv
   .exact hown.blk_lt hvb
   obtain⟨i,hi⟩:=Nu.1 hv;have hil:i<ms.length:=by rw[<-hl];exact(N5.1 hi).1
   have:=hin i v ms[i] hi (by simp[hil]);cases hr:ms[i] with
   |none=>rw[hr]at this;rw[show v=undef from this]at hvb;cases hvb
   | some rr=>
     rw[hr]at this;obtain⟨g,es,clock,rfl,hg,hh,_⟩:=(show X0M F w B v rr from this);cases hvb;exact⟨hg,Wr hh⟩
 | it l seen=>
   obtain⟨g,rfl,hg,hh⟩:=h;cases hb;rcases hh with⟨_,hh⟩|⟨_,_,_,_,hh,_⟩
   .exact⟨hg,Wr hh⟩
   exact⟨hg,Wr hh⟩
theorem HeapRel.made {objs:List (Nat×Ob)} (h:HeapRel w0 B U F T objs w) {d:Nat} {x:Value} {ob:Ob}
  (hd:∀n o,lkp objs n=some o->n≠d/\¬o.men d) (hb:Kept B w0 w') (hsz:w.heap.size<=w'.heap.size)
  (hkeep:∀b,b<w.heap.size->w'.heap[b]? =w.heap[b]?) (hx:∀b,Blk x b->w.heap.size<=b) (hd6:d<1000000)
  (hob:Q4 F (upd T d x) w' B x ob):HeapRel w0 B U F (upd T d x) (ins d ob objs) w' where
 below:=hb
 hB:=fun b hb=>NA (h.hB b hb) hsz
 fsz b hF:=NA (h.fsz b hF) hsz
 ob n o ho:=by
  rw[Qb]at ho;split at ho
  .rename_i hn;cases ho;subst hn;rw[XH];exact hob
  rename_i hn;rw[Xq _ hn];have h1:=h.ob n o ho;exact(h1.mono (fun _ h=>h) (fun b hF=>hkeep b (h.fsz b hF)) (fun b hbk=>hkeep b (h1.blk_lt hbk).2)).upd (hd n o ho).2
 apart n o ho b hbk hF:=by
  rw[Qb]at ho;split at ho
  .rename_i hn;rw[hn,XH]at hbk;have:=hx b hbk;have:=h.fsz b hF;omega
  rename_i hn;rw[Xq _ hn]at hbk;exact h.apart n o ho b hbk hF
 sep n m on om hn hm hne b hbn hbm:=by
  rw[Qb]at hn hm;split at hn
  .rename_i en;rw[en,XH]at hbn;split at hm
   .rename_i em;exact hne (en.trans em.symm)
   rename_i em;rw[Xq _ em]at hbm;have h1:=(h.ob m om hm).blk_lt hbm;have h2:=hx b hbn;omega
  rename_i en;rw[Xq _ en]at hbn;split at hm
  .rename_i em;rw[em,XH]at hbm;have h1:=(h.ob n on hn).blk_lt hbn;have h2:=hx b hbm;omega
  rename_i em;rw[Xq _ em]at hbm;exact h.sep n m on om hn hm hne b hbn hbm
 pin n v hv:=by
  obtain⟨h1,h2⟩:=h.pin n v hv;exact⟨h1,by rw[Xq _ (by omega)];exact h2⟩
theorem HeapRel.drew {objs:List (Nat×Ob)} (h:HeapRel w0 B U F T objs w):HeapRel w0 B U F T objs w.drew where
 below:=h.below.drew
 hB:=h.hB
 fsz:=h.fsz
 ob n o ho:=(h.ob n o ho).mono (w:=w) (w':=w.drew) (fun _ h=>h) (fun _ _=>rfl) (fun _ _=>rfl)
 apart:=h.apart
 sep:=h.sep
 pin:=h.pin
theorem QI (b o k:Nat):(⟨b,o,none⟩:Addr).add k=⟨b,o+k,none⟩:=by
 unfold Addr.add;split
 .rename_i h;simp[h]
 rfl
theorem WK {s:TypeId} {f:Nat} {fs:Array Field} {fd:Field} {i:TypeInfo} (hu:P.underlying s=some (.struct fs)) (hfd:fs[f]? =some fd)
  (hi:P.info? fd.type=some i) (hne:¬i.size=0) (b o:Nat):(Instr.fieldAt s (.pointer (some ⟨b,o,none⟩)) f).run P w=.ok (.pointer (some ⟨b,o+fd.offset,none⟩)) w:=by
 have hlt:f<fs.size:=by
  rcases Nat.lt_or_ge f fs.size with h|h
  .exact h
  simp[Array.getElem?_eq_none h]at hfd
 have hfd':fs[f]=fd:=by simpa[hlt]using hfd
 simp[Instr.fieldAt,run_underlying hu,hlt,hfd',Instr.sureAddr,fieldPlace,XC hi,hne,QI]
theorem X8q {a b:ByteArray}:a.toList=b.toList↔a=b:=by
 rw[ByteArray.toList_eq,ByteArray.toList_eq];refine⟨fun h=>?_,fun h=>by rw[h]⟩;obtain⟨⟨a⟩⟩:=a;obtain⟨⟨b⟩⟩:=b;simp only at h;rw[h]
theorem X1u {t:TypeId} (h:strT P t=true):P.underlying t=some .string:=by
 unfold strT at h;split at h
 .assumption
 cases h
theorem Xbf {t:TypeId} (h:QD P t=true):∃e,P.underlying t=some (.pointer e):=by
 unfold QD at h;split at h
 .rename_i e he;exact⟨e,he⟩
 cases h
theorem Xak {t e:TypeId} (hu:P.underlying t=some (.pointer e)):(∀b,(Op.equal t (.pointer none) (.pointer b)).run P w=.ok b.isNone w)/\∀a,(Op.equal t (.pointer a) (.pointer none)).run P w=.ok a.isNone w:=by
 refine⟨fun b=>?_,fun a=>?_⟩
 .show(Op.equalIn (9999+1) t (.pointer none) (.pointer b)).run P w=_;generalize 9999=n;unfold Op.equalIn;simp[run_underlying hu]
 show(Op.equalIn (9999+1) t (.pointer a) (.pointer none)).run P w=_;generalize 9999=n;unfold Op.equalIn;cases a<;>simp[run_underlying hu]
theorem Zy {r:RV} {v:Value} (hp:X0U r=true) (h:X9 F T w r v):∃a,v=.pointer (some a):=by
 unfold X0U at hp;split at hp
 .obtain⟨b,_,rfl⟩:=h;exact⟨_,rfl⟩
 .obtain⟨b,_,_,_,_,rfl⟩:=h;exact⟨_,rfl⟩
 .obtain⟨_,b,_,_,_,_,_,rfl⟩:=h;exact⟨_,rfl⟩
 .rename_i cs;obtain⟨b,o,cells,rfl,_⟩:=CRel.ptr_inv (show CRel F w (.ptr cs) v from h);exact⟨_,rfl⟩
 cases hp
theorem X1B {g:Operand->RV} {Y:Operand->Value} (hg:∀x,X9 F T w (g x) (Y x)):∀(l:List Operand) (cs:List CD),ZR g l=some cs->l.length=cs.length/\∀(j:Nat) d x,cs[j]? =some d->l[j]? =some x->CRel F w d (Y x)
 |[],cs,h=>by cases h;exact⟨rfl,fun j d x h=>by simp at h⟩
 | y ::l,cs,h=>by
   unfold ZR at h;split at h
   .rename_i d r hd hr;cases h;obtain⟨h1,h2⟩:=X1B hg l r hr;refine⟨by simp[h1],fun j d' x hd' hx=>?_⟩;cases j with
    | zero=>
      simp only[List.getElem?_cons_zero,Option.some.injEq]at hd' hx;subst hd' hx;have:=hg y;rw[hd]at this;exact this
    |succ j=>exact h2 j d' x (by simpa using hd') (by simpa using hx)
   cases h
theorem X2z {g:Operand->RV} {Y:Operand->Value} (hg:∀x,X9 F T w (g x) (Y x)):∀(l:List Operand) (cs:List (Nat×Nat)),ZW g l=some cs->
  l.length=cs.length/\∀(j:Nat) (p:Nat×Nat) x,cs[j]? =some p->l[j]? =some x->∃b,T p.1=.pointer (some ⟨b,0,none⟩)/\Y x=.pointer (some ⟨b,p.2,none⟩)
 |[],cs,h=>by cases h;simp
 | x ::l,cs,h=>by
   unfold ZW at h;split at h
   .rename_i n off r hx hr;cases h;obtain⟨h1,h2⟩:=X2z hg l r hr;refine⟨by simp[h1],fun j p y hp hy=>?_⟩;cases j with
    | zero=>
      cases hp;cases hy;have:=hg x;rw[hx]at this;exact this
    |succ j=>exact h2 j p y hp hy
   cases h
theorem XaY {t:TypeId} {n:Nat} {k:IntKind} (h:arrI P t=some (n,k)):∃e i,P.underlying t=some (.array n e)/\P.underlying e=some (.int k)/\P.info? e=some i/\i.size=1/\P.eqGuardType P.depth t=false:=by
 unfold arrI at h;split at h
 .rename_i n' e hu;split at h
  .rename_i k' i hk hi;split at h
   .rename_i hc;cases h;exact⟨e,i,hu,hk,hi,hc.1,hc.2⟩
   cases h
  cases h
 cases h
theorem X0W {k:IntKind}:∀(xs:List CV) (as0:List Int) (vs:Array Value),X5L k xs=some as0->Xi F T w xs vs->vs=(as0.map fun a=>Value.int k a).toArray
 | [],as0,vs,h,hc=>by
   cases h;have:vs.size=0:=hc.1;exact Array.eq_empty_of_size_eq_zero this
 | x :: l, as0,vs,h,hc=>by
   unfold X5L at h;split at h
   .rename_i e;cases e
   .rename_i k' a l' e;cases e;split at h
    .rename_i hk;subst hk;simp only[N8]at h;obtain⟨as0',h',rfl⟩:=h
     have h0:vs[0]? =some (.int k' a):=by
      have hlt:0<vs.size:=by rw[hc.1];simp
      have:=hc.2 0 _ vs[0] rfl (by simp[hlt]);have e:vs[0]=.int k' a:=X9.lit_eq (T:=T) (w:=w) (F:=F) (r:=lit (.int k' a)) rfl this;simp[hlt,e]
     have ih:=X0W l as0' (vs.extract 1 vs.size) h' ⟨by simp[hc.1],fun j x u hx hu=>by
      rw[Array.getElem?_extract]at hu;split at hu
      .exact hc.2 (1+j) x u (by rw[Nat.add_comm];simpa using hx) hu
      cases hu⟩
     apply Array.ext'
     have e2:vs.toList=.int k' a::(vs.extract 1 vs.size).toList:=by
      cases hv:vs.toList with
      |nil=>have:=hc.1;rw[<-Array.length_toList,hv]at this;simp at this
      | cons v tl=>
        have:v=.int k' a:=by
         have:=h0;rw[<-Array.getElem?_toList,hv]at this;simpa using this
        rw[Array.toList_extract,List.extract_eq_take_drop,hv,this,List.drop_one,List.tail_cons,List.take_of_length_le];have:vs.size=tl.length+1:=by rw[<-Array.length_toList,hv];simp
        omega
     rw[e2,ih];simp
    cases h
   cases h
theorem X3D:∀(xs ys:List Int),xs.length=ys.length->((List.range xs.length).all fun i=>decide (xs.getD i 0=ys.getD i 0))=decide (xs=ys)
 |[],[],_=>by simp
 | x::xs,y::ys,h=>by
   have ih:=X3D xs ys (by simpa using h);rw[List.length_cons,List.range_succ_eq_map,List.all_cons,List.all_map];simp only[List.getD_cons_zero,Function.comp_def,List.getD_cons_succ,ih];by_cases h1:x=y<;>by_cases h2:xs=ys<;>simp[h1,h2]
 |[],_::_,h=>by simp at h
 |_::_,[],h=>by simp at h
theorem X8J {t e:TypeId} {n:Nat} {k:IntKind} {i:TypeInfo} (ht:P.underlying t=some (.array n e)) (he:P.underlying e=some (.int k)) (hi:P.info? e=some i) (hs:i.size=1) (xs ys:List Int) (hx:xs.length=n) (hy:ys.length=n):
  (Op.equal t (.agg (xs.map fun a=>Value.int k a).toArray) (.agg (ys.map fun a=>Value.int k a).toArray)).run P w=.ok (decide (xs=ys)) w:=by
 show(Op.equalIn (9998+2) t _ _).run P w=_;generalize 9998=d;rw[<-X3D xs ys (hx.trans hy.symm),hx,List.range_eq_range',Op.equalIn];simp only[Sem.run_bind,run_underlying ht,Result.andThen_ok,XC hi,hs,Std.Legacy.Range.forIn_eq_forIn_range',Std.Legacy.Range.size,Nat.sub_zero,Nat.add_sub_cancel,Nat.div_one];have hl:∀i∈List.range' 0 n 1,i<n:=fun i hi=>by simpa using(List.mem_range'_1.1 hi).2
 generalize List.range' 0 n 1=l at hl⊢
 induction l with
 |nil=>simp
 | cons i l ih=>
   have hi:i<n:=hl i (by simp)
   have px:(part e (xs.map fun a=>Value.int k a).toArray (i*1)).run P w=.ok (.int k (xs.getD i 0)) w:=by
    simp[part,isAgg,run_underlying he,List.getD,Nr (show i<xs.length by omega)]
   have py:(part e (ys.map fun a=>Value.int k a).toArray (i*1)).run P w=.ok (.int k (ys.getD i 0)) w:=by
    simp[part,isAgg,run_underlying he,List.getD,Nr (show i<ys.length by omega)]
   have pe:(Op.equalIn (d+1) e (.int k (xs.getD i 0)) (.int k (ys.getD i 0))).run P w=.ok (decide (xs.getD i 0=ys.getD i 0)) w:=by
    unfold Op.equalIn;simp only[Sem.run_bind,run_underlying he,Result.andThen_ok,NG,Sem.run_pure];congr 1
   simp only[List.forIn_cons,Sem.run_bind,px,py,pe,Result.andThen_ok,List.all_cons];cases hb:decide (xs.getD i 0=ys.getD i 0)
   .simp
   simp only[Bool.not_true,Nz,NW,Sem.run_pure,Result.andThen_ok,NF];exact ih fun j hj=>hl j (by simp[hj])
theorem X0g {t:TypeId} {cs:Array Value} {i:Nat} {v:Value} (h:(∃k,P.underlying t=some (.int k))\/P.underlying t=some .string) (hv:cs[i]? =some v):(part t cs i).run P w=.ok v w:=by
 rcases h with⟨k,h⟩|h<;>simp[part,isAgg,run_underlying h,hv]
theorem X1M:∀(ks:List Bool) (xs ys:List CV) (q:Bool) (fs:List Field) (i:Nat) (va vb:Array Value),WW P fs i=some ks->eqFs ks xs ys=some q->va.size=i+xs.length->vb.size=i+ys.length->
  (∀j x u,xs[j]? =some x->va[i+j]? =some u->Xo F T w x u)->(∀j x u,ys[j]? =some x->vb[i+j]? =some u->Xo F T w x u)->(Op.eqFields (9998+1) va vb fs).run P w=.ok q w
 | ks,xs,ys,q,[],i,va,vb,hf,hq,_,_,_,_=>by
   cases hf;unfold eqFs at hq;split at hq<;>first|cases hq;rfl|simp_all
 | ks, xs, ys,q,f::fs,i,va,vb,hf,hq,ha,hb,hca,hcb=>by
   unfold WW at hf;split at hf
   .rename_i a b hk hks;cases hf;unfold fkind at hk;split at hk
    .rename_i hn;have lit0:∀{v u:Value},Xo F T w (.c (.lit v)) u->u=v:=fun {v u} h=>X9.lit_eq (T:=T) (w:=w) (F:=F) (r:=lit v) rfl h
     have Xy:∀(x y:CV) (l m:List CV) (q':Bool),xs=x::l->ys=y::m->eqFs b l m=some q'->(Op.eqFields (9998+1) va vb fs).run P w=.ok q' w:=by
      intro x y l m q' hx hy hq';subst hx hy
      exact X1M b l m q' fs (i+1) va vb hks hq' (by rw[ha,List.length_cons];omega) (by rw[hb,List.length_cons];omega)
       (fun j x u h1 h2=>hca (j+1) x u (by simpa using h1) (by rw[<-h2];congr 1;omega)) (fun j x u h1 h2=>hcb (j+1) x u (by simpa using h1) (by rw[<-h2];congr 1;omega))
     have cell:∀(v1 v2:Value) (l m:List CV),xs=.c (.lit v1)::l->ys=.c (.lit v2)::m->va[i]? =some v1/\vb[i]? =some v2:=by
      intro v1 v2 l m hx hy;subst hx hy;have h1:i<va.size:=by rw[ha,List.length_cons];omega
      have h2:i<vb.size:=by rw[hb,List.length_cons];omega
      have e1:=lit0 (hca 0 _ va[i] rfl (by simp[h1]));have e2:=lit0 (hcb 0 _ vb[i] rfl (by simp[h2]));exact⟨by simp[h1,e1],by simp[h2,e2]⟩
     unfold eqFs at hq;split at hq
     .cases hks0:b<;>simp_all
     .rename_i ks' k1 a1 l k2 b1 m hkk;simp only[List.cons.injEq]at hkk;obtain⟨rfl,rfl⟩:=hkk;split at hq
      .rename_i hke;subst hke;simp only[N8]at hq;obtain⟨q',hq',rfl⟩:=hq;have hr:=Xy _ _ _ _ q' rfl rfl hq';obtain⟨c1,c2⟩:=cell _ _ _ _ rfl rfl
       have hty:∃k,P.underlying f.type=some (.int k):=by
        split at hk
        .exact⟨_,by assumption⟩
        .cases hk
        cases hk
       obtain⟨k,hty⟩:=hty;have h1:=X0g (P:=P) (w:=w) (.inl ⟨k,hty⟩) c1;have h2:=X0g (P:=P) (w:=w) (.inl ⟨k,hty⟩) c2;rw[Op.eqFields,N9 hn.1,hn.2];simp only[Sem.run_bind,h1,h2,Result.andThen_ok,run_equalIn_int w 9998 f.type k1 k a1 b1 hty,hr,Sem.run_ite];by_cases hab:a1=b1
       .simp[hab,hr]
       simp[hab]
      cases hq
     .rename_i ks' a1 l b1 m hkk;simp only[List.cons.injEq]at hkk;obtain⟨rfl,rfl⟩:=hkk;simp only[N8]at hq;obtain⟨q',hq',rfl⟩:=hq;have hr:=Xy _ _ _ _ q' rfl rfl hq';obtain⟨c1,c2⟩:=cell _ _ _ _ rfl rfl
      have hty:P.underlying f.type=some .string:=by
       split at hk
       .cases hk
       .assumption
       cases hk
      have h1:=X0g (P:=P) (w:=w) (.inr hty) c1;have h2:=X0g (P:=P) (w:=w) (.inr hty) c2
      have h3:(Op.equalIn (9998+1) f.type (.string a1) (.string b1)).run P w=.ok (decide (a1=b1)) w:=by
       rw[run_equalIn_string w 9998 f.type a1 b1 hty];congr 1;by_cases hab:a1=b1
       .simp[hab]
       have hne:¬a1.toList=b1.toList:=fun h=>hab (X8q.1 h);simp[hab,hne]
      rw[Op.eqFields,N9 hn.1,hn.2];simp only[Sem.run_bind,h1,h2,Result.andThen_ok,h3,hr,Sem.run_ite];by_cases hab:a1=b1
      .simp[hab,hr]
      simp[hab]
     cases hq
    cases hk
   cases hf
theorem X7x {op:BinOp} {t:TypeId} {rx ry:RV} {x y:Operand} {a b:Value} {q:Bool} (hx:X9 F T w rx a) (hy:X9 F T w ry b) (h:evAgg P op t rx ry=some q):
  (do eqGuard op t x y a b;binOp op t a b:Sem Value).run P w=.ok (.bool q) w:=by
 unfold evAgg at h;split at h
 .rename_i xs ys;split at h
  .rename_i n k har;split at h
   .rename_i as0 bs ha hb;split at h
    .rename_i hl;obtain⟨va,rfl,hca⟩:=hx;obtain⟨vb,rfl,hcb⟩:=hy;rw[X0W xs as0 va ha hca,X0W ys bs vb hb hcb];obtain⟨e,i,hu,hk,hi,hs,hg⟩:=XaY har;have heq:=X8J (w:=w) hu hk hi hs as0 bs hl.1 hl.2;cases op<;>simp at h<;>first|(subst h;simp[eqGuard,binOp,heq,hg])|simp[eqGuard,binOp,heq,hg,h]
    cases h
   cases h
  split at h
  .rename_i ks hfl;split at h
   .rename_i q' hq;obtain⟨va,rfl,hca⟩:=hx;obtain⟨vb,rfl,hcb⟩:=hy;unfold X6W at hfl;split at hfl
    .rename_i fs hu;split at hfl
     .rename_i hc;have hfo:P.fieldsOf t=fs:=by unfold Program.fieldsOf;rw[hu]
      have hrun:(Op.equalIn 10000 t (.agg va) (.agg vb)).run P w=.ok q' w:=by
       rw[show(10000:Nat)=(9998+1)+1 from rfl,run_equalIn_agg w (9998+1) t va vb (by rw[hfo];exact hu) hc.1,hfo];exact X1M ks xs ys q' fs.toList 0 va vb hfl hq (by simpa using hca.1) (by simpa using hcb.1) (fun j x u h1 h2=>hca.2 j x u h1 (by simpa using h2)) (fun j x u h1 h2=>hcb.2 j x u h1 (by simpa using h2))
      have hg:=run_eqGuard_agg (P:=P) w op t x y va vb hc.2;rw[Sem.run_bind,hg,Result.andThen_ok];cases op<;>simp at h
      .subst h;rw[run_eql_struct,hrun,Result.andThen_ok]
      subst h;rw[run_neq_struct,hrun,Result.andThen_ok];simp
     cases hfl
    cases hfl
   cases h
  cases h
 cases h
theorem X72 {t:TypeId} (h:XQ P t=true):∃e,P.underlying t=some (.slice e):=by
 unfold XQ at h;split at h
 .rename_i e he;exact⟨e,he⟩
 cases h
theorem X7Z {r:RV} {v:Value} (hp:nilSl r=true) (h:X9 F T w r v):v=.slice none 0 0:=by
 unfold nilSl at hp;split at hp
 .exact X9.lit_eq rfl h
 cases hp
theorem X2J {r:RV} {v:Value} {b:Bool} (hp:X4y r=some b) (h:X9 F T w r v):∃a n c,v=.slice a n c/\b=a.isNone:=by
 unfold X4y at hp;split at hp
 .cases hp;exact⟨_,_,_,X9.lit_eq rfl h,rfl⟩
 .cases hp;exact⟨_,_,_,X9.lit_eq rfl h,rfl⟩
 .rename_i s r0 rs;cases hp;rcases CRel.sl_inv (show CRel F w (.sl s (r0::rs)) v from h)with⟨h0,_⟩|⟨b,o,cap,cells,rfl,_⟩
  .cases h0
  exact⟨_,_,_,rfl,rfl⟩
 cases hp
theorem X8p {t e:TypeId} (hu:P.underlying t=some (.slice e)) (a:Option Addr) (n c:Nat):(Op.equal t (.slice a n c) (.slice none 0 0)).run P w=.ok a.isNone w:=by
 show(Op.equalIn (9999+1) t _ _).run P w=_;generalize 9999=k;unfold Op.equalIn;cases a<;>simp[run_underlying hu]
theorem X6C {op:BinOp} {t:TypeId} {rx ry:RV} {x y:Operand} {a b:Value} {q:Bool} (ht:XQ P t=true) (hx:X9 F T w rx a) (hy:X9 F T w ry b) (h:X68 op rx ry=some q):
  (do eqGuard op t x y a b;binOp op t a b:Sem Value).run P w=.ok (.bool q) w:=by
 unfold X68 at h;split at h
 .rename_i hn;obtain⟨e,hu⟩:=X72 ht;have hb:=X7Z hn hy;subst hb;split at h
  .obtain⟨a,n,c,rfl,rfl⟩:=X2J h hx;simp[eqGuard,binOp,X8p hu]
  .simp only[N8]at h;obtain⟨b',hb',rfl⟩:=h;obtain⟨a,n,c,rfl,rfl⟩:=X2J hb' hx;simp[eqGuard,binOp,X8p hu]
  cases h
 cases h
theorem X5h {g:Operand->RV} {Y:Operand->Value} (hg:∀x,X9 F T w (g x) (Y x)) {dflt n:Nat} {o:Option Operand} (h:X0C g dflt o=some n):
  (o=none/\n=dflt)\/∃x,o=some x/\Y x=.int .i64 n:=by
 unfold X0C at h;split at h
 .cases h;exact .inl ⟨rfl,rfl⟩
 rename_i x;split at h
 .rename_i k hk;split at h
  .rename_i h0;cases h;refine .inr ⟨x,rfl,?_⟩;rw[X9.lit_eq hk (hg x)];simp[Int.toNat_of_nonneg h0]
  cases h
 cases h
theorem Wa {n y:Nat} (h:n<=y) (code:BoundsCode):(Instr.sliceBound (.int .i64 n) y code).run P w=.ok n w:=by
 simp[Instr.sliceBound,asIntOf,h]
theorem Wv {b:Bool} {g:Operand->RV} {Y:Operand->Value} (hg:∀x,X9 F T w (g x) (Y x)) {len cap l h:Nat} {lo hi:Option Operand} (h1:X0C g 0 lo=some l) (h2:X0C g len hi=some h) (hl:l<=h) (hh:h<=len) (hc:len<=cap):
  (Instr.sliceBounds b len cap (lo.map Y) (hi.map Y) none).run P w=.ok (l,h,cap) w:=by
 have e2:=X5h hg h2;have e1:=X5h hg h1;unfold Instr.sliceBounds;rcases e2 with⟨rfl,rfl⟩|⟨y,rfl,hy⟩<;>rcases e1 with⟨rfl,rfl⟩|⟨x,rfl,hx⟩
 .simp
 .simp[hx,Wa hl]
 .simp[hy,Wa (show h<=cap by omega)]
 simp[hx,hy,Wa (show h<=cap by omega),Wa hl]
theorem CRel.cut {s:Nat} {rows:List (List CD)} {v:Value} (h:CRel F w (.sl s rows) v) {l hi:Nat} (hl:l<=hi) (hh:hi<=rows.length):
  ∃(a:Option Addr) (cap:Nat),v=.slice a rows.length cap/\rows.length<=cap/\CRel F w (.sl s ((rows.take hi).drop l)) (.slice (if cap=l then a else a.map fun a=>a.add (l*s)) (hi - l) (cap - l)):=by
 rcases CRel.sl_inv h with⟨rfl,rfl|⟨a,cap,rfl⟩⟩|⟨b,o,cap,cells,rfl,hF,hcap,hmax,hs,hc,h1,hr⟩
 .have e0:hi=0:=by simpa using hh
  subst e0;have e1:l=0:=by omega
  subst e1;exact⟨none,0,rfl,ND _,by simpa using CRel.nil s⟩
 .have e0:hi=0:=by simpa using hh
  subst e0;have e1:l=0:=by omega
  subst e1;refine⟨some a,cap,rfl,Nc _,?_⟩;have:(if cap=0 then some a else(some a).map fun a=>a.add (0*s))=some (if cap=0 then a else a.add (0*s)):=by split<;>rfl
  rw[this];simpa using CRel.emp s _ cap
 refine⟨_,cap,rfl,hcap,?_⟩;have hlen:((rows.take hi).drop l).length=hi - l:=by simp[Nat.min_eq_left hh]
 rcases Nat.eq_or_lt_of_le hl with e|e
 .have:(rows.take hi).drop l=[]:=List.length_eq_zero_iff.1 (by omega);rw[this,show hi - l=0 by omega];have:(if cap=l then some (⟨b,o,none⟩:Addr)else(some (⟨b,o,none⟩:Addr)).map fun a=>a.add (l*s))=some (if cap=l then⟨b,o,none⟩ else(⟨b,o,none⟩:Addr).add (l*s)):=by split<;>rfl
  rw[this];exact CRel.emp s _ _
 rw[N6 (by omega),<-hlen];simp only[Option.map_some,QI]
 have hg:∀i j d,XV ((rows.take hi).drop l) i j=some d->XV rows (l+i) j=some d:=by
  intro i j d hd;unfold XV at hd⊢;rw[No,Nv]at hd;split at hd
  .exact hd
  cases hd
 refine CRel.sl s _ b _ _ (fun i j=>cells (l+i) j) hF (by omega) (by omega) (fun r hr=>hs r (Dd (D8 hr))) ?_ (fun i j d hd=>h1 _ _ d (hg i j d hd)) fun i j d hd=>hr _ _ d (hg i j d hd);intro i j d hd;rw[<-hc (l+i) j d (hg i j d hd)];congr 2;rw[NJ];omega
theorem X3u {Y:Operand->Value} {g:Operand->RV} {o:Oper} {r:RV} {ob:Option Ob} (hg:∀x,X9 F T w (g x) (Y x)) (h:evN P g o.op=some (r,ob)):
  ob=none/\∃v,(execOp Y o).run P w=.ok (.value v) w/\X9 F T w r v:=by
 unfold execOp;generalize o.op=op at*;cases op<;>simp only[evN]at h
 case move x=>cases h;exact⟨rfl,_,rfl,hg x⟩
 case assign x=>cases h;exact⟨rfl,_,rfl,hg x⟩
 case pick c a b=>
  split at h
  .rename_i t hc;have ec:=X9.lit_eq hc (hg c);split at h
   .rename_i fa x fb y hx hy;split at h
    .rename_i hf;cases h;refine⟨rfl,.bool (X5z t x y),?_,X9.mkLit _⟩;cases t with
     | true=>
       have ex:=X9.litG_eq hx (by simpa[X0T]using hf) (hg a);simp only[ec,ex,X4s];simp[asBool]
     | false=>
       have ey:=X9.litG_eq hy (by simpa[X0T]using hf) (hg b);simp only[ec,ey,X3G];simp[asBool]
    cases h
   cases h;refine⟨rfl,if t=true then Y a else Y b,?_,?_⟩
   .simp only[ec];cases t<;>simp[asBool]
   cases t
   .exact hg b
   exact hg a
  cases h
 case fieldAddr s x f=>
  split at h
  .rename_i off t hf;split at h
   .rename_i ti hti;split at h
    .rename_i hpos;obtain⟨fs,fd,hu,hfd,rfl,rfl⟩:=X24 hf;obtain⟨i,d,z,hi,hd,hz,h1,h2,h3,h4,h5⟩:=XD hti;have hne:¬i.size=0:=by omega
     have hx:=hg x;split at h
     .rename_i n o' hgx;cases h;rw[hgx]at hx;obtain⟨b,hb,hv⟩:=hx;refine⟨rfl,.pointer (some ⟨b,o'+fd.offset,none⟩),?_,⟨b,hb,rfl⟩⟩;simp[hv,WK hu hfd hi hne]
     .rename_i n s' i' o' hgx;cases h;rw[hgx]at hx;obtain⟨b,oo,len,cap,hb,hv⟩:=hx;refine⟨rfl,.pointer (some ⟨b,oo+(i'*s'+(o'+fd.offset)),none⟩),?_,⟨b,oo,len,cap,hb,rfl⟩⟩;simp[hv,WK hu hfd hi hne,Df]
     .rename_i n s' i' j' o' hgx;cases h;rw[hgx]at hx;obtain⟨vs,b,oo,len,cap,hvs,hb,hv⟩:=hx;refine⟨rfl,.pointer (some ⟨b,oo+(j'*s'+(o'+fd.offset)),none⟩),?_,⟨vs,b,oo,len,cap,hvs,hb,rfl⟩⟩;simp[hv,WK hu hfd hi hne,Df]
     .rename_i cs hgx;cases h;rw[hgx]at hx;obtain⟨b,o',cells,hv,hF,hc,h1',hr⟩:=CRel.ptr_inv (show CRel F w (.ptr cs) (Y x) from hx);refine⟨rfl,.pointer (some ⟨b,o'+fd.offset,none⟩),?_,?_⟩
      .simp[hv,WK hu hfd hi hne]
      refine CRel.ptr _ b _ (fun j=>cells (fd.offset+j)) hF ?_ ?_ ?_
      .intro j d hj;rw[No]at hj;rw[Df];exact hc _ d hj
      .intro j d hj;rw[No]at hj;exact h1' _ d hj
      intro j d hj;rw[No]at hj;exact hr _ d hj
     cases h
    cases h
   cases h
  cases h
 case field t x f=>
  split at h
  .rename_i off t' hf;split at h
   .rename_i ti xs hti hgx;simp only[N8]at h;obtain⟨r',hr',he⟩:=h;cases he;obtain⟨fs,fd,hu,hfd,rfl,rfl⟩:=X24 hf;have hx:=hg x;rw[hgx]at hx;obtain⟨vs,hv,hc⟩:=hx;obtain⟨v,hrun,hrel⟩:=X2o hti hc hr';refine⟨rfl,v,?_,hrel⟩
    have hlt:f<fs.size:=by
     rcases Nat.lt_or_ge f fs.size with h|h
     .exact h
     simp[Array.getElem?_eq_none h]at hfd
    have hfd':fs[f]=fd:=by simpa[hlt]using hfd
    simp[hv,Instr.field,run_underlying hu,hlt,hfd',asAgg,hrun]
   cases h
  cases h
 case slice t x low high m=>
  cases m with
  |some m=>cases h
  |none=>
  simp only at h;have hx:=hg x;split at h
  .rename_i s rows hgx;rw[hgx]at hx;split at h
   .rename_i e he;split at h
    .rename_i ti hti;split at h
     .rename_i hsz;subst hsz;split at h
      .rename_i l hi h1 h2;split at h
       .rename_i hc;cases h;obtain⟨a,cap,hv,hcap,hrel⟩:=CRel.cut (show CRel F w (.sl ti.size rows) (Y x) from hx) hc.1 hc.2;have hu:=Qq he;obtain⟨i,d,z,hi',hd,hz,e1,e2,e3,e4,e5⟩:=XD hti;have hb:=Wv (P:=P) (w:=w) (b:=true) hg h1 h2 hc.1 hc.2 hcap;refine⟨rfl,_,?_,hrel⟩;simp[hv,Instr.sliceAt,Instr.slice,run_underlying hu,hb,XC hi',e1]
       cases h
      cases h
     cases h
    cases h
   cases h
  .rename_i b hgx;rw[hgx]at hx;split at h
   .rename_i hs;split at h
    .rename_i l hi h1 h2;split at h
     .rename_i hc;cases h;have hv:Y x=.string b:=X9.lit_eq (T:=T) (w:=w) (F:=F) (r:=lit (.string b)) rfl hx;have hu:=X1u hs;have hb:=Wv (P:=P) (w:=w) (b:=false) hg h1 h2 hc.1 hc.2 (ND _);refine⟨rfl,.string (b.extract l hi),?_,X9.mkLit _⟩;simp[hv,Instr.sliceAt,Instr.slice,run_underlying hu,hb]
     cases h
    cases h
   cases h
  cases h
 case extract x i=>
  split at h
  .rename_i ts hgx;simp only[N8]at h;obtain⟨t,ht,he⟩:=h;cases he;have hx:=hg x;rw[hgx]at hx;obtain⟨vs,hv,hs,hc⟩:=hx;have hlt:i<vs.size:=by rw[hs];exact(N5.1 ht).1
   refine⟨rfl,vs[i],?_,hc i t _ ht (by simp[hlt])⟩;simp[hv,Instr.extract,hlt]
  cases h
 case nilCheck x=>
  split at h
  .rename_i hp;cases h;refine⟨rfl,Y x,?_,hg x⟩;obtain⟨a,ha⟩:=Zy hp (hg x);simp[ha]
  cases h
 case makeFunc fn first captured=>
  split at h
  .rename_i f hf0
   have hf:first= #[]:=by
    obtain⟨l⟩:=first
    simp only at hf0;subst hf0;rfl
   subst hf;split at h
   .rename_i cs hcs;cases h;obtain⟨h1,h2⟩:=X2z hg _ _ hcs;refine⟨rfl,.func (.func f) #[] (captured.map Y),by simp[Instr.makeFunc],captured.toList.map Y,by rw[<-Array.toList_map],by simpa using h1,fun j p u hp hu=>?_⟩;rw[Nf]at hu;simp only[N8]at hu;obtain⟨x,hx,rfl⟩:=hu;exact h2 j p x hp hx
   simp only[N8]at h;obtain⟨cs,hcs,he⟩:=h;cases he;obtain⟨h1,h2⟩:=X1B hg _ _ hcs;refine⟨rfl,.func (.func f) #[] (captured.map Y),by simp[Instr.makeFunc],?_⟩
   have:=CRel.fn (F:=F) (w:=w) f cs (captured.toList.map Y) (by simpa using h1) fun j d u hd hu=>by
    rw[Nf]at hu;simp only[N8]at hu;obtain⟨x,hx,rfl⟩:=hu;exact h2 j d x hd hx
   rw[<-Array.toList_map]at this;exact this
  cases h
 case index t x i=>
  split at h
  .rename_i xs hgx;split at h
   .rename_i k n len e hi har;split at h
    .rename_i ti hti;split at h
     .rename_i hn;simp only[N8]at h;obtain⟨r',hr',he⟩:=h;cases he;have hx:=hg x;rw[hgx]at hx;obtain⟨vs,hv,hc⟩:=hx;obtain⟨v,hrun,hrel⟩:=X2o hti hc hr';have ei:=X9.lit_eq hi (hg i);have hu:=X4h har;obtain⟨inf,d,z,hinf,hd,hz,h1,h2,h3,h4,h5⟩:=XD hti;refine⟨rfl,v,?_,hrel⟩;rw[<-h1]at hrun;simp[hv,ei,Instr.index,asIntOf,run_underlying hu,hn,XC hinf,hrun]
     cases h
    cases h
   cases h
  split at h
  .rename_i sb k n hx hi;split at h
   .rename_i hc;split at h
    .rename_i b hb;cases h;have ex:=X9.lit_eq hx (hg x);have ei:=X9.lit_eq hi (hg i);refine⟨rfl,.int .u8 b.toNat,?_,X9.mkLit _⟩;simp[ex,ei,Instr.index,asIntOf,run_underlying (X1u hc.1),hc.2,hb]
    cases h
   cases h
  cases h
 case binOp op t x y t'=>
  have fin:∀{a b v},Y x=a->Y y=b->(do eqGuard op t x y a b;binOp op t a b:Sem Value).run P w=.ok v w->
    (do let v<-(do eqGuard op t x y (Y x) (Y y);binOp op t (Y x) (Y y):Sem Value);pure (Next.value v):Sem Next).run P w=.ok (.value v) w:=by
   intro a b v ea eb hr;rw[ea,eb,Sem.run_bind,hr];rfl
  have bin:∀{a b},W9 (g x)=some a->W9 (g y)=some b->(X5V (X4d P t) op a b).map (fun v=>(lit v,none))=some (r,ob)->ob=none/\∃v,(execOp Y {o with op:=.binOp op t x y t'}).run P w=.ok (.value v) w/\X9 F T w r v:=by
   intro a b ha hb h;simp only[N8]at h;obtain⟨v,hv,he⟩:=h;cases he;exact⟨rfl,v,fin (X9.lit_eq ha (hg x)) (X9.lit_eq hb (hg y)) (X7W (P:=P) (w:=w) t hv x y),X9.mkLit _⟩
  split at h
  .rename_i a b ha hb;split at h
   .rename_i hs;simp only[N8]at h;obtain⟨v,hv,he⟩:=h;cases he;refine⟨rfl,v,fin (X9.lit_eq ha (hg x)) (X9.lit_eq hb (hg y)) ?_,X9.mkLit _⟩;have hu:=X1u hs;by_cases hadd:op=.add
    .subst hadd;simp only[X7T]at hv;split at hv
     .rename_i hcat;cases hv;have hcat:=of_decide_eq_true hcat;simp[eqGuard,binOp,Op.stringOp,IntKind.max,IntKind.bits,IntKind.signed];omega
     cases hv
    cases op<;>first|exact absurd rfl hadd|(simp[X7T]at hv;done)|(simp[X7T]at hv;subst hv;simp[eqGuard,binOp,Op.stringOp];by_cases hab:a=b<;>simp[hab,X8q])
   cases h
  .rename_i ha hb;exact bin ha hb h
  .rename_i ha hb;exact bin ha hb h
  split at h
  .rename_i hp;simp only[N8]at h;obtain⟨b,hb,he⟩:=h;cases he;refine⟨rfl,.bool b,fin rfl rfl ?_,X9.mkLit _⟩;obtain⟨e,hu⟩:=Xbf hp
   have key:∀a c:Option Addr,Y x=.pointer a->Y y=.pointer c->(a=none\/c=none)->(∀q,op=.eql\/op=.neq->q=(if op=.eql then(a.isNone&&c.isNone)else !(a.isNone&&c.isNone))->
     (do eqGuard op t x y (Y x) (Y y);binOp op t (Y x) (Y y):Sem Value).run P w=.ok (.bool q) w):=by
    intro a c ha hc hac q hop hq;rw[ha,hc,hq];rcases hop with rfl|rfl<;>cases a<;>cases c<;>simp[eqGuard,binOp,Xak hu]<;>simp at hac
   unfold evNil at hb
   have nn:∀{z},ZK (g z)=true->Y z=.pointer none:=by
    intro z hz;unfold ZK at hz;split at hz
    .rename_i hgz;have:=hg z;rw[hgz]at this;exact X9.lit_eq rfl this
    cases hz
   split at hb
   .split at hb
    .rename_i hc;simp only[N4]at hc;cases hb;exact key none none (nn hc.1) (nn hc.2) (.inl rfl) true (.inl rfl) (by simp)
    split at hb
    .rename_i hc;cases hb;simp only[Ng,N4]at hc;rcases hc with⟨h1,h2⟩|⟨h1,h2⟩
     .obtain⟨a,ha⟩:=Zy h2 (hg y);exact key none (some a) (nn h1) ha (.inl rfl) false (.inl rfl) (by simp)
     obtain⟨a,ha⟩:=Zy h1 (hg x);exact key (some a) none ha (nn h2) (.inr rfl) false (.inl rfl) (by simp)
    cases hb
   .split at hb
    .rename_i hc;simp only[N4]at hc;cases hb;exact key none none (nn hc.1) (nn hc.2) (.inl rfl) false (.inr rfl) (by simp)
    split at hb
    .rename_i hc;cases hb;simp only[Ng,N4]at hc;rcases hc with⟨h1,h2⟩|⟨h1,h2⟩
     .obtain⟨a,ha⟩:=Zy h2 (hg y);exact key none (some a) (nn h1) ha (.inl rfl) true (.inr rfl) (by simp)
     obtain⟨a,ha⟩:=Zy h1 (hg x);exact key (some a) none ha (nn h2) (.inr rfl) true (.inr rfl) (by simp)
    cases hb
   cases hb
  split at h
  .rename_i hsl;simp only[N8]at h;obtain⟨b,hb,he⟩:=h;cases he;exact⟨rfl,.bool b,fin rfl rfl (X6C hsl (hg x) (hg y) hb),X9.mkLit _⟩
  simp only[N8]at h;obtain⟨b,hb,he⟩:=h;cases he;exact⟨rfl,.bool b,fin rfl rfl (X7x (hg x) (hg y) hb),X9.mkLit _⟩
 case unOp op t x=>
  split at h
  .rename_i a ha;simp only[N8]at h;obtain⟨v,hv,he⟩:=h;cases he;have ea:=X9.lit_eq ha (hg x);refine⟨rfl,v,?_,X9.mkLit _⟩;simp only[ea];cases op<;>cases a<;>simp[evUn]at hv<;>subst hv<;>simp[Op.unary,Op.intArith]
  cases h
 case build t parts=>
  split at h
  .rename_i ti hti;split at h
   .rename_i hcond;split at h
    .rename_i cs hcs;cases h;obtain⟨v,hrun,hr⟩:=X7g hti hg hcond.1 hcond.2 hcs;refine⟨rfl,v,?_,hr⟩;show(do let v<-Instr.build t (parts.map fun(x:Nat×Operand)=>(x.1,Y x.2));pure (Next.value v):Sem Next).run P w=_;rw[Sem.run_bind,hrun];rfl
    cases h
   cases h
  cases h
 case call c=>
  obtain⟨callee,args,ts⟩:=c;cases callee with
  |value f=>simp[evN]at h
  |invoke f m=>simp[evN]at h
  | builtin b=>
    cases b<;>simp only[evN]at h<;>try cases h
    .split at h
     .rename_i x y hxy;split at h
      .rename_i k a k' b hx hy;split at h
       .rename_i hk;subst hk;cases h;have ex:=X9.lit_eq hx (hg x);have ey:=X9.lit_eq hy (hg y);refine⟨rfl,_,?_,X9.mkLit _⟩;simp[resolve,invoke,builtin,Builtin.max_,Builtin.max2,hxy,ex,ey]
       cases h
      cases h
     cases h
    split at h
    .rename_i x y hxy;split at h
     .rename_i k a k' b hx hy;split at h
      .rename_i hk;subst hk;cases h;have ex:=X9.lit_eq hx (hg x);have ey:=X9.lit_eq hy (hg y);refine⟨rfl,_,?_,X9.mkLit _⟩;simp[resolve,invoke,builtin,Builtin.min_,Builtin.min2,hxy,ex,ey]
      cases h
     cases h
    cases h
 all_goals cases h
end
end Go.Hl
