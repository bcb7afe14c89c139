/- HmA: part of an evaluator of Go code over abstract states, proved sound over the model; used by the proof of the claimed statement. Conditions: none. -/
import Derived.Below
import Derived.Laws.OwnMore
import Derived.Laws.Rows
import Derived.Still
import Derived.Deep.Draws
import Derived.Laws.Strings
set_option linter.unusedSimpArgs false
set_option linter.unusedVariables false
namespace Go.Hl
open Go Go.RowKit
inductive CD where
 |lit (v:Value)
 |sl (s:Nat) (rows:List (List CD))
 |ptr (cs:List CD)
 |mp (l:List (Value×CD))
 |fn (f:FuncId) (caps:List CD)
def XG {α:Type} (rows:List (List α)) (i j:Nat):Option α:=rows[i]?.bind (·[j]?)
def Zr (es:Array MapEntry) (clock:Nat):Prop:=es.toList.Pairwise (fun a b=>a.born<b.born)∧∀e∈es.toList,e.born<clock
theorem Zr.nil (c:Nat):Zr #[] c:=⟨by simp,by simp⟩
theorem Zr.push {es:Array MapEntry} {clock:Nat} (h:Zr es clock) (k v:Value):Zr (es.push {key:=k,val:=v,born:=clock}) (clock+1):=by
 obtain⟨h1,h2⟩:=h;refine⟨?_,fun e he=>?_⟩
 · rw[Array.toList_push];refine List.pairwise_append.2 ⟨h1,List.pairwise_singleton ..,fun a ha b hb=>?_⟩;rw[List.mem_singleton.1 hb];exact h2 a ha
 rw[Array.toList_push,List.mem_append]at he;rcases he with he|he
 · exact Nat.lt_succ_of_lt (h2 e he)
 rw[List.mem_singleton.1 he];exact Nat.lt_succ_self _
theorem Zr.modify {es:Array MapEntry} {clock:Nat} (h:Zr es clock) (i:Nat) (f:MapEntry→MapEntry) (hf:∀e,(f e).born=e.born):Zr (es.modify i f) clock:=by
 have e:(es.modify i f).toList.map (·.born)=es.toList.map (·.born):=by
  apply List.ext_getElem?;intro j;simp only[List.getElem?_map,Array.getElem?_toList,Array.getElem?_modify];split
  · cases es[j]? <;>simp[hf]
  rfl
 obtain⟨h1,h2⟩:=h;have h1':(es.toList.map (·.born)).Pairwise (· < ·):=List.pairwise_map.2 h1;rw[←e]at h1';refine⟨List.pairwise_map.1 h1',fun x hx=>?_⟩;have:x.born∈es.toList.map (·.born):=by rw[←e];exact List.mem_map.2 ⟨x,hx,rfl⟩
 obtain⟨y,hy,hyx⟩:=List.mem_map.1 this;rw[←hyx];exact h2 y hy
inductive CRel (F:Nat→Prop) (w:World):CD→Value→Prop where
 |lit (v:Value):CRel F w (.lit v) v
 |nil (s:Nat):CRel F w (.sl s []) (.slice none 0 0)
 |emp (s:Nat) (a:Addr) (cap:Nat):CRel F w (.sl s []) (.slice (some a) 0 cap)
 | sl (s:Nat) (rows:List (List CD)) (b o cap:Nat) (cells:Nat→Nat→Value) (hF:F b) (hcap:rows.length≤cap) (hmax:cap≤maxLen)
   (hs:∀r∈rows,r.length=s)
   (hc:∀i j d,XG rows i j=some d→w.cell? ⟨b,o+(i*s+j),none⟩=some (cells i j))
   (h1:∀i j d,XG rows i j=some d→(cells i j).oneCell'=true)
   (hr:∀i j d,XG rows i j=some d→CRel F w d (cells i j)):CRel F w (.sl s rows) (.slice (some ⟨b,o,none⟩) rows.length cap)
 | ptr (cs:List CD) (b o:Nat) (cells:Nat→Value) (hF:F b)
   (hc:∀j d,cs[j]? =some d→w.cell? ⟨b,o+j,none⟩=some (cells j))
   (h1:∀j d,cs[j]? =some d→(cells j).oneCell'=true)
   (hr:∀j d,cs[j]? =some d→CRel F w d (cells j)):CRel F w (.ptr cs) (.pointer (some ⟨b,o,none⟩))
 |mnil:CRel F w (.mp []) (.map none)
 | mp (l:List (Value×CD)) (b:Nat) (es:Array MapEntry) (clock:Nat) (hF:F b) (hb:w.heap[b]? =some (.map es clock))
   (hk:es.toList.map (·.key)=l.map (·.1)) (hn:Zr es clock) (hr:∀(j:Nat) k d e,l[j]? =some (k,d)→es[j]? =some e→CRel F w d e.val):CRel F w (.mp l) (.map (some b))
 | fn (f:FuncId) (caps:List CD) (vs:List Value) (hl:vs.length=caps.length) (hr:∀(j:Nat) d u,caps[j]? =some d→vs[j]? =some u→CRel F w d u):
   CRel F w (.fn f caps) (.func (.func f) #[] vs.toArray)
inductive CV where
 |any
 |c (d:CD)
 |own (n:Nat)
 |at_ (n off:Nat)
 |el (n s i off:Nat)
 |sub (n i:Nat)
 |el2 (n s i j off:Nat)
 |fn (f:FuncId) (caps:List (Nat×Nat))
 |gd (b:Bool) (x:CV)
inductive TV where
 |one (x:CV)
 |agg (xs:List CV)
inductive RV where
 |v (t:TV)
 |tup (ts:List TV)
inductive Ob where
 |box (cs:List CV)
 |row (e:TypeId) (s:Nat) (rows:List (List CD))
 |mp (l:List (Value×CD))
 |mat (e e':TypeId) (s:Nat) (rows:List (Option (List (List CD))))
 |refs (e:TypeId) (xs:List Nat)
 |mps (e:TypeId) (ms:List (Option (List (Value×CD))))
 |it (l:List (Value×CD)) (seen:List Nat)
structure Kept (B:Nat→Prop) (w w':World):Prop where
 os:w'.os=w.os
 tape:w'.tape=w.tape
 output:w'.output=w.output
 size:w.heap.size≤w'.heap.size
 block:∀k,B k→w'.heap[k]? =w.heap[k]?
theorem Kept.refl (B:Nat→Prop) (w:World):Kept B w w:=⟨rfl,rfl,rfl,Nat.le_refl _,fun _ _=>rfl⟩
theorem Kept.trans {B:Nat→Prop} {a b c:World} (h:Kept B a b) (k:Kept B b c):Kept B a c:=
 ⟨k.os.trans h.os,k.tape.trans h.tape,k.output.trans h.output,Nat.le_trans h.size k.size,fun i hi=>(k.block i hi).trans (h.block i hi)⟩
theorem Kept.drew {B:Nat→Prop} {a w:World} (h:Kept B a w):Kept B a w.drew:=⟨h.os,h.tape,h.output,h.size,h.block⟩
theorem Kept.of_below {B:Nat→Prop} {n:Nat} {w w':World} (h:Below n w w') (hB:∀b,B b→b<n):Kept B w w':=⟨h.os,h.tape,h.output,h.size,fun k hk=>h.block k (hB k hk)⟩
theorem Kept.below {n:Nat} {w w':World} (h:Kept (fun b=>b<n) w w'):Below n w w':=⟨h.os,h.tape,h.output,h.size,h.block⟩
theorem Kept.alloc {B:Nat→Prop} {a w:World} (h:Kept B a w) (hB:∀b,B b→b<w.heap.size) (o:Obj):Kept B a (w.alloc o):=
 h.trans ⟨rfl,rfl,rfl,by simp,fun k hk=>Below.heap_alloc _ _ _ (hB k hk)⟩
theorem Kept.grown {B:Nat→Prop} {a w w':World} {row:Option Nat} (h:Kept B a w) (hg:w.grownBy w' row) (hB:∀b,B b→b<w.heap.size) (hr:∀k,row=some k→¬B k):Kept B a w':=
 h.trans ⟨hg.os,hg.tape,hg.output,hg.size,fun k hk=>hg.block k (hB k hk) fun e=>hr k e.symm hk⟩
def Qy (w:World) (B:Nat→Prop) (e:TypeId) (size:Nat) (v:Value) (n:Nat) (xs:List Value):Prop:=
 xs.length=n*size∧
 ((v=.slice none 0 0∧n=0)∨
  ∃g o cap cur,v=.slice (some ⟨g,o,none⟩) n cap∧¬B g∧w.heap[g]? =some (.cells cur e (0,0))∧n≤cap∧cap≤maxLen∧o+cap*size≤cur.size∧(cur.toList.drop o).take (n*size)=xs)
theorem Qy.of_row {w:World} {B:Nat→Prop} {e:TypeId} {size:Nat} {v:Value} {n:Nat} {xs:List Value} (h:w.ownsRow 0 e size v n xs) (hB:∀b,v.ownBlock=some b→¬B b):Qy w B e size v n xs:=by
 refine⟨h.1,h.2.imp id ?_⟩;rintro⟨g,cap,cur,rfl,_,h1,h2,h3,h4,h5⟩;exact⟨g,0,cap,cur,rfl,hB g rfl,h1,h2,h3,by rw[h4];omega,h5⟩
theorem Qy.nil (w:World) (B:Nat→Prop) (e:TypeId) (size:Nat):Qy w B e size (.slice none 0 0) 0 []:=⟨by simp,.inl ⟨rfl,rfl⟩⟩
theorem Qy.cells {w:World} {B:Nat→Prop} {e:TypeId} {size:Nat} {n' n cap g o:Nat} {xs:List Value} (h:Qy w B e size (.slice (some ⟨g,o,none⟩) n' cap) n xs):∀j u,xs[j]? =some u→w.cell? ((⟨g,o,none⟩:Addr).add j)=some u:=by
 intro j u hu;rcases h.2 with⟨h,_⟩|⟨g',o',cap',cur,hv,_,hg,hn,_,hs,ht⟩
 · cases h
 cases hv;have hj:j<n'*size:=by rw[←h.1];exact(List.getElem?_eq_some_iff.1 hu).1
 rw[←ht,List.getElem?_take,if_pos hj,List.getElem?_drop,Array.getElem?_toList]at hu;rw[Addr.add_lit];simpa[World.cell?,hg]using hu
def blk:Value→Option Nat
 | .pointer (some a)=>some a.block
 | .slice (some a) _ _=>some a.block
 | .map (some b)=>some b
 |_=>none
def Blk:Value→Nat→Prop
 | .agg vs,b=>∃v∈vs.toList,blk v=some b
 |v,b=>blk v=some b
def hd:Value→Value
 | .agg vs=>vs.getD 0 undef
 |v=>v
def XW:Value:=.slice none 0 0
def Xn (F:Nat→Prop) (γ:Nat→Value) (w:World):CV→Value→Prop
 | .any,_=>True
 | .c d,v=>CRel F w d v
 | .own n,v=>v=hd (γ n)∧v.oneCell'=true
 | .at_ n off,v=>∃b,γ n=.pointer (some ⟨b,0,none⟩)∧v=.pointer (some ⟨b,off,none⟩)
 | .el n s i off,v=>∃b o len cap,hd (γ n)=.slice (some ⟨b,o,none⟩) len cap∧v=.pointer (some ⟨b,o+(i*s+off),none⟩)
 | .sub n i,v=>∃vs,γ n=.agg vs∧vs[i+1]? =some v∧v.oneCell'=true∧v≠undef
 | .el2 n s i j off,v=>∃vs b o len cap,γ n=.agg vs∧vs[i+1]? =some (.slice (some ⟨b,o,none⟩) len cap)∧v=.pointer (some ⟨b,o+(j*s+off),none⟩)
 | .fn f caps,v=>∃vs:List Value,v=.func (.func f) #[] vs.toArray∧vs.length=caps.length∧
   ∀(j:Nat) (p:Nat×Nat) u,caps[j]? =some p→vs[j]? =some u→∃b,γ p.1=.pointer (some ⟨b,0,none⟩)∧u=.pointer (some ⟨b,p.2,none⟩)
 | .gd b x,v=>(b=true→Xn F γ w x v)∧(b=false→v=undef)
def Xk (F:Nat→Prop) (γ:Nat→Value) (w:World) (xs:List CV) (vs:Array Value):Prop:=
 vs.size=xs.length∧∀(j:Nat) x u,xs[j]? =some x→vs[j]? =some u→Xn F γ w x u
def XD (F:Nat→Prop) (γ:Nat→Value) (w:World):TV→Value→Prop
 | .one x,v=>Xn F γ w x v
 | .agg xs,v=>∃vs,v=.agg vs∧Xk F γ w xs vs
def X9 (F:Nat→Prop) (γ:Nat→Value) (w:World):RV→Value→Prop
 | .v t,v=>XD F γ w t v
 | .tup ts,v=>∃vs:Array Value,v=.tuple vs∧vs.size=ts.length∧∀(j:Nat) t u,ts[j]? =some t→vs[j]? =some u→XD F γ w t u
def Xr (F:Nat→Prop) (w:World) (B:Nat→Prop) (e:TypeId) (s:Nat) (x:Value) (rows:List (List CD)):Prop:=
 0 <s∧(∀r∈rows,r.length=s)∧∃xs,Qy w B e s x rows.length xs∧(∀u∈xs,u.oneCell'=true)∧
   ∀i j d,XG rows i j=some d→∃u,xs[i*s+j]? =some u∧CRel F w d u
def InRel (F:Nat→Prop) (w:World) (B:Nat→Prop) (e:TypeId) (s:Nat) (x:Value):Option (List (List CD))→Prop
 |none=>x=undef
 |some rows=>Xr F w B e s x rows
def ZV (v:Value):Option (List (List CD))→Value
 |none=>XW
 |some _=>v
def X1h (F:Nat→Prop) (w:World) (B:Nat→Prop) (x:Value) (l:List (Value×CD)):Prop:=
 ∃b es clock,x=.map (some b)∧¬B b∧w.heap[b]? =some (.map es clock)∧es.toList.map (·.key)=l.map (·.1)∧Zr es clock∧
  ∀(j:Nat) k d e,l[j]? =some (k,d)→es[j]? =some e→CRel F w d e.val
def InMp (F:Nat→Prop) (w:World) (B:Nat→Prop) (x:Value):Option (List (Value×CD))→Prop
 |none=>x=undef
 |some l=>X1h F w B x l
def X0s (v:Value):Option (List (Value×CD))→Value
 |none=>.map none
 |some _=>v
def ItRel (F:Nat→Prop) (w:World) (b:Nat) (l:List (Value×CD)) (seen:List Nat):Prop:=
 (l=[]∧w.heap[b]? =some (.mapIter none 0 #[] 0))∨
 ∃m es clock sn,w.heap[b]? =some (.mapIter (some m) clock sn clock)∧F m∧w.heap[m]? =some (.map es clock)∧es.toList.map (·.key)=l.map (·.1)∧Zr es clock∧
  (∀(j:Nat) k d e,l[j]? =some (k,d)→es[j]? =some e→CRel F w d e.val)∧sn.toList=seen.filterMap fun j=>(es[j]?).map (·.born)
def XT (F:Nat→Prop) (γ:Nat→Value) (w:World) (B:Nat→Prop) (x:Value):Ob→Prop
 | .box cs=>∃b e vs,x=.pointer (some ⟨b,0,none⟩)∧¬B b∧w.heap[b]? =some (.cells vs e (0,0))∧Xk F γ w cs vs
 | .row e s rows=>Xr F w B e s x rows
 | .mp l=>∃b es clock,x=.map (some b)∧¬B b∧w.heap[b]? =some (.map es clock)∧es.toList.map (·.key)=l.map (·.1)∧Zr es clock∧
   ∀(j:Nat) k d e,l[j]? =some (k,d)→es[j]? =some e→CRel F w d e.val
 | .mat e e' s rows=>∃(o:Value) (is:List Value),x=.agg (o::is).toArray∧0<s∧is.length=rows.length∧
   (∃xs,Qy w B e 1 o rows.length xs∧∀(i:Nat) v r,is[i]? =some v→rows[i]? =some r→xs[i]? =some (ZV v r))∧
   (∀(i:Nat) v r,is[i]? =some v→rows[i]? =some r→InRel F w B e' s v r)∧
   (∀(i:Nat) v b,is[i]? =some v→blk v=some b→blk o≠some b)∧
   ∀(i j:Nat) u v b,is[i]? =some u→is[j]? =some v→i≠j→blk u=some b→blk v≠some b
 | .mps e ms=>∃(o:Value) (is:List Value),x=.agg (o::is).toArray∧is.length=ms.length∧
   (∃xs,Qy w B e 1 o ms.length xs∧∀(i:Nat) v r,is[i]? =some v→ms[i]? =some r→xs[i]? =some (X0s v r))∧
   (∀(i:Nat) v r,is[i]? =some v→ms[i]? =some r→InMp F w B v r)∧
   (∀(i:Nat) v b,is[i]? =some v→blk v=some b→blk o≠some b)∧
   ∀(i j:Nat) u v b,is[i]? =some u→is[j]? =some v→i≠j→blk u=some b→blk v≠some b
 | .it l seen=>∃b,x=.pointer (some ⟨b,0,none⟩)∧¬B b∧ItRel F w b l seen
 | .refs e ns=>∃b,x=.slice (some ⟨b,0,none⟩) ns.length ns.length∧¬B b∧w.heap[b]? =some (.cells (ns.map fun n=>hd (γ n)).toArray e (0,0))
def lkp {α:Type}:List (Nat×α)→Nat→Option α
 |[],_=>none
 |(k,x)::l,n=>if k=n then some x else lkp l n
def ins {α:Type} (n:Nat) (x:α):List (Nat×α)→List (Nat×α)
 |[]=>[(n,x)]
 |(k,y)::l=>if n<k then(n,x)::(k,y)::l else if n=k then(n,x)::l else(k,y)::ins n x l
def del {α:Type} (n:Nat):List (Nat×α)→List (Nat×α)
 |[]=>[]
 |(k,y)::l=>if k=n then del n l else(k,y)::del n l
structure NT where
 n:Nat
 pv:Option Value
instance (k:Nat):OfNat NT k:=⟨⟨k,none⟩⟩
instance:Coe Nat NT:=⟨fun k=>⟨k,none⟩⟩
structure HS where
 nt:NT
 regs:List (Nat×RV)
 objs:List (Nat×Ob)
structure HeapRel (w0:World) (B:Nat→Prop) (π:Nat→Option Value) (F:Nat→Prop) (γ:Nat→Value) (objs:List (Nat×Ob)) (w:World):Prop where
 below:Kept B w0 w
 hB:∀b,B b→b<w.heap.size
 fsz:∀b,F b→b<w.heap.size
 ob:∀n o,lkp objs n=some o→XT F γ w B (γ n) o
 apart:∀n o,lkp objs n=some o→∀b,Blk (γ n) b→¬F b
 sep:∀n m on om,lkp objs n=some on→lkp objs m=some om→n≠m→∀b,Blk (γ n) b→¬Blk (γ m) b
 pin:∀n v,π n=some v→1000000≤n∧γ n=v
structure Rel (w0:World) (B:Nat→Prop) (π:Nat→Option Value) (F:Nat→Prop) (γ:Nat→Value) (s:HS) (a:Act) (w:World):Prop where
 heap:HeapRel w0 B π F γ s.objs w
 defers:a.defers=[]
 nt:a.tmps.size=s.nt.n∧∀v,s.nt.pv=some v→π 1000000=some v
 regs:∀k r,lkp s.regs k=some r→X9 F γ w r (a.tmps.getD k undef)
section
variable {α:Type}
theorem X2n (n:Nat) (x:α):∀l,lkp (ins n x l) n=some x
 |[]=>by simp[ins,lkp]
 | (k,y)::l=>by
   unfold ins;split
   · simp[lkp]
   split
   · simp[lkp]
   rename_i h1 h2;simp only[lkp,if_neg (Ne.symm h2)];exact X2n n x l
theorem Xw {n m:Nat} (h:m≠n) (x:α):∀l,lkp (ins n x l) m=lkp l m
 |[]=>by simp[ins,lkp,Ne.symm h]
 | (k,y)::l=>by
   unfold ins;split
   · simp[lkp,Ne.symm h]
   split
   · rename_i h1 h2;simp[lkp,←h2,Ne.symm h]
   simp only[lkp];split
   · rfl
   exact Xw h x l
theorem XL (n m:Nat) (x:α) (l:List (Nat×α)):lkp (ins n x l) m=if m=n then some x else lkp l m:=by
 by_cases h:m=n
 · subst h;simp[X2n]
 simp[h,Xw h]
theorem X01 (n m:Nat):∀l:List (Nat×α),lkp (del n l) m=if m=n then none else lkp l m
 |[]=>by simp[del,lkp]
 | (k,y)::l=>by
   unfold del;split
   · rename_i h;subst h;rw[X01];by_cases hm:m=k
     · simp[hm]
     simp[hm,lkp,Ne.symm hm]
   rename_i h;simp only[lkp];split
   · rename_i h2;subst h2;simp[h]
   exact X01 n m l
theorem WM {n k:Nat} (h:n<k) (x y:α) (l:List (Nat×α)):ins n x ((k,y)::l)=(n,x)::(k,y)::l:=by simp[ins,h]
theorem X0q (n:Nat) (x y:α) (l:List (Nat×α)):ins n x ((n,y)::l)=(n,x)::l:=by simp[ins]
theorem W9 {n k:Nat} (h:k<n) (x y:α) (l:List (Nat×α)):ins n x ((k,y)::l)=(k,y)::ins n x l:=by
 simp[ins,Nat.lt_asymm h,Nat.ne_of_gt h]
theorem W2 {n m:Nat} (h:n≠m) (x y:α):∀l,ins n x (ins m y l)=ins m y (ins n x l)
 | []=>by
   rcases Nat.lt_or_gt_of_ne h with h1|h1
   · simp[ins,h1,Nat.lt_asymm h1,Ne.symm h]
   simp[ins,h1,Nat.lt_asymm h1,h]
 | (k,z)::l=>by
   have ih:=W2 h x y l;rcases Nat.lt_trichotomy n k with a|a|a<;>rcases Nat.lt_trichotomy m k with b|b|b
   · rw[WM b,WM a];rcases Nat.lt_or_gt_of_ne h with c|c
     · rw[WM c,W9 c,WM b]
     rw[W9 c,WM a,WM c]
   · subst b;rw[X0q,WM a,WM a,W9 a,X0q]
   · rw[W9 b,WM a,WM a,W9 (Nat.lt_trans a b),W9 b]
   · subst a;rw[WM b,X0q,W9 b,X0q,WM b]
   · exact absurd (a.trans b.symm) h
   · subst a;rw[W9 b,X0q,X0q,W9 b]
   · rw[WM b,W9 a,W9 (Nat.lt_trans b a),W9 a,WM b]
   · subst b;rw[X0q,W9 a,W9 a,X0q]
   rw[W9 b,W9 a,W9 a,W9 b,ih]
end
theorem CRel.mono {F F':Nat→Prop} {w w':World} (hF:∀b,F b→F' b) (hw:∀b,F b→w'.heap[b]? =w.heap[b]?) {d:CD} {v:Value} (h:CRel F w d v):CRel F' w' d v:=by
 induction h with
 |lit v=>exact .lit v
 |nil s=>exact .nil s
 |emp s a cap=>exact .emp s a cap
 | sl s rows b o cap cells hb hcap hmax hs hc h1 _ ih=>
   exact .sl s rows b o cap cells (hF b hb) hcap hmax hs (fun i j d h=>(World.cell?_of_block (hw b hb)).trans (hc i j d h)) h1 ih
 | ptr cs b o cells hb hc h1 _ ih=>
   exact .ptr cs b o cells (hF b hb) (fun j d h=>(World.cell?_of_block (hw b hb)).trans (hc j d h)) h1 ih
 |mnil=>exact .mnil
 |mp l b es clock hb hh hk hn _ ih=>exact .mp l b es clock (hF b hb) ((hw b hb).trans hh) hk hn ih
 |fn f caps vs hl _ ih=>exact .fn f caps vs hl ih
theorem Xn.mono {F F':Nat→Prop} {γ:Nat→Value} {w w':World} (hF:∀b,F b→F' b) (hw:∀b,F b→w'.heap[b]? =w.heap[b]?) {x:CV} {v:Value} (h:Xn F γ w x v):Xn F' γ w' x v:=by
 induction x with
 |c d=>exact CRel.mono hF hw h
 |gd b x ih=>exact⟨fun hb=>ih (h.1 hb),h.2⟩
 |_=>exact h
theorem Xk.mono {F F':Nat→Prop} {γ:Nat→Value} {w w':World} (hF:∀b,F b→F' b) (hw:∀b,F b→w'.heap[b]? =w.heap[b]?) {xs:List CV} {vs:Array Value} (h:Xk F γ w xs vs):Xk F' γ w' xs vs:=
 ⟨h.1,fun j x u hx hu=>(h.2 j x u hx hu).mono hF hw⟩
theorem XD.mono {F F':Nat→Prop} {γ:Nat→Value} {w w':World} (hF:∀b,F b→F' b) (hw:∀b,F b→w'.heap[b]? =w.heap[b]?) {x:TV} {v:Value} (h:XD F γ w x v):XD F' γ w' x v:=by
 cases x with
 |one x=>exact Xn.mono hF hw h
 |agg xs=>obtain⟨vs,rfl,hc⟩:=h;exact⟨vs,rfl,hc.mono hF hw⟩
theorem X9.mono {F F':Nat→Prop} {γ:Nat→Value} {w w':World} (hF:∀b,F b→F' b) (hw:∀b,F b→w'.heap[b]? =w.heap[b]?) {x:RV} {v:Value} (h:X9 F γ w x v):X9 F' γ w' x v:=by
 cases x with
 |v t=>exact XD.mono hF hw h
 |tup ts=>obtain⟨vs,rfl,hs,hc⟩:=h;exact⟨vs,rfl,hs,fun j t u ht hu=>(hc j t u ht hu).mono hF hw⟩
theorem Xr.mono {F F':Nat→Prop} {w w':World} {B:Nat→Prop} {e:TypeId} {s:Nat} {x:Value} {rows:List (List CD)} (hF:∀b,F b→F' b) (hw:∀b,F b→w'.heap[b]? =w.heap[b]?)
  (hx:∀b,blk x=some b→w'.heap[b]? =w.heap[b]?) (h:Xr F w B e s x rows):Xr F' w' B e s x rows:=by
 obtain⟨h0,hs,xs,hown,h1,hc⟩:=h;refine⟨h0,hs,xs,⟨hown.1,?_⟩,h1,fun i j d hd=>?_⟩
 · rcases hown.2 with h|⟨g,o,cap,cur,rfl,hg,hh,Xj⟩
   · exact .inl h
   exact .inr ⟨g,o,cap,cur,rfl,hg,(hx g rfl).trans hh,Xj⟩
 obtain⟨u,hu,hr⟩:=hc i j d hd;exact⟨u,hu,hr.mono hF hw⟩
theorem Qy.mono {w w':World} {B:Nat→Prop} {e:TypeId} {size:Nat} {v:Value} {n:Nat} {xs:List Value} (h:Qy w B e size v n xs) (hx:∀b,blk v=some b→w'.heap[b]? =w.heap[b]?):Qy w' B e size v n xs:=by
 refine⟨h.1,?_⟩;rcases h.2 with h|⟨g,o,cap,cur,rfl,hg,hh,Xj⟩
 · exact .inl h
 exact .inr ⟨g,o,cap,cur,rfl,hg,(hx g rfl).trans hh,Xj⟩
theorem X1h.mono {F F':Nat→Prop} {w w':World} {B:Nat→Prop} {x:Value} {l:List (Value×CD)} (hF:∀b,F b→F' b) (hw:∀b,F b→w'.heap[b]? =w.heap[b]?)
  (hx:∀b,blk x=some b→w'.heap[b]? =w.heap[b]?) (h:X1h F w B x l):X1h F' w' B x l:=by
 obtain⟨b,es,clock,rfl,hb,hh,hk,hn,hr⟩:=h;exact⟨b,es,clock,rfl,hb,(hx b rfl).trans hh,hk,hn,fun j k d e h1 h2=>(hr j k d e h1 h2).mono hF hw⟩
theorem ItRel.mono {F F':Nat→Prop} {w w':World} {b:Nat} {l:List (Value×CD)} {seen:List Nat} (hF:∀b,F b→F' b) (hw:∀b,F b→w'.heap[b]? =w.heap[b]?)
  (hx:w'.heap[b]? =w.heap[b]?) (h:ItRel F w b l seen):ItRel F' w' b l seen:=by
 rcases h with⟨h1,h2⟩|⟨m,es,clock,sn,h1,h2,h3,h4,h5,h6,h7⟩
 · exact .inl ⟨h1,hx.trans h2⟩
 exact .inr ⟨m,es,clock,sn,hx.trans h1,hF m h2,(hw m h2).trans h3,h4,h5,fun j k d e a1 a2=>(h6 j k d e a1 a2).mono hF hw,h7⟩
theorem XT.mono {F F':Nat→Prop} {γ:Nat→Value} {w w':World} {B:Nat→Prop} {x:Value} (hF:∀b,F b→F' b) (hw:∀b,F b→w'.heap[b]? =w.heap[b]?)
  (hx:∀b,Blk x b→w'.heap[b]? =w.heap[b]?) {o:Ob} (h:XT F γ w B x o):XT F' γ w' B x o:=by
 cases o with
 | box cs=>
   obtain⟨b,e,vs,rfl,hb,hh,hc⟩:=h;exact⟨b,e,vs,rfl,hb,(hx b rfl).trans hh,hc.mono hF hw⟩
 | row e s rows=>
   refine Xr.mono hF hw (fun b hb=>hx b ?_) h;obtain⟨_,_,xs,hown,_⟩:=h;rcases hown.2 with⟨rfl,_⟩|⟨g,o,cap,cur,rfl,_⟩<;>exact hb
 | mp l=>
   obtain⟨b,es,clock,rfl,hb,hh,hk,hn,hr⟩:=h;exact⟨b,es,clock,rfl,hb,(hx b rfl).trans hh,hk,hn,fun j k d e h1 h2=>(hr j k d e h1 h2).mono hF hw⟩
 | mat e e' s rows=>
   obtain⟨o,is,rfl,h0,hl,⟨xs,hown,hxs⟩,hin,h1,h2⟩:=h;refine⟨o,is,rfl,h0,hl,⟨xs,hown.mono fun b hb=>hx b ⟨o,by simp,hb⟩,hxs⟩,fun i v r hv hr=>?_,h1,h2⟩;have:=hin i v r hv hr;cases r with
   |none=>exact this
   |some rr=>exact Xr.mono hF hw (fun b hb=>hx b ⟨v,by simp[List.mem_of_getElem? hv],hb⟩) this
 | refs e ns=>
   obtain⟨b,rfl,hb,hh⟩:=h;exact⟨b,rfl,hb,(hx b rfl).trans hh⟩
 | mps e ms=>
   obtain⟨o,is,rfl,hl,⟨xs,hown,hxs⟩,hin,h1,h2⟩:=h;refine⟨o,is,rfl,hl,⟨xs,hown.mono fun b hb=>hx b ⟨o,by simp,hb⟩,hxs⟩,fun i v r hv hr=>?_,h1,h2⟩;have:=hin i v r hv hr;cases r with
   |none=>exact this
   |some rr=>exact X1h.mono hF hw (fun b hb=>hx b ⟨v,by simp[List.mem_of_getElem? hv],hb⟩) this
 | it l seen=>
   obtain⟨b,rfl,hb,hh⟩:=h;exact⟨b,rfl,hb,hh.mono hF hw (hx b rfl)⟩
theorem CRel.ptr_inv {F:Nat→Prop} {w:World} {cs:List CD} {v:Value} (h:CRel F w (.ptr cs) v):
  ∃b o,∃cells:Nat→Value,v=.pointer (some ⟨b,o,none⟩)∧F b∧(∀j d,cs[j]? =some d→w.cell? ⟨b,o+j,none⟩=some (cells j))∧
   (∀j d,cs[j]? =some d→(cells j).oneCell'=true)∧∀j d,cs[j]? =some d→CRel F w d (cells j):=by
 cases h with
 |ptr cs b o cells hF hc h1 hr=>exact⟨b,o,cells,rfl,hF,hc,h1,hr⟩
theorem CRel.sl_inv {F:Nat→Prop} {w:World} {s:Nat} {rows:List (List CD)} {v:Value} (h:CRel F w (.sl s rows) v):
  (rows=[]∧((v=.slice none 0 0)∨∃a cap,v=.slice (some a) 0 cap))∨∃b o cap,∃cells:Nat→Nat→Value,v=.slice (some ⟨b,o,none⟩) rows.length cap∧F b∧rows.length≤cap∧cap≤maxLen∧
   (∀r∈rows,r.length=s)∧(∀i j d,XG rows i j=some d→w.cell? ⟨b,o+(i*s+j),none⟩=some (cells i j))∧
   (∀i j d,XG rows i j=some d→(cells i j).oneCell'=true)∧∀i j d,XG rows i j=some d→CRel F w d (cells i j):=by
 cases h with
 |nil s=>exact .inl ⟨rfl,.inl rfl⟩
 |emp s a cap=>exact .inl ⟨rfl,.inr ⟨a,cap,rfl⟩⟩
 |sl s rows b o cap cells hF hcap hmax hs hc h1 hr=>exact .inr ⟨b,o,cap,cells,rfl,hF,hcap,hmax,hs,hc,h1,hr⟩
end Go.Hl
