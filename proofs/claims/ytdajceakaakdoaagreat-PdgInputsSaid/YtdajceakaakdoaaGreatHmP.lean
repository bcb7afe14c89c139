/- HmP: part of an evaluator of Go code over abstract states, proved sound over the model; used by the proof of the claimed statement. Conditions: none. -/
import Derived.Test.YtdajceakaakdoaaGreatHmO
set_option linter.unusedSimpArgs false
set_option linter.unusedVariables false
namespace Go.Hl
open Go Go.RowKit
def X2G:List Operand→List Nat
 |[]=>[]
 | .tmp t::l=>t::X2G l
 |_::l=>X2G l
def XQ:Op→List Operand
 | .nilCheck x=>[x]
 | .makeFunc _ _ caps=>caps.toList
 | .slice _ x l h _=>x::(l.toList++h.toList)
 | .index _ x i| .lookup _ x i _=>[x,i]
 | .mapUpdate _ m k v=>[m,k,v]
 | .move x| .assign x| .box _ x| .load _ x| .unOp _ _ x| .fieldAddr _ x _| .field _ x _| .extract x _| .range _ x| .next x _| .entry x=>[x]
 | .pick c a b=>[c,a,b]
 | .buildSlice _ _ ps=>ps.toList.map (·.2)
 | .build _ ps=>ps.toList.map (·.2)
 | .store _ a v| .binOp _ _ a v _| .makeSlice _ a v| .indexAddr _ a v=>[a,v]
 | .call {callee:=.value f,args:=args, .. }=>f::args.toList
 | .call {args:=args, .. }=>args.toList
 |_=>[]
def Xag (ops:Array Oper) (o:Oper):List Nat:=
 match o.guard with
 |none=>[]
 |some (j,_)=>((ops[j]?).bind (·.dst)).toList
def X3U (ops:Array Oper) (o:Oper):List Nat:=Xag ops o++X2G (XQ o.op)
theorem opd_ins {regs:List (Nat×RV)} {d:Nat} {r:RV} {l:List Operand} (h:d∉X2G l):∀x∈l,opd (ins d r regs) x=opd regs x:=by
 intro x hx;cases x with
 | tmp t=>
   have:t≠d:=by
    rintro rfl;apply h;clear h
    induction l with
    |nil=>cases hx
    | cons y l ih=>
      rcases List.mem_cons.1 hx with rfl|hm
      · simp[X2G]
      have:=ih hm;cases y<;>simp[X2G,this]
   simp only[opd];rw[Xw this]
 |const v=>rfl
 |global g=>rfl
 |func f=>rfl
section
variable {P:Program} {g g':Operand→RV}
theorem X3P {size:Nat}:∀(l:List (Nat×Operand)) (k:Nat),(∀x∈l.map (·.2),g x=g' x)→WN size g k l=WN size g' k l
 |[],_,_=>rfl
 | (i,x)::l,k,h=>by
   unfold WN;rw[h x (by simp),X3P l (k+1) (fun y hy=>h y (by simp at hy⊢;exact .inr hy))]
theorem X5X {objs:List (Nat×Ob)}:∀(l:List Operand),(∀x∈l,g x=g' x)→X1s objs g l=X1s objs g' l
 |[],_=>rfl
 | x::l,h=>by
   unfold X1s;rw[h x (by simp),X5X l fun y hy=>h y (by simp[hy])]
theorem X4q {ti:TI}:∀(l:List (Nat×Operand)) (cs:List CV),(∀x∈l.map (·.2),g x=g' x)→QE P ti g cs l=QE P ti g' cs l
 |[],_,_=>rfl
 | (i,x)::l,cs,h=>by
   unfold QE;rw[h x (by simp)];split
   · split
     · exact X4q l _ fun y hy=>h y (by simp at hy⊢;exact .inr hy)
     rfl
   rfl
theorem X3v:∀(l:List Operand),(∀x∈l,g x=g' x)→X0r g l=X0r g' l
 |[],_=>rfl
 | x::l,h=>by
   unfold X0r;rw[h x (by simp),X3v l fun y hy=>h y (by simp[hy])]
theorem X8i {l:List (Nat×Operand)} (h:∀x∈l.map (·.2),g x=g' x):X07 g l=X07 g' l:=by
 unfold X07;split
 · rename_i x;rw[h x (by simp)]
 rfl
theorem X5j {c:Call} (h:∀x∈c.args.toList,g x=g' x):evN P g (.call c)=evN P g' (.call c):=by
 obtain⟨callee,args,ts⟩:=c;cases callee with
 | builtin b=>
   cases b<;>try rfl
   · simp only[evN];split
     · rename_i x y hxy;rw[h x (by simp only[hxy];simp),h y (by simp only[hxy];simp)]
     rfl
   simp only[evN];split
   · rename_i x y hxy;rw[h x (by simp only[hxy];simp),h y (by simp only[hxy];simp)]
   rfl
 |_=>rfl
theorem XbO {op:Op} (h:∀x∈XQ op,g x=g' x):evN P g op=evN P g' op:=by
 by_cases hc:∃c,op=.call c
 · obtain⟨c,rfl⟩:=hc;refine X5j fun x hx=>h x ?_;obtain⟨callee,args,ts⟩:=c;cases callee<;>simp[XQ]<;>first|exact .inr (by simpa using hx)|simpa using hx
 by_cases hb:∃t ps,op=.build t ps
 · obtain⟨t,ps,rfl⟩:=hb;simp only[evN,XQ]at h⊢;split
   · rw[X4q (g:=g) (g':=g') ps.toList _ h]
   rfl
 by_cases hsl:∃t x l hi m,op=.slice t x l hi m
 · obtain⟨t,x,l,hi,m,rfl⟩:=hsl;simp only[XQ,List.mem_cons,List.mem_append,Option.mem_toList]at h;cases m with
   |some m=>rfl
   | none=>
     have h1:∀dflt,X0H g dflt l=X0H g' dflt l:=by
      intro dflt;cases l with
      |none=>rfl
      |some y=>simp only[X0H];rw[h y (by simp)]
     have h2:∀dflt,X0H g dflt hi=X0H g' dflt hi:=by
      intro dflt;cases hi with
      |none=>rfl
      |some y=>simp only[X0H];rw[h y (by simp)]
     simp only[evN,h1,h2,h x (by simp)]
 by_cases hm:∃f fs cs,op=.makeFunc f fs cs
 · obtain⟨f,fs,cs,rfl⟩:=hm;simp only[evN,XQ]at h⊢;split
   · rw[X3v (g:=g) (g':=g') cs.toList h]
   rfl
 cases op<;>try(exfalso;exact hc ⟨_,rfl⟩)
 all_goals try(exfalso;exact hb ⟨_,_,rfl⟩)
 all_goals try(exfalso;exact hm ⟨_,_,_,rfl⟩)
 all_goals try(exfalso;exact hsl ⟨_,_,_,_,_,rfl⟩)
 all_goals simp only[evN,XQ,List.mem_cons,List.not_mem_nil,or_false,forall_eq_or_imp,forall_eq]at* <;>simp only[h]
theorem Xbt {d:Nat} {op:Op} (h:∀x∈XQ op,g x=g' x):evA P g d op=evA P g' d op:=by
 cases op<;>simp only[evA]
 case box e x=>rw[h x (by simp[XQ])]
 case buildSlice t n ps=>simp only[X3P (g:=g) (g':=g') ps.toList 0 h,X8i (g:=g) (g':=g') h]
 case makeSlice t l c=>rw[h l (by simp[XQ]),h c (by simp[XQ])]
 case makeMap t r=>cases r<;>rfl
 case range t x=>rw[h x (by simp[XQ])]
theorem X2S {c:Call} {i:Nat} {x:Operand} (hx:c.args[i]? =some x):x∈XQ (.call c):=by
 obtain⟨callee,args,ts⟩:=c;have:x∈args.toList:=Array.mem_toList_iff.2 (Array.mem_of_getElem? hx);cases callee<;>simp[XQ]<;>first|exact .inr (by simpa using this)|simpa using this
theorem Xc2 {objs:List (Nat×Ob)} {op:Op} (h:∀x∈XQ op,g x=g' x):evR P objs g op=evR P objs g' op:=by
 cases op with
 |load t x=>simp only[evR];rw[h x (by simp[XQ])]
 |indexAddr t x i=>simp only[evR];rw[h x (by simp[XQ]),h i (by simp[XQ])]
 |lookup t x i ok=>simp only[evR];rw[h x (by simp[XQ]),h i (by simp[XQ])]
 |entry x=>simp only[evR];rw[h x (by simp[XQ])]
 | call c=>
   obtain⟨callee,args,ts⟩:=c;cases callee with
   | builtin b=>
     cases b<;>try rfl
     simp only[evR];cases ht:ts[0]? with
     |none=>rfl
     | some t=>
       cases hx:args[0]? with
       |none=>rfl
       |some x=>simp only[];rw[h x (X2S (c:=⟨_,args,ts⟩) hx)]
   |_=>rfl
 |_=>rfl
theorem Xbm {objs:List (Nat×Ob)} {d:Option Nat} {op:Op} (h:∀x∈XQ op,g x=g' x):evW P objs g d op=evW P objs g' d op:=by
 cases op with
 |store t x y=>simp only[evW];rw[h x (by simp[XQ]),h y (by simp[XQ])]
 |mapUpdate t m k v=>simp only[evW];rw[h m (by simp[XQ]),h k (by simp[XQ]),h v (by simp[XQ])]
 | call c =>
   obtain⟨callee,args,ts⟩:=c;cases callee with
   | builtin b =>
     cases b<;>try rfl
     simp only[evW];cases d with
     |none=>rfl
     | some d =>
       cases ht:ts[0]? with
       |none=>rfl
       | some t=>
         cases ht':ts[1]? with
         |none=>rfl
         | some t'=>
           cases hx:args[0]? with
           |none=>rfl
           | some x=>
             cases hy:args[1]? with
             |none=>rfl
             | some y=>
               simp only[];rw[h x (X2S (c:=⟨_,args,ts⟩) hx),h y (X2S (c:=⟨_,args,ts⟩) hy)]
   |_=>rfl
 |_=>rfl
end
section
variable {P:Program} {g:Operand→RV} {d:Nat} {ob:Ob} {objs:List (Nat×Ob)}
theorem X37 {objs objs':List (Nat×Ob)} {op:Op} (h:∀x∈XQ op,∀n,(g x).men n→lkp objs' n=lkp objs n):evR P objs' g op=evR P objs g op:=by
 have hat:∀{x:Operand} {n off:Nat},x∈XQ op→g x=.v (.one (.at_ n off))→lkp objs' n=lkp objs n:=fun hx hg=>h _ hx _ (by rw[hg];exact rfl);have hel:∀{x:Operand} {n s i off:Nat},x∈XQ op→g x=.v (.one (.el n s i off))→lkp objs' n=lkp objs n:=fun hx hg=>h _ hx _ (by rw[hg];exact rfl);have hel2:∀{x:Operand} {n s i j off:Nat},x∈XQ op→g x=.v (.one (.el2 n s i j off))→lkp objs' n=lkp objs n:=fun hx hg=>h _ hx _ (by rw[hg];exact rfl);have how:∀{x:Operand} {n:Nat},x∈XQ op→g x=.v (.one (.own n))→lkp objs' n=lkp objs n:=fun hx hg=>h _ hx _ (by rw[hg];exact rfl);have hsub:∀{x:Operand} {n i:Nat},x∈XQ op→g x=.v (.one (.sub n i))→lkp objs' n=lkp objs n:=fun hx hg=>h _ hx _ (by rw[hg];exact rfl);cases op with
 | load t x=>
   simp only[evR];split
   · rename_i hg;rw[hat (by simp[XQ]) hg]
   · rename_i hg;rw[hel (by simp[XQ]) hg]
   · rename_i hg;rw[hel2 (by simp[XQ]) hg]
   · rfl
   rfl
 | indexAddr t x i=>
   simp only[evR];split
   · split
     · split
       · split
         · rfl
         · rename_i hg;rw[how (by simp[XQ]) hg]
         · rename_i hg;rw[hsub (by simp[XQ]) hg]
         rfl
       rfl
     rfl
   rfl
 | lookup t x i ok=>
   simp only[evR]
   have:X6b objs' (g x)=X6b objs (g x):=by
    unfold X6b;split
    · rfl
    · rfl
    · rename_i hg;rw[how (by simp[XQ]) hg]
    · rename_i hg;rw[hsub (by simp[XQ]) hg]
    rfl
   rw[this]
 | entry x=>
   simp only[evR];unfold X3u;split
   · rename_i hg;rw[hat (by simp[XQ]) hg]
   rfl
 | call c=>
   obtain⟨callee,args,ts⟩:=c;cases callee with
   | builtin b=>
     cases b<;>try rfl
     simp only[evR];split
     · rename_i t x ht hx;split
       · rfl
       · rfl
       · rename_i hg;rw[how (X2S (c:=⟨_,args,ts⟩) hx) hg]
       · rename_i hg;rw[hsub (X2S (c:=⟨_,args,ts⟩) hx) hg]
       · rfl
       rfl
     rfl
   |_=>rfl
 |_=>rfl
theorem X7m {op:Op} (h:∀x∈XQ op,¬(g x).men d):evR P (ins d ob objs) g op=evR P objs g op:=
 X37 fun x hx n hn=>Xw (fun e=>by subst e;exact h x hx hn) ob objs
theorem X27 {α:Type}:∀{l:List (Nat×α)} {k:Nat} {x:α},QG ((k,x)::l)=true→∀p∈l,k<p.1
 |[],_,_,_=>by simp
 | (m,y)::l,k,x,h=>by
   simp only[QG,Bool.and_eq_true,decide_eq_true_eq]at h;intro p hp;rcases List.mem_cons.1 hp with rfl|hp
   · exact h.1
   have:=X27 (k:=m) (x:=y) (by simp only[QG,Bool.and_eq_true];exact h.2) p hp;omega
theorem X0u {α:Type} {l:List (Nat×α)} {k:Nat} {x:α} (h:QG ((k,x)::l)=true):QG l=true:=by
 simp only[QG,Bool.and_eq_true]at h;exact h.2
theorem X26 {α:Type} {l:List (Nat×α)} {k:Nat} {x:α} (h:QG l=true) (hk:∀p∈l,k<p.1):QG ((k,x)::l)=true:=by
 simp only[QG,Bool.and_eq_true];refine⟨?_,h⟩;cases l with
 |nil=>rfl
 |cons p l=>exact decide_eq_true (hk p (by simp))
theorem X8I {α:Type} {n:Nat} {x:α} {p:Nat×α}:∀{l:List (Nat×α)},p∈ins n x l→p=(n,x)∨p∈l
 |[],h=>by simpa[ins]using h
 | (k,y)::l,h=>by
   unfold ins at h;split at h
   · simpa using h
   split at h
   · rcases List.mem_cons.1 h with e|h
     · exact .inl e
     exact .inr (by simp[h])
   rcases List.mem_cons.1 h with e|h
   · exact .inr (by simp[e])
   rcases X8I h with e|h
   · exact .inl e
   exact .inr (by simp[h])
theorem X2V {α:Type} {n:Nat} {p:Nat×α}:∀{l:List (Nat×α)},p∈del n l→p∈l
 |[],h=>h
 | (k,y)::l,h=>by
   unfold del at h;split at h
   · exact List.mem_cons_of_mem _ (X2V h)
   rcases List.mem_cons.1 h with e|h
   · simp[e]
   exact List.mem_cons_of_mem _ (X2V h)
theorem QZ {α:Type} {n:Nat} {x:α}:∀{l:List (Nat×α)},QG l=true→QG (ins n x l)=true
 |[],_=>rfl
 | (k,y)::l,h=>by
   unfold ins;split
   · rename_i hk;refine X26 h fun p hp=>?_;rcases List.mem_cons.1 hp with rfl|hp
     · exact hk
     have:=X27 h p hp;omega
   split
   · rename_i _ e;subst e;exact X26 (X0u h) fun p hp=>X27 h p hp
   rename_i h1 h2;refine X26 (QZ (X0u h)) fun p hp=>?_;rcases X8I hp with rfl|hp
   · show k<n;omega
   exact X27 h p hp
theorem ZD {α:Type} {n:Nat}:∀{l:List (Nat×α)},QG l=true→QG (del n l)=true
 |[],_=>rfl
 | (k,y)::l,h=>by
   unfold del;split
   · exact ZD (X0u h)
   exact X26 (ZD (X0u h)) fun p hp=>X27 h p (X2V hp)
theorem X2c {α:Type} {n d:Nat} (hne:n≠d) (x:α):∀{l:List (Nat×α)},QG l=true→del n (ins d x l)=ins d x (del n l)
 |[],_=>by simp[ins,del,Ne.symm hne]
 | (k,y)::l,h=>by
   have ih:=X2c hne x (X0u h);by_cases h1:d<k
   · rw[WM h1]
     have hd:∀m:List (Nat×α),(∀p∈m,d<p.1)→ins d x m=(d,x)::m:=by
      intro m hm;cases m with
      |nil=>rfl
      |cons p m=>exact WM (hm p (by simp)) _ _ _
     rw[hd (del n ((k,y)::l)) (fun p hp=>by
      rcases List.mem_cons.1 (X2V hp)with rfl|hp
      · exact h1
      have:=X27 h p hp;omega)]
     conv=>lhs;unfold del
     rw[if_neg (Ne.symm hne)]
   by_cases h2:d=k
   · subst h2;rw[X0q]
     conv=>lhs;unfold del
     conv=>rhs;unfold del
     rw[if_neg (Ne.symm hne),if_neg (Ne.symm hne),X0q]
   have h3:k<d:=by omega
   rw[W9 h3]
   conv=>lhs;unfold del
   conv=>rhs;unfold del
   split
   · exact ih
   rw[ih,W9 h3]
theorem X9t {e:TypeId} {ti:TI} {d':Nat} {x y:RV} (hs:QG objs=true) (hne:d'≠d) (ho:∀n o,(n,o)∈objs→n≠d∧¬o.men d) (hx:¬x.men d) (hy:¬y.men d):
  Zg (ins d ob objs) e ti d' x y=(Zg objs e ti d' x y).map (ins d ob):=by
 unfold Zg;split
 · rename_i n;have hn:n≠d:=hx;rw[Xw hn];split
   · rename_i e1 e' s rows hl;split
     · rename_i m;have hm:m≠d:=hy;rw[Xw hm];split
       · rename_i e3 r hr;have hrd:r≠d:=fun e=>(ho m _ (Xy hr)).2 (by simp[Ob.men,e]);rw[Xw hrd];split
         · split
           · simp only[Option.map_some];rw[X2c hn ob hs,X2c hrd ob (ZD hs),W2 hne]
           rfl
         rfl
       rfl
     rfl
   rfl
 rfl
theorem Xaa {e:TypeId} {sz:Nat} {x:RV} (hx:¬x.men d):WJ (ins d ob objs) e sz x=WJ objs e sz x:=by
 unfold WJ;split
 · rfl
 · rename_i n;rw[Xw (show n≠d from hx)]
 rfl
theorem X9v {sz:Nat} {x:RV} (hx:¬x.men d):Wh (ins d ob objs) sz x=Wh objs sz x:=by
 unfold Wh;split
 · rfl
 · rename_i n;rw[Xw (show n≠d from hx)]
 rfl
theorem Xaf {e:TypeId} {sz:Nat} {x:RV} {n:Nat} {rows:List (List CD)} (h:WJ objs e sz x=some (some n,rows)):x.men n:=by
 unfold WJ at h;split at h
 · cases h
 · split at h
   · split at h
     · cases h;exact rfl
     cases h
   cases h
 cases h
theorem X9T {args :Array Operand} {ts:Array TypeId} {dst:Option Nat} (hs:QG objs=true) (hne:∀d',dst=some d'→d'≠d) (ho:∀n o,(n,o)∈objs→n≠d∧¬o.men d) (hx:∀x∈args.toList,¬(g x).men d):
  evW P (ins d ob objs) g dst (.call {callee:=.builtin .append,args:=args,argTypes:=ts})=(evW P objs g dst (.call {callee:=.builtin .append,args:=args,argTypes:=ts})).map fun p=>(p.1,ins d ob p.2):=by
 simp only[evW];cases dst with
 |none=>rfl
 | some d' =>
   have hne':=hne d' rfl;cases ht:ts[0]? with
   |none=>rfl
   | some t =>
     cases ht':ts[1]? with
     |none=>rfl
     | some t' =>
       cases hxx:args[0]? with
       |none=>rfl
       | some x =>
         cases hyy:args[1]? with
         |none=>rfl
         | some y =>
           have hx':¬(g x).men d:=hx x (Array.mem_toList_iff.2 (Array.mem_of_getElem? hxx));have hy':¬(g y).men d:=hx y (Array.mem_toList_iff.2 (Array.mem_of_getElem? hyy));simp only[];split
           · split
             · rename_i e he;split
               · rename_i ti hti;rw[X9t hs hne' ho hx' hy',Xaa hx',X9v hy'];cases Zg objs e ti d' (g x) (g y)with
                 |some o2=>rfl
                 | none =>
                   simp only[Option.map_none];split
                   · rename_i n rows more hb hm;split
                     · simp only[Option.map_some];cases n with
                       |none=>simp only[];rw[W2 hne']
                       | some n=>
                         have hn:n≠d:=fun e=>hx' (e▸Xaf hb);simp only[];rw[X2c hn ob hs,W2 hne']
                     rfl
                   rfl
               rfl
             rfl
           rfl
theorem Xc9 {t:TypeId} {x y:Operand} {dst:Option Nat} (hs:QG objs=true) (h:¬(g x).men d) (hy:¬(g y).men d):
  evW P (ins d ob objs) g dst (.store t x y)=(evW P objs g dst (.store t x y)).map fun p=>(p.1,ins d ob p.2):=by
 simp only[evW];split
 · rename_i n off _ _ hg;have hne:n≠d:=fun e=>h (by rw[hg];exact e);rw[Xw hne];split
   · split
     · split
       · simp only[Option.map_some];rw[W2 hne]
       rfl
     rfl
   rfl
 · rename_i n s i off _ _ hg;have hne:n≠d:=fun e=>h (by rw[hg];exact e);rw[Xw hne];split
   · split
     · split
       · simp only[Option.map_some];rw[W2 hne]
       rfl
     · split
       · rename_i m hgy;have hm:m≠d:=fun e=>hy (by rw[hgy];exact e);rw[Xw hm];split
         · split
           · simp only[Option.map_some];rw[X2c hm ob hs,W2 hne]
           rfl
         rfl
       rfl
     · split
       · rename_i m hgy;have hm:m≠d:=fun e=>hy (by rw[hgy];exact e);rw[Xw hm];split
         · split
           · simp only[Option.map_some];rw[X2c hm ob hs,W2 hne]
           rfl
         rfl
       rfl
     rfl
   rfl
 · rename_i n s i j off _ _ hg;have hne:n≠d:=fun e=>h (by rw[hg];exact e);rw[Xw hne];split
   · split
     · split
       · split
         · simp only[Option.map_some];rw[W2 hne]
         rfl
       rfl
     rfl
   rfl
 rfl
theorem XaZ (ho:∀n o,(n,o)∈objs→n≠d∧¬o.men d):∀k:Nat,(∀x:CV,¬x.men d→Zj k (ins d ob objs) x=Zj k objs x)∧
  (∀l:List CV,(∀x∈l,¬x.men d)→X3Z k (ins d ob objs) l=X3Z k objs l)∧(∀l:List (Nat×Nat),(∀p∈l,p.1≠d)→X1t k (ins d ob objs) l=X1t k objs l):=by
 have hL:∀k,(∀x:CV,¬x.men d→Zj k (ins d ob objs) x=Zj k objs x)→
   (∀l:List CV,(∀x∈l,¬x.men d)→X3Z k (ins d ob objs) l=X3Z k objs l)∧(∀l:List (Nat×Nat),(∀p∈l,p.1≠d)→X1t k (ins d ob objs) l=X1t k objs l):=by
  intro k hC;refine⟨fun l=>?_,fun l=>?_⟩
  · induction l with
    |nil=>intro _;simp only[X3Z]
    | cons x l ih=>
      intro h;simp only[X3Z];rw[hC x (h x (by simp)),ih fun y hy=>h y (by simp[hy])]
  induction l with
  |nil=>intro _;simp only[X1t]
  | cons p l ih=>
    obtain⟨n,off⟩:=p;intro h;simp only[X1t];rw[hC (.at_ n off) (h (n,off) (by simp)),ih fun y hy=>h y (by simp[hy])]
 intro k
 induction k with
 | zero=>
   have h0:∀x:CV,¬x.men d→Zj 0 (ins d ob objs) x=Zj 0 objs x:=by intro x _;simp only[Zj]
   exact⟨h0,hL 0 h0⟩
 | succ k ih=>
   have hC:∀x:CV,¬x.men d→Zj (k+1) (ins d ob objs) x=Zj (k+1) objs x:=by
    intro x hx;cases x with
    |own n=>simp only[Zj];rw[Xw hx]
    | at_ n off=>
      simp only[Zj];rw[Xw hx];split
      · rename_i cs hl;rw[ih.2.1 cs fun y hy hyd=>(ho n _ (Xy hl)).2 ⟨y,hy,hyd⟩]
      rfl
    | fn f caps=>
      simp only[Zj];rw[ih.2.2 caps fun p hp e=>hx ⟨p,hp,e⟩]
    |_=>simp only[Zj]
   exact⟨hC,hL _ hC⟩
theorem XaW (ho:∀n o,(n,o)∈objs→n≠d∧¬o.men d) {x:CV} (h:¬x.men d):brw (ins d ob objs) x=brw objs x:=by
 unfold brw;split
 · rfl
 · rfl
 · rfl
 rw[(XaZ ho 4).1 x h]
theorem X88 (ho:∀n o,(n,o)∈objs→n≠d∧¬o.men d):∀{xs:List CV},(∀x∈xs,¬x.men d)→brwL (ins d ob objs) xs=brwL objs xs
 |[],_=>rfl
 | x::xs,h=>by
   simp only[brwL];rw[XaW ho (h x (by simp)),X88 ho fun y hy=>h y (by simp[hy])]
theorem brwT_ins (ho:∀n o,(n,o)∈objs→n≠d∧¬o.men d) {r:RV} (h:¬r.men d):X1B (ins d ob objs) r=X1B objs r:=by
 cases r with
 | v t=>
   cases t with
   |one x=>simp only[X1B];rw[XaW ho h]
   |agg xs=>simp only[X1B];rw[X88 ho fun x hx hm=>h ⟨x,hx,hm⟩]
 |tup ts=>rfl
theorem X5q (ho:∀n o,(n,o)∈objs→n≠d∧¬o.men d):∀{l:List Operand},(∀x∈l,¬(g x).men d)→X1s (ins d ob objs) g l=X1s objs g l
 |[],_=>rfl
 | x::l,h=>by
   simp only[X1s];rw[brwT_ins ho (h x (by simp)),X5q ho fun y hy=>h y (by simp[hy])]
theorem X2T (ho:∀n o,(n,o)∈objs→n≠d∧¬o.men d) {r:RV} (h:¬r.men d):Wn (ins d ob objs) r=Wn objs r:=by
 unfold Wn;split
 · rename_i f caps;rw[(XaZ ho 4).2.2 caps fun p hp e=>h ⟨p,hp,e⟩]
 · rfl
 rfl
theorem X0e {α:Type} {n:Nat} {x:α} {p:Nat×α}:∀{l:List (Nat×α)},p∈ins n x l→p=(n,x)∨p∈l
 |[],h=>by simpa[ins]using h
 | (k,y)::l,h=>by
   unfold ins at h;split at h
   · simpa using h
   split at h
   · rcases List.mem_cons.1 h with e|h
     · exact .inl e
     exact .inr (by simp[h])
   rcases List.mem_cons.1 h with e|h
   · exact .inr (by simp[e])
   rcases X0e h with e|h
   · exact .inl e
   exact .inr (by simp[h])
theorem X0U {α:Type} {n:Nat} {p:Nat×α}:∀{l:List (Nat×α)},p∈del n l→p∈l
 |[],h=>h
 | (k,y)::l,h=>by
   unfold del at h;split at h
   · exact List.mem_cons_of_mem _ (X0U h)
   rcases List.mem_cons.1 h with e|h
   · simp[e]
   exact List.mem_cons_of_mem _ (X0U h)
theorem X10 {ti:TI} {cs:List CV} {off:Nat} {r:RV} (h:WY ti cs off=some r) (hm:∀x∈cs,¬x.men d):¬r.men d:=by
 unfold WY at h;split at h
 · split at h
   · cases h;rintro⟨x,hx,hxm⟩;exact hm x (List.mem_of_mem_drop (List.mem_of_mem_take hx)) hxm
   cases h
 split at h
 · rename_i x hx;cases h;exact hm x (List.mem_of_getElem? hx)
 cases h
theorem X1r {r:RV} {cs:List CV} (h:cellsOf r=some cs) (hm:¬r.men d):∀x∈cs,¬x.men d:=by
 unfold cellsOf at h;split at h
 · split at h
   · cases h;intro x hx;simp only[List.mem_singleton]at hx;subst hx;exact hm
   cases h
 · cases h;exact fun x hx hxm=>hm ⟨x,hx,hxm⟩
 cases h
theorem X6q {ti:TI}:∀(l:List (Nat×Operand)) (cs cs':List CV),QE P ti g cs l=some cs'→(∀x∈cs,¬x.men d)→(∀x∈l.map (·.2),¬(g x).men d)→∀x∈cs',¬x.men d
 |[],cs,cs',h,hc,_=>by cases h;exact hc
 | (i, x)::l,cs,cs',h,hc,hl=>by
   unfold QE at h;split at h
   · rename_i off size ys _ hys;split at h
     · refine X6q l _ cs' h (fun y hy=>?_) fun y hy=>hl y (by simp at hy⊢;exact .inr hy);rcases List.mem_append.1 hy with hy|hy
       · rcases List.mem_append.1 hy with hy|hy
         · exact hc y (List.mem_of_mem_take hy)
         exact X1r hys (hl x (by simp)) y hy
       exact hc y (List.mem_of_mem_drop hy)
     cases h
   cases h
theorem X5C:∀(l:List Operand) (ps:List (Nat×Nat)),X0r g l=some ps→(∀x∈l,¬(g x).men d)→¬ ∃p∈ps,p.1=d
 |[],ps,h,_=>by cases h;simp
 | x ::l,ps,h,hm=>by
   unfold X0r at h;split at h
   · rename_i n off r hx hr;cases h;rintro⟨p,hp,e⟩;rcases List.mem_cons.1 hp with rfl|hp
     · have:=hm x (by simp);rw[hx]at this;exact this e
     exact X5C l r hr (fun y hy=>hm y (by simp[hy])) ⟨p,hp,e⟩
   cases h
theorem evN_men {op:Op} {r:RV} {o:Option Ob} (h:evN P g op=some (r,o)) (hm:∀x∈XQ op,¬(g x).men d):¬r.men d:=by
 cases op<;>simp only[evN]at h
 case move x=>cases h;exact hm x (by simp[XQ])
 case assign x=>cases h;exact hm x (by simp[XQ])
 case pick c a b=>
  split at h
  · split at h
    · split at h
      · cases h;exact id
      cases h
    cases h;split
    · exact hm a (by simp[XQ])
    exact hm b (by simp[XQ])
  cases h
 case fieldAddr s x f=>
  split at h
  · split at h
    · split at h
      · split at h
        · rename_i hg;cases h;have:=hm x (by simp[XQ]);rw[hg]at this;exact this
        · rename_i hg;cases h;have:=hm x (by simp[XQ]);rw[hg]at this;exact this
        · rename_i hg;cases h;have:=hm x (by simp[XQ]);rw[hg]at this;exact this
        · cases h;exact id
        cases h
      cases h
    cases h
  cases h
 case nilCheck x=>
  split at h
  · cases h;exact hm x (by simp[XQ])
  cases h
 case makeFunc f fs cs=>
  split at h
  · simp only[Option.map_eq_some_iff]at h;obtain⟨ps,hps,he⟩:=h;cases he;exact X5C cs.toList ps hps hm
  cases h
 case index t x i=>
  split at h
  · rename_i xs hg;split at h
    · split at h
      · split at h
        · simp only[Option.map_eq_some_iff]at h;obtain⟨r',hr',he⟩:=h;cases he;refine X10 hr' fun y hy hym=>hm x (by simp[XQ]) ?_;rw[hg];exact⟨y,hy,hym⟩
        cases h
      cases h
    cases h
  split at h
  · split at h
    · split at h
      · cases h;exact id
      cases h
    cases h
  cases h
 case slice t x low high m=>
  cases m with
  |some m=>cases h
  |none=>
  simp only at h;split at h
  · split at h
    · split at h
      · split at h
        · split at h
          · split at h
            · cases h;exact id
            cases h
          cases h
        cases h
      cases h
    cases h
  · split at h
    · split at h
      · split at h
        · cases h;exact id
        cases h
      cases h
    cases h
  cases h
 case field t x f=>
  split at h
  · split at h
    · rename_i ti xs _ hg;simp only[Option.map_eq_some_iff]at h;obtain⟨r',hr',he⟩:=h;cases he;refine X10 hr' fun y hy hym=>hm x (by simp[XQ]) ?_;rw[hg];exact⟨y,hy,hym⟩
    cases h
  cases h
 case extract x i=>
  split at h
  · rename_i ts hg;simp only[Option.map_eq_some_iff]at h;obtain⟨t,ht,he⟩:=h;cases he;intro htm;refine hm x (by simp[XQ]) ?_;rw[hg];exact⟨t,List.mem_of_getElem? ht,htm⟩
  cases h
 case binOp op t x y t'=>
  have key:∀(o2:Option (RV×Option Ob)),(∀q,o2=some q→∃v,q.1=lit v)→o2=some (r,o)→¬r.men d:=by
   intro o2 h1 h2;obtain⟨v,hv⟩:=h1 _ h2;simp only at hv;rw[hv];exact id
  split at h
  · split at h
    · exact key _ (fun q hq=>by simp only[Option.map_eq_some_iff]at hq;obtain⟨v,_,rfl⟩:=hq;exact⟨v,rfl⟩) h
    cases h
  · exact key _ (fun q hq=>by simp only[Option.map_eq_some_iff]at hq;obtain⟨v,_,rfl⟩:=hq;exact⟨v,rfl⟩) h
  · exact key _ (fun q hq=>by simp only[Option.map_eq_some_iff]at hq;obtain⟨v,_,rfl⟩:=hq;exact⟨v,rfl⟩) h
  split at h
  · exact key _ (fun q hq=>by simp only[Option.map_eq_some_iff]at hq;obtain⟨v,_,rfl⟩:=hq;exact⟨_,rfl⟩) h
  split at h
  · exact key _ (fun q hq=>by simp only[Option.map_eq_some_iff]at hq;obtain⟨v,_,rfl⟩:=hq;exact⟨_,rfl⟩) h
  exact key _ (fun q hq=>by simp only[Option.map_eq_some_iff]at hq;obtain⟨v,_,rfl⟩:=hq;exact⟨_,rfl⟩) h
 case unOp op t x=>
  split at h
  · simp only[Option.map_eq_some_iff]at h;obtain⟨v,hv,he⟩:=h;cases he;exact id
  cases h
 case build t ps=>
  split at h
  · split at h
    · split at h
      · rename_i cs hcs;cases h;rintro⟨x,hx,hxm⟩;exact X6q ps.toList _ cs hcs (fun y hy=>by obtain⟨v,_,rfl⟩:=List.mem_map.1 hy;exact id) (fun x hx=>hm x hx) x hx hxm
      cases h
    cases h
  cases h
 case call c=>
  obtain⟨callee,args,ts⟩:=c;cases callee with
  |value f=>cases h
  |invoke f m=>cases h
  | builtin b=>
    cases b<;>simp only at h<;>try cases h
    · split at h
      · split at h
        · split at h
          · cases h;exact id
          cases h
        cases h
      cases h
    split at h
    · split at h
      · split at h
        · cases h;exact id
        cases h
      cases h
    cases h
 all_goals cases h
theorem evA_men {op:Op} {d':Nat} {r:RV} {o:Option Ob} (hd:d'≠d) (h:evA P g d' op=some (r,o)) (hm:∀x∈XQ op,¬(g x).men d):¬r.men d∧∀o',o=some o'→¬o'.men d:=by
 cases op<;>simp only[evA]at h
 case alloc e=>
  split at h
  · cases h;refine⟨hd,?_⟩;rintro _ ⟨⟩ ⟨x,hx,hxm⟩;obtain⟨v,_,rfl⟩:=List.mem_map.1 hx;exact hxm
  cases h
 case box e x=>
  split at h
  · rename_i cs hcs;cases h;refine⟨hd,?_⟩;rintro _ ⟨⟩ ⟨y,hy,hym⟩;exact X1r hcs (hm x (by simp[XQ])) y hy hym
  cases h
 case buildSlice t len parts=>
  split at h
  · split at h
    · split at h
      · split at h
        · cases h;exact⟨hd,by rintro _ ⟨⟩;exact id⟩
        split at h
        · cases h;refine⟨hd,?_⟩;rintro _ ⟨⟩ hmn;obtain⟨x,hpx,hgx⟩:=X5I ‹X07 g parts.toList=some _›;have:=hm x (by simp only[XQ];rw[hpx];simp);rw[hgx]at this;simp only[Ob.men,List.mem_singleton]at hmn;exact this hmn.symm
        cases h
      cases h
    cases h
  cases h
 case makeSlice t l c=>
  split at h
  · split at h
    · split at h
      · cases h;exact⟨hd,by rintro _ ⟨⟩;exact id⟩
      cases h
    cases h
  cases h
 case makeMap t x=>
  cases x with
  |some x=>cases h
  |none=>cases h;exact⟨hd,by rintro _ ⟨⟩;exact id⟩
 case range t x=>
  split at h
  · split at h
    · cases h;exact⟨hd,by rintro _ ⟨⟩;exact id⟩
    · cases h;exact⟨hd,by rintro _ ⟨⟩;exact id⟩
    cases h
  cases h
 all_goals cases h
theorem evR_men {op:Op} {r:RV} (h:evR P objs g op=some r) (hm:∀x∈XQ op,¬(g x).men d) (ho:∀n o,lkp objs n=some o→n≠d∧¬o.men d):¬r.men d:=by
 have hdat:∀{ti:TI} {rr:List CD} {off:Nat},WY ti (rr.map .c) off=some r→¬r.men d:=by
  intro ti rr off h;refine X10 h fun y hy hym=>?_;obtain⟨c,_,rfl⟩:=List.mem_map.1 hy;exact hym
 unfold evR at h;split at h
 · rename_i t x;split at h
   · split at h
     · rename_i cs hl;exact X10 h fun y hy hym=>(ho _ _ hl).2 ⟨y,hy,hym⟩
     cases h
   · split at h
     · split at h
       · split at h
         · exact hdat h
         cases h
       cases h
     · rename_i hl;split at h
       · split at h
         · cases h;exact(ho _ _ hl).1
         · cases h;exact id
         cases h
       cases h
     · rename_i hl;split at h
       · split at h
         · cases h;exact(ho _ _ hl).1
         · cases h;exact id
         cases h
       cases h
     cases h
   · split at h
     · split at h
       · split at h
         · split at h
           · exact hdat h
           cases h
         cases h
       cases h
     cases h
   · exact hdat h
   cases h
 · rename_i t x i;split at h
   · split at h
     · split at h
       · split at h
         · split at h
           · split at h
             · cases h;exact id
             cases h
           cases h
         · split at h
           · rename_i n hg _ hl;split at h
             · cases h;exact(ho _ _ hl).1
             cases h
           · rename_i n hg _ hl;split at h
             · cases h;exact(ho _ _ hl).1
             cases h
           · rename_i n hg hl;split at h
             · cases h;exact(ho _ _ hl).1
             cases h
           cases h
         · split at h
           · rename_i hl;split at h
             · split at h
               · cases h;exact(ho _ _ hl).1
               cases h
             cases h
           cases h
         cases h
       unfold X7s at h;split at h
       · split at h
         · split at h
           · split at h
             · rename_i hg;cases h;have:=hm x (by simp[XQ]);rw[hg]at this;exact this
             · rename_i hg;cases h;have:=hm x (by simp[XQ]);rw[hg]at this;exact this
             · cases h;exact id
             cases h
           cases h
         cases h
       cases h
     cases h
   cases h
 · split at h
   · split at h
     · cases h;exact id
     · cases h;exact id
     · split at h
       · cases h;exact id
       · cases h;exact id
       · cases h;exact id
       cases h
     · split at h
       · split at h
         · cases h;exact id
         cases h
       cases h
     · split at h
       · cases h;exact id
       cases h
     cases h
   cases h
 · have hres:∀ok c b,¬(X2F ok c b).men d:=by
    intro ok c b;unfold X2F;split
    · rintro⟨t,ht,hm⟩;simp only[List.mem_cons,List.not_mem_nil,or_false]at ht;rcases ht with rfl|rfl<;>exact hm
    exact id
   split at h
   · split at h
     · cases h;exact hres _ _ _
     · cases h;exact hres _ _ _
     cases h
   cases h
 · unfold X3u at h;split at h
   · split at h
     · split at h
       · split at h
         · cases h;rintro⟨t,ht,hm⟩;simp only[List.mem_cons,List.not_mem_nil,or_false]at ht;rcases ht with rfl|rfl<;>exact hm
         cases h
       cases h
     cases h
   cases h
 cases h
theorem evW_men {op : Op} {dst:Option Nat} {r:RV} {objs':List (Nat×Ob)} (hd:∀d',dst=some d'→isAlloc op=true→d'≠d) (h:evW P objs g dst op=some (r,objs')) (hm:∀x∈XQ op,¬(g x).men d)
  (ho:∀n o,(n,o)∈objs→n≠d∧¬o.men d):¬r.men d∧∀n o,(n,o)∈objs'→n≠d∧¬o.men d:=by
 have hput:∀(n:Nat) (o o':Ob) (l:List (Nat×Ob)),lkp objs n=some o→¬o'.men d→(∀p,p∈l→p∈objs)→∀m q,(m,q)∈ins n o' l→m≠d∧¬q.men d:=by
  intro n o o' l hl ho' hsub m q hlm;rcases X0e hlm with e|hlm
  · cases e;exact⟨(ho _ _ (Xy hl)).1,ho'⟩
  exact ho m q (hsub _ hlm)
 unfold evW at h;split at h
 · rename_i t x y;split at h
   · rename_i n off _ hcs hg;split at h
     · split at h
       · rename_i xs hl;split at h
         · cases h;refine⟨id,hput _ _ _ objs hl ?_ fun _ h=>h⟩;rintro⟨z,hz,hzm⟩;rcases List.mem_append.1 hz with hz|hz
           · rcases List.mem_append.1 hz with hz|hz
             · exact(ho _ _ (Xy hl)).2 ⟨z,List.mem_of_mem_take hz,hzm⟩
             exact X1r hcs (hm y (by simp[XQ])) z hz hzm
           exact(ho _ _ (Xy hl)).2 ⟨z,List.mem_of_mem_drop hz,hzm⟩
         cases h
       cases h
     cases h
   · split at h
     · split at h
       · rename_i hl _;split at h
         · cases h;exact⟨id,hput _ _ _ objs hl id fun _ h=>h⟩
         cases h
       · rename_i hl _;split at h
         · split at h
           · split at h
             · cases h;exact⟨id,hput _ _ _ _ hl id fun _ h=>X0U h⟩
             cases h
           cases h
         cases h
       · rename_i hl _;split at h
         · split at h
           · split at h
             · cases h;exact⟨id,hput _ _ _ _ hl id fun _ h=>X0U h⟩
             cases h
           cases h
         cases h
       cases h
     cases h
   · split at h
     · split at h
       · rename_i hl _;split at h
         · split at h
           · cases h;exact⟨id,hput _ _ _ objs hl id fun _ h=>h⟩
           cases h
         cases h
       cases h
     cases h
   cases h
 · split at h
   · split at h
     · rename_i hl;split at h
       · split at h
         · cases h;exact⟨id,hput _ _ _ objs hl id fun _ h=>h⟩
         · split at h
           · cases h;exact⟨id,hput _ _ _ objs hl id fun _ h=>h⟩
           cases h
         cases h
       cases h
     cases h
   · split at h
     · rename_i hl;split at h
       · split at h
         · split at h
           · cases h;exact⟨id,hput _ _ _ objs hl id fun _ h=>h⟩
           cases h
         cases h
       cases h
     cases h
   cases h
 · cases dst with
   |none=>cases h
   |some d'=>
   split at h
   · rename_i heq _ _ _ _;cases heq;have hne:=hd d' rfl rfl;split at h
     · split at h
       · split at h
         · split at h
           · rename_i objs2 hmat;cases h;refine⟨hne,?_⟩;unfold Zg at hmat;split at hmat
             · split at hmat
               · split at hmat
                 · split at hmat
                   · split at hmat
                     · split at hmat
                       · cases hmat;intro m o hlm;rcases X0e hlm with e|hlm
                         · cases e;exact⟨hne,id⟩
                         exact ho m o (X0U (X0U hlm))
                       cases hmat
                     cases hmat
                   cases hmat
                 cases hmat
               cases hmat
             cases hmat
           split at h
           · split at h
             · cases h;refine⟨hne,fun m o hlm=>?_⟩;rcases X0e hlm with e|hlm
               · cases e;exact⟨hne,id⟩
               split at hlm
               · exact ho m o (X0U hlm)
               exact ho m o hlm
             cases h
           cases h
         cases h
       cases h
     cases h
   cases h
 cases h
theorem evW_sort {op : Op} {dst:Option Nat} {r:RV} {objs':List (Nat×Ob)} (h:evW P objs g dst op=some (r,objs')) (hs:QG objs=true):QG objs'=true:=by
 unfold evW at h;split at h
 · split at h
   · split at h
     · split at h
       · split at h
         · cases h;exact QZ hs
         cases h
       cases h
     cases h
   · split at h
     · split at h
       · split at h
         · cases h;exact QZ hs
         cases h
       · split at h
         · split at h
           · split at h
             · cases h;exact QZ (ZD hs)
             cases h
           cases h
         cases h
       · split at h
         · split at h
           · split at h
             · cases h;exact QZ (ZD hs)
             cases h
           cases h
         cases h
       cases h
     cases h
   · split at h
     · split at h
       · split at h
         · split at h
           · cases h;exact QZ hs
           cases h
         cases h
       cases h
     cases h
   cases h
 · split at h
   · split at h
     · split at h
       · split at h
         · cases h;exact QZ hs
         · split at h
           · cases h;exact QZ hs
           cases h
         cases h
       cases h
     cases h
   · split at h
     · split at h
       · split at h
         · split at h
           · cases h;exact QZ hs
           cases h
         cases h
       cases h
     cases h
   cases h
 · split at h
   · split at h
     · split at h
       · split at h
         · split at h
           · rename_i objs2 hmat;cases h;unfold Zg at hmat;split at hmat
             · split at hmat
               · split at hmat
                 · split at hmat
                   · split at hmat
                     · split at hmat
                       · cases hmat;exact QZ (ZD (ZD hs))
                       cases hmat
                     cases hmat
                   cases hmat
                 cases hmat
               cases hmat
             cases hmat
           split at h
           · split at h
             · cases h;split
               · exact QZ (ZD hs)
               exact QZ hs
             cases h
           cases h
         cases h
       cases h
     cases h
   cases h
 cases h
end
end Go.Hl
