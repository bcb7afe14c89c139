/- HmP: part of an evaluator of Go code over abstract states, proved sound over the model; used by the proof of the claimed statement. Conditions: none. -/
import Derived.Test.YtppjennamodfdaaGreatNHmO
set_option linter.unusedSimpArgs false
set_option linter.unusedVariables false
namespace Go.Hl
open Go Go.RowKit
def X2H:List Operand→List Nat
 |[]=>[]
 | .tmp t::l=>t::X2H l
 |_::l=>X2H l
def Q3:Op→List Operand
 | .nilCheck x=>[x]
 | .makeFunc _ _ caps=>caps.toList
 | .slice _ x l h _=>x::(l.toList++h.toList)
 | .index _ x i| .lookup _ x i _=>[x,i]
 | .mapUpdate _ m k v=>[m,k,v]
 | .move x| .assign x| .box _ x| .load _ x| .unOp _ _ x| .fieldAddr _ x _| .field _ x _| .extract x _| .range _ x| .next x _| .entry x=>[x]
 | .pick c a b=>[c,a,b]
 | .buildSlice _ _ ps=>ps.toList.map (·.2)
 | .build _ ps=>ps.toList.map (·.2)
 | .store _ a v| .binOp _ _ a v _| .makeSlice _ a v| .indexAddr _ a v=>[a,v]
 | .call {callee:=.value f,args:=args, .. }=>f::args.toList
 | .call {args:=args, .. }=>args.toList
 |_=>[]
def Xb3 (ops:Array Oper) (o:Oper):List Nat:=
 match o.guard with
 |none=>[]
 |some (j,_)=>((ops[j]?).bind (·.dst)).toList
def X3Y (ops:Array Oper) (o:Oper):List Nat:=Xb3 ops o++X2H (Q3 o.op)
theorem opd_ins {regs:List (Nat×RV)} {d:Nat} {r:RV} {l:List Operand} (h:d∉X2H l):∀x∈l,opd (ins d r regs) x=opd regs x:=by
 intro x hx;cases x with
 | tmp t=>
   have:t≠d:=by
    rintro rfl;apply h;clear h
    induction l with
    |nil=>cases hx
    | cons y l ih=>
      rcases List.mem_cons.1 hx with rfl|hm
      · simp[X2H]
      have:=ih hm;cases y<;>simp[X2H,this]
   simp only[opd];rw[XF this]
 |const v=>rfl
 |global g=>rfl
 |func f=>rfl
section
variable {P:Program} {g g':Operand→RV}
theorem X3M {size:Nat}:∀(l:List (Nat×Operand)) (k:Nat),(∀x∈l.map (·.2),g x=g' x)→Wc size g k l=Wc size g' k l
 |[],_,_=>rfl
 | (i,x)::l,k,h=>by
   unfold Wc;rw[h x (by simp),X3M l (k+1) (fun y hy=>h y (by simp at hy⊢;exact .inr hy))]
theorem X5h {objs:List (Nat×Ob)}:∀(l:List Operand),(∀x∈l,g x=g' x)→X1N objs g l=X1N objs g' l
 |[],_=>rfl
 | x::l,h=>by
   unfold X1N;rw[h x (by simp),X5h l fun y hy=>h y (by simp[hy])]
theorem X4C {ti:TI}:∀(l:List (Nat×Operand)) (cs:List CV),(∀x∈l.map (·.2),g x=g' x)→Qd P ti g cs l=Qd P ti g' cs l
 |[],_,_=>rfl
 | (i,x)::l,cs,h=>by
   unfold Qd;rw[h x (by simp)];split
   · split
     · exact X4C l _ fun y hy=>h y (by simp at hy⊢;exact .inr hy)
     rfl
   rfl
theorem X3h:∀(l:List Operand),(∀x∈l,g x=g' x)→X0y g l=X0y g' l
 |[],_=>rfl
 | x::l,h=>by
   unfold X0y;rw[h x (by simp),X3h l fun y hy=>h y (by simp[hy])]
theorem X9u {l:List (Nat×Operand)} (h:∀x∈l.map (·.2),g x=g' x):Zf g l=Zf g' l:=by
 unfold Zf;split
 · rename_i x;rw[h x (by simp)]
 rfl
theorem X5t {c:Call} (h:∀x∈c.args.toList,g x=g' x):evN P g (.call c)=evN P g' (.call c):=by
 obtain⟨callee,args,ts⟩:=c;cases callee with
 | builtin b=>
   cases b<;>try rfl
   · simp only[evN];split
     · rename_i x y hxy;rw[h x (by simp only[hxy];simp),h y (by simp only[hxy];simp)]
     rfl
   simp only[evN];split
   · rename_i x y hxy;rw[h x (by simp only[hxy];simp),h y (by simp only[hxy];simp)]
   rfl
 |_=>rfl
theorem XcF {op:Op} (h:∀x∈Q3 op,g x=g' x):evN P g op=evN P g' op:=by
 by_cases hc:∃c,op=.call c
 · obtain⟨c,rfl⟩:=hc;refine X5t fun x hx=>h x ?_;obtain⟨callee,args,ts⟩:=c;cases callee<;>simp[Q3]<;>first|exact .inr (by simpa using hx)|simpa using hx
 by_cases hb:∃t ps,op=.build t ps
 · obtain⟨t,ps,rfl⟩:=hb;simp only[evN,Q3]at h⊢;split
   · rw[X4C (g:=g) (g':=g') ps.toList _ h]
   rfl
 by_cases hsl:∃t x l hi m,op=.slice t x l hi m
 · obtain⟨t,x,l,hi,m,rfl⟩:=hsl;simp only[Q3,List.mem_cons,List.mem_append,Option.mem_toList]at h;cases m with
   |some m=>rfl
   | none=>
     have h1:∀dflt,X12 g dflt l=X12 g' dflt l:=by
      intro dflt;cases l with
      |none=>rfl
      |some y=>simp only[X12];rw[h y (by simp)]
     have h2:∀dflt,X12 g dflt hi=X12 g' dflt hi:=by
      intro dflt;cases hi with
      |none=>rfl
      |some y=>simp only[X12];rw[h y (by simp)]
     simp only[evN,h1,h2,h x (by simp)]
 by_cases hm:∃f fs cs,op=.makeFunc f fs cs
 · obtain⟨f,fs,cs,rfl⟩:=hm;simp only[evN,Q3]at h⊢;split
   · rw[X3h (g:=g) (g':=g') cs.toList h]
   rfl
 cases op<;>try(exfalso;exact hc ⟨_,rfl⟩)
 all_goals try(exfalso;exact hb ⟨_,_,rfl⟩)
 all_goals try(exfalso;exact hm ⟨_,_,_,rfl⟩)
 all_goals try(exfalso;exact hsl ⟨_,_,_,_,_,rfl⟩)
 all_goals simp only[evN,Q3,List.mem_cons,List.not_mem_nil,or_false,forall_eq_or_imp,forall_eq]at* <;>simp only[h]
theorem Xc6 {d:Nat} {op:Op} (h:∀x∈Q3 op,g x=g' x):evA P g d op=evA P g' d op:=by
 cases op<;>simp only[evA]
 case box e x=>rw[h x (by simp[Q3])]
 case buildSlice t n ps=>simp only[X3M (g:=g) (g':=g') ps.toList 0 h,X9u (g:=g) (g':=g') h]
 case makeSlice t l c=>rw[h l (by simp[Q3]),h c (by simp[Q3])]
 case makeMap t r=>cases r<;>rfl
 case range t x=>rw[h x (by simp[Q3])]
theorem X3a {c:Call} {i:Nat} {x:Operand} (hx:c.args[i]? =some x):x∈Q3 (.call c):=by
 obtain⟨callee,args,ts⟩:=c;have:x∈args.toList:=Array.mem_toList_iff.2 (Array.mem_of_getElem? hx);cases callee<;>simp[Q3]<;>first|exact .inr (by simpa using this)|simpa using this
theorem Xcj {objs:List (Nat×Ob)} {op:Op} (h:∀x∈Q3 op,g x=g' x):evR P objs g op=evR P objs g' op:=by
 cases op with
 |load t x=>simp only[evR];rw[h x (by simp[Q3])]
 |indexAddr t x i=>simp only[evR];rw[h x (by simp[Q3]),h i (by simp[Q3])]
 |lookup t x i ok=>simp only[evR];rw[h x (by simp[Q3]),h i (by simp[Q3])]
 |entry x=>simp only[evR];rw[h x (by simp[Q3])]
 | call c=>
   obtain⟨callee,args,ts⟩:=c;cases callee with
   | builtin b=>
     cases b<;>try rfl
     simp only[evR];cases ht:ts[0]? with
     |none=>rfl
     | some t=>
       cases hx:args[0]? with
       |none=>rfl
       |some x=>simp only[];rw[h x (X3a (c:=⟨_,args,ts⟩) hx)]
   |_=>rfl
 |_=>rfl
theorem XcA {objs:List (Nat×Ob)} {d:Option Nat} {op:Op} (h:∀x∈Q3 op,g x=g' x):evW P objs g d op=evW P objs g' d op:=by
 cases op with
 |store t x y=>simp only[evW];rw[h x (by simp[Q3]),h y (by simp[Q3])]
 |mapUpdate t m k v=>simp only[evW];rw[h m (by simp[Q3]),h k (by simp[Q3]),h v (by simp[Q3])]
 | call c =>
   obtain⟨callee,args,ts⟩:=c;cases callee with
   | builtin b =>
     cases b<;>try rfl
     simp only[evW];cases d with
     |none=>rfl
     | some d =>
       cases ht:ts[0]? with
       |none=>rfl
       | some t=>
         cases ht':ts[1]? with
         |none=>rfl
         | some t'=>
           cases hx:args[0]? with
           |none=>rfl
           | some x=>
             cases hy:args[1]? with
             |none=>rfl
             | some y=>
               simp only[];rw[h x (X3a (c:=⟨_,args,ts⟩) hx),h y (X3a (c:=⟨_,args,ts⟩) hy)]
   |_=>rfl
 |_=>rfl
end
section
variable {P:Program} {g:Operand→RV} {d:Nat} {ob:Ob} {objs:List (Nat×Ob)}
theorem X3c {objs objs':List (Nat×Ob)} {op:Op} (h:∀x∈Q3 op,∀n,(g x).men n→lkp objs' n=lkp objs n):evR P objs' g op=evR P objs g op:=by
 have hat:∀{x:Operand} {n off:Nat},x∈Q3 op→g x=.v (.one (.at_ n off))→lkp objs' n=lkp objs n:=fun hx hg=>h _ hx _ (by rw[hg];exact rfl);have hel:∀{x:Operand} {n s i off:Nat},x∈Q3 op→g x=.v (.one (.el n s i off))→lkp objs' n=lkp objs n:=fun hx hg=>h _ hx _ (by rw[hg];exact rfl);have hel2:∀{x:Operand} {n s i j off:Nat},x∈Q3 op→g x=.v (.one (.el2 n s i j off))→lkp objs' n=lkp objs n:=fun hx hg=>h _ hx _ (by rw[hg];exact rfl);have how:∀{x:Operand} {n:Nat},x∈Q3 op→g x=.v (.one (.own n))→lkp objs' n=lkp objs n:=fun hx hg=>h _ hx _ (by rw[hg];exact rfl);have hsub:∀{x:Operand} {n i:Nat},x∈Q3 op→g x=.v (.one (.sub n i))→lkp objs' n=lkp objs n:=fun hx hg=>h _ hx _ (by rw[hg];exact rfl);cases op with
 | load t x=>
   simp only[evR];split
   · rename_i hg;rw[hat (by simp[Q3]) hg]
   · rename_i hg;rw[hel (by simp[Q3]) hg]
   · rename_i hg;rw[hel2 (by simp[Q3]) hg]
   · rfl
   rfl
 | indexAddr t x i=>
   simp only[evR];split
   · split
     · split
       · split
         · rfl
         · rename_i hg;rw[how (by simp[Q3]) hg]
         · rename_i hg;rw[hsub (by simp[Q3]) hg]
         rfl
       rfl
     rfl
   rfl
 | lookup t x i ok=>
   simp only[evR]
   have:X7a objs' (g x)=X7a objs (g x):=by
    unfold X7a;split
    · rfl
    · rfl
    · rename_i hg;rw[how (by simp[Q3]) hg]
    · rename_i hg;rw[hsub (by simp[Q3]) hg]
    rfl
   rw[this]
 | entry x=>
   simp only[evR];unfold X3g;split
   · rename_i hg;rw[hat (by simp[Q3]) hg]
   rfl
 | call c=>
   obtain⟨callee,args,ts⟩:=c;cases callee with
   | builtin b=>
     cases b<;>try rfl
     simp only[evR];split
     · rename_i t x ht hx;split
       · rfl
       · rfl
       · rename_i hg;rw[how (X3a (c:=⟨_,args,ts⟩) hx) hg]
       · rename_i hg;rw[hsub (X3a (c:=⟨_,args,ts⟩) hx) hg]
       · rfl
       rfl
     rfl
   |_=>rfl
 |_=>rfl
theorem X7s {op:Op} (h:∀x∈Q3 op,¬(g x).men d):evR P (ins d ob objs) g op=evR P objs g op:=
 X3c fun x hx n hn=>XF (fun e=>by subst e;exact h x hx hn) ob objs
theorem X20 {α:Type}:∀{l:List (Nat×α)} {k:Nat} {x:α},QO ((k,x)::l)=true→∀p∈l,k<p.1
 |[],_,_,_=>by simp
 | (m,y)::l,k,x,h=>by
   simp only[QO,Bool.and_eq_true,decide_eq_true_eq]at h;intro p hp;rcases List.mem_cons.1 hp with rfl|hp
   · exact h.1
   have:=X20 (k:=m) (x:=y) (by simp only[QO,Bool.and_eq_true];exact h.2) p hp;omega
theorem X0R {α:Type} {l:List (Nat×α)} {k:Nat} {x:α} (h:QO ((k,x)::l)=true):QO l=true:=by
 simp only[QO,Bool.and_eq_true]at h;exact h.2
theorem X1W {α:Type} {l:List (Nat×α)} {k:Nat} {x:α} (h:QO l=true) (hk:∀p∈l,k<p.1):QO ((k,x)::l)=true:=by
 simp only[QO,Bool.and_eq_true];refine⟨?_,h⟩;cases l with
 |nil=>rfl
 |cons p l=>exact decide_eq_true (hk p (by simp))
theorem X8i {α:Type} {n:Nat} {x:α} {p:Nat×α}:∀{l:List (Nat×α)},p∈ins n x l→p=(n,x)∨p∈l
 |[],h=>by simpa[ins]using h
 | (k,y)::l,h=>by
   unfold ins at h;split at h
   · simpa using h
   split at h
   · rcases List.mem_cons.1 h with e|h
     · exact .inl e
     exact .inr (by simp[h])
   rcases List.mem_cons.1 h with e|h
   · exact .inr (by simp[e])
   rcases X8i h with e|h
   · exact .inl e
   exact .inr (by simp[h])
theorem X3z {α:Type} {n:Nat} {p:Nat×α}:∀{l:List (Nat×α)},p∈del n l→p∈l
 |[],h=>h
 | (k,y)::l,h=>by
   unfold del at h;split at h
   · exact List.mem_cons_of_mem _ (X3z h)
   rcases List.mem_cons.1 h with e|h
   · simp[e]
   exact List.mem_cons_of_mem _ (X3z h)
theorem W4 {α:Type} {n:Nat} {x:α}:∀{l:List (Nat×α)},QO l=true→QO (ins n x l)=true
 |[],_=>rfl
 | (k,y)::l,h=>by
   unfold ins;split
   · rename_i hk;refine X1W h fun p hp=>?_;rcases List.mem_cons.1 hp with rfl|hp
     · exact hk
     have:=X20 h p hp;omega
   split
   · rename_i _ e;subst e;exact X1W (X0R h) fun p hp=>X20 h p hp
   rename_i h1 h2;refine X1W (W4 (X0R h)) fun p hp=>?_;rcases X8i hp with rfl|hp
   · show k<n;omega
   exact X20 h p hp
theorem ZE {α:Type} {n:Nat}:∀{l:List (Nat×α)},QO l=true→QO (del n l)=true
 |[],_=>rfl
 | (k,y)::l,h=>by
   unfold del;split
   · exact ZE (X0R h)
   exact X1W (ZE (X0R h)) fun p hp=>X20 h p (X3z hp)
theorem X21 {α:Type} {n d:Nat} (hne:n≠d) (x:α):∀{l:List (Nat×α)},QO l=true→del n (ins d x l)=ins d x (del n l)
 |[],_=>by simp[ins,del,Ne.symm hne]
 | (k,y)::l,h=>by
   have ih:=X21 hne x (X0R h);by_cases h1:d<k
   · rw[WT h1]
     have hd:∀m:List (Nat×α),(∀p∈m,d<p.1)→ins d x m=(d,x)::m:=by
      intro m hm;cases m with
      |nil=>rfl
      |cons p m=>exact WT (hm p (by simp)) _ _ _
     rw[hd (del n ((k,y)::l)) (fun p hp=>by
      rcases List.mem_cons.1 (X3z hp)with rfl|hp
      · exact h1
      have:=X20 h p hp;omega)]
     conv=>lhs;unfold del
     rw[if_neg (Ne.symm hne)]
   by_cases h2:d=k
   · subst h2;rw[X0v]
     conv=>lhs;unfold del
     conv=>rhs;unfold del
     rw[if_neg (Ne.symm hne),if_neg (Ne.symm hne),X0v]
   have h3:k<d:=by omega
   rw[Wb h3]
   conv=>lhs;unfold del
   conv=>rhs;unfold del
   split
   · exact ih
   rw[ih,Wb h3]
theorem Xam {e:TypeId} {ti:TI} {d':Nat} {x y:RV} (hs:QO objs=true) (hne:d'≠d) (ho:∀n o,(n,o)∈objs→n≠d∧¬o.men d) (hx:¬x.men d) (hy:¬y.men d):
  WG (ins d ob objs) e ti d' x y=(WG objs e ti d' x y).map (ins d ob):=by
 unfold WG;split
 · rename_i n;have hn:n≠d:=hx;rw[XF hn];split
   · rename_i e1 e' s rows hl;split
     · rename_i m;have hm:m≠d:=hy;rw[XF hm];split
       · rename_i e3 r hr;have hrd:r≠d:=fun e=>(ho m _ (XI hr)).2 (by simp[Ob.men,e]);rw[XF hrd];split
         · split
           · simp only[Option.map_some];rw[X21 hn ob hs,X21 hrd ob (ZE hs),W3 hne]
           rfl
         rfl
       rfl
     rfl
   rfl
 rfl
theorem Xaf {e:TypeId} {sz:Nat} {x:RV} (hx:¬x.men d):Wd (ins d ob objs) e sz x=Wd objs e sz x:=by
 unfold Wd;split
 · rfl
 · rename_i n;rw[XF (show n≠d from hx)]
 rfl
theorem XaZ {sz:Nat} {x:RV} (hx:¬x.men d):QY (ins d ob objs) sz x=QY objs sz x:=by
 unfold QY;split
 · rfl
 · rename_i n;rw[XF (show n≠d from hx)]
 rfl
theorem XaD {e:TypeId} {sz:Nat} {x:RV} {n:Nat} {rows:List (List CD)} (h:Wd objs e sz x=some (some n,rows)):x.men n:=by
 unfold Wd at h;split at h
 · cases h
 · split at h
   · split at h
     · cases h;exact rfl
     cases h
   cases h
 cases h
theorem Xax {args :Array Operand} {ts:Array TypeId} {dst:Option Nat} (hs:QO objs=true) (hne:∀d',dst=some d'→d'≠d) (ho:∀n o,(n,o)∈objs→n≠d∧¬o.men d) (hx:∀x∈args.toList,¬(g x).men d):
  evW P (ins d ob objs) g dst (.call {callee:=.builtin .append,args:=args,argTypes:=ts})=(evW P objs g dst (.call {callee:=.builtin .append,args:=args,argTypes:=ts})).map fun p=>(p.1,ins d ob p.2):=by
 simp only[evW];cases dst with
 |none=>rfl
 | some d' =>
   have hne':=hne d' rfl;cases ht:ts[0]? with
   |none=>rfl
   | some t =>
     cases ht':ts[1]? with
     |none=>rfl
     | some t' =>
       cases hxx:args[0]? with
       |none=>rfl
       | some x =>
         cases hyy:args[1]? with
         |none=>rfl
         | some y =>
           have hx':¬(g x).men d:=hx x (Array.mem_toList_iff.2 (Array.mem_of_getElem? hxx));have hy':¬(g y).men d:=hx y (Array.mem_toList_iff.2 (Array.mem_of_getElem? hyy));simp only[];split
           · split
             · rename_i e he;split
               · rename_i ti hti;rw[Xam hs hne' ho hx' hy',Xaf hx',XaZ hy'];cases WG objs e ti d' (g x) (g y)with
                 |some o2=>rfl
                 | none =>
                   simp only[Option.map_none];split
                   · rename_i n rows more hb hm;split
                     · simp only[Option.map_some];cases n with
                       |none=>simp only[];rw[W3 hne']
                       | some n=>
                         have hn:n≠d:=fun e=>hx' (e▸XaD hb);simp only[];rw[X21 hn ob hs,W3 hne']
                     rfl
                   rfl
               rfl
             rfl
           rfl
theorem Xct {t:TypeId} {x y:Operand} {dst:Option Nat} (hs:QO objs=true) (h:¬(g x).men d) (hy:¬(g y).men d):
  evW P (ins d ob objs) g dst (.store t x y)=(evW P objs g dst (.store t x y)).map fun p=>(p.1,ins d ob p.2):=by
 simp only[evW];split
 · rename_i n off _ _ hg;have hne:n≠d:=fun e=>h (by rw[hg];exact e);rw[XF hne];split
   · split
     · split
       · simp only[Option.map_some];rw[W3 hne]
       rfl
     rfl
   rfl
 · rename_i n s i off _ _ hg;have hne:n≠d:=fun e=>h (by rw[hg];exact e);rw[XF hne];split
   · split
     · split
       · simp only[Option.map_some];rw[W3 hne]
       rfl
     · split
       · rename_i m hgy;have hm:m≠d:=fun e=>hy (by rw[hgy];exact e);rw[XF hm];split
         · split
           · simp only[Option.map_some];rw[X21 hm ob hs,W3 hne]
           rfl
         rfl
       rfl
     · split
       · rename_i m hgy;have hm:m≠d:=fun e=>hy (by rw[hgy];exact e);rw[XF hm];split
         · split
           · simp only[Option.map_some];rw[X21 hm ob hs,W3 hne]
           rfl
         rfl
       rfl
     rfl
   rfl
 · rename_i n s i j off _ _ hg;have hne:n≠d:=fun e=>h (by rw[hg];exact e);rw[XF hne];split
   · split
     · split
       · split
         · simp only[Option.map_some];rw[W3 hne]
         rfl
       rfl
     rfl
   rfl
 rfl
theorem Xb7 (ho:∀n o,(n,o)∈objs→n≠d∧¬o.men d):∀k:Nat,(∀x:CV,¬x.men d→Zs k (ins d ob objs) x=Zs k objs x)∧
  (∀l:List CV,(∀x∈l,¬x.men d)→X4v k (ins d ob objs) l=X4v k objs l)∧(∀l:List (Nat×Nat),(∀p∈l,p.1≠d)→X1u k (ins d ob objs) l=X1u k objs l):=by
 have hL:∀k,(∀x:CV,¬x.men d→Zs k (ins d ob objs) x=Zs k objs x)→
   (∀l:List CV,(∀x∈l,¬x.men d)→X4v k (ins d ob objs) l=X4v k objs l)∧(∀l:List (Nat×Nat),(∀p∈l,p.1≠d)→X1u k (ins d ob objs) l=X1u k objs l):=by
  intro k hC;refine⟨fun l=>?_,fun l=>?_⟩
  · induction l with
    |nil=>intro _;simp only[X4v]
    | cons x l ih=>
      intro h;simp only[X4v];rw[hC x (h x (by simp)),ih fun y hy=>h y (by simp[hy])]
  induction l with
  |nil=>intro _;simp only[X1u]
  | cons p l ih=>
    obtain⟨n,off⟩:=p;intro h;simp only[X1u];rw[hC (.at_ n off) (h (n,off) (by simp)),ih fun y hy=>h y (by simp[hy])]
 intro k
 induction k with
 | zero=>
   have h0:∀x:CV,¬x.men d→Zs 0 (ins d ob objs) x=Zs 0 objs x:=by intro x _;simp only[Zs]
   exact⟨h0,hL 0 h0⟩
 | succ k ih=>
   have hC:∀x:CV,¬x.men d→Zs (k+1) (ins d ob objs) x=Zs (k+1) objs x:=by
    intro x hx;cases x with
    |own n=>simp only[Zs];rw[XF hx]
    | at_ n off=>
      simp only[Zs];rw[XF hx];split
      · rename_i cs hl;rw[ih.2.1 cs fun y hy hyd=>(ho n _ (XI hl)).2 ⟨y,hy,hyd⟩]
      rfl
    | fn f caps=>
      simp only[Zs];rw[ih.2.2 caps fun p hp e=>hx ⟨p,hp,e⟩]
    |_=>simp only[Zs]
   exact⟨hC,hL _ hC⟩
theorem Xbl (ho:∀n o,(n,o)∈objs→n≠d∧¬o.men d) {x:CV} (h:¬x.men d):brw (ins d ob objs) x=brw objs x:=by
 unfold brw;split
 · rfl
 · rfl
 · rfl
 rw[(Xb7 ho 4).1 x h]
theorem X9U (ho:∀n o,(n,o)∈objs→n≠d∧¬o.men d):∀{xs:List CV},(∀x∈xs,¬x.men d)→brwL (ins d ob objs) xs=brwL objs xs
 |[],_=>rfl
 | x::xs,h=>by
   simp only[brwL];rw[Xbl ho (h x (by simp)),X9U ho fun y hy=>h y (by simp[hy])]
theorem brwT_ins (ho:∀n o,(n,o)∈objs→n≠d∧¬o.men d) {r:RV} (h:¬r.men d):X1S (ins d ob objs) r=X1S objs r:=by
 cases r with
 | v t=>
   cases t with
   |one x=>simp only[X1S];rw[Xbl ho h]
   |agg xs=>simp only[X1S];rw[X9U ho fun x hx hm=>h ⟨x,hx,hm⟩]
 |tup ts=>rfl
theorem X6k (ho:∀n o,(n,o)∈objs→n≠d∧¬o.men d):∀{l:List Operand},(∀x∈l,¬(g x).men d)→X1N (ins d ob objs) g l=X1N objs g l
 |[],_=>rfl
 | x::l,h=>by
   simp only[X1N];rw[brwT_ins ho (h x (by simp)),X6k ho fun y hy=>h y (by simp[hy])]
theorem X3y (ho:∀n o,(n,o)∈objs→n≠d∧¬o.men d) {r:RV} (h:¬r.men d):Wo (ins d ob objs) r=Wo objs r:=by
 unfold Wo;split
 · rename_i f caps;rw[(Xb7 ho 4).2.2 caps fun p hp e=>h ⟨p,hp,e⟩]
 · rfl
 rfl
theorem X0r {α:Type} {n:Nat} {x:α} {p:Nat×α}:∀{l:List (Nat×α)},p∈ins n x l→p=(n,x)∨p∈l
 |[],h=>by simpa[ins]using h
 | (k,y)::l,h=>by
   unfold ins at h;split at h
   · simpa using h
   split at h
   · rcases List.mem_cons.1 h with e|h
     · exact .inl e
     exact .inr (by simp[h])
   rcases List.mem_cons.1 h with e|h
   · exact .inr (by simp[e])
   rcases X0r h with e|h
   · exact .inl e
   exact .inr (by simp[h])
theorem X17 {α:Type} {n:Nat} {p:Nat×α}:∀{l:List (Nat×α)},p∈del n l→p∈l
 |[],h=>h
 | (k,y)::l,h=>by
   unfold del at h;split at h
   · exact List.mem_cons_of_mem _ (X17 h)
   rcases List.mem_cons.1 h with e|h
   · simp[e]
   exact List.mem_cons_of_mem _ (X17 h)
theorem X0X {ti:TI} {cs:List CV} {off:Nat} {r:RV} (h:Z0 ti cs off=some r) (hm:∀x∈cs,¬x.men d):¬r.men d:=by
 unfold Z0 at h;split at h
 · split at h
   · cases h;rintro⟨x,hx,hxm⟩;exact hm x (List.mem_of_mem_drop (List.mem_of_mem_take hx)) hxm
   cases h
 split at h
 · rename_i x hx;cases h;exact hm x (List.mem_of_getElem? hx)
 cases h
theorem X1z {r:RV} {cs:List CV} (h:cellsOf r=some cs) (hm:¬r.men d):∀x∈cs,¬x.men d:=by
 unfold cellsOf at h;split at h
 · split at h
   · cases h;intro x hx;simp only[List.mem_singleton]at hx;subst hx;exact hm
   cases h
 · cases h;exact fun x hx hxm=>hm ⟨x,hx,hxm⟩
 cases h
theorem X6U {ti:TI}:∀(l:List (Nat×Operand)) (cs cs':List CV),Qd P ti g cs l=some cs'→(∀x∈cs,¬x.men d)→(∀x∈l.map (·.2),¬(g x).men d)→∀x∈cs',¬x.men d
 |[],cs,cs',h,hc,_=>by cases h;exact hc
 | (i, x)::l,cs,cs',h,hc,hl=>by
   unfold Qd at h;split at h
   · rename_i off size ys _ hys;split at h
     · refine X6U l _ cs' h (fun y hy=>?_) fun y hy=>hl y (by simp at hy⊢;exact .inr hy);rcases List.mem_append.1 hy with hy|hy
       · rcases List.mem_append.1 hy with hy|hy
         · exact hc y (List.mem_of_mem_take hy)
         exact X1z hys (hl x (by simp)) y hy
       exact hc y (List.mem_of_mem_drop hy)
     cases h
   cases h
theorem X6l:∀(l:List Operand) (ps:List (Nat×Nat)),X0y g l=some ps→(∀x∈l,¬(g x).men d)→¬ ∃p∈ps,p.1=d
 |[],ps,h,_=>by cases h;simp
 | x ::l,ps,h,hm=>by
   unfold X0y at h;split at h
   · rename_i n off r hx hr;cases h;rintro⟨p,hp,e⟩;rcases List.mem_cons.1 hp with rfl|hp
     · have:=hm x (by simp);rw[hx]at this;exact this e
     exact X6l l r hr (fun y hy=>hm y (by simp[hy])) ⟨p,hp,e⟩
   cases h
theorem evN_men {op:Op} {r:RV} {o:Option Ob} (h:evN P g op=some (r,o)) (hm:∀x∈Q3 op,¬(g x).men d):¬r.men d:=by
 cases op<;>simp only[evN]at h
 case move x=>cases h;exact hm x (by simp[Q3])
 case assign x=>cases h;exact hm x (by simp[Q3])
 case pick c a b=>
  split at h
  · split at h
    · split at h
      · cases h;exact id
      cases h
    cases h;split
    · exact hm a (by simp[Q3])
    exact hm b (by simp[Q3])
  cases h
 case fieldAddr s x f=>
  split at h
  · split at h
    · split at h
      · split at h
        · rename_i hg;cases h;have:=hm x (by simp[Q3]);rw[hg]at this;exact this
        · rename_i hg;cases h;have:=hm x (by simp[Q3]);rw[hg]at this;exact this
        · rename_i hg;cases h;have:=hm x (by simp[Q3]);rw[hg]at this;exact this
        · cases h;exact id
        cases h
      cases h
    cases h
  cases h
 case nilCheck x=>
  split at h
  · cases h;exact hm x (by simp[Q3])
  cases h
 case makeFunc f fs cs=>
  split at h
  · simp only[Option.map_eq_some_iff]at h;obtain⟨ps,hps,he⟩:=h;cases he;exact X6l cs.toList ps hps hm
  cases h
 case index t x i=>
  split at h
  · rename_i xs hg;split at h
    · split at h
      · split at h
        · simp only[Option.map_eq_some_iff]at h;obtain⟨r',hr',he⟩:=h;cases he;refine X0X hr' fun y hy hym=>hm x (by simp[Q3]) ?_;rw[hg];exact⟨y,hy,hym⟩
        cases h
      cases h
    cases h
  split at h
  · split at h
    · split at h
      · cases h;exact id
      cases h
    cases h
  cases h
 case slice t x low high m=>
  cases m with
  |some m=>cases h
  |none=>
  simp only at h;split at h
  · split at h
    · split at h
      · split at h
        · split at h
          · split at h
            · cases h;exact id
            cases h
          cases h
        cases h
      cases h
    cases h
  · split at h
    · split at h
      · split at h
        · cases h;exact id
        cases h
      cases h
    cases h
  cases h
 case field t x f=>
  split at h
  · split at h
    · rename_i ti xs _ hg;simp only[Option.map_eq_some_iff]at h;obtain⟨r',hr',he⟩:=h;cases he;refine X0X hr' fun y hy hym=>hm x (by simp[Q3]) ?_;rw[hg];exact⟨y,hy,hym⟩
    cases h
  cases h
 case extract x i=>
  split at h
  · rename_i ts hg;simp only[Option.map_eq_some_iff]at h;obtain⟨t,ht,he⟩:=h;cases he;intro htm;refine hm x (by simp[Q3]) ?_;rw[hg];exact⟨t,List.mem_of_getElem? ht,htm⟩
  cases h
 case binOp op t x y t'=>
  have key:∀(o2:Option (RV×Option Ob)),(∀q,o2=some q→∃v,q.1=lit v)→o2=some (r,o)→¬r.men d:=by
   intro o2 h1 h2;obtain⟨v,hv⟩:=h1 _ h2;simp only at hv;rw[hv];exact id
  split at h
  · split at h
    · exact key _ (fun q hq=>by simp only[Option.map_eq_some_iff]at hq;obtain⟨v,_,rfl⟩:=hq;exact⟨v,rfl⟩) h
    cases h
  · exact key _ (fun q hq=>by simp only[Option.map_eq_some_iff]at hq;obtain⟨v,_,rfl⟩:=hq;exact⟨v,rfl⟩) h
  · exact key _ (fun q hq=>by simp only[Option.map_eq_some_iff]at hq;obtain⟨v,_,rfl⟩:=hq;exact⟨v,rfl⟩) h
  split at h
  · exact key _ (fun q hq=>by simp only[Option.map_eq_some_iff]at hq;obtain⟨v,_,rfl⟩:=hq;exact⟨_,rfl⟩) h
  split at h
  · exact key _ (fun q hq=>by simp only[Option.map_eq_some_iff]at hq;obtain⟨v,_,rfl⟩:=hq;exact⟨_,rfl⟩) h
  exact key _ (fun q hq=>by simp only[Option.map_eq_some_iff]at hq;obtain⟨v,_,rfl⟩:=hq;exact⟨_,rfl⟩) h
 case unOp op t x=>
  split at h
  · simp only[Option.map_eq_some_iff]at h;obtain⟨v,hv,he⟩:=h;cases he;exact id
  cases h
 case build t ps=>
  split at h
  · split at h
    · split at h
      · rename_i cs hcs;cases h;rintro⟨x,hx,hxm⟩;exact X6U ps.toList _ cs hcs (fun y hy=>by obtain⟨v,_,rfl⟩:=List.mem_map.1 hy;exact id) (fun x hx=>hm x hx) x hx hxm
      cases h
    cases h
  cases h
 case call c=>
  obtain⟨callee,args,ts⟩:=c;cases callee with
  |value f=>cases h
  |invoke f m=>cases h
  | builtin b=>
    cases b<;>simp only at h<;>try cases h
    · split at h
      · split at h
        · split at h
          · cases h;exact id
          cases h
        cases h
      cases h
    split at h
    · split at h
      · split at h
        · cases h;exact id
        cases h
      cases h
    cases h
 all_goals cases h
theorem evA_men {op:Op} {d':Nat} {r:RV} {o:Option Ob} (hd:d'≠d) (h:evA P g d' op=some (r,o)) (hm:∀x∈Q3 op,¬(g x).men d):¬r.men d∧∀o',o=some o'→¬o'.men d:=by
 cases op<;>simp only[evA]at h
 case alloc e=>
  split at h
  · cases h;refine⟨hd,?_⟩;rintro _ ⟨⟩ ⟨x,hx,hxm⟩;obtain⟨v,_,rfl⟩:=List.mem_map.1 hx;exact hxm
  cases h
 case box e x=>
  split at h
  · rename_i cs hcs;cases h;refine⟨hd,?_⟩;rintro _ ⟨⟩ ⟨y,hy,hym⟩;exact X1z hcs (hm x (by simp[Q3])) y hy hym
  cases h
 case buildSlice t len parts=>
  split at h
  · split at h
    · split at h
      · split at h
        · cases h;exact⟨hd,by rintro _ ⟨⟩;exact id⟩
        split at h
        · cases h;refine⟨hd,?_⟩;rintro _ ⟨⟩ hmn;obtain⟨x,hpx,hgx⟩:=X5i ‹Zf g parts.toList=some _›;have:=hm x (by simp only[Q3];rw[hpx];simp);rw[hgx]at this;simp only[Ob.men,List.mem_singleton]at hmn;exact this hmn.symm
        cases h
      cases h
    cases h
  cases h
 case makeSlice t l c=>
  split at h
  · split at h
    · split at h
      · cases h;exact⟨hd,by rintro _ ⟨⟩;exact id⟩
      cases h
    cases h
  cases h
 case makeMap t x=>
  cases x with
  |some x=>cases h
  |none=>cases h;exact⟨hd,by rintro _ ⟨⟩;exact id⟩
 case range t x=>
  split at h
  · split at h
    · cases h;exact⟨hd,by rintro _ ⟨⟩;exact id⟩
    · cases h;exact⟨hd,by rintro _ ⟨⟩;exact id⟩
    cases h
  cases h
 all_goals cases h
theorem evR_men {op:Op} {r:RV} (h:evR P objs g op=some r) (hm:∀x∈Q3 op,¬(g x).men d) (ho:∀n o,lkp objs n=some o→n≠d∧¬o.men d):¬r.men d:=by
 have hdat:∀{ti:TI} {rr:List CD} {off:Nat},Z0 ti (rr.map .c) off=some r→¬r.men d:=by
  intro ti rr off h;refine X0X h fun y hy hym=>?_;obtain⟨c,_,rfl⟩:=List.mem_map.1 hy;exact hym
 unfold evR at h;split at h
 · rename_i t x;split at h
   · split at h
     · rename_i cs hl;exact X0X h fun y hy hym=>(ho _ _ hl).2 ⟨y,hy,hym⟩
     cases h
   · split at h
     · split at h
       · split at h
         · exact hdat h
         cases h
       cases h
     · rename_i hl;split at h
       · split at h
         · cases h;exact(ho _ _ hl).1
         · cases h;exact id
         cases h
       cases h
     · rename_i hl;split at h
       · split at h
         · cases h;exact(ho _ _ hl).1
         · cases h;exact id
         cases h
       cases h
     cases h
   · split at h
     · split at h
       · split at h
         · split at h
           · exact hdat h
           cases h
         cases h
       cases h
     cases h
   · exact hdat h
   cases h
 · rename_i t x i;split at h
   · split at h
     · split at h
       · split at h
         · split at h
           · split at h
             · cases h;exact id
             cases h
           cases h
         · split at h
           · rename_i n hg _ hl;split at h
             · cases h;exact(ho _ _ hl).1
             cases h
           · rename_i n hg _ hl;split at h
             · cases h;exact(ho _ _ hl).1
             cases h
           · rename_i n hg hl;split at h
             · cases h;exact(ho _ _ hl).1
             cases h
           cases h
         · split at h
           · rename_i hl;split at h
             · split at h
               · cases h;exact(ho _ _ hl).1
               cases h
             cases h
           cases h
         cases h
       unfold X7M at h;split at h
       · split at h
         · split at h
           · split at h
             · rename_i hg;cases h;have:=hm x (by simp[Q3]);rw[hg]at this;exact this
             · rename_i hg;cases h;have:=hm x (by simp[Q3]);rw[hg]at this;exact this
             · cases h;exact id
             cases h
           cases h
         cases h
       cases h
     cases h
   cases h
 · split at h
   · split at h
     · cases h;exact id
     · cases h;exact id
     · split at h
       · cases h;exact id
       · cases h;exact id
       · cases h;exact id
       cases h
     · split at h
       · split at h
         · cases h;exact id
         cases h
       cases h
     · split at h
       · cases h;exact id
       cases h
     cases h
   cases h
 · have hres:∀ok c b,¬(X2w ok c b).men d:=by
    intro ok c b;unfold X2w;split
    · rintro⟨t,ht,hm⟩;simp only[List.mem_cons,List.not_mem_nil,or_false]at ht;rcases ht with rfl|rfl<;>exact hm
    exact id
   split at h
   · split at h
     · cases h;exact hres _ _ _
     · cases h;exact hres _ _ _
     cases h
   cases h
 · unfold X3g at h;split at h
   · split at h
     · split at h
       · split at h
         · cases h;rintro⟨t,ht,hm⟩;simp only[List.mem_cons,List.not_mem_nil,or_false]at ht;rcases ht with rfl|rfl<;>exact hm
         cases h
       cases h
     cases h
   cases h
 cases h
theorem evW_men {op : Op} {dst:Option Nat} {r:RV} {objs':List (Nat×Ob)} (hd:∀d',dst=some d'→isAlloc op=true→d'≠d) (h:evW P objs g dst op=some (r,objs')) (hm:∀x∈Q3 op,¬(g x).men d)
  (ho:∀n o,(n,o)∈objs→n≠d∧¬o.men d):¬r.men d∧∀n o,(n,o)∈objs'→n≠d∧¬o.men d:=by
 have hput:∀(n:Nat) (o o':Ob) (l:List (Nat×Ob)),lkp objs n=some o→¬o'.men d→(∀p,p∈l→p∈objs)→∀m q,(m,q)∈ins n o' l→m≠d∧¬q.men d:=by
  intro n o o' l hl ho' hsub m q hlm;rcases X0r hlm with e|hlm
  · cases e;exact⟨(ho _ _ (XI hl)).1,ho'⟩
  exact ho m q (hsub _ hlm)
 unfold evW at h;split at h
 · rename_i t x y;split at h
   · rename_i n off _ hcs hg;split at h
     · split at h
       · rename_i xs hl;split at h
         · cases h;refine⟨id,hput _ _ _ objs hl ?_ fun _ h=>h⟩;rintro⟨z,hz,hzm⟩;rcases List.mem_append.1 hz with hz|hz
           · rcases List.mem_append.1 hz with hz|hz
             · exact(ho _ _ (XI hl)).2 ⟨z,List.mem_of_mem_take hz,hzm⟩
             exact X1z hcs (hm y (by simp[Q3])) z hz hzm
           exact(ho _ _ (XI hl)).2 ⟨z,List.mem_of_mem_drop hz,hzm⟩
         cases h
       cases h
     cases h
   · split at h
     · split at h
       · rename_i hl _;split at h
         · cases h;exact⟨id,hput _ _ _ objs hl id fun _ h=>h⟩
         cases h
       · rename_i hl _;split at h
         · split at h
           · split at h
             · cases h;exact⟨id,hput _ _ _ _ hl id fun _ h=>X17 h⟩
             cases h
           cases h
         cases h
       · rename_i hl _;split at h
         · split at h
           · split at h
             · cases h;exact⟨id,hput _ _ _ _ hl id fun _ h=>X17 h⟩
             cases h
           cases h
         cases h
       cases h
     cases h
   · split at h
     · split at h
       · rename_i hl _;split at h
         · split at h
           · cases h;exact⟨id,hput _ _ _ objs hl id fun _ h=>h⟩
           cases h
         cases h
       cases h
     cases h
   cases h
 · split at h
   · split at h
     · rename_i hl;split at h
       · split at h
         · cases h;exact⟨id,hput _ _ _ objs hl id fun _ h=>h⟩
         · split at h
           · cases h;exact⟨id,hput _ _ _ objs hl id fun _ h=>h⟩
           cases h
         cases h
       cases h
     cases h
   · split at h
     · rename_i hl;split at h
       · split at h
         · split at h
           · cases h;exact⟨id,hput _ _ _ objs hl id fun _ h=>h⟩
           cases h
         cases h
       cases h
     cases h
   cases h
 · cases dst with
   |none=>cases h
   |some d'=>
   split at h
   · rename_i heq _ _ _ _;cases heq;have hne:=hd d' rfl rfl;split at h
     · split at h
       · split at h
         · split at h
           · rename_i objs2 hmat;cases h;refine⟨hne,?_⟩;unfold WG at hmat;split at hmat
             · split at hmat
               · split at hmat
                 · split at hmat
                   · split at hmat
                     · split at hmat
                       · cases hmat;intro m o hlm;rcases X0r hlm with e|hlm
                         · cases e;exact⟨hne,id⟩
                         exact ho m o (X17 (X17 hlm))
                       cases hmat
                     cases hmat
                   cases hmat
                 cases hmat
               cases hmat
             cases hmat
           split at h
           · split at h
             · cases h;refine⟨hne,fun m o hlm=>?_⟩;rcases X0r hlm with e|hlm
               · cases e;exact⟨hne,id⟩
               split at hlm
               · exact ho m o (X17 hlm)
               exact ho m o hlm
             cases h
           cases h
         cases h
       cases h
     cases h
   cases h
 cases h
theorem evW_sort {op : Op} {dst:Option Nat} {r:RV} {objs':List (Nat×Ob)} (h:evW P objs g dst op=some (r,objs')) (hs:QO objs=true):QO objs'=true:=by
 unfold evW at h;split at h
 · split at h
   · split at h
     · split at h
       · split at h
         · cases h;exact W4 hs
         cases h
       cases h
     cases h
   · split at h
     · split at h
       · split at h
         · cases h;exact W4 hs
         cases h
       · split at h
         · split at h
           · split at h
             · cases h;exact W4 (ZE hs)
             cases h
           cases h
         cases h
       · split at h
         · split at h
           · split at h
             · cases h;exact W4 (ZE hs)
             cases h
           cases h
         cases h
       cases h
     cases h
   · split at h
     · split at h
       · split at h
         · split at h
           · cases h;exact W4 hs
           cases h
         cases h
       cases h
     cases h
   cases h
 · split at h
   · split at h
     · split at h
       · split at h
         · cases h;exact W4 hs
         · split at h
           · cases h;exact W4 hs
           cases h
         cases h
       cases h
     cases h
   · split at h
     · split at h
       · split at h
         · split at h
           · cases h;exact W4 hs
           cases h
         cases h
       cases h
     cases h
   cases h
 · split at h
   · split at h
     · split at h
       · split at h
         · split at h
           · rename_i objs2 hmat;cases h;unfold WG at hmat;split at hmat
             · split at hmat
               · split at hmat
                 · split at hmat
                   · split at hmat
                     · split at hmat
                       · cases hmat;exact W4 (ZE (ZE hs))
                       cases hmat
                     cases hmat
                   cases hmat
                 cases hmat
               cases hmat
             cases hmat
           split at h
           · split at h
             · cases h;split
               · exact W4 (ZE hs)
               exact W4 hs
             cases h
           cases h
         cases h
       cases h
     cases h
   cases h
 cases h
end
end Go.Hl
