/- HmP: part of an evaluator of Go code over abstract states, proved sound over the model; used by the proof of the claimed statement. Conditions: none. -/
import Derived.Test.YtppjennamodfdaaGreatHmO
set_option linter.unusedSimpArgs false
set_option linter.unusedVariables false
namespace Go.Hl
open Go Go.RowKit
def tmpsOf:List Operand→List Nat
 |[]=>[]
 | .tmp t::l=>t::tmpsOf l
 |_::l=>tmpsOf l
def opsL:Op→List Operand
 | .nilCheck x=>[x]
 | .makeFunc _ _ caps=>caps.toList
 | .slice _ x l h _=>x::(l.toList++h.toList)
 | .index _ x i| .lookup _ x i _=>[x,i]
 | .mapUpdate _ m k v=>[m,k,v]
 | .move x| .assign x| .box _ x| .load _ x| .unOp _ _ x| .fieldAddr _ x _| .field _ x _| .extract x _| .range _ x| .next x _| .entry x=>[x]
 | .pick c a b=>[c,a,b]
 | .buildSlice _ _ ps=>ps.toList.map (·.2)
 | .build _ ps=>ps.toList.map (·.2)
 | .store _ a v| .binOp _ _ a v _| .makeSlice _ a v| .indexAddr _ a v=>[a,v]
 | .call {callee:=.value f,args:=args, .. }=>f::args.toList
 | .call {args:=args, .. }=>args.toList
 |_=>[]
def guardT (ops:Array Oper) (o:Oper):List Nat:=
 match o.guard with
 |none=>[]
 |some (j,_)=>((ops[j]?).bind (·.dst)).toList
def readsT (ops:Array Oper) (o:Oper):List Nat:=guardT ops o++tmpsOf (opsL o.op)
theorem opd_ins {regs:List (Nat×RV)} {d:Nat} {r:RV} {l:List Operand} (h:d∉tmpsOf l):∀x∈l,opd (ins d r regs) x=opd regs x:=by
 intro x hx;cases x with
 | tmp t=>
   have:t≠d:=by
    rintro rfl;apply h;clear h
    induction l with
    |nil=>cases hx
    | cons y l ih=>
      rcases List.mem_cons.1 hx with rfl|hm
      · simp[tmpsOf]
      have:=ih hm;cases y<;>simp[tmpsOf,this]
   simp only[opd];rw[look_ins_other this]
 |const v=>rfl
 |global g=>rfl
 |func f=>rfl
section
variable {P:Program} {g g':Operand→RV}
theorem rowsOf_congr {size:Nat}:∀(l:List (Nat×Operand)) (k:Nat),(∀x∈l.map (·.2),g x=g' x)→rowsOf size g k l=rowsOf size g' k l
 |[],_,_=>rfl
 | (i,x)::l,k,h=>by
   unfold rowsOf;rw[h x (by simp),rowsOf_congr l (k+1) (fun y hy=>h y (by simp at hy⊢;exact .inr hy))]
theorem brwA_congr {objs:List (Nat×Ob)}:∀(l:List Operand),(∀x∈l,g x=g' x)→brwA objs g l=brwA objs g' l
 |[],_=>rfl
 | x::l,h=>by
   unfold brwA;rw[h x (by simp),brwA_congr l fun y hy=>h y (by simp[hy])]
theorem fillC_congr {ti:TI}:∀(l:List (Nat×Operand)) (cs:List CV),(∀x∈l.map (·.2),g x=g' x)→fillC P ti g cs l=fillC P ti g' cs l
 |[],_,_=>rfl
 | (i,x)::l,cs,h=>by
   unfold fillC;rw[h x (by simp)];split
   · split
     · exact fillC_congr l _ fun y hy=>h y (by simp at hy⊢;exact .inr hy)
     rfl
   rfl
theorem capsOf_congr:∀(l:List Operand),(∀x∈l,g x=g' x)→capsOf g l=capsOf g' l
 |[],_=>rfl
 | x::l,h=>by
   unfold capsOf;rw[h x (by simp),capsOf_congr l fun y hy=>h y (by simp[hy])]
theorem ownOf_congr {l:List (Nat×Operand)} (h:∀x∈l.map (·.2),g x=g' x):ownOf g l=ownOf g' l:=by
 unfold ownOf;split
 · rename_i x;rw[h x (by simp)]
 rfl
theorem evN_call_congr {c:Call} (h:∀x∈c.args.toList,g x=g' x):evN P g (.call c)=evN P g' (.call c):=by
 obtain⟨callee,args,ts⟩:=c;cases callee with
 | builtin b=>
   cases b<;>try rfl
   · simp only[evN];split
     · rename_i x y hxy;rw[h x (by simp only[hxy];simp),h y (by simp only[hxy];simp)]
     rfl
   simp only[evN];split
   · rename_i x y hxy;rw[h x (by simp only[hxy];simp),h y (by simp only[hxy];simp)]
   rfl
 |_=>rfl
theorem evN_congr {op:Op} (h:∀x∈opsL op,g x=g' x):evN P g op=evN P g' op:=by
 by_cases hc:∃c,op=.call c
 · obtain⟨c,rfl⟩:=hc;refine evN_call_congr fun x hx=>h x ?_;obtain⟨callee,args,ts⟩:=c;cases callee<;>simp[opsL]<;>first|exact .inr (by simpa using hx)|simpa using hx
 by_cases hb:∃t ps,op=.build t ps
 · obtain⟨t,ps,rfl⟩:=hb;simp only[evN,opsL]at h⊢;split
   · rw[fillC_congr (g:=g) (g':=g') ps.toList _ h]
   rfl
 by_cases hsl:∃t x l hi m,op=.slice t x l hi m
 · obtain⟨t,x,l,hi,m,rfl⟩:=hsl;simp only[opsL,List.mem_cons,List.mem_append,Option.mem_toList]at h;cases m with
   |some m=>rfl
   | none=>
     have h1:∀dflt,cutB g dflt l=cutB g' dflt l:=by
      intro dflt;cases l with
      |none=>rfl
      |some y=>simp only[cutB];rw[h y (by simp)]
     have h2:∀dflt,cutB g dflt hi=cutB g' dflt hi:=by
      intro dflt;cases hi with
      |none=>rfl
      |some y=>simp only[cutB];rw[h y (by simp)]
     simp only[evN,h1,h2,h x (by simp)]
 by_cases hm:∃f fs cs,op=.makeFunc f fs cs
 · obtain⟨f,fs,cs,rfl⟩:=hm;simp only[evN,opsL]at h⊢;split
   · rw[capsOf_congr (g:=g) (g':=g') cs.toList h]
   rfl
 cases op<;>try(exfalso;exact hc ⟨_,rfl⟩)
 all_goals try(exfalso;exact hb ⟨_,_,rfl⟩)
 all_goals try(exfalso;exact hm ⟨_,_,_,rfl⟩)
 all_goals try(exfalso;exact hsl ⟨_,_,_,_,_,rfl⟩)
 all_goals simp only[evN,opsL,List.mem_cons,List.not_mem_nil,or_false,forall_eq_or_imp,forall_eq]at* <;>simp only[h]
theorem evA_congr {d:Nat} {op:Op} (h:∀x∈opsL op,g x=g' x):evA P g d op=evA P g' d op:=by
 cases op<;>simp only[evA]
 case box e x=>rw[h x (by simp[opsL])]
 case buildSlice t n ps=>simp only[rowsOf_congr (g:=g) (g':=g') ps.toList 0 h,ownOf_congr (g:=g) (g':=g') h]
 case makeSlice t l c=>rw[h l (by simp[opsL]),h c (by simp[opsL])]
 case makeMap t r=>cases r<;>rfl
 case range t x=>rw[h x (by simp[opsL])]
theorem arg_mem {c:Call} {i:Nat} {x:Operand} (hx:c.args[i]? =some x):x∈opsL (.call c):=by
 obtain⟨callee,args,ts⟩:=c;have:x∈args.toList:=Array.mem_toList_iff.2 (Array.mem_of_getElem? hx);cases callee<;>simp[opsL]<;>first|exact .inr (by simpa using this)|simpa using this
theorem evR_congr {objs:List (Nat×Ob)} {op:Op} (h:∀x∈opsL op,g x=g' x):evR P objs g op=evR P objs g' op:=by
 cases op with
 |load t x=>simp only[evR];rw[h x (by simp[opsL])]
 |indexAddr t x i=>simp only[evR];rw[h x (by simp[opsL]),h i (by simp[opsL])]
 |lookup t x i ok=>simp only[evR];rw[h x (by simp[opsL]),h i (by simp[opsL])]
 |entry x=>simp only[evR];rw[h x (by simp[opsL])]
 | call c=>
   obtain⟨callee,args,ts⟩:=c;cases callee with
   | builtin b=>
     cases b<;>try rfl
     simp only[evR];cases ht:ts[0]? with
     |none=>rfl
     | some t=>
       cases hx:args[0]? with
       |none=>rfl
       |some x=>simp only[];rw[h x (arg_mem (c:=⟨_,args,ts⟩) hx)]
   |_=>rfl
 |_=>rfl
theorem evW_congr {objs:List (Nat×Ob)} {d:Option Nat} {op:Op} (h:∀x∈opsL op,g x=g' x):evW P objs g d op=evW P objs g' d op:=by
 cases op with
 |store t x y=>simp only[evW];rw[h x (by simp[opsL]),h y (by simp[opsL])]
 |mapUpdate t m k v=>simp only[evW];rw[h m (by simp[opsL]),h k (by simp[opsL]),h v (by simp[opsL])]
 | call c =>
   obtain⟨callee,args,ts⟩:=c;cases callee with
   | builtin b =>
     cases b<;>try rfl
     simp only[evW];cases d with
     |none=>rfl
     | some d =>
       cases ht:ts[0]? with
       |none=>rfl
       | some t=>
         cases ht':ts[1]? with
         |none=>rfl
         | some t'=>
           cases hx:args[0]? with
           |none=>rfl
           | some x=>
             cases hy:args[1]? with
             |none=>rfl
             | some y=>
               simp only[];rw[h x (arg_mem (c:=⟨_,args,ts⟩) hx),h y (arg_mem (c:=⟨_,args,ts⟩) hy)]
   |_=>rfl
 |_=>rfl
end
section
variable {P:Program} {g:Operand→RV} {d:Nat} {ob:Ob} {objs:List (Nat×Ob)}
theorem evR_lkp {objs objs':List (Nat×Ob)} {op:Op} (h:∀x∈opsL op,∀n,(g x).men n→lkp objs' n=lkp objs n):evR P objs' g op=evR P objs g op:=by
 have hat:∀{x:Operand} {n off:Nat},x∈opsL op→g x=.v (.one (.at_ n off))→lkp objs' n=lkp objs n:=fun hx hg=>h _ hx _ (by rw[hg];exact rfl);have hel:∀{x:Operand} {n s i off:Nat},x∈opsL op→g x=.v (.one (.el n s i off))→lkp objs' n=lkp objs n:=fun hx hg=>h _ hx _ (by rw[hg];exact rfl);have hel2:∀{x:Operand} {n s i j off:Nat},x∈opsL op→g x=.v (.one (.el2 n s i j off))→lkp objs' n=lkp objs n:=fun hx hg=>h _ hx _ (by rw[hg];exact rfl);have how:∀{x:Operand} {n:Nat},x∈opsL op→g x=.v (.one (.own n))→lkp objs' n=lkp objs n:=fun hx hg=>h _ hx _ (by rw[hg];exact rfl);have hsub:∀{x:Operand} {n i:Nat},x∈opsL op→g x=.v (.one (.sub n i))→lkp objs' n=lkp objs n:=fun hx hg=>h _ hx _ (by rw[hg];exact rfl);cases op with
 | load t x=>
   simp only[evR];split
   · rename_i hg;rw[hat (by simp[opsL]) hg]
   · rename_i hg;rw[hel (by simp[opsL]) hg]
   · rename_i hg;rw[hel2 (by simp[opsL]) hg]
   · rfl
   rfl
 | indexAddr t x i=>
   simp only[evR];split
   · split
     · split
       · split
         · rfl
         · rename_i hg;rw[how (by simp[opsL]) hg]
         · rename_i hg;rw[hsub (by simp[opsL]) hg]
         rfl
       rfl
     rfl
   rfl
 | lookup t x i ok=>
   simp only[evR]
   have:mapOf objs' (g x)=mapOf objs (g x):=by
    unfold mapOf;split
    · rfl
    · rfl
    · rename_i hg;rw[how (by simp[opsL]) hg]
    · rename_i hg;rw[hsub (by simp[opsL]) hg]
    rfl
   rw[this]
 | entry x=>
   simp only[evR];unfold evEntry;split
   · rename_i hg;rw[hat (by simp[opsL]) hg]
   rfl
 | call c=>
   obtain⟨callee,args,ts⟩:=c;cases callee with
   | builtin b=>
     cases b<;>try rfl
     simp only[evR];split
     · rename_i t x ht hx;split
       · rfl
       · rfl
       · rename_i hg;rw[how (arg_mem (c:=⟨_,args,ts⟩) hx) hg]
       · rename_i hg;rw[hsub (arg_mem (c:=⟨_,args,ts⟩) hx) hg]
       · rfl
       rfl
     rfl
   |_=>rfl
 |_=>rfl
theorem evR_ins {op:Op} (h:∀x∈opsL op,¬(g x).men d):evR P (ins d ob objs) g op=evR P objs g op:=
 evR_lkp fun x hx n hn=>look_ins_other (fun e=>by subst e;exact h x hx hn) ob objs
theorem sort_lt {α:Type}:∀{l:List (Nat×α)} {k:Nat} {x:α},sortB ((k,x)::l)=true→∀p∈l,k<p.1
 |[],_,_,_=>by simp
 | (m,y)::l,k,x,h=>by
   simp only[sortB,Bool.and_eq_true,decide_eq_true_eq]at h;intro p hp;rcases List.mem_cons.1 hp with rfl|hp
   · exact h.1
   have:=sort_lt (k:=m) (x:=y) (by simp only[sortB,Bool.and_eq_true];exact h.2) p hp;omega
theorem sort_tail {α:Type} {l:List (Nat×α)} {k:Nat} {x:α} (h:sortB ((k,x)::l)=true):sortB l=true:=by
 simp only[sortB,Bool.and_eq_true]at h;exact h.2
theorem sort_cons {α:Type} {l:List (Nat×α)} {k:Nat} {x:α} (h:sortB l=true) (hk:∀p∈l,k<p.1):sortB ((k,x)::l)=true:=by
 simp only[sortB,Bool.and_eq_true];refine⟨?_,h⟩;cases l with
 |nil=>rfl
 |cons p l=>exact decide_eq_true (hk p (by simp))
theorem mem_ins' {α:Type} {n:Nat} {x:α} {p:Nat×α}:∀{l:List (Nat×α)},p∈ins n x l→p=(n,x)∨p∈l
 |[],h=>by simpa[ins]using h
 | (k,y)::l,h=>by
   unfold ins at h;split at h
   · simpa using h
   split at h
   · rcases List.mem_cons.1 h with e|h
     · exact .inl e
     exact .inr (by simp[h])
   rcases List.mem_cons.1 h with e|h
   · exact .inr (by simp[e])
   rcases mem_ins' h with e|h
   · exact .inl e
   exact .inr (by simp[h])
theorem mem_del' {α:Type} {n:Nat} {p:Nat×α}:∀{l:List (Nat×α)},p∈del n l→p∈l
 |[],h=>h
 | (k,y)::l,h=>by
   unfold del at h;split at h
   · exact List.mem_cons_of_mem _ (mem_del' h)
   rcases List.mem_cons.1 h with e|h
   · simp[e]
   exact List.mem_cons_of_mem _ (mem_del' h)
theorem sort_ins {α:Type} {n:Nat} {x:α}:∀{l:List (Nat×α)},sortB l=true→sortB (ins n x l)=true
 |[],_=>rfl
 | (k,y)::l,h=>by
   unfold ins;split
   · rename_i hk;refine sort_cons h fun p hp=>?_;rcases List.mem_cons.1 hp with rfl|hp
     · exact hk
     have:=sort_lt h p hp;omega
   split
   · rename_i _ e;subst e;exact sort_cons (sort_tail h) fun p hp=>sort_lt h p hp
   rename_i h1 h2;refine sort_cons (sort_ins (sort_tail h)) fun p hp=>?_;rcases mem_ins' hp with rfl|hp
   · show k<n;omega
   exact sort_lt h p hp
theorem sort_del {α:Type} {n:Nat}:∀{l:List (Nat×α)},sortB l=true→sortB (del n l)=true
 |[],_=>rfl
 | (k,y)::l,h=>by
   unfold del;split
   · exact sort_del (sort_tail h)
   exact sort_cons (sort_del (sort_tail h)) fun p hp=>sort_lt h p (mem_del' hp)
theorem del_ins {α:Type} {n d:Nat} (hne:n≠d) (x:α):∀{l:List (Nat×α)},sortB l=true→del n (ins d x l)=ins d x (del n l)
 |[],_=>by simp[ins,del,Ne.symm hne]
 | (k,y)::l,h=>by
   have ih:=del_ins hne x (sort_tail h);by_cases h1:d<k
   · rw[ins_lt h1]
     have hd:∀m:List (Nat×α),(∀p∈m,d<p.1)→ins d x m=(d,x)::m:=by
      intro m hm;cases m with
      |nil=>rfl
      |cons p m=>exact ins_lt (hm p (by simp)) _ _ _
     rw[hd (del n ((k,y)::l)) (fun p hp=>by
      rcases List.mem_cons.1 (mem_del' hp)with rfl|hp
      · exact h1
      have:=sort_lt h p hp;omega)]
     conv=>lhs;unfold del
     rw[if_neg (Ne.symm hne)]
   by_cases h2:d=k
   · subst h2;rw[ins_eq]
     conv=>lhs;unfold del
     conv=>rhs;unfold del
     rw[if_neg (Ne.symm hne),if_neg (Ne.symm hne),ins_eq]
   have h3:k<d:=by omega
   rw[ins_gt h3]
   conv=>lhs;unfold del
   conv=>rhs;unfold del
   split
   · exact ih
   rw[ih,ins_gt h3]
theorem matApp_ins {e:TypeId} {ti:TI} {d':Nat} {x y:RV} (hs:sortB objs=true) (hne:d'≠d) (ho:∀n o,(n,o)∈objs→n≠d∧¬o.men d) (hx:¬x.men d) (hy:¬y.men d):
  matApp (ins d ob objs) e ti d' x y=(matApp objs e ti d' x y).map (ins d ob):=by
 unfold matApp;split
 · rename_i n;have hn:n≠d:=hx;rw[look_ins_other hn];split
   · rename_i e1 e' s rows hl;split
     · rename_i m;have hm:m≠d:=hy;rw[look_ins_other hm];split
       · rename_i e3 r hr;have hrd:r≠d:=fun e=>(ho m _ (look_mem hr)).2 (by simp[Ob.men,e]);rw[look_ins_other hrd];split
         · split
           · simp only[Option.map_some];rw[del_ins hn ob hs,del_ins hrd ob (sort_del hs),ins_comm hne]
           rfl
         rfl
       rfl
     rfl
   rfl
 rfl
theorem baseOf_ins {e:TypeId} {sz:Nat} {x:RV} (hx:¬x.men d):baseOf (ins d ob objs) e sz x=baseOf objs e sz x:=by
 unfold baseOf;split
 · rfl
 · rename_i n;rw[look_ins_other (show n≠d from hx)]
 rfl
theorem moreOf_ins {sz:Nat} {x:RV} (hx:¬x.men d):moreOf (ins d ob objs) sz x=moreOf objs sz x:=by
 unfold moreOf;split
 · rfl
 · rename_i n;rw[look_ins_other (show n≠d from hx)]
 rfl
theorem baseOf_men {e:TypeId} {sz:Nat} {x:RV} {n:Nat} {rows:List (List CD)} (h:baseOf objs e sz x=some (some n,rows)):x.men n:=by
 unfold baseOf at h;split at h
 · cases h
 · split at h
   · split at h
     · cases h;exact rfl
     cases h
   cases h
 cases h
theorem append_ins {args :Array Operand} {ts:Array TypeId} {dst:Option Nat} (hs:sortB objs=true) (hne:∀d',dst=some d'→d'≠d) (ho:∀n o,(n,o)∈objs→n≠d∧¬o.men d) (hx:∀x∈args.toList,¬(g x).men d):
  evW P (ins d ob objs) g dst (.call {callee:=.builtin .append,args:=args,argTypes:=ts})=(evW P objs g dst (.call {callee:=.builtin .append,args:=args,argTypes:=ts})).map fun p=>(p.1,ins d ob p.2):=by
 simp only[evW];cases dst with
 |none=>rfl
 | some d' =>
   have hne':=hne d' rfl;cases ht:ts[0]? with
   |none=>rfl
   | some t =>
     cases ht':ts[1]? with
     |none=>rfl
     | some t' =>
       cases hxx:args[0]? with
       |none=>rfl
       | some x =>
         cases hyy:args[1]? with
         |none=>rfl
         | some y =>
           have hx':¬(g x).men d:=hx x (Array.mem_toList_iff.2 (Array.mem_of_getElem? hxx));have hy':¬(g y).men d:=hx y (Array.mem_toList_iff.2 (Array.mem_of_getElem? hyy));simp only[];split
           · split
             · rename_i e he;split
               · rename_i ti hti;rw[matApp_ins hs hne' ho hx' hy',baseOf_ins hx',moreOf_ins hy'];cases matApp objs e ti d' (g x) (g y)with
                 |some o2=>rfl
                 | none =>
                   simp only[Option.map_none];split
                   · rename_i n rows more hb hm;split
                     · simp only[Option.map_some];cases n with
                       |none=>simp only[];rw[ins_comm hne']
                       | some n=>
                         have hn:n≠d:=fun e=>hx' (e▸baseOf_men hb);simp only[];rw[del_ins hn ob hs,ins_comm hne']
                     rfl
                   rfl
               rfl
             rfl
           rfl
theorem store_ins {t:TypeId} {x y:Operand} {dst:Option Nat} (hs:sortB objs=true) (h:¬(g x).men d) (hy:¬(g y).men d):
  evW P (ins d ob objs) g dst (.store t x y)=(evW P objs g dst (.store t x y)).map fun p=>(p.1,ins d ob p.2):=by
 simp only[evW];split
 · rename_i n off _ _ hg;have hne:n≠d:=fun e=>h (by rw[hg];exact e);rw[look_ins_other hne];split
   · split
     · split
       · simp only[Option.map_some];rw[ins_comm hne]
       rfl
     rfl
   rfl
 · rename_i n s i off _ _ hg;have hne:n≠d:=fun e=>h (by rw[hg];exact e);rw[look_ins_other hne];split
   · split
     · split
       · simp only[Option.map_some];rw[ins_comm hne]
       rfl
     · split
       · rename_i m hgy;have hm:m≠d:=fun e=>hy (by rw[hgy];exact e);rw[look_ins_other hm];split
         · split
           · simp only[Option.map_some];rw[del_ins hm ob hs,ins_comm hne]
           rfl
         rfl
       rfl
     · split
       · rename_i m hgy;have hm:m≠d:=fun e=>hy (by rw[hgy];exact e);rw[look_ins_other hm];split
         · split
           · simp only[Option.map_some];rw[del_ins hm ob hs,ins_comm hne]
           rfl
         rfl
       rfl
     rfl
   rfl
 · rename_i n s i j off _ _ hg;have hne:n≠d:=fun e=>h (by rw[hg];exact e);rw[look_ins_other hne];split
   · split
     · split
       · split
         · simp only[Option.map_some];rw[ins_comm hne]
         rfl
       rfl
     rfl
   rfl
 rfl
theorem frz_ins (ho:∀n o,(n,o)∈objs→n≠d∧¬o.men d):∀k:Nat,(∀x:CV,¬x.men d→frzC k (ins d ob objs) x=frzC k objs x)∧
  (∀l:List CV,(∀x∈l,¬x.men d)→frzL k (ins d ob objs) l=frzL k objs l)∧(∀l:List (Nat×Nat),(∀p∈l,p.1≠d)→frzP k (ins d ob objs) l=frzP k objs l):=by
 have hL:∀k,(∀x:CV,¬x.men d→frzC k (ins d ob objs) x=frzC k objs x)→
   (∀l:List CV,(∀x∈l,¬x.men d)→frzL k (ins d ob objs) l=frzL k objs l)∧(∀l:List (Nat×Nat),(∀p∈l,p.1≠d)→frzP k (ins d ob objs) l=frzP k objs l):=by
  intro k hC;refine⟨fun l=>?_,fun l=>?_⟩
  · induction l with
    |nil=>intro _;simp only[frzL]
    | cons x l ih=>
      intro h;simp only[frzL];rw[hC x (h x (by simp)),ih fun y hy=>h y (by simp[hy])]
  induction l with
  |nil=>intro _;simp only[frzP]
  | cons p l ih=>
    obtain⟨n,off⟩:=p;intro h;simp only[frzP];rw[hC (.at_ n off) (h (n,off) (by simp)),ih fun y hy=>h y (by simp[hy])]
 intro k
 induction k with
 | zero=>
   have h0:∀x:CV,¬x.men d→frzC 0 (ins d ob objs) x=frzC 0 objs x:=by intro x _;simp only[frzC]
   exact⟨h0,hL 0 h0⟩
 | succ k ih=>
   have hC:∀x:CV,¬x.men d→frzC (k+1) (ins d ob objs) x=frzC (k+1) objs x:=by
    intro x hx;cases x with
    |own n=>simp only[frzC];rw[look_ins_other hx]
    | at_ n off=>
      simp only[frzC];rw[look_ins_other hx];split
      · rename_i cs hl;rw[ih.2.1 cs fun y hy hyd=>(ho n _ (look_mem hl)).2 ⟨y,hy,hyd⟩]
      rfl
    | fn f caps=>
      simp only[frzC];rw[ih.2.2 caps fun p hp e=>hx ⟨p,hp,e⟩]
    |_=>simp only[frzC]
   exact⟨hC,hL _ hC⟩
theorem brw_ins (ho:∀n o,(n,o)∈objs→n≠d∧¬o.men d) {x:CV} (h:¬x.men d):brw (ins d ob objs) x=brw objs x:=by
 unfold brw;split
 · rfl
 · rfl
 · rfl
 rw[(frz_ins ho 4).1 x h]
theorem brwL_ins (ho:∀n o,(n,o)∈objs→n≠d∧¬o.men d):∀{xs:List CV},(∀x∈xs,¬x.men d)→brwL (ins d ob objs) xs=brwL objs xs
 |[],_=>rfl
 | x::xs,h=>by
   simp only[brwL];rw[brw_ins ho (h x (by simp)),brwL_ins ho fun y hy=>h y (by simp[hy])]
theorem brwT_ins (ho:∀n o,(n,o)∈objs→n≠d∧¬o.men d) {r:RV} (h:¬r.men d):brwT (ins d ob objs) r=brwT objs r:=by
 cases r with
 | v t=>
   cases t with
   |one x=>simp only[brwT];rw[brw_ins ho h]
   |agg xs=>simp only[brwT];rw[brwL_ins ho fun x hx hm=>h ⟨x,hx,hm⟩]
 |tup ts=>rfl
theorem brwA_ins (ho:∀n o,(n,o)∈objs→n≠d∧¬o.men d):∀{l:List Operand},(∀x∈l,¬(g x).men d)→brwA (ins d ob objs) g l=brwA objs g l
 |[],_=>rfl
 | x::l,h=>by
   simp only[brwA];rw[brwT_ins ho (h x (by simp)),brwA_ins ho fun y hy=>h y (by simp[hy])]
theorem calleeOf_ins (ho:∀n o,(n,o)∈objs→n≠d∧¬o.men d) {r:RV} (h:¬r.men d):calleeOf (ins d ob objs) r=calleeOf objs r:=by
 unfold calleeOf;split
 · rename_i f caps;rw[(frz_ins ho 4).2.2 caps fun p hp e=>h ⟨p,hp,e⟩]
 · rfl
 rfl
theorem mem_ins {α:Type} {n:Nat} {x:α} {p:Nat×α}:∀{l:List (Nat×α)},p∈ins n x l→p=(n,x)∨p∈l
 |[],h=>by simpa[ins]using h
 | (k,y)::l,h=>by
   unfold ins at h;split at h
   · simpa using h
   split at h
   · rcases List.mem_cons.1 h with e|h
     · exact .inl e
     exact .inr (by simp[h])
   rcases List.mem_cons.1 h with e|h
   · exact .inr (by simp[e])
   rcases mem_ins h with e|h
   · exact .inl e
   exact .inr (by simp[h])
theorem mem_del {α:Type} {n:Nat} {p:Nat×α}:∀{l:List (Nat×α)},p∈del n l→p∈l
 |[],h=>h
 | (k,y)::l,h=>by
   unfold del at h;split at h
   · exact List.mem_cons_of_mem _ (mem_del h)
   rcases List.mem_cons.1 h with e|h
   · simp[e]
   exact List.mem_cons_of_mem _ (mem_del h)
theorem partOf_men {ti:TI} {cs:List CV} {off:Nat} {r:RV} (h:partOf ti cs off=some r) (hm:∀x∈cs,¬x.men d):¬r.men d:=by
 unfold partOf at h;split at h
 · split at h
   · cases h;rintro⟨x,hx,hxm⟩;exact hm x (List.mem_of_mem_drop (List.mem_of_mem_take hx)) hxm
   cases h
 split at h
 · rename_i x hx;cases h;exact hm x (List.mem_of_getElem? hx)
 cases h
theorem cellsOf_men {r:RV} {cs:List CV} (h:cellsOf r=some cs) (hm:¬r.men d):∀x∈cs,¬x.men d:=by
 unfold cellsOf at h;split at h
 · split at h
   · cases h;intro x hx;simp only[List.mem_singleton]at hx;subst hx;exact hm
   cases h
 · cases h;exact fun x hx hxm=>hm ⟨x,hx,hxm⟩
 cases h
theorem fillC_men {ti:TI}:∀(l:List (Nat×Operand)) (cs cs':List CV),fillC P ti g cs l=some cs'→(∀x∈cs,¬x.men d)→(∀x∈l.map (·.2),¬(g x).men d)→∀x∈cs',¬x.men d
 |[],cs,cs',h,hc,_=>by cases h;exact hc
 | (i, x)::l,cs,cs',h,hc,hl=>by
   unfold fillC at h;split at h
   · rename_i off size ys _ hys;split at h
     · refine fillC_men l _ cs' h (fun y hy=>?_) fun y hy=>hl y (by simp at hy⊢;exact .inr hy);rcases List.mem_append.1 hy with hy|hy
       · rcases List.mem_append.1 hy with hy|hy
         · exact hc y (List.mem_of_mem_take hy)
         exact cellsOf_men hys (hl x (by simp)) y hy
       exact hc y (List.mem_of_mem_drop hy)
     cases h
   cases h
theorem capsOf_men:∀(l:List Operand) (ps:List (Nat×Nat)),capsOf g l=some ps→(∀x∈l,¬(g x).men d)→¬ ∃p∈ps,p.1=d
 |[],ps,h,_=>by cases h;simp
 | x ::l,ps,h,hm=>by
   unfold capsOf at h;split at h
   · rename_i n off r hx hr;cases h;rintro⟨p,hp,e⟩;rcases List.mem_cons.1 hp with rfl|hp
     · have:=hm x (by simp);rw[hx]at this;exact this e
     exact capsOf_men l r hr (fun y hy=>hm y (by simp[hy])) ⟨p,hp,e⟩
   cases h
theorem evN_men {op:Op} {r:RV} {o:Option Ob} (h:evN P g op=some (r,o)) (hm:∀x∈opsL op,¬(g x).men d):¬r.men d:=by
 cases op<;>simp only[evN]at h
 case move x=>cases h;exact hm x (by simp[opsL])
 case assign x=>cases h;exact hm x (by simp[opsL])
 case pick c a b=>
  split at h
  · split at h
    · split at h
      · cases h;exact id
      cases h
    cases h;split
    · exact hm a (by simp[opsL])
    exact hm b (by simp[opsL])
  cases h
 case fieldAddr s x f=>
  split at h
  · split at h
    · split at h
      · split at h
        · rename_i hg;cases h;have:=hm x (by simp[opsL]);rw[hg]at this;exact this
        · rename_i hg;cases h;have:=hm x (by simp[opsL]);rw[hg]at this;exact this
        · rename_i hg;cases h;have:=hm x (by simp[opsL]);rw[hg]at this;exact this
        · cases h;exact id
        cases h
      cases h
    cases h
  cases h
 case nilCheck x=>
  split at h
  · cases h;exact hm x (by simp[opsL])
  cases h
 case makeFunc f fs cs=>
  split at h
  · simp only[Option.map_eq_some_iff]at h;obtain⟨ps,hps,he⟩:=h;cases he;exact capsOf_men cs.toList ps hps hm
  cases h
 case index t x i=>
  split at h
  · rename_i xs hg;split at h
    · split at h
      · split at h
        · simp only[Option.map_eq_some_iff]at h;obtain⟨r',hr',he⟩:=h;cases he;refine partOf_men hr' fun y hy hym=>hm x (by simp[opsL]) ?_;rw[hg];exact⟨y,hy,hym⟩
        cases h
      cases h
    cases h
  split at h
  · split at h
    · split at h
      · cases h;exact id
      cases h
    cases h
  cases h
 case slice t x low high m=>
  cases m with
  |some m=>cases h
  |none=>
  simp only at h;split at h
  · split at h
    · split at h
      · split at h
        · split at h
          · split at h
            · cases h;exact id
            cases h
          cases h
        cases h
      cases h
    cases h
  · split at h
    · split at h
      · split at h
        · cases h;exact id
        cases h
      cases h
    cases h
  cases h
 case field t x f=>
  split at h
  · split at h
    · rename_i ti xs _ hg;simp only[Option.map_eq_some_iff]at h;obtain⟨r',hr',he⟩:=h;cases he;refine partOf_men hr' fun y hy hym=>hm x (by simp[opsL]) ?_;rw[hg];exact⟨y,hy,hym⟩
    cases h
  cases h
 case extract x i=>
  split at h
  · rename_i ts hg;simp only[Option.map_eq_some_iff]at h;obtain⟨t,ht,he⟩:=h;cases he;intro htm;refine hm x (by simp[opsL]) ?_;rw[hg];exact⟨t,List.mem_of_getElem? ht,htm⟩
  cases h
 case binOp op t x y t'=>
  have key:∀(o2:Option (RV×Option Ob)),(∀q,o2=some q→∃v,q.1=lit v)→o2=some (r,o)→¬r.men d:=by
   intro o2 h1 h2;obtain⟨v,hv⟩:=h1 _ h2;simp only at hv;rw[hv];exact id
  split at h
  · split at h
    · exact key _ (fun q hq=>by simp only[Option.map_eq_some_iff]at hq;obtain⟨v,_,rfl⟩:=hq;exact⟨v,rfl⟩) h
    cases h
  · exact key _ (fun q hq=>by simp only[Option.map_eq_some_iff]at hq;obtain⟨v,_,rfl⟩:=hq;exact⟨v,rfl⟩) h
  · exact key _ (fun q hq=>by simp only[Option.map_eq_some_iff]at hq;obtain⟨v,_,rfl⟩:=hq;exact⟨v,rfl⟩) h
  split at h
  · exact key _ (fun q hq=>by simp only[Option.map_eq_some_iff]at hq;obtain⟨v,_,rfl⟩:=hq;exact⟨_,rfl⟩) h
  split at h
  · exact key _ (fun q hq=>by simp only[Option.map_eq_some_iff]at hq;obtain⟨v,_,rfl⟩:=hq;exact⟨_,rfl⟩) h
  exact key _ (fun q hq=>by simp only[Option.map_eq_some_iff]at hq;obtain⟨v,_,rfl⟩:=hq;exact⟨_,rfl⟩) h
 case unOp op t x=>
  split at h
  · simp only[Option.map_eq_some_iff]at h;obtain⟨v,hv,he⟩:=h;cases he;exact id
  cases h
 case build t ps=>
  split at h
  · split at h
    · split at h
      · rename_i cs hcs;cases h;rintro⟨x,hx,hxm⟩;exact fillC_men ps.toList _ cs hcs (fun y hy=>by obtain⟨v,_,rfl⟩:=List.mem_map.1 hy;exact id) (fun x hx=>hm x hx) x hx hxm
      cases h
    cases h
  cases h
 case call c=>
  obtain⟨callee,args,ts⟩:=c;cases callee with
  |value f=>cases h
  |invoke f m=>cases h
  | builtin b=>
    cases b<;>simp only at h<;>try cases h
    · split at h
      · split at h
        · split at h
          · cases h;exact id
          cases h
        cases h
      cases h
    split at h
    · split at h
      · split at h
        · cases h;exact id
        cases h
      cases h
    cases h
 all_goals cases h
theorem evA_men {op:Op} {d':Nat} {r:RV} {o:Option Ob} (hd:d'≠d) (h:evA P g d' op=some (r,o)) (hm:∀x∈opsL op,¬(g x).men d):¬r.men d∧∀o',o=some o'→¬o'.men d:=by
 cases op<;>simp only[evA]at h
 case alloc e=>
  split at h
  · cases h;refine⟨hd,?_⟩;rintro _ ⟨⟩ ⟨x,hx,hxm⟩;obtain⟨v,_,rfl⟩:=List.mem_map.1 hx;exact hxm
  cases h
 case box e x=>
  split at h
  · rename_i cs hcs;cases h;refine⟨hd,?_⟩;rintro _ ⟨⟩ ⟨y,hy,hym⟩;exact cellsOf_men hcs (hm x (by simp[opsL])) y hy hym
  cases h
 case buildSlice t len parts=>
  split at h
  · split at h
    · split at h
      · split at h
        · cases h;exact⟨hd,by rintro _ ⟨⟩;exact id⟩
        split at h
        · cases h;refine⟨hd,?_⟩;rintro _ ⟨⟩ hmn;obtain⟨x,hpx,hgx⟩:=ownOf_some ‹ownOf g parts.toList=some _›;have:=hm x (by simp only[opsL];rw[hpx];simp);rw[hgx]at this;simp only[Ob.men,List.mem_singleton]at hmn;exact this hmn.symm
        cases h
      cases h
    cases h
  cases h
 case makeSlice t l c=>
  split at h
  · split at h
    · split at h
      · cases h;exact⟨hd,by rintro _ ⟨⟩;exact id⟩
      cases h
    cases h
  cases h
 case makeMap t x=>
  cases x with
  |some x=>cases h
  |none=>cases h;exact⟨hd,by rintro _ ⟨⟩;exact id⟩
 case range t x=>
  split at h
  · split at h
    · cases h;exact⟨hd,by rintro _ ⟨⟩;exact id⟩
    · cases h;exact⟨hd,by rintro _ ⟨⟩;exact id⟩
    cases h
  cases h
 all_goals cases h
theorem evR_men {op:Op} {r:RV} (h:evR P objs g op=some r) (hm:∀x∈opsL op,¬(g x).men d) (ho:∀n o,lkp objs n=some o→n≠d∧¬o.men d):¬r.men d:=by
 have hdat:∀{ti:TI} {rr:List CD} {off:Nat},partOf ti (rr.map .c) off=some r→¬r.men d:=by
  intro ti rr off h;refine partOf_men h fun y hy hym=>?_;obtain⟨c,_,rfl⟩:=List.mem_map.1 hy;exact hym
 unfold evR at h;split at h
 · rename_i t x;split at h
   · split at h
     · rename_i cs hl;exact partOf_men h fun y hy hym=>(ho _ _ hl).2 ⟨y,hy,hym⟩
     cases h
   · split at h
     · split at h
       · split at h
         · exact hdat h
         cases h
       cases h
     · rename_i hl;split at h
       · split at h
         · cases h;exact(ho _ _ hl).1
         · cases h;exact id
         cases h
       cases h
     · rename_i hl;split at h
       · split at h
         · cases h;exact(ho _ _ hl).1
         · cases h;exact id
         cases h
       cases h
     cases h
   · split at h
     · split at h
       · split at h
         · split at h
           · exact hdat h
           cases h
         cases h
       cases h
     cases h
   · exact hdat h
   cases h
 · rename_i t x i;split at h
   · split at h
     · split at h
       · split at h
         · split at h
           · split at h
             · cases h;exact id
             cases h
           cases h
         · split at h
           · rename_i n hg _ hl;split at h
             · cases h;exact(ho _ _ hl).1
             cases h
           · rename_i n hg _ hl;split at h
             · cases h;exact(ho _ _ hl).1
             cases h
           · rename_i n hg hl;split at h
             · cases h;exact(ho _ _ hl).1
             cases h
           cases h
         · split at h
           · rename_i hl;split at h
             · split at h
               · cases h;exact(ho _ _ hl).1
               cases h
             cases h
           cases h
         cases h
       unfold idxArr at h;split at h
       · split at h
         · split at h
           · split at h
             · rename_i hg;cases h;have:=hm x (by simp[opsL]);rw[hg]at this;exact this
             · rename_i hg;cases h;have:=hm x (by simp[opsL]);rw[hg]at this;exact this
             · cases h;exact id
             cases h
           cases h
         cases h
       cases h
     cases h
   cases h
 · split at h
   · split at h
     · cases h;exact id
     · cases h;exact id
     · split at h
       · cases h;exact id
       · cases h;exact id
       · cases h;exact id
       cases h
     · split at h
       · split at h
         · cases h;exact id
         cases h
       cases h
     · split at h
       · cases h;exact id
       cases h
     cases h
   cases h
 · have hres:∀ok c b,¬(mapRes ok c b).men d:=by
    intro ok c b;unfold mapRes;split
    · rintro⟨t,ht,hm⟩;simp only[List.mem_cons,List.not_mem_nil,or_false]at ht;rcases ht with rfl|rfl<;>exact hm
    exact id
   split at h
   · split at h
     · cases h;exact hres _ _ _
     · cases h;exact hres _ _ _
     cases h
   cases h
 · unfold evEntry at h;split at h
   · split at h
     · split at h
       · split at h
         · cases h;rintro⟨t,ht,hm⟩;simp only[List.mem_cons,List.not_mem_nil,or_false]at ht;rcases ht with rfl|rfl<;>exact hm
         cases h
       cases h
     cases h
   cases h
 cases h
theorem evW_men {op : Op} {dst:Option Nat} {r:RV} {objs':List (Nat×Ob)} (hd:∀d',dst=some d'→isAlloc op=true→d'≠d) (h:evW P objs g dst op=some (r,objs')) (hm:∀x∈opsL op,¬(g x).men d)
  (ho:∀n o,(n,o)∈objs→n≠d∧¬o.men d):¬r.men d∧∀n o,(n,o)∈objs'→n≠d∧¬o.men d:=by
 have hput:∀(n:Nat) (o o':Ob) (l:List (Nat×Ob)),lkp objs n=some o→¬o'.men d→(∀p,p∈l→p∈objs)→∀m q,(m,q)∈ins n o' l→m≠d∧¬q.men d:=by
  intro n o o' l hl ho' hsub m q hlm;rcases mem_ins hlm with e|hlm
  · cases e;exact⟨(ho _ _ (look_mem hl)).1,ho'⟩
  exact ho m q (hsub _ hlm)
 unfold evW at h;split at h
 · rename_i t x y;split at h
   · rename_i n off _ hcs hg;split at h
     · split at h
       · rename_i xs hl;split at h
         · cases h;refine⟨id,hput _ _ _ objs hl ?_ fun _ h=>h⟩;rintro⟨z,hz,hzm⟩;rcases List.mem_append.1 hz with hz|hz
           · rcases List.mem_append.1 hz with hz|hz
             · exact(ho _ _ (look_mem hl)).2 ⟨z,List.mem_of_mem_take hz,hzm⟩
             exact cellsOf_men hcs (hm y (by simp[opsL])) z hz hzm
           exact(ho _ _ (look_mem hl)).2 ⟨z,List.mem_of_mem_drop hz,hzm⟩
         cases h
       cases h
     cases h
   · split at h
     · split at h
       · rename_i hl _;split at h
         · cases h;exact⟨id,hput _ _ _ objs hl id fun _ h=>h⟩
         cases h
       · rename_i hl _;split at h
         · split at h
           · split at h
             · cases h;exact⟨id,hput _ _ _ _ hl id fun _ h=>mem_del h⟩
             cases h
           cases h
         cases h
       · rename_i hl _;split at h
         · split at h
           · split at h
             · cases h;exact⟨id,hput _ _ _ _ hl id fun _ h=>mem_del h⟩
             cases h
           cases h
         cases h
       cases h
     cases h
   · split at h
     · split at h
       · rename_i hl _;split at h
         · split at h
           · cases h;exact⟨id,hput _ _ _ objs hl id fun _ h=>h⟩
           cases h
         cases h
       cases h
     cases h
   cases h
 · split at h
   · split at h
     · rename_i hl;split at h
       · split at h
         · cases h;exact⟨id,hput _ _ _ objs hl id fun _ h=>h⟩
         · split at h
           · cases h;exact⟨id,hput _ _ _ objs hl id fun _ h=>h⟩
           cases h
         cases h
       cases h
     cases h
   · split at h
     · rename_i hl;split at h
       · split at h
         · split at h
           · cases h;exact⟨id,hput _ _ _ objs hl id fun _ h=>h⟩
           cases h
         cases h
       cases h
     cases h
   cases h
 · cases dst with
   |none=>cases h
   |some d'=>
   split at h
   · rename_i heq _ _ _ _;cases heq;have hne:=hd d' rfl rfl;split at h
     · split at h
       · split at h
         · split at h
           · rename_i objs2 hmat;cases h;refine⟨hne,?_⟩;unfold matApp at hmat;split at hmat
             · split at hmat
               · split at hmat
                 · split at hmat
                   · split at hmat
                     · split at hmat
                       · cases hmat;intro m o hlm;rcases mem_ins hlm with e|hlm
                         · cases e;exact⟨hne,id⟩
                         exact ho m o (mem_del (mem_del hlm))
                       cases hmat
                     cases hmat
                   cases hmat
                 cases hmat
               cases hmat
             cases hmat
           split at h
           · split at h
             · cases h;refine⟨hne,fun m o hlm=>?_⟩;rcases mem_ins hlm with e|hlm
               · cases e;exact⟨hne,id⟩
               split at hlm
               · exact ho m o (mem_del hlm)
               exact ho m o hlm
             cases h
           cases h
         cases h
       cases h
     cases h
   cases h
 cases h
theorem evW_sort {op : Op} {dst:Option Nat} {r:RV} {objs':List (Nat×Ob)} (h:evW P objs g dst op=some (r,objs')) (hs:sortB objs=true):sortB objs'=true:=by
 unfold evW at h;split at h
 · split at h
   · split at h
     · split at h
       · split at h
         · cases h;exact sort_ins hs
         cases h
       cases h
     cases h
   · split at h
     · split at h
       · split at h
         · cases h;exact sort_ins hs
         cases h
       · split at h
         · split at h
           · split at h
             · cases h;exact sort_ins (sort_del hs)
             cases h
           cases h
         cases h
       · split at h
         · split at h
           · split at h
             · cases h;exact sort_ins (sort_del hs)
             cases h
           cases h
         cases h
       cases h
     cases h
   · split at h
     · split at h
       · split at h
         · split at h
           · cases h;exact sort_ins hs
           cases h
         cases h
       cases h
     cases h
   cases h
 · split at h
   · split at h
     · split at h
       · split at h
         · cases h;exact sort_ins hs
         · split at h
           · cases h;exact sort_ins hs
           cases h
         cases h
       cases h
     cases h
   · split at h
     · split at h
       · split at h
         · split at h
           · cases h;exact sort_ins hs
           cases h
         cases h
       cases h
     cases h
   cases h
 · split at h
   · split at h
     · split at h
       · split at h
         · split at h
           · rename_i objs2 hmat;cases h;unfold matApp at hmat;split at hmat
             · split at hmat
               · split at hmat
                 · split at hmat
                   · split at hmat
                     · split at hmat
                       · cases hmat;exact sort_ins (sort_del (sort_del hs))
                       cases hmat
                     cases hmat
                   cases hmat
                 cases hmat
               cases hmat
             cases hmat
           split at h
           · split at h
             · cases h;split
               · exact sort_ins (sort_del hs)
               exact sort_ins hs
             cases h
           cases h
         cases h
       cases h
     cases h
   cases h
 cases h
end
end Go.Hl
